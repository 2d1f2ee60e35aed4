/-
  Primes, powers and inverses: the runs of the functions. Made by program. Conditions: none.
-/
import Derived.Test.YtgkjdfojogemhaaCtx
set_option maxRecDepth 100000
set_option maxHeartbeats 20000000
set_option linter.unusedSimpArgs false
set_option linter.unusedVariables false
namespace Go.Proofs.Ytgkjdfojogemhaa
open Go.Am

def lft : Code → Code
  | .seq a _ => a
  | .cond _ a _ => a
  | .block _ a => a
  | .loop a => a
  | .scope a => a
  | c => c
def rgt : Code → Code
  | .seq _ b => b
  | .cond _ _ b => b
  | c => c

theorem wrapU {n : Nat} (h : n < 18446744073709551616) : IntKind.wrap .u64 (n : Int) = (n : Int) := by
  unfold IntKind.wrap
  simp only [IntKind.bits, IntKind.signed]
  simp
  omega
theorem wrapI {n : Int} (h1 : -9223372036854775808 ≤ n) (h2 : n ≤ 9223372036854775807) : IntKind.wrap .i64 n = n := by
  unfold IntKind.wrap
  simp only [IntKind.bits, IntKind.signed]
  simp
  omega
theorem rem_u {m : Mem} {a p : Nat} (h : p ≠ 0) : binA Try.cx m .rem 23 (intA .u64 (a : Int)) (intA .u64 (p : Int)) = some (intA .u64 ((a % p : Nat) : Int)) := by
  show (if (p : Int) = 0 then none else some (intA .u64 ((a : Int).tmod p))) = _
  rw [if_neg (by omega), Int.ofNat_tmod]
theorem rem_1 {m : Mem} {p : Nat} (h : p ≠ 0) : binA Try.cx m .rem 23 (intA .u64 1) (intA .u64 (p : Int)) = some (intA .u64 ((1 % p : Nat) : Int)) := rem_u (a := 1) h
theorem rem_i {m : Mem} {a p : Nat} (h : p ≠ 0) : binA Try.cx m .rem 2 (intA .i64 (a : Int)) (intA .i64 (p : Int)) = some (intA .i64 ((a % p : Nat) : Int)) := by
  show (if (p : Int) = 0 then none else some (intA .i64 ((a : Int).tmod p))) = _
  rw [if_neg (by omega), Int.ofNat_tmod]
theorem quo_i {m : Mem} {a p : Nat} (h : p ≠ 0) (ha : a < 9223372036854775808) : binA Try.cx m .quo 2 (intA .i64 (a : Int)) (intA .i64 (p : Int)) = some (intA .i64 ((a / p : Nat) : Int)) := by
  show (if (p : Int) = 0 then none else some (intA .i64 (IntKind.wrap .i64 ((a : Int).tdiv p)))) = _
  have h1 : a / p ≤ a := Nat.div_le_self a p
  have e : (a : Int).tdiv p = ((a / p : Nat) : Int) := (Int.ofNat_tdiv a p).symm
  rw [if_neg (by omega), e]
  generalize a / p = q at h1
  rw [wrapI (by omega) (by omega)]
theorem and_1 {n : Nat} (h : n < 18446744073709551616) : IntKind.wrap .u64 (BitVec.ofInt (IntKind.bits .u64) (n : Int) &&& BitVec.ofInt (IntKind.bits .u64) 1).toNat = ((n % 2 : Nat) : Int) := by
  have e : (BitVec.ofInt (IntKind.bits .u64) (n : Int) &&& BitVec.ofInt (IntKind.bits .u64) 1).toNat = n % 2 := by
    show (BitVec.ofInt 64 (n : Int) &&& BitVec.ofInt 64 1).toNat = n % 2
    rw [BitVec.toNat_and]
    have h1 : (BitVec.ofInt 64 (n : Int)).toNat = n := by
      rw [BitVec.toNat_ofInt]
      omega
    rw [h1]
    show n &&& 1 = n % 2
    exact Nat.and_one_is_mod n
  rw [e, wrapU (by omega)]
theorem shr_1 (n : Nat) : Int.fdiv (n : Int) (2 ^ 1) = ((n / 2 : Nat) : Int) := by
  rw [Int.fdiv_eq_ediv_of_nonneg _ (by decide)]
  omega

/-- A function's run to one of several results. -/
theorem gets_some {Γ : Ctx} {g : FuncId} {fn : Func} {c : Code} {bs : List AV} {α : Type} (P : α → Prop) (r : α → AV) (hfn : Γ.fn g = some fn) (hb : fn.body = some c)
    (h : EvK Γ g c ⟨bs ++ List.replicate (fn.ntmps - bs.length) undefA, ⟨[], 0⟩⟩ fun o s => ∃ x, P x ∧ (o = .normal ∨ o = .ret) ∧ ∃ r0, resA Γ fn s = some r0 ∧ snapR s.m r0 = some (r x)) : ∃ x, P x ∧ Gets Γ g bs (r x) := by
  obtain ⟨n, o, s, h1, x, hx, ho, r0, h2, h3⟩ := h
  exact ⟨x, hx, gets_of hfn hb ⟨n, o, s, h1, ho, r0, h2, h3⟩⟩

noncomputable def primeL : Code := (lft (lft (rgt (lft (rgt (rgt (Try.f14.body.getD .skip)))))))

/-- No divisor up to the root. -/
def Pr (n : Nat) : Prop := 2 ≤ n ∧ n ≤ 2147483647 ∧ ∀ d, 2 ≤ d → d * d ≤ n → n % d ≠ 0
noncomputable def isP (n : Nat) : Bool := @decide (Pr n) (Classical.propDecidable _)
theorem isP_t {n : Nat} (h : Pr n) : isP n = true := @decide_eq_true _ (Classical.propDecidable _) h
theorem isP_f {n : Nat} (h : ¬ Pr n) : isP n = false := @decide_eq_false _ (Classical.propDecidable _) h
theorem pr_of {n : Nat} (h : isP n = true) : Pr n := @of_decide_eq_true _ (Classical.propDecidable _) h

theorem prime_out {K : Out → St → Prop} {n d : Nat} (x4 x5 x6 x7 x8 x9 : AV) (hw : IntKind.wrap .u64 ((d : Int) * (d : Int)) = ((d * d : Nat) : Int)) (hl : decide (((d * d : Nat) : Int) ≤ (n : Int)) = false) (z10 z11 z12 z13 z14 z15 z16 z17 z18 z19 z20 : AV) (h : ∀ z10 z11 z12 z13 z14 z15 z16 z17 z18 z19 z20, K (.exit 0) ⟨[intA .u64 (n : Int), U, No, intA .u64 (d : Int), x4, x5, x6, x7, x8, x9, z10, z11, z12, z13, z14, z15, z16, z17, z18, z19, z20], ⟨[], 0⟩⟩) : EvK Try.cx 14 (.loop primeL) ⟨[intA .u64 (n : Int), U, No, intA .u64 (d : Int), x4, x5, x6, x7, x8, x9, z10, z11, z12, z13, z14, z15, z16, z17, z18, z19, z20], ⟨[], 0⟩⟩ K := by
  refine ev_loop ?_
  refine ev_seq ?_
  refine ev_seq ?_
  refine ev_reg (by kernel_rfl) ?_
  refine rs_take 3 (s1 := ⟨[intA .u64 (n : Int), U, No, intA .u64 (d : Int), x4, x5, x6, x7, x8, x9, intA .u64 (d : Int), intA .u64 (d : Int), intA .u64 (IntKind.wrap .u64 ((d : Int) * (d : Int))), z13, z14, z15, z16, z17, z18, z19, z20], ⟨[], 0⟩⟩) (fun cf => by kernel_rfl) ?_
  rw [hw]
  refine rs_take 2 (s1 := ⟨[intA .u64 (n : Int), U, No, intA .u64 (d : Int), x4, x5, x6, x7, x8, x9, intA .u64 (d : Int), intA .u64 (d : Int), intA .u64 ((d * d : Nat) : Int), intA .u64 (n : Int), boolA (decide (((d * d : Nat) : Int) ≤ (n : Int))), z15, z16, z17, z18, z19, z20], ⟨[], 0⟩⟩) (fun cf => by kernel_rfl) ?_
  rw [hl]
  refine rs_done (by kernel_rfl) ?_
  refine ev_false (by kernel_rfl) ?_
  refine ev_exit ?_
  exact h _ _ _ _ _ _ _ _ _ _ _

theorem prime_hit {K : Out → St → Prop} {n d : Nat} (x4 x5 x6 x7 x8 x9 : AV) (hw : IntKind.wrap .u64 ((d : Int) * (d : Int)) = ((d * d : Nat) : Int)) (hl : decide (((d * d : Nat) : Int) ≤ (n : Int)) = true) (h0 : d ≠ 0) (hz : (((n % d : Nat) : Int) == 0) = true) (z10 z11 z12 z13 z14 z15 z16 z17 z18 z19 z20 : AV) (h : ∀ z10 z11 z12 z13 z14 z15 z16 z17 z18 z19 z20, K .ret ⟨[intA .u64 (n : Int), U, No, intA .u64 (d : Int), x4, x5, x6, x7, x8, x9, z10, z11, z12, z13, z14, z15, z16, z17, z18, z19, z20], ⟨[], 0⟩⟩) : EvK Try.cx 14 (.loop primeL) ⟨[intA .u64 (n : Int), U, No, intA .u64 (d : Int), x4, x5, x6, x7, x8, x9, z10, z11, z12, z13, z14, z15, z16, z17, z18, z19, z20], ⟨[], 0⟩⟩ K := by
  refine ev_loop ?_
  refine ev_seq ?_
  refine ev_seq ?_
  refine ev_reg (by kernel_rfl) ?_
  refine rs_take 3 (s1 := ⟨[intA .u64 (n : Int), U, No, intA .u64 (d : Int), x4, x5, x6, x7, x8, x9, intA .u64 (d : Int), intA .u64 (d : Int), intA .u64 (IntKind.wrap .u64 ((d : Int) * (d : Int))), z13, z14, z15, z16, z17, z18, z19, z20], ⟨[], 0⟩⟩) (fun cf => by kernel_rfl) ?_
  rw [hw]
  refine rs_take 2 (s1 := ⟨[intA .u64 (n : Int), U, No, intA .u64 (d : Int), x4, x5, x6, x7, x8, x9, intA .u64 (d : Int), intA .u64 (d : Int), intA .u64 ((d * d : Nat) : Int), intA .u64 (n : Int), boolA (decide (((d * d : Nat) : Int) ≤ (n : Int))), z15, z16, z17, z18, z19, z20], ⟨[], 0⟩⟩) (fun cf => by kernel_rfl) ?_
  rw [hl]
  refine rs_done (by kernel_rfl) ?_
  refine ev_true (by kernel_rfl) ?_
  refine ev_skip ?_
  refine ev_seq ?_
  refine ev_block ?_
  refine ev_seq ?_
  refine ev_reg (by kernel_rfl) ?_
  refine rs_take 2 (s1 := ⟨[intA .u64 (n : Int), U, No, intA .u64 (d : Int), x4, x5, x6, x7, x8, x9, intA .u64 (d : Int), intA .u64 (d : Int), intA .u64 ((d * d : Nat) : Int), intA .u64 (n : Int), Yes, z15, z16, intA .u64 (n : Int), intA .u64 (d : Int), z19, z20], ⟨[], 0⟩⟩) (fun cf => by kernel_rfl) ?_
  refine rs_take 1 (s1 := ⟨[intA .u64 (n : Int), U, No, intA .u64 (d : Int), x4, x5, x6, x7, x8, x9, intA .u64 (d : Int), intA .u64 (d : Int), intA .u64 ((d * d : Nat) : Int), intA .u64 (n : Int), Yes, z15, z16, intA .u64 (n : Int), intA .u64 (d : Int), intA .u64 ((n % d : Nat) : Int), z20], ⟨[], 0⟩⟩) (fun cf => Eq.trans (b := match (binA Try.cx (⟨[], 0⟩ : Mem) .rem 23 (intA .u64 (n : Int)) (intA .u64 (d : Int))).map (fun r9 => (r9, (⟨[], 0⟩ : Mem))) with | some (r9, m9) => some (⟨[intA .u64 (n : Int), U, No, intA .u64 (d : Int), x4, x5, x6, x7, x8, x9, intA .u64 (d : Int), intA .u64 (d : Int), intA .u64 ((d * d : Nat) : Int), intA .u64 (n : Int), Yes, z15, z16, intA .u64 (n : Int), intA .u64 (d : Int), r9, z20], m9⟩ : St) | none => none) (by kernel_rfl) (by rw [rem_u h0] <;> rfl)) ?_
  refine rs_take 1 (s1 := ⟨[intA .u64 (n : Int), U, No, intA .u64 (d : Int), x4, x5, x6, x7, x8, x9, intA .u64 (d : Int), intA .u64 (d : Int), intA .u64 ((d * d : Nat) : Int), intA .u64 (n : Int), Yes, z15, z16, intA .u64 (n : Int), intA .u64 (d : Int), intA .u64 ((n % d : Nat) : Int), boolA (((n % d : Nat) : Int) == 0)], ⟨[], 0⟩⟩) (fun cf => by kernel_rfl) ?_
  rw [hz]
  refine rs_done (by kernel_rfl) ?_
  refine ev_true (by kernel_rfl) ?_
  refine ev_seq ?_
  refine ev_reg (by kernel_rfl) ?_
  refine rs_all (s1 := ⟨[intA .u64 (n : Int), U, No, intA .u64 (d : Int), x4, x5, x6, x7, x8, x9, intA .u64 (d : Int), intA .u64 (d : Int), intA .u64 ((d * d : Nat) : Int), intA .u64 (n : Int), Yes, z15, z16, intA .u64 (n : Int), intA .u64 (d : Int), intA .u64 ((n % d : Nat) : Int), Yes], ⟨[], 0⟩⟩) (fun cf => by kernel_rfl) ?_
  refine ev_ret ?_
  exact h _ _ _ _ _ _ _ _ _ _ _

theorem prime_next {K : Out → St → Prop} {n d : Nat} (x4 x5 x6 x7 x8 x9 : AV) (hw : IntKind.wrap .u64 ((d : Int) * (d : Int)) = ((d * d : Nat) : Int)) (hl : decide (((d * d : Nat) : Int) ≤ (n : Int)) = true) (h0 : d ≠ 0) (hz : (((n % d : Nat) : Int) == 0) = false) (hn : IntKind.wrap .u64 ((d : Int) + 1) = ((d + 1 : Nat) : Int)) (z10 z11 z12 z13 z14 z15 z16 z17 z18 z19 z20 : AV) (h : ∀ z10 z11 z12 z13 z14 z15 z16 z17 z18 z19 z20, EvK Try.cx 14 (.loop primeL) ⟨[intA .u64 (n : Int), U, No, intA .u64 ((d + 1 : Nat) : Int), x4, x5, x6, x7, x8, x9, z10, z11, z12, z13, z14, z15, z16, z17, z18, z19, z20], ⟨[], 0⟩⟩ K) : EvK Try.cx 14 (.loop primeL) ⟨[intA .u64 (n : Int), U, No, intA .u64 (d : Int), x4, x5, x6, x7, x8, x9, z10, z11, z12, z13, z14, z15, z16, z17, z18, z19, z20], ⟨[], 0⟩⟩ K := by
  refine ev_loop ?_
  refine ev_seq ?_
  refine ev_seq ?_
  refine ev_reg (by kernel_rfl) ?_
  refine rs_take 3 (s1 := ⟨[intA .u64 (n : Int), U, No, intA .u64 (d : Int), x4, x5, x6, x7, x8, x9, intA .u64 (d : Int), intA .u64 (d : Int), intA .u64 (IntKind.wrap .u64 ((d : Int) * (d : Int))), z13, z14, z15, z16, z17, z18, z19, z20], ⟨[], 0⟩⟩) (fun cf => by kernel_rfl) ?_
  rw [hw]
  refine rs_take 2 (s1 := ⟨[intA .u64 (n : Int), U, No, intA .u64 (d : Int), x4, x5, x6, x7, x8, x9, intA .u64 (d : Int), intA .u64 (d : Int), intA .u64 ((d * d : Nat) : Int), intA .u64 (n : Int), boolA (decide (((d * d : Nat) : Int) ≤ (n : Int))), z15, z16, z17, z18, z19, z20], ⟨[], 0⟩⟩) (fun cf => by kernel_rfl) ?_
  rw [hl]
  refine rs_done (by kernel_rfl) ?_
  refine ev_true (by kernel_rfl) ?_
  refine ev_skip ?_
  refine ev_seq ?_
  refine ev_block ?_
  refine ev_seq ?_
  refine ev_reg (by kernel_rfl) ?_
  refine rs_take 2 (s1 := ⟨[intA .u64 (n : Int), U, No, intA .u64 (d : Int), x4, x5, x6, x7, x8, x9, intA .u64 (d : Int), intA .u64 (d : Int), intA .u64 ((d * d : Nat) : Int), intA .u64 (n : Int), Yes, z15, z16, intA .u64 (n : Int), intA .u64 (d : Int), z19, z20], ⟨[], 0⟩⟩) (fun cf => by kernel_rfl) ?_
  refine rs_take 1 (s1 := ⟨[intA .u64 (n : Int), U, No, intA .u64 (d : Int), x4, x5, x6, x7, x8, x9, intA .u64 (d : Int), intA .u64 (d : Int), intA .u64 ((d * d : Nat) : Int), intA .u64 (n : Int), Yes, z15, z16, intA .u64 (n : Int), intA .u64 (d : Int), intA .u64 ((n % d : Nat) : Int), z20], ⟨[], 0⟩⟩) (fun cf => Eq.trans (b := match (binA Try.cx (⟨[], 0⟩ : Mem) .rem 23 (intA .u64 (n : Int)) (intA .u64 (d : Int))).map (fun r9 => (r9, (⟨[], 0⟩ : Mem))) with | some (r9, m9) => some (⟨[intA .u64 (n : Int), U, No, intA .u64 (d : Int), x4, x5, x6, x7, x8, x9, intA .u64 (d : Int), intA .u64 (d : Int), intA .u64 ((d * d : Nat) : Int), intA .u64 (n : Int), Yes, z15, z16, intA .u64 (n : Int), intA .u64 (d : Int), r9, z20], m9⟩ : St) | none => none) (by kernel_rfl) (by rw [rem_u h0] <;> rfl)) ?_
  refine rs_take 1 (s1 := ⟨[intA .u64 (n : Int), U, No, intA .u64 (d : Int), x4, x5, x6, x7, x8, x9, intA .u64 (d : Int), intA .u64 (d : Int), intA .u64 ((d * d : Nat) : Int), intA .u64 (n : Int), Yes, z15, z16, intA .u64 (n : Int), intA .u64 (d : Int), intA .u64 ((n % d : Nat) : Int), boolA (((n % d : Nat) : Int) == 0)], ⟨[], 0⟩⟩) (fun cf => by kernel_rfl) ?_
  rw [hz]
  refine rs_done (by kernel_rfl) ?_
  refine ev_false (by kernel_rfl) ?_
  refine ev_skip ?_
  refine ev_reg (by kernel_rfl) ?_
  refine rs_take 2 (s1 := ⟨[intA .u64 (n : Int), U, No, intA .u64 (d : Int), x4, x5, x6, x7, x8, x9, intA .u64 (d : Int), intA .u64 (d : Int), intA .u64 ((d * d : Nat) : Int), intA .u64 (n : Int), Yes, intA .u64 (d : Int), intA .u64 (IntKind.wrap .u64 ((d : Int) + 1)), intA .u64 (n : Int), intA .u64 (d : Int), intA .u64 ((n % d : Nat) : Int), No], ⟨[], 0⟩⟩) (fun cf => by kernel_rfl) ?_
  rw [hn]
  refine rs_all (s1 := ⟨[intA .u64 (n : Int), U, No, intA .u64 ((d + 1 : Nat) : Int), x4, x5, x6, x7, x8, x9, intA .u64 (d : Int), intA .u64 (d : Int), intA .u64 ((d * d : Nat) : Int), intA .u64 (n : Int), Yes, intA .u64 (d : Int), intA .u64 ((d + 1 : Nat) : Int), intA .u64 (n : Int), intA .u64 (d : Int), intA .u64 ((n % d : Nat) : Int), No], ⟨[], 0⟩⟩) (fun cf => by kernel_rfl) ?_
  exact h _ _ _ _ _ _ _ _ _ _ _

theorem prime_loop {K : Out → St → Prop} {n : Nat} (hn : n ≤ 2147483647) (x4 x5 x6 x7 x8 x9 : AV) (h0 : ¬ Pr n → ∀ (d : Nat) (z10 z11 z12 z13 z14 z15 z16 z17 z18 z19 z20 : AV), K .ret ⟨[intA .u64 (n : Int), U, No, intA .u64 (d : Int), x4, x5, x6, x7, x8, x9, z10, z11, z12, z13, z14, z15, z16, z17, z18, z19, z20], ⟨[], 0⟩⟩) (h1 : (2 ≤ n → Pr n) → ∀ (d : Nat) (z10 z11 z12 z13 z14 z15 z16 z17 z18 z19 z20 : AV), K (.exit 0) ⟨[intA .u64 (n : Int), U, No, intA .u64 (d : Int), x4, x5, x6, x7, x8, x9, z10, z11, z12, z13, z14, z15, z16, z17, z18, z19, z20], ⟨[], 0⟩⟩) :
    ∀ (r d : Nat) (z10 z11 z12 z13 z14 z15 z16 z17 z18 z19 z20 : AV) (hd : 2 ≤ d) (hr : d + r = 46342) (hall : ∀ e, 2 ≤ e → e < d → n % e ≠ 0), EvK Try.cx 14 (.loop primeL) ⟨[intA .u64 (n : Int), U, No, intA .u64 (d : Int), x4, x5, x6, x7, x8, x9, z10, z11, z12, z13, z14, z15, z16, z17, z18, z19, z20], ⟨[], 0⟩⟩ K
  | 0, d, z10, z11, z12, z13, z14, z15, z16, z17, z18, z19, z20, hd, hr, hall => by
    have : d = 46342 := by omega
    subst this
    exact prime_out x4 x5 x6 x7 x8 x9 (wrapU (n := 46342 * 46342) (by decide)) (decide_eq_false (by omega)) z10 z11 z12 z13 z14 z15 z16 z17 z18 z19 z20 (h1 (fun h => ⟨h, hn, fun e h2 h3 => by
      by_cases h4 : e < 46342
      · exact hall e h2 h4
      · have := Nat.mul_le_mul (Nat.le_of_not_lt h4) (Nat.le_of_not_lt h4)
        omega⟩) 46342)
  | r + 1, d, z10, z11, z12, z13, z14, z15, z16, z17, z18, z19, z20, hd, hr, hall => by
    have hdd : d * d ≤ 46342 * 46342 := Nat.mul_le_mul (by omega) (by omega)
    have hw : IntKind.wrap .u64 ((d : Int) * (d : Int)) = ((d * d : Nat) : Int) := by
      rw [← Int.natCast_mul]
      exact wrapU (by omega)
    by_cases hl : d * d ≤ n
    · by_cases hz : n % d = 0
      · refine prime_hit x4 x5 x6 x7 x8 x9 hw (decide_eq_true (by omega)) (by omega) (by rw [hz]; rfl) z10 z11 z12 z13 z14 z15 z16 z17 z18 z19 z20 (h0 (fun h => h.2.2 d hd hl hz) d)
      · refine prime_next x4 x5 x6 x7 x8 x9 hw (decide_eq_true (by omega)) (by omega) (by simp only [beq_eq_false_iff_ne, ne_eq]; omega) (wrapU (n := d + 1) (by omega)) z10 z11 z12 z13 z14 z15 z16 z17 z18 z19 z20 fun z10 z11 z12 z13 z14 z15 z16 z17 z18 z19 z20 => ?_
        exact prime_loop hn x4 x5 x6 x7 x8 x9 h0 h1 r (d + 1) z10 z11 z12 z13 z14 z15 z16 z17 z18 z19 z20 (by omega) (by omega) fun e h2 h3 => by
          by_cases he : e = d
          · subst he; exact hz
          · exact hall e h2 (by omega)
    · refine prime_out x4 x5 x6 x7 x8 x9 hw (decide_eq_false (by omega)) z10 z11 z12 z13 z14 z15 z16 z17 z18 z19 z20 (h1 (fun h => ⟨h, hn, fun e h2 h3 => ?_⟩) d)
      by_cases h4 : e < d
      · exact hall e h2 h4
      · have := Nat.mul_le_mul (Nat.le_of_not_lt h4) (Nat.le_of_not_lt h4)
        omega

theorem g_prime {n : Nat} (hn : n ≤ 2147483647) : Gets Try.cx 14 [intA .u64 (n : Int)] (boolA (isP n)) := by
  refine gets_of (fn := Try.f14) (by kernel_rfl) rfl ?_
  show EvK _ _ _ ⟨[intA .u64 (n : Int)] ++ us 20, ⟨[], 0⟩⟩ _
  have hbig : decide ((n : Int) > 2147483647) = false := decide_eq_false (by omega)
  refine ev_seq ?_
  refine ev_reg (by kernel_rfl) ?_
  refine rs_all (s1 := ⟨[intA .u64 (n : Int), U, No] ++ us 18, ⟨[], 0⟩⟩) (fun cf => by kernel_rfl) ?_
  refine ev_seq ?_
  refine ev_seq ?_
  refine ev_reg (by kernel_rfl) ?_
  refine rs_take 3 (s1 := ⟨[intA .u64 (n : Int), U, No, U, intA .u64 (n : Int), boolA (decide ((n : Int) < 2)), boolA (decide ((n : Int) < 2))] ++ us 14, ⟨[], 0⟩⟩) (fun cf => by kernel_rfl) ?_
  rcases hlo : ((decide ((n : Int) < 2)) : Bool) with _ | _
  ·
    refine rs_take 2 (s1 := ⟨[intA .u64 (n : Int), U, No, U, intA .u64 (n : Int), No, No, intA .u64 (n : Int), boolA (decide ((n : Int) > 2147483647))] ++ us 12, ⟨[], 0⟩⟩) (fun cf => by kernel_rfl) ?_
    rw [hbig]
    refine rs_all (s1 := ⟨[intA .u64 (n : Int), U, No, U, intA .u64 (n : Int), No, No, intA .u64 (n : Int), No, No] ++ us 11, ⟨[], 0⟩⟩) (fun cf => by kernel_rfl) ?_
    refine ev_false (by kernel_rfl) ?_
    refine ev_skip ?_
    refine ev_seq ?_
    refine ev_seq ?_
    refine ev_reg (by kernel_rfl) ?_
    refine rs_all (s1 := ⟨[intA .u64 (n : Int), U, No, intA .u64 2, intA .u64 (n : Int), No, No, intA .u64 (n : Int), No, No] ++ us 11, ⟨[], 0⟩⟩) (fun cf => by kernel_rfl) ?_
    refine ev_block ?_
    have h2 : 2 ≤ n := by have := of_decide_eq_false hlo; omega
    refine prime_loop hn _ _ _ _ _ _ (fun hp d v10 v11 v12 v13 v14 v15 v16 v17 v18 v19 v20 => ?_) (fun hp d v10 v11 v12 v13 v14 v15 v16 v17 v18 v19 v20 => ?_) 46340 2 _ _ _ _ _ _ _ _ _ _ _ (by decide) (by decide) (fun e h2 h3 => by omega)
    ·
      have hv : isP n = false := isP_f hp
      exact leaf (r0 := No) (r1 := No) (.inr rfl) (by kernel_rfl) (by kernel_rfl) (by rw [hv])
    ·
      have hv : isP n = true := isP_t (hp h2)
      refine ev_seq ?_
      refine ev_reg (by kernel_rfl) ?_
      refine rs_all (s1 := ⟨[intA .u64 (n : Int), U, Yes, intA .u64 (d : Int), intA .u64 (n : Int), No, No, intA .u64 (n : Int), No, No, v10, v11, v12, v13, v14, v15, v16, v17, v18, v19, v20], ⟨[], 0⟩⟩) (fun cf => by kernel_rfl) ?_
      refine ev_ret ?_
      exact leaf (r0 := Yes) (r1 := Yes) (.inr rfl) (by kernel_rfl) (by kernel_rfl) (by rw [hv])
  ·
    refine rs_all (s1 := ⟨[intA .u64 (n : Int), U, No, U, intA .u64 (n : Int), Yes, Yes, U, U, Yes] ++ us 11, ⟨[], 0⟩⟩) (fun cf => by kernel_rfl) ?_
    refine ev_true (by kernel_rfl) ?_
    refine ev_seq ?_
    refine ev_reg (by kernel_rfl) ?_
    refine rs_all (s1 := ⟨[intA .u64 (n : Int), U, No, U, intA .u64 (n : Int), Yes, Yes, U, U, Yes] ++ us 11, ⟨[], 0⟩⟩) (fun cf => by kernel_rfl) ?_
    refine ev_ret ?_
    have hv : isP n = false := isP_f (fun h => by have := of_decide_eq_true hlo; have := h.1; omega)
    exact leaf (r0 := No) (r1 := No) (.inr rfl) (by kernel_rfl) (by kernel_rfl) (by rw [hv])

noncomputable def nextL : Code := (lft (lft (lft (rgt (rgt (rgt (Try.f12.body.getD .skip)))))))

theorem next_out {K : Out → St → Prop} {q : Nat} (x0 x5 x6 x7 x8 : AV) (hq : q ≤ 2147483647) (hp : isP q = true) (z9 z10 z11 z12 z13 : AV) (h : ∀ z9 z10 z11 z12 z13, K (.exit 0) ⟨[x0, U, intA .u64 0, J 0, intA .u64 (q : Int), x5, x6, x7, x8, z9, z10, z11, z12, z13, U], ⟨[], 0⟩⟩) : EvK Try.cx 12 (.loop nextL) ⟨[x0, U, intA .u64 0, J 0, intA .u64 (q : Int), x5, x6, x7, x8, z9, z10, z11, z12, z13, U], ⟨[], 0⟩⟩ K := by
  refine ev_loop ?_
  refine ev_seq ?_
  refine ev_seq ?_
  refine ev_reg (by kernel_rfl) ?_
  refine rs_take 1 (s1 := ⟨[x0, U, intA .u64 0, J 0, intA .u64 (q : Int), x5, x6, x7, x8, intA .u64 (q : Int), z10, z11, z12, z13, U], ⟨[], 0⟩⟩) (fun cf => by kernel_rfl) ?_
  refine rs_pure (g := 14) (bs := [intA .u64 (q : Int)]) (ow := false) (r := boolA (isP q)) (s1 := ⟨[x0, U, intA .u64 0, J 0, intA .u64 (q : Int), x5, x6, x7, x8, intA .u64 (q : Int), boolA (isP q), z11, z12, z13, U], ⟨[], 0⟩⟩) (by kernel_rfl) (g_prime hq) (by kernel_rfl) (by kernel_rfl) ?_
  rw [hp]
  refine rs_all (s1 := ⟨[x0, U, intA .u64 0, J 0, intA .u64 (q : Int), x5, x6, x7, x8, intA .u64 (q : Int), Yes, No, z12, z13, U], ⟨[], 0⟩⟩) (fun cf => by kernel_rfl) ?_
  refine ev_false (by kernel_rfl) ?_
  refine ev_exit ?_
  exact h _ _ _ _ _

theorem next_on {K : Out → St → Prop} {q : Nat} (x0 x5 x6 x7 x8 : AV) (hq : q ≤ 2147483647) (hp : isP q = false) (hn : IntKind.wrap .u64 ((q : Int) + 1) = ((q + 1 : Nat) : Int)) (z9 z10 z11 z12 z13 : AV) (h : ∀ z9 z10 z11 z12 z13, EvK Try.cx 12 (.loop nextL) ⟨[x0, U, intA .u64 0, J 0, intA .u64 ((q + 1 : Nat) : Int), x5, x6, x7, x8, z9, z10, z11, z12, z13, U], ⟨[], 0⟩⟩ K) : EvK Try.cx 12 (.loop nextL) ⟨[x0, U, intA .u64 0, J 0, intA .u64 (q : Int), x5, x6, x7, x8, z9, z10, z11, z12, z13, U], ⟨[], 0⟩⟩ K := by
  refine ev_loop ?_
  refine ev_seq ?_
  refine ev_seq ?_
  refine ev_reg (by kernel_rfl) ?_
  refine rs_take 1 (s1 := ⟨[x0, U, intA .u64 0, J 0, intA .u64 (q : Int), x5, x6, x7, x8, intA .u64 (q : Int), z10, z11, z12, z13, U], ⟨[], 0⟩⟩) (fun cf => by kernel_rfl) ?_
  refine rs_pure (g := 14) (bs := [intA .u64 (q : Int)]) (ow := false) (r := boolA (isP q)) (s1 := ⟨[x0, U, intA .u64 0, J 0, intA .u64 (q : Int), x5, x6, x7, x8, intA .u64 (q : Int), boolA (isP q), z11, z12, z13, U], ⟨[], 0⟩⟩) (by kernel_rfl) (g_prime hq) (by kernel_rfl) (by kernel_rfl) ?_
  rw [hp]
  refine rs_all (s1 := ⟨[x0, U, intA .u64 0, J 0, intA .u64 (q : Int), x5, x6, x7, x8, intA .u64 (q : Int), No, Yes, z12, z13, U], ⟨[], 0⟩⟩) (fun cf => by kernel_rfl) ?_
  refine ev_true (by kernel_rfl) ?_
  refine ev_skip ?_
  refine ev_block ?_
  refine ev_reg (by kernel_rfl) ?_
  refine rs_take 2 (s1 := ⟨[x0, U, intA .u64 0, J 0, intA .u64 (q : Int), x5, x6, x7, x8, intA .u64 (q : Int), No, Yes, intA .u64 (q : Int), intA .u64 (IntKind.wrap .u64 ((q : Int) + 1)), U], ⟨[], 0⟩⟩) (fun cf => by kernel_rfl) ?_
  rw [hn]
  refine rs_all (s1 := ⟨[x0, U, intA .u64 0, J 0, intA .u64 ((q + 1 : Nat) : Int), x5, x6, x7, x8, intA .u64 (q : Int), No, Yes, intA .u64 (q : Int), intA .u64 ((q + 1 : Nat) : Int), U], ⟨[], 0⟩⟩) (fun cf => by kernel_rfl) ?_
  exact h _ _ _ _ _

theorem next_loop {K : Out → St → Prop} (htop : isP 2147483647 = true) (x0 x5 x6 x7 x8 : AV) (lo : Nat) (h : ∀ (q : Nat) (z9 z10 z11 z12 z13 : AV), lo ≤ q → Pr q → K (.exit 0) ⟨[x0, U, intA .u64 0, J 0, intA .u64 (q : Int), x5, x6, x7, x8, z9, z10, z11, z12, z13, U], ⟨[], 0⟩⟩) :
    ∀ (r q : Nat) (z9 z10 z11 z12 z13 : AV) (hr : q + r = 2147483647) (hlo : lo ≤ q), EvK Try.cx 12 (.loop nextL) ⟨[x0, U, intA .u64 0, J 0, intA .u64 (q : Int), x5, x6, x7, x8, z9, z10, z11, z12, z13, U], ⟨[], 0⟩⟩ K
  | 0, q, z9, z10, z11, z12, z13, hr, hlo => by
    have : q = 2147483647 := by omega
    rw [this] at hlo ⊢
    exact next_out x0 x5 x6 x7 x8 (Nat.le_refl _) htop z9 z10 z11 z12 z13 fun z9 z10 z11 z12 z13 => h _ z9 z10 z11 z12 z13 hlo (pr_of htop)
  | r + 1, q, z9, z10, z11, z12, z13, hr, hlo => by
    cases hp : isP q with
    | true => exact next_out x0 x5 x6 x7 x8 (by omega) hp z9 z10 z11 z12 z13 fun z9 z10 z11 z12 z13 => h _ z9 z10 z11 z12 z13 hlo (pr_of hp)
    | false => exact next_on x0 x5 x6 x7 x8 (by omega) hp (wrapU (n := q + 1) (by omega)) z9 z10 z11 z12 z13 fun z9 z10 z11 z12 z13 => next_loop htop x0 x5 x6 x7 x8 lo h r (q + 1) z9 z10 z11 z12 z13 (by omega) (by omega)

def chk (n : Nat) : Nat → Nat → Bool
  | lo, 0 => !(Nat.beq (n % lo) 0)
  | lo, k + 1 => chk n lo k && chk n (lo + 2 ^ k) k

theorem chk_spec {n : Nat} : ∀ (k lo : Nat), chk n lo k = true → ∀ d, lo ≤ d → d < lo + 2 ^ k → n % d ≠ 0
  | 0, lo, h, d, h1, h2 => by
    have : d = lo := by simp only [Nat.pow_zero] at h2; omega
    subst this
    simp only [chk, Bool.not_eq_true'] at h
    exact Nat.ne_of_beq_eq_false h
  | k + 1, lo, h, d, h1, h2 => by
    simp only [chk, Bool.and_eq_true] at h
    by_cases hd : d < lo + 2 ^ k
    · exact chk_spec k lo h.1 d h1 hd
    · have : 2 ^ (k + 1) = 2 ^ k + 2 ^ k := by rw [Nat.pow_succ]; omega
      exact chk_spec k (lo + 2 ^ k) h.2 d (by omega) (by omega)

theorem top_chk : chk 2147483647 2 16 = true := by decide +kernel

theorem top_prime : isP 2147483647 = true := by
  refine isP_t ⟨by decide, Nat.le_refl _, fun d h1 h2 => chk_spec 16 2 top_chk d h1 ?_⟩
  have e : 2 ^ 16 = 65536 := by decide
  rw [e]
  by_cases hd : d < 2 + 65536
  · exact hd
  · have := Nat.mul_le_mul (Nat.le_of_not_lt hd) (Nat.le_of_not_lt hd)
    omega

theorem g_next {n : Nat} (hn : n < 2147483647) : ∃ q, n < q ∧ Pr q ∧ Gets Try.cx 12 [intA .u64 (n : Int)] (.tu [intA .u64 (q : Int), intA .i64 0]) := by
  suffices h : ∃ q, (n < q ∧ Pr q) ∧ Gets Try.cx 12 [intA .u64 (n : Int)] (.tu [intA .u64 (q : Int), intA .i64 0]) by
    obtain ⟨q, ⟨h1, h2⟩, h3⟩ := h
    exact ⟨q, h1, h2, h3⟩
  refine gets_some (fn := Try.f12) (fun q => n < q ∧ Pr q) (fun q => .tu [intA .u64 (q : Int), intA .i64 0]) (by kernel_rfl) rfl ?_
  show EvK _ _ _ ⟨[intA .u64 (n : Int)] ++ us 14, ⟨[], 0⟩⟩ _
  have hge : decide ((n : Int) ≥ 2147483647) = false := decide_eq_false (by omega)
  have hw : IntKind.wrap .u64 ((n : Int) + 1) = ((n + 1 : Nat) : Int) := wrapU (n := n + 1) (by omega)
  refine ev_seq ?_
  refine ev_reg (by kernel_rfl) ?_
  refine rs_all (s1 := ⟨[intA .u64 (n : Int), U, intA .u64 0, J 0] ++ us 11, ⟨[], 0⟩⟩) (fun cf => by kernel_rfl) ?_
  refine ev_seq ?_
  refine ev_seq ?_
  refine ev_reg (by kernel_rfl) ?_
  refine rs_take 2 (s1 := ⟨[intA .u64 (n : Int), U, intA .u64 0, J 0, U, intA .u64 (n : Int), boolA (decide ((n : Int) ≥ 2147483647))] ++ us 8, ⟨[], 0⟩⟩) (fun cf => by kernel_rfl) ?_
  rw [hge]
  refine rs_done (by kernel_rfl) ?_
  refine ev_false (by kernel_rfl) ?_
  refine ev_skip ?_
  refine ev_seq ?_
  refine ev_reg (by kernel_rfl) ?_
  refine rs_take 2 (s1 := ⟨[intA .u64 (n : Int), U, intA .u64 0, J 0, U, intA .u64 (n : Int), No, intA .u64 (n : Int), intA .u64 (IntKind.wrap .u64 ((n : Int) + 1))] ++ us 6, ⟨[], 0⟩⟩) (fun cf => by kernel_rfl) ?_
  rw [hw]
  refine rs_all (s1 := ⟨[intA .u64 (n : Int), U, intA .u64 0, J 0, intA .u64 ((n + 1 : Nat) : Int), intA .u64 (n : Int), No, intA .u64 (n : Int), intA .u64 ((n + 1 : Nat) : Int)] ++ us 6, ⟨[], 0⟩⟩) (fun cf => by kernel_rfl) ?_
  refine ev_seq ?_
  refine ev_block ?_
  refine next_loop top_prime _ _ _ _ _ (n + 1) (fun q v9 v10 v11 v12 v13 hlo hq => ?_) (2147483646 - n) (n + 1) _ _ _ _ _ (by omega) (Nat.le_refl _)
  refine ev_seq ?_
  refine ev_reg (by kernel_rfl) ?_
  refine rs_all (s1 := ⟨[intA .u64 (n : Int), U, intA .u64 (q : Int), J 0, intA .u64 (q : Int), intA .u64 (n : Int), No, intA .u64 (n : Int), intA .u64 ((n + 1 : Nat) : Int), v9, v10, v11, v12, v13, intA .u64 (q : Int)], ⟨[], 0⟩⟩) (fun cf => by kernel_rfl) ?_
  refine ev_ret ?_
  exact ⟨q, ⟨by omega, hq⟩, .inr rfl, .tu [intA .u64 (q : Int), J 0], by kernel_rfl, by kernel_rfl⟩

end Go.Proofs.Ytgkjdfojogemhaa
