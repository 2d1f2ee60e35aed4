/-
  Inverses: the run of the function. Made by program. Conditions: none.
-/
import Derived.Test.YtgkjdfojogemhaaInvb
set_option maxRecDepth 100000
set_option maxHeartbeats 20000000
set_option linter.unusedSimpArgs false
set_option linter.unusedVariables false
namespace Go.Proofs.Ytgkjdfojogemhaa
open Go.Am


noncomputable def invL : Code := (lft (lft (lft (rgt (rgt (rgt (Try.f16.body.getD .skip)))))))

theorem inv_out {K : Out → St → Prop} {x y p : Nat} {u v : Int} (x0 x11 x12 x13 x14 x15 x16 x17 x18 : AV) (hne : ((y : Int) != 0) = false) (z10 z19 z20 z21 z22 z23 z24 z25 z26 z27 z28 z29 z30 z31 z32 z33 z34 z35 : AV) (h : ∀ z10 z19 z20 z21 z22 z23 z24 z25 z26 z27 z28 z29 z30 z31 z32 z33 z34 z35, K (.exit 0) ⟨[x0, intA .u64 (p : Int), U, U, intA .u64 0, J 0, J (x : Int), J (y : Int), J u, J v, z10, x11, x12, x13, x14, x15, x16, x17, x18, z19, z20, z21, z22, z23, z24, z25, z26, z27, z28, z29, z30, z31, z32, z33, z34, z35] ++ us 8, ⟨[], 0⟩⟩) : EvK Try.cx 16 (.loop invL) ⟨[x0, intA .u64 (p : Int), U, U, intA .u64 0, J 0, J (x : Int), J (y : Int), J u, J v, z10, x11, x12, x13, x14, x15, x16, x17, x18, z19, z20, z21, z22, z23, z24, z25, z26, z27, z28, z29, z30, z31, z32, z33, z34, z35] ++ us 8, ⟨[], 0⟩⟩ K := by
  refine ev_loop ?_
  refine ev_seq ?_
  refine ev_seq ?_
  refine ev_reg (by kernel_rfl) ?_
  refine rs_take 2 (s1 := ⟨[x0, intA .u64 (p : Int), U, U, intA .u64 0, J 0, J (x : Int), J (y : Int), J u, J v, z10, x11, x12, x13, x14, x15, x16, x17, x18, J (y : Int), boolA ((y : Int) != 0), z21, z22, z23, z24, z25, z26, z27, z28, z29, z30, z31, z32, z33, z34, z35] ++ us 8, ⟨[], 0⟩⟩) (fun cf => by kernel_rfl) ?_
  rw [hne]
  refine rs_done (by kernel_rfl) ?_
  refine ev_false (by kernel_rfl) ?_
  refine ev_exit ?_
  exact h _ _ _ _ _ _ _ _ _ _ _ _ _ _ _ _ _ _

theorem inv_round {K : Out → St → Prop} {x y p : Nat} {u v w1 : Int} (x0 x11 x12 x13 x14 x15 x16 x17 x18 : AV) (hne : ((y : Int) != 0) = true) (hy : y ≠ 0) (hx : x < 9223372036854775808) (hq : IntKind.wrap .i64 (((x / y : Nat) : Int) * (y : Int)) = ((x / y * y : Nat) : Int)) (hr : IntKind.wrap .i64 ((x : Int) - ((x / y * y : Nat) : Int)) = ((x % y : Nat) : Int)) (hqv : IntKind.wrap .i64 (((x / y : Nat) : Int) * v) = (((x / y : Nat) : Int) * v)) (hu : IntKind.wrap .i64 (u - (((x / y : Nat) : Int) * v)) = w1) (z10 z19 z20 z21 z22 z23 z24 z25 z26 z27 z28 z29 z30 z31 z32 z33 z34 z35 : AV) (h : ∀ z10 z19 z20 z21 z22 z23 z24 z25 z26 z27 z28 z29 z30 z31 z32 z33 z34 z35, EvK Try.cx 16 (.loop invL) ⟨[x0, intA .u64 (p : Int), U, U, intA .u64 0, J 0, J (y : Int), J ((x % y : Nat) : Int), J v, J w1, z10, x11, x12, x13, x14, x15, x16, x17, x18, z19, z20, z21, z22, z23, z24, z25, z26, z27, z28, z29, z30, z31, z32, z33, z34, z35] ++ us 8, ⟨[], 0⟩⟩ K) : EvK Try.cx 16 (.loop invL) ⟨[x0, intA .u64 (p : Int), U, U, intA .u64 0, J 0, J (x : Int), J (y : Int), J u, J v, z10, x11, x12, x13, x14, x15, x16, x17, x18, z19, z20, z21, z22, z23, z24, z25, z26, z27, z28, z29, z30, z31, z32, z33, z34, z35] ++ us 8, ⟨[], 0⟩⟩ K := by
  refine ev_loop ?_
  refine ev_seq ?_
  refine ev_seq ?_
  refine ev_reg (by kernel_rfl) ?_
  refine rs_take 2 (s1 := ⟨[x0, intA .u64 (p : Int), U, U, intA .u64 0, J 0, J (x : Int), J (y : Int), J u, J v, z10, x11, x12, x13, x14, x15, x16, x17, x18, J (y : Int), boolA ((y : Int) != 0), z21, z22, z23, z24, z25, z26, z27, z28, z29, z30, z31, z32, z33, z34, z35] ++ us 8, ⟨[], 0⟩⟩) (fun cf => by kernel_rfl) ?_
  rw [hne]
  refine rs_done (by kernel_rfl) ?_
  refine ev_true (by kernel_rfl) ?_
  refine ev_skip ?_
  refine ev_block ?_
  refine ev_seq ?_
  refine ev_reg (by kernel_rfl) ?_
  refine rs_take 2 (s1 := ⟨[x0, intA .u64 (p : Int), U, U, intA .u64 0, J 0, J (x : Int), J (y : Int), J u, J v, z10, x11, x12, x13, x14, x15, x16, x17, x18, J (y : Int), Yes, J (x : Int), J (y : Int), z23, z24, z25, z26, z27, z28, z29, z30, z31, z32, z33, z34, z35] ++ us 8, ⟨[], 0⟩⟩) (fun cf => by kernel_rfl) ?_
  refine rs_take 1 (s1 := ⟨[x0, intA .u64 (p : Int), U, U, intA .u64 0, J 0, J (x : Int), J (y : Int), J u, J v, z10, x11, x12, x13, x14, x15, x16, x17, x18, J (y : Int), Yes, J (x : Int), J (y : Int), J ((x / y : Nat) : Int), z24, z25, z26, z27, z28, z29, z30, z31, z32, z33, z34, z35] ++ us 8, ⟨[], 0⟩⟩) (fun cf => Eq.trans (b := match (binA Try.cx (⟨[], 0⟩ : Mem) .quo 2 (J (x : Int)) (J (y : Int))).map (fun r9 => (r9, (⟨[], 0⟩ : Mem))) with | some (r9, m9) => some (⟨[x0, intA .u64 (p : Int), U, U, intA .u64 0, J 0, J (x : Int), J (y : Int), J u, J v, z10, x11, x12, x13, x14, x15, x16, x17, x18, J (y : Int), Yes, J (x : Int), J (y : Int), r9, z24, z25, z26, z27, z28, z29, z30, z31, z32, z33, z34, z35] ++ us 8, m9⟩ : St) | none => none) (by kernel_rfl) (by rw [quo_i hy hx] <;> rfl)) ?_
  refine rs_all (s1 := ⟨[x0, intA .u64 (p : Int), U, U, intA .u64 0, J 0, J (x : Int), J (y : Int), J u, J v, J ((x / y : Nat) : Int), x11, x12, x13, x14, x15, x16, x17, x18, J (y : Int), Yes, J (x : Int), J (y : Int), J ((x / y : Nat) : Int), z24, z25, z26, z27, z28, z29, z30, z31, z32, z33, z34, z35] ++ us 8, ⟨[], 0⟩⟩) (fun cf => by kernel_rfl) ?_
  refine ev_reg (by kernel_rfl) ?_
  refine rs_take 5 (s1 := ⟨[x0, intA .u64 (p : Int), U, U, intA .u64 0, J 0, J (x : Int), J (y : Int), J u, J v, J ((x / y : Nat) : Int), x11, x12, x13, x14, x15, x16, x17, x18, J (y : Int), Yes, J (x : Int), J (y : Int), J ((x / y : Nat) : Int), J (y : Int), J (x : Int), J ((x / y : Nat) : Int), J (y : Int), J (IntKind.wrap .i64 (((x / y : Nat) : Int) * (y : Int))), z29, z30, z31, z32, z33, z34, z35] ++ us 8, ⟨[], 0⟩⟩) (fun cf => by kernel_rfl) ?_
  rw [hq]
  refine rs_take 1 (s1 := ⟨[x0, intA .u64 (p : Int), U, U, intA .u64 0, J 0, J (x : Int), J (y : Int), J u, J v, J ((x / y : Nat) : Int), x11, x12, x13, x14, x15, x16, x17, x18, J (y : Int), Yes, J (x : Int), J (y : Int), J ((x / y : Nat) : Int), J (y : Int), J (x : Int), J ((x / y : Nat) : Int), J (y : Int), J ((x / y * y : Nat) : Int), J (IntKind.wrap .i64 ((x : Int) - ((x / y * y : Nat) : Int))), z30, z31, z32, z33, z34, z35] ++ us 8, ⟨[], 0⟩⟩) (fun cf => by kernel_rfl) ?_
  rw [hr]
  refine rs_take 5 (s1 := ⟨[x0, intA .u64 (p : Int), U, U, intA .u64 0, J 0, J (x : Int), J (y : Int), J u, J v, J ((x / y : Nat) : Int), x11, x12, x13, x14, x15, x16, x17, x18, J (y : Int), Yes, J (x : Int), J (y : Int), J ((x / y : Nat) : Int), J (y : Int), J (x : Int), J ((x / y : Nat) : Int), J (y : Int), J ((x / y * y : Nat) : Int), J ((x % y : Nat) : Int), J v, J u, J ((x / y : Nat) : Int), J v, J (IntKind.wrap .i64 (((x / y : Nat) : Int) * v)), z35] ++ us 8, ⟨[], 0⟩⟩) (fun cf => by kernel_rfl) ?_
  rw [hqv]
  refine rs_take 1 (s1 := ⟨[x0, intA .u64 (p : Int), U, U, intA .u64 0, J 0, J (x : Int), J (y : Int), J u, J v, J ((x / y : Nat) : Int), x11, x12, x13, x14, x15, x16, x17, x18, J (y : Int), Yes, J (x : Int), J (y : Int), J ((x / y : Nat) : Int), J (y : Int), J (x : Int), J ((x / y : Nat) : Int), J (y : Int), J ((x / y * y : Nat) : Int), J ((x % y : Nat) : Int), J v, J u, J ((x / y : Nat) : Int), J v, J (((x / y : Nat) : Int) * v), J (IntKind.wrap .i64 (u - (((x / y : Nat) : Int) * v)))] ++ us 8, ⟨[], 0⟩⟩) (fun cf => by kernel_rfl) ?_
  rw [hu]
  refine rs_all (s1 := ⟨[x0, intA .u64 (p : Int), U, U, intA .u64 0, J 0, J (y : Int), J ((x % y : Nat) : Int), J v, J w1, J ((x / y : Nat) : Int), x11, x12, x13, x14, x15, x16, x17, x18, J (y : Int), Yes, J (x : Int), J (y : Int), J ((x / y : Nat) : Int), J (y : Int), J (x : Int), J ((x / y : Nat) : Int), J (y : Int), J ((x / y * y : Nat) : Int), J ((x % y : Nat) : Int), J v, J u, J ((x / y : Nat) : Int), J v, J (((x / y : Nat) : Int) * v), J w1] ++ us 8, ⟨[], 0⟩⟩) (fun cf => by kernel_rfl) ?_
  exact h _ _ _ _ _ _ _ _ _ _ _ _ _ _ _ _ _ _

theorem inv_loop {K : Out → St → Prop} {p : Nat} {a0 : Int} (hp : p ≤ 2147483648) (x0 x11 x12 x13 x14 x15 x16 x17 x18 : AV)
    (h : ∀ (u v k : Int) (z10 z19 z20 z21 z22 z23 z24 z25 z26 z27 z28 z29 z30 z31 z32 z33 z34 z35 : AV), -(p : Int) ≤ u → u ≤ p → u * a0 = 1 + k * p → K (.exit 0) ⟨[x0, intA .u64 (p : Int), U, U, intA .u64 0, J 0, J 1, J 0, J u, J v, z10, x11, x12, x13, x14, x15, x16, x17, x18, z19, z20, z21, z22, z23, z24, z25, z26, z27, z28, z29, z30, z31, z32, z33, z34, z35] ++ us 8, ⟨[], 0⟩⟩) : ∀ (r x y A B : Nat) (u v : Int) (z10 z19 z20 z21 z22 z23 z24 z25 z26 z27 z28 z29 z30 z31 z32 z33 z34 z35 : AV), y ≤ r → 1 ≤ x → x ≤ p → y < x →
    (u = -(A : Int) ∧ v = B ∨ u = A ∧ v = -(B : Int)) → B * x + A * y = p → A ≤ p → Nat.gcd x y = 1 → (∃ k, u * a0 = x + k * p) → (∃ k, v * a0 = y + k * p) → EvK Try.cx 16 (.loop invL) ⟨[x0, intA .u64 (p : Int), U, U, intA .u64 0, J 0, J (x : Int), J (y : Int), J u, J v, z10, x11, x12, x13, x14, x15, x16, x17, x18, z19, z20, z21, z22, z23, z24, z25, z26, z27, z28, z29, z30, z31, z32, z33, z34, z35] ++ us 8, ⟨[], 0⟩⟩ K := by
  intro r
  induction r with
  | zero =>
    intro x y A B u v z10 z19 z20 z21 z22 z23 z24 z25 z26 z27 z28 z29 z30 z31 z32 z33 z34 z35 hyr hx hxp hyx hs he hU hg hcu hcv
    have : y = 0 := by omega
    subst this
    have hx1 : x = 1 := by rw [Nat.gcd_zero_right] at hg; exact hg
    subst hx1
    obtain ⟨k, hk⟩ := hcu
    exact inv_out x0 x11 x12 x13 x14 x15 x16 x17 x18 (by decide) z10 z19 z20 z21 z22 z23 z24 z25 z26 z27 z28 z29 z30 z31 z32 z33 z34 z35 fun z10 z19 z20 z21 z22 z23 z24 z25 z26 z27 z28 z29 z30 z31 z32 z33 z34 z35 => h u v k z10 z19 z20 z21 z22 z23 z24 z25 z26 z27 z28 z29 z30 z31 z32 z33 z34 z35 (by omega) (by omega) hk
  | succ r ih =>
    intro x y A B u v z10 z19 z20 z21 z22 z23 z24 z25 z26 z27 z28 z29 z30 z31 z32 z33 z34 z35 hyr hx hxp hyx hs he hU hg hcu hcv
    by_cases hy : y = 0
    · subst hy
      have hx1 : x = 1 := by rw [Nat.gcd_zero_right] at hg; exact hg
      subst hx1
      obtain ⟨k, hk⟩ := hcu
      exact inv_out x0 x11 x12 x13 x14 x15 x16 x17 x18 (by decide) z10 z19 z20 z21 z22 z23 z24 z25 z26 z27 z28 z29 z30 z31 z32 z33 z34 z35 fun z10 z19 z20 z21 z22 z23 z24 z25 z26 z27 z28 z29 z30 z31 z32 z33 z34 z35 => h u v k z10 z19 z20 z21 z22 z23 z24 z25 z26 z27 z28 z29 z30 z31 z32 z33 z34 z35 (by omega) (by omega) hk
    · have hdm := Nat.div_add_mod x y
      have hmod := Nat.mod_lt x (Nat.pos_of_ne_zero hy)
      have hqy : y * (x / y) = x / y * y := Nat.mul_comm _ _
      have hinv : (A + x / y * B) * y + B * (x % y) = p := by
        have e1 : B * x = B * (y * (x / y)) + B * (x % y) := by rw [← Nat.mul_add, hdm]
        have e2 : (A + x / y * B) * y = A * y + B * (y * (x / y)) := by
          rw [Nat.add_mul, Nat.mul_comm (x / y) B, Nat.mul_assoc, hqy]
        omega
      have hV1 : A + x / y * B ≤ p := by
        have : (A + x / y * B) * 1 ≤ (A + x / y * B) * y := Nat.mul_le_mul_left _ (by omega)
        omega
      have hVp : B ≤ p := by
        have : B * 1 ≤ B * x := Nat.mul_le_mul_left _ hx
        omega
      have hcast : (((x / y : Nat) : Int) * (B : Int)) = ((x / y * B : Nat) : Int) := (Int.natCast_mul _ _).symm
      have hb : -(p : Int) ≤ ((x / y : Nat) : Int) * v ∧ ((x / y : Nat) : Int) * v ≤ p ∧ (u - ((x / y : Nat) : Int) * v = (A + x / y * B : Nat) ∧ v = -(B : Int) ∨ u - ((x / y : Nat) : Int) * v = -((A + x / y * B : Nat) : Int) ∧ v = B) := by
        rcases hs with ⟨rfl, rfl⟩ | ⟨rfl, rfl⟩
        · rw [hcast]; omega
        · rw [Int.mul_neg, hcast]; omega
      have hle : x / y * y ≤ x := by omega
      refine inv_round (w1 := u - ((x / y : Nat) : Int) * v) x0 x11 x12 x13 x14 x15 x16 x17 x18 (by simp only [bne_iff_ne, ne_eq]; omega) hy (by omega) ?_ ?_ ?_ ?_ z10 z19 z20 z21 z22 z23 z24 z25 z26 z27 z28 z29 z30 z31 z32 z33 z34 z35 fun z10 z19 z20 z21 z22 z23 z24 z25 z26 z27 z28 z29 z30 z31 z32 z33 z34 z35 => ?_
      · rw [← Int.natCast_mul]
        generalize x / y * y = t at hle
        exact wrapI (by omega) (by omega)
      · rw [show (x : Int) - ((x / y * y : Nat) : Int) = ((x % y : Nat) : Int) by omega]
        generalize x % y = t at hmod
        exact wrapI (by omega) (by omega)
      · exact wrapI (by omega) (by omega)
      · exact wrapI (by omega) (by omega)
      · refine ih y (x % y) B (A + x / y * B) v (u - ((x / y : Nat) : Int) * v) z10 z19 z20 z21 z22 z23 z24 z25 z26 z27 z28 z29 z30 z31 z32 z33 z34 z35 (by omega) (by omega) (by omega) hmod ?_ ?_ hVp ?_ hcv ?_
        · rcases hb.2.2 with ⟨h1, h2⟩ | ⟨h1, h2⟩
          · exact .inl ⟨h2, h1⟩
          · exact .inr ⟨h2, h1⟩
        · exact hinv
        · rw [Nat.gcd_comm, ← Nat.gcd_rec, Nat.gcd_comm]; exact hg
        · obtain ⟨k, hk⟩ := hcu
          obtain ⟨k', hk'⟩ := hcv
          refine ⟨k - ((x / y : Nat) : Int) * k', ?_⟩
          have e1 : (u - ((x / y : Nat) : Int) * v) * a0 = u * a0 - ((x / y : Nat) : Int) * (v * a0) := by rw [Int.sub_mul, Int.mul_assoc]
          have e2 : ((x / y : Nat) : Int) * ((y : Int) + k' * p) = ((x / y * y : Nat) : Int) + ((x / y : Nat) : Int) * k' * p := by rw [Int.mul_add, Int.mul_assoc, Int.natCast_mul]
          have e3 : (k - ((x / y : Nat) : Int) * k') * p = k * p - ((x / y : Nat) : Int) * k' * p := Int.sub_mul _ _ _
          rw [e1, hk, hk', e2, e3]
          omega

theorem mod_one {p : Nat} (hp : 2 ≤ p) {z a0 : Nat} {u k : Int} (hz : (z : Int) = u + p) (h : u * a0 = 1 + k * p) : z % p * a0 % p = 1 := by
  have e : (z * a0 : Nat) = (1 : Int) + (k + a0) * p := by
    rw [Int.natCast_mul, hz, Int.add_mul, h, Int.add_mul, Int.mul_comm (p : Int) (a0 : Int)]
    omega
  have e2 : ((z * a0 % p : Nat) : Int) = 1 := by
    rw [Int.natCast_emod, e, Int.add_mul_emod_self_right]
    exact Int.emod_eq_of_lt (by decide) (by omega)
  rw [Nat.mod_mul_mod]
  omega

theorem g_inv {a p : Nat} (hp2 : 2 ≤ p) (hp : p ≤ 2147483648) (h0 : a % p ≠ 0) (hg : Nat.gcd p (a % p) = 1) : ∃ i, (i < p ∧ i * (a % p) % p = 1) ∧ Gets Try.cx 16 [intA .u64 (a : Int), intA .u64 (p : Int)] (.tu [intA .u64 (i : Int), intA .i64 0]) := by
  have hp0 : p ≠ 0 := by omega
  have hlt := Nat.mod_lt a (Nat.pos_of_ne_zero hp0)
  obtain ⟨y, hy⟩ : ∃ y, y = a % p := ⟨_, rfl⟩
  refine gets_some (fn := Try.f16) (fun i => i < p ∧ i * (a % p) % p = 1) (fun i => .tu [intA .u64 (i : Int), intA .i64 0]) (by kernel_rfl) rfl ?_
  have hwp : IntKind.wrap .i64 (p : Int) = (p : Int) := wrapI (by omega) (by omega)
  have hwa : IntKind.wrap .i64 ((a % p : Nat) : Int) = (y : Int) := by rw [← hy] at hlt ⊢; exact wrapI (by omega) (by omega)
  have hyz : ((y : Int) == 0) = false := by simp only [beq_eq_false_iff_ne, ne_eq]; omega
  show EvK _ _ _ ⟨[intA .u64 (a : Int), intA .u64 (p : Int)] ++ us 42, ⟨[], 0⟩⟩ _
  refine ev_seq ?_
  refine ev_reg (by kernel_rfl) ?_
  refine rs_all (s1 := ⟨[intA .u64 (a : Int), intA .u64 (p : Int), U, U, intA .u64 0, J 0] ++ us 38, ⟨[], 0⟩⟩) (fun cf => by kernel_rfl) ?_
  refine ev_seq ?_
  refine ev_reg (by kernel_rfl) ?_
  refine rs_take 2 (s1 := ⟨[intA .u64 (a : Int), intA .u64 (p : Int), U, U, intA .u64 0, J 0] ++ us 5 ++ [intA .u64 (p : Int), J (IntKind.wrap .i64 (p : Int))] ++ us 31, ⟨[], 0⟩⟩) (fun cf => by kernel_rfl) ?_
  rw [hwp]
  refine rs_take 2 (s1 := ⟨[intA .u64 (a : Int), intA .u64 (p : Int), U, U, intA .u64 0, J 0] ++ us 5 ++ [intA .u64 (p : Int), J (p : Int), intA .u64 (a : Int), intA .u64 (p : Int)] ++ us 29, ⟨[], 0⟩⟩) (fun cf => by kernel_rfl) ?_
  refine rs_take 1 (s1 := ⟨[intA .u64 (a : Int), intA .u64 (p : Int), U, U, intA .u64 0, J 0] ++ us 5 ++ [intA .u64 (p : Int), J (p : Int), intA .u64 (a : Int), intA .u64 (p : Int), intA .u64 ((a % p : Nat) : Int)] ++ us 28, ⟨[], 0⟩⟩) (fun cf => Eq.trans (b := match (binA Try.cx (⟨[], 0⟩ : Mem) .rem 23 (intA .u64 (a : Int)) (intA .u64 (p : Int))).map (fun r9 => (r9, (⟨[], 0⟩ : Mem))) with | some (r9, m9) => some (⟨[intA .u64 (a : Int), intA .u64 (p : Int), U, U, intA .u64 0, J 0] ++ us 5 ++ [intA .u64 (p : Int), J (p : Int), intA .u64 (a : Int), intA .u64 (p : Int), r9] ++ us 28, m9⟩ : St) | none => none) (by kernel_rfl) (by rw [rem_u hp0] <;> rfl)) ?_
  refine rs_take 1 (s1 := ⟨[intA .u64 (a : Int), intA .u64 (p : Int), U, U, intA .u64 0, J 0] ++ us 5 ++ [intA .u64 (p : Int), J (p : Int), intA .u64 (a : Int), intA .u64 (p : Int), intA .u64 ((a % p : Nat) : Int), J (IntKind.wrap .i64 ((a % p : Nat) : Int))] ++ us 27, ⟨[], 0⟩⟩) (fun cf => by kernel_rfl) ?_
  rw [hwa]
  refine rs_all (s1 := ⟨[intA .u64 (a : Int), intA .u64 (p : Int), U, U, intA .u64 0, J 0, J (p : Int), J (y : Int), J 0, J 1, U, intA .u64 (p : Int), J (p : Int), intA .u64 (a : Int), intA .u64 (p : Int), intA .u64 ((a % p : Nat) : Int), J (y : Int)] ++ us 27, ⟨[], 0⟩⟩) (fun cf => by kernel_rfl) ?_
  refine ev_seq ?_
  refine ev_seq ?_
  refine ev_reg (by kernel_rfl) ?_
  refine rs_take 2 (s1 := ⟨[intA .u64 (a : Int), intA .u64 (p : Int), U, U, intA .u64 0, J 0, J (p : Int), J (y : Int), J 0, J 1, U, intA .u64 (p : Int), J (p : Int), intA .u64 (a : Int), intA .u64 (p : Int), intA .u64 ((a % p : Nat) : Int), J (y : Int), J (y : Int), boolA ((y : Int) == 0)] ++ us 25, ⟨[], 0⟩⟩) (fun cf => by kernel_rfl) ?_
  rw [hyz]
  refine rs_done (by kernel_rfl) ?_
  refine ev_false (by kernel_rfl) ?_
  refine ev_skip ?_
  refine ev_seq ?_
  refine ev_block ?_
  refine inv_loop (a0 := (a % p : Nat)) hp _ _ _ _ _ _ _ _ _ (fun u v k v10 v19 v20 v21 v22 v23 v24 v25 v26 v27 v28 v29 v30 v31 v32 v33 v34 v35 hu1 hu2 hk => ?_) y p y 0 1 0 1 _ _ _ _ _ _ _ _ _ _ _ _ _ _ _ _ _ _ (Nat.le_refl _) (by omega) (Nat.le_refl _) (by omega) (.inl ⟨rfl, rfl⟩) (by omega) (Nat.zero_le _) (by rw [hy]; exact hg) ⟨-1, by omega⟩ ⟨0, by rw [hy]; omega⟩
  obtain ⟨z, hz0⟩ : ∃ z : Nat, (z : Int) = u + p := ⟨(u + p).toNat, by omega⟩
  have hz : IntKind.wrap .i64 (u + (p : Int)) = (z : Int) := by rw [← hz0]; exact wrapI (by omega) (by omega)
  have hzl := Nat.mod_lt z (Nat.pos_of_ne_zero hp0)
  have hzp : IntKind.wrap .u64 ((z % p : Nat) : Int) = ((z % p : Nat) : Int) := wrapU (by omega)
  refine ev_seq ?_
  refine ev_reg (by kernel_rfl) ?_
  refine rs_take 3 (s1 := ⟨[intA .u64 (a : Int), intA .u64 (p : Int), U, U, intA .u64 0, J 0, J 1, J 0, J u, J v, v10, intA .u64 (p : Int), J (p : Int), intA .u64 (a : Int), intA .u64 (p : Int), intA .u64 ((a % p : Nat) : Int), J (y : Int), J (y : Int), No, v19, v20, v21, v22, v23, v24, v25, v26, v27, v28, v29, v30, v31, v32, v33, v34, v35, J u, intA .u64 (p : Int), J (IntKind.wrap .i64 (p : Int))] ++ us 5, ⟨[], 0⟩⟩) (fun cf => by kernel_rfl) ?_
  rw [hwp]
  refine rs_take 1 (s1 := ⟨[intA .u64 (a : Int), intA .u64 (p : Int), U, U, intA .u64 0, J 0, J 1, J 0, J u, J v, v10, intA .u64 (p : Int), J (p : Int), intA .u64 (a : Int), intA .u64 (p : Int), intA .u64 ((a % p : Nat) : Int), J (y : Int), J (y : Int), No, v19, v20, v21, v22, v23, v24, v25, v26, v27, v28, v29, v30, v31, v32, v33, v34, v35, J u, intA .u64 (p : Int), J (p : Int), J (IntKind.wrap .i64 (u + (p : Int)))] ++ us 4, ⟨[], 0⟩⟩) (fun cf => by kernel_rfl) ?_
  rw [hz]
  refine rs_take 2 (s1 := ⟨[intA .u64 (a : Int), intA .u64 (p : Int), U, U, intA .u64 0, J 0, J 1, J 0, J u, J v, v10, intA .u64 (p : Int), J (p : Int), intA .u64 (a : Int), intA .u64 (p : Int), intA .u64 ((a % p : Nat) : Int), J (y : Int), J (y : Int), No, v19, v20, v21, v22, v23, v24, v25, v26, v27, v28, v29, v30, v31, v32, v33, v34, v35, J u, intA .u64 (p : Int), J (p : Int), J (z : Int), intA .u64 (p : Int), J (IntKind.wrap .i64 (p : Int)), U, U], ⟨[], 0⟩⟩) (fun cf => by kernel_rfl) ?_
  rw [hwp]
  refine rs_take 1 (s1 := ⟨[intA .u64 (a : Int), intA .u64 (p : Int), U, U, intA .u64 0, J 0, J 1, J 0, J u, J v, v10, intA .u64 (p : Int), J (p : Int), intA .u64 (a : Int), intA .u64 (p : Int), intA .u64 ((a % p : Nat) : Int), J (y : Int), J (y : Int), No, v19, v20, v21, v22, v23, v24, v25, v26, v27, v28, v29, v30, v31, v32, v33, v34, v35, J u, intA .u64 (p : Int), J (p : Int), J (z : Int), intA .u64 (p : Int), J (p : Int), J ((z % p : Nat) : Int), U], ⟨[], 0⟩⟩) (fun cf => Eq.trans (b := match (binA Try.cx (⟨[], 0⟩ : Mem) .rem 2 (J (z : Int)) (J (p : Int))).map (fun r9 => (r9, (⟨[], 0⟩ : Mem))) with | some (r9, m9) => some (⟨[intA .u64 (a : Int), intA .u64 (p : Int), U, U, intA .u64 0, J 0, J 1, J 0, J u, J v, v10, intA .u64 (p : Int), J (p : Int), intA .u64 (a : Int), intA .u64 (p : Int), intA .u64 ((a % p : Nat) : Int), J (y : Int), J (y : Int), No, v19, v20, v21, v22, v23, v24, v25, v26, v27, v28, v29, v30, v31, v32, v33, v34, v35, J u, intA .u64 (p : Int), J (p : Int), J (z : Int), intA .u64 (p : Int), J (p : Int), r9, U], m9⟩ : St) | none => none) (by kernel_rfl) (by rw [rem_i hp0] <;> rfl)) ?_
  refine rs_take 1 (s1 := ⟨[intA .u64 (a : Int), intA .u64 (p : Int), U, U, intA .u64 0, J 0, J 1, J 0, J u, J v, v10, intA .u64 (p : Int), J (p : Int), intA .u64 (a : Int), intA .u64 (p : Int), intA .u64 ((a % p : Nat) : Int), J (y : Int), J (y : Int), No, v19, v20, v21, v22, v23, v24, v25, v26, v27, v28, v29, v30, v31, v32, v33, v34, v35, J u, intA .u64 (p : Int), J (p : Int), J (z : Int), intA .u64 (p : Int), J (p : Int), J ((z % p : Nat) : Int), intA .u64 (IntKind.wrap .u64 ((z % p : Nat) : Int))], ⟨[], 0⟩⟩) (fun cf => by kernel_rfl) ?_
  rw [hzp]
  refine rs_all (s1 := ⟨[intA .u64 (a : Int), intA .u64 (p : Int), U, U, intA .u64 ((z % p : Nat) : Int), J 0, J 1, J 0, J u, J v, v10, intA .u64 (p : Int), J (p : Int), intA .u64 (a : Int), intA .u64 (p : Int), intA .u64 ((a % p : Nat) : Int), J (y : Int), J (y : Int), No, v19, v20, v21, v22, v23, v24, v25, v26, v27, v28, v29, v30, v31, v32, v33, v34, v35, J u, intA .u64 (p : Int), J (p : Int), J (z : Int), intA .u64 (p : Int), J (p : Int), J ((z % p : Nat) : Int), intA .u64 ((z % p : Nat) : Int)], ⟨[], 0⟩⟩) (fun cf => by kernel_rfl) ?_
  refine ev_ret ?_
  exact ⟨z % p, ⟨hzl, mod_one hp2 hz0 hk⟩, .inr rfl, .tu [intA .u64 ((z % p : Nat) : Int), J 0], by kernel_rfl, by kernel_rfl⟩

theorem g_inv0 {a p : Nat} (hp0 : p ≠ 0) (hp : p ≤ 2147483648) (h0 : a % p = 0) : Gets Try.cx 16 [intA .u64 (a : Int), intA .u64 (p : Int)] (.tu [intA .u64 0, intA .i64 10]) := by
  refine gets_of (fn := Try.f16) (by kernel_rfl) rfl ?_
  have hwp : IntKind.wrap .i64 (p : Int) = (p : Int) := wrapI (by omega) (by omega)
  have hwa : IntKind.wrap .i64 ((a % p : Nat) : Int) = 0 := by rw [h0]; rfl
  show EvK _ _ _ ⟨[intA .u64 (a : Int), intA .u64 (p : Int)] ++ us 42, ⟨[], 0⟩⟩ _
  refine ev_seq ?_
  refine ev_reg (by kernel_rfl) ?_
  refine rs_all (s1 := ⟨[intA .u64 (a : Int), intA .u64 (p : Int), U, U, intA .u64 0, J 0] ++ us 38, ⟨[], 0⟩⟩) (fun cf => by kernel_rfl) ?_
  refine ev_seq ?_
  refine ev_reg (by kernel_rfl) ?_
  refine rs_take 2 (s1 := ⟨[intA .u64 (a : Int), intA .u64 (p : Int), U, U, intA .u64 0, J 0] ++ us 5 ++ [intA .u64 (p : Int), J (IntKind.wrap .i64 (p : Int))] ++ us 31, ⟨[], 0⟩⟩) (fun cf => by kernel_rfl) ?_
  rw [hwp]
  refine rs_take 2 (s1 := ⟨[intA .u64 (a : Int), intA .u64 (p : Int), U, U, intA .u64 0, J 0] ++ us 5 ++ [intA .u64 (p : Int), J (p : Int), intA .u64 (a : Int), intA .u64 (p : Int)] ++ us 29, ⟨[], 0⟩⟩) (fun cf => by kernel_rfl) ?_
  refine rs_take 1 (s1 := ⟨[intA .u64 (a : Int), intA .u64 (p : Int), U, U, intA .u64 0, J 0] ++ us 5 ++ [intA .u64 (p : Int), J (p : Int), intA .u64 (a : Int), intA .u64 (p : Int), intA .u64 ((a % p : Nat) : Int)] ++ us 28, ⟨[], 0⟩⟩) (fun cf => Eq.trans (b := match (binA Try.cx (⟨[], 0⟩ : Mem) .rem 23 (intA .u64 (a : Int)) (intA .u64 (p : Int))).map (fun r9 => (r9, (⟨[], 0⟩ : Mem))) with | some (r9, m9) => some (⟨[intA .u64 (a : Int), intA .u64 (p : Int), U, U, intA .u64 0, J 0] ++ us 5 ++ [intA .u64 (p : Int), J (p : Int), intA .u64 (a : Int), intA .u64 (p : Int), r9] ++ us 28, m9⟩ : St) | none => none) (by kernel_rfl) (by rw [rem_u hp0] <;> rfl)) ?_
  refine rs_take 1 (s1 := ⟨[intA .u64 (a : Int), intA .u64 (p : Int), U, U, intA .u64 0, J 0] ++ us 5 ++ [intA .u64 (p : Int), J (p : Int), intA .u64 (a : Int), intA .u64 (p : Int), intA .u64 ((a % p : Nat) : Int), J (IntKind.wrap .i64 ((a % p : Nat) : Int))] ++ us 27, ⟨[], 0⟩⟩) (fun cf => by kernel_rfl) ?_
  rw [hwa]
  refine rs_all (s1 := ⟨[intA .u64 (a : Int), intA .u64 (p : Int), U, U, intA .u64 0, J 0, J (p : Int), J 0, J 0, J 1, U, intA .u64 (p : Int), J (p : Int), intA .u64 (a : Int), intA .u64 (p : Int), intA .u64 ((a % p : Nat) : Int), J 0] ++ us 27, ⟨[], 0⟩⟩) (fun cf => by kernel_rfl) ?_
  refine ev_seq ?_
  refine ev_seq ?_
  refine ev_reg (by kernel_rfl) ?_
  refine rs_all (s1 := ⟨[intA .u64 (a : Int), intA .u64 (p : Int), U, U, intA .u64 0, J 0, J (p : Int), J 0, J 0, J 1, U, intA .u64 (p : Int), J (p : Int), intA .u64 (a : Int), intA .u64 (p : Int), intA .u64 ((a % p : Nat) : Int), J 0, J 0, Yes] ++ us 25, ⟨[], 0⟩⟩) (fun cf => by kernel_rfl) ?_
  refine ev_true (by kernel_rfl) ?_
  refine ev_seq ?_
  refine ev_reg (by kernel_rfl) ?_
  refine rs_all (s1 := ⟨[intA .u64 (a : Int), intA .u64 (p : Int), U, U, intA .u64 0, J 10, J (p : Int), J 0, J 0, J 1, U, intA .u64 (p : Int), J (p : Int), intA .u64 (a : Int), intA .u64 (p : Int), intA .u64 ((a % p : Nat) : Int), J 0, J 0, Yes] ++ us 25, ⟨[], 0⟩⟩) (fun cf => by kernel_rfl) ?_
  refine ev_ret ?_
  exact leaf (r0 := .tu [intA .u64 0, J 10]) (.inr rfl) (by kernel_rfl) (by kernel_rfl) rfl

end Go.Proofs.Ytgkjdfojogemhaa
