/-
  The reference: sums, differences, products and short quotients of words. Made by program. Conditions: none.
-/
import Derived.Test.YtgkjdfojogemhaaWdb
set_option maxRecDepth 100000
set_option maxHeartbeats 20000000
set_option linter.unusedSimpArgs false
set_option linter.unusedVariables false
namespace Go.Proofs.Ytgkjdfojogemhaa.W
open Go.Am


theorem set_snoc (p : List Nat) (v z : Nat) (q : List Nat) : (p ++ z :: q).set p.length v = (p ++ [v]) ++ q := by
  rw [List.set_append_right _ _ (Nat.le_refl _), Nat.sub_self]
  simp

/-- The number of r words from the i-th on. -/
def vF (a : List Nat) : Nat → Nat → Nat
  | _, 0 => 0
  | i, r + 1 => a.getD i 0 + 4294967296 * vF a (i + 1) r

theorem vF_out (a : List Nat) : ∀ (r i : Nat), a.length ≤ i → vF a i r = 0
  | 0, _, _ => rfl
  | r + 1, i, h => by simp only [vF]; rw [getD_out h, vF_out a r (i + 1) (by omega)]
theorem vF_drop (a : List Nat) : ∀ (r i : Nat), a.length ≤ i + r → vF a i r = val (a.drop i)
  | 0, i, h => by rw [List.drop_eq_nil_of_le (by omega)]; rfl
  | r + 1, i, h => by
    simp only [vF]
    by_cases hi : i < a.length
    · rw [vF_drop a r (i + 1) (by omega), List.drop_eq_getElem_cons hi, val, List.getD_eq_getElem?_getD, List.getElem?_eq_getElem hi]
      rfl
    · rw [getD_out (by omega), vF_out a r (i + 1) (by omega), List.drop_eq_nil_of_le (by omega)]
      rfl
theorem vF_val {a : List Nat} {r : Nat} (h : a.length ≤ r) : vF a 0 r = val a := by rw [vF_drop a r 0 (by omega), List.drop_zero]
theorem vF_lt {a : List Nat} (ha : Ok a) : ∀ (r i : Nat), vF a i r < 4294967296 ^ r
  | 0, _ => by simp [vF]
  | r + 1, i => by
    have h1 := vF_lt ha r (i + 1)
    have h2 := ha i
    simp only [vF]
    rw [Nat.pow_succ]
    omega
theorem val_lt : ∀ {l : List Nat}, Ok l → val l < 4294967296 ^ l.length
  | [], _ => by simp [val]
  | a :: l, h => by
    have h1 := val_lt (ok_tail h)
    have h2 := ok_head h
    simp only [val, List.length_cons]
    rw [Nat.pow_succ]
    omega
theorem mod_step {t y m : Nat} : (t + 4294967296 * y) % (m * 4294967296) = t % 4294967296 + 4294967296 * ((y + t / 4294967296) % m) := by
  rw [Nat.mul_comm m, Nat.mod_mul]
  congr 1
  · omega
  · congr 2; omega

def sumW (a b : List Nat) : Nat → Nat → Nat → List Nat
  | 0, _, _ => []
  | r + 1, i, c => (a.getD i 0 + b.getD i 0 + c) % 4294967296 :: sumW a b r (i + 1) ((a.getD i 0 + b.getD i 0 + c) / 4294967296)
theorem sumW_val (a b : List Nat) : ∀ (r i c : Nat), val (sumW a b r i c) = (vF a i r + vF b i r + c) % 4294967296 ^ r
  | 0, i, c => by simp [sumW, val, Nat.mod_one]
  | r + 1, i, c => by
    simp only [sumW, val, vF]
    rw [sumW_val a b r (i + 1), Nat.pow_succ, show a.getD i 0 + 4294967296 * vF a (i + 1) r + (b.getD i 0 + 4294967296 * vF b (i + 1) r) + c = (a.getD i 0 + b.getD i 0 + c) + 4294967296 * (vF a (i + 1) r + vF b (i + 1) r) by omega, mod_step]
theorem sumW_ok (a b : List Nat) : ∀ (r i c : Nat), Ok (sumW a b r i c)
  | 0, _, _ => ok_nil
  | r + 1, i, c => ok_cons (Nat.mod_lt _ (by decide)) (sumW_ok a b r _ _)
theorem sumW_len (a b : List Nat) : ∀ (r i c : Nat), (sumW a b r i c).length = r
  | 0, _, _ => rfl
  | r + 1, i, c => by simp [sumW, sumW_len a b r]

def addL (a b : List Nat) : List Nat := trimL (sumW a b (max a.length b.length + 1) 0 0)
theorem addL_val {a b : List Nat} (ha : Ok a) (hb : Ok b) : val (addL a b) = val a + val b := by
  unfold addL
  rw [val_trim, sumW_val, vF_val (by omega), vF_val (by omega), Nat.add_zero]
  refine Nat.mod_eq_of_lt ?_
  have h1 := val_lt ha
  have h2 := val_lt hb
  have h3 : 4294967296 ^ a.length ≤ 4294967296 ^ max a.length b.length := Nat.pow_le_pow_right (by decide) (by omega)
  have h4 : 4294967296 ^ b.length ≤ 4294967296 ^ max a.length b.length := Nat.pow_le_pow_right (by decide) (by omega)
  rw [Nat.pow_succ]
  omega
theorem addL_ok (a b : List Nat) : Ok (addL a b) := ok_trim (sumW_ok a b _ _ _)
theorem addL_nrm (a b : List Nat) : Nrm (addL a b) := nrm_trim _
theorem addL_len (a b : List Nat) : (addL a b).length ≤ max a.length b.length + 1 := by
  have := len_trim (sumW a b (max a.length b.length + 1) 0 0)
  rw [sumW_len] at this
  exact this

noncomputable def addC : Code := (lft (lft (rgt (lft (rgt (rgt (rgt (rgt (Try.f62.body.getD .skip)))))))))

theorem add_round {K : Out → St → Prop} {a b o : List Nat} {x y : D} {n i c : Nat} (x10 x11 x12 x13 x14 x15 x16 x17 : AV) (hx : Ws a x) (hy : Ws b y) (ha : Ok a) (hb : Ok b) (hn : n < 1000000000) (ho : o.length = n) (hc : c ≤ 1) (z9 z18 z19 z20 z21 z22 z23 z24 z25 z26 z27 z28 z29 z30 z31 z32 z33 z34 z35 z36 z37 z38 z39 : AV) (h0 : n ≤ i → ∀ z9 z18 z19 z20 z21 z22 z23 z24 z25 z26 z27 z28 z29 z30 z31 z32 z33 z34 z35 z36 z37 z38 z39, K (.exit 0) ⟨[.d x, .d y, U, U, .d (.v (.slice none 0 0)), J (n : Int), .own 0 0 0 n 1 (some n), intA .u64 (c : Int), J (i : Int), z9, x10, x11, x12, x13, x14, x15, x16, x17, z18, z19, z20, z21, z22, z23, z24, z25, z26, z27, z28, z29, z30, z31, z32, z33, z34, z35, z36, z37, z38, z39, U, U], ⟨[.row (wa (o)) 0 .ow none], 1⟩⟩) (h1 : i < n → ∀ z9 z18 z19 z20 z21 z22 z23 z24 z25 z26 z27 z28 z29 z30 z31 z32 z33 z34 z35 z36 z37 z38 z39, EvK Try.cx 62 (.loop addC) ⟨[.d x, .d y, U, U, .d (.v (.slice none 0 0)), J (n : Int), .own 0 0 0 n 1 (some n), intA .u64 (((a.getD i 0 + b.getD i 0 + c) / 4294967296 : Nat) : Int), J ((i + 1 : Nat) : Int), z9, x10, x11, x12, x13, x14, x15, x16, x17, z18, z19, z20, z21, z22, z23, z24, z25, z26, z27, z28, z29, z30, z31, z32, z33, z34, z35, z36, z37, z38, z39, U, U], ⟨[.row (wa (o.set i ((a.getD i 0 + b.getD i 0 + c) % 4294967296))) 0 .ow none], 1⟩⟩ K) : EvK Try.cx 62 (.loop addC) ⟨[.d x, .d y, U, U, .d (.v (.slice none 0 0)), J (n : Int), .own 0 0 0 n 1 (some n), intA .u64 (c : Int), J (i : Int), z9, x10, x11, x12, x13, x14, x15, x16, x17, z18, z19, z20, z21, z22, z23, z24, z25, z26, z27, z28, z29, z30, z31, z32, z33, z34, z35, z36, z37, z38, z39, U, U], ⟨[.row (wa (o)) 0 .ow none], 1⟩⟩ K := by
  refine ev_loop ?_
  refine ev_seq ?_
  refine ev_seq ?_
  refine ev_reg (by kernel_rfl) ?_
  refine rs_all (s1 := ⟨[.d x, .d y, U, U, .d (.v (.slice none 0 0)), J (n : Int), .own 0 0 0 n 1 (some n), intA .u64 (c : Int), J (i : Int), z9, x10, x11, x12, x13, x14, x15, x16, x17, J (i : Int), J (n : Int), boolA (decide ((i : Int) < (n : Int))), z21, z22, z23, z24, z25, z26, z27, z28, z29, z30, z31, z32, z33, z34, z35, z36, z37, z38, z39, U, U], ⟨[.row (wa (o)) 0 .ow none], 1⟩⟩) (fun cf => by kernel_rfl) ?_
  rcases hb1 : ((decide ((i : Int) < (n : Int))) : Bool) with _ | _
  ·
    have hb1' := of_decide_eq_false hb1
    refine ev_false (by kernel_rfl) ?_
    refine ev_exit ?_
    exact h0 (by omega) _ _ _ _ _ _ _ _ _ _ _ _ _ _ _ _ _ _ _ _ _ _ _
  ·
    have hb1' := of_decide_eq_true hb1
    refine ev_true (by kernel_rfl) ?_
    refine ev_skip ?_
    refine ev_seq ?_
    refine ev_block ?_
    refine ev_seq ?_
    refine ev_reg (by kernel_rfl) ?_
    refine rs_up 2 [(23, .d x), (24, J (i : Int))] (fun cf => by kernel_rfl) ?_
    refine rs_cp 82 [.d x, J (i : Int)] false (some 25) (intA .u64 ((a.getD i 0 : Nat) : Int)) (by kernel_rfl) (g_word (i := i) hx ha) (by kernel_rfl) ?_
    refine rs_up 2 [(26, .d y), (27, J (i : Int))] (fun cf => by kernel_rfl) ?_
    refine rs_cp 82 [.d y, J (i : Int)] false (some 28) (intA .u64 ((b.getD i 0 : Nat) : Int)) (by kernel_rfl) (g_word (i := i) hy hb) (by kernel_rfl) ?_
    refine rs_up 1 [(29, intA .u64 (IntKind.wrap .u64 (((a.getD i 0 : Nat) : Int) + ((b.getD i 0 : Nat) : Int))))] (fun cf => by kernel_rfl) ?_
    rw [addU (a := ((a.getD i 0 : Nat) : Int)) (b := ((b.getD i 0 : Nat) : Int)) (A := a.getD i 0) (B := b.getD i 0) (by rfl) (by rfl) (by have := ha i; have := hb i; omega)]
    refine rs_up 2 [(30, intA .u64 (c : Int)), (31, intA .u64 (IntKind.wrap .u64 ((((a.getD i 0) + (b.getD i 0) : Nat) : Int) + (c : Int))))] (fun cf => by kernel_rfl) ?_
    rw [addU (a := (((a.getD i 0) + (b.getD i 0) : Nat) : Int)) (b := (c : Int)) (A := (a.getD i 0) + (b.getD i 0)) (B := c) (by rfl) (by rfl) (by have := ha i; have := hb i; omega)]
    refine rs_alu [(9, intA .u64 ((((a.getD i 0) + (b.getD i 0)) + c : Nat) : Int))] (fun cf => by kernel_rfl) ?_
    refine ev_seq ?_
    refine ev_reg (by kernel_rfl) ?_
    refine rs_up 4 [(32, .own 0 0 0 n 1 (some n)), (33, J (i : Int)), (34, intA .u64 ((((a.getD i 0) + (b.getD i 0)) + c : Nat) : Int)), (35, intA .u64 (Int.tmod ((((a.getD i 0) + (b.getD i 0)) + c : Nat) : Int) 4294967296))] (fun cf => by kernel_rfl) ?_
    rw [remN (a := ((((a.getD i 0) + (b.getD i 0)) + c : Nat) : Int)) (b := 4294967296) (A := ((a.getD i 0) + (b.getD i 0)) + c) (B := 4294967296) (by rfl) (by rfl)]
    refine rs_up 1 [(36, intA .u32 (IntKind.wrap .u32 (((((a.getD i 0) + (b.getD i 0)) + c) % 4294967296 : Nat) : Int)))] (fun cf => by kernel_rfl) ?_
    rw [wrapW (n := (((a.getD i 0) + (b.getD i 0)) + c) % 4294967296) (by omega)]
    refine rs_cv (fun m9 => indexAddrA Try.cx 32 m9 (.own 0 0 0 n 1 (some n)) (J (i : Int))) (some 37) (.ptr 0 0 i) (fun cf => by kernel_rfl) (idx_own (k := i) (by rfl) (row_at rfl) (by omega)) ?_
    refine rs_cu (fun m9 => storeA Try.cx 22 m9 (.ptr 0 0 i) (intA .u32 (((((a.getD i 0) + (b.getD i 0)) + c) % 4294967296 : Nat) : Int))) none ⟨[.row (wa (o.set i ((((a.getD i 0) + (b.getD i 0)) + c) % 4294967296))) 0 .ow none], 1⟩ (fun cf => by kernel_rfl) (store_own (v := (((a.getD i 0) + (b.getD i 0)) + c) % 4294967296) rfl (by omega)) ?_
    refine rs_alu [] (fun cf => by kernel_rfl) ?_
    refine ev_reg (by kernel_rfl) ?_
    refine rs_up 2 [(38, intA .u64 ((((a.getD i 0) + (b.getD i 0)) + c : Nat) : Int)), (39, intA .u64 (IntKind.wrap .u64 (Int.tdiv ((((a.getD i 0) + (b.getD i 0)) + c : Nat) : Int) 4294967296)))] (fun cf => by kernel_rfl) ?_
    rw [quoU (a := ((((a.getD i 0) + (b.getD i 0)) + c : Nat) : Int)) (b := 4294967296) (A := ((a.getD i 0) + (b.getD i 0)) + c) (B := 4294967296) (by rfl) (by rfl) (by have := ha i; have := hb i; omega)]
    refine rs_alu [(7, intA .u64 (((((a.getD i 0) + (b.getD i 0)) + c) / 4294967296 : Nat) : Int))] (fun cf => by kernel_rfl) ?_
    refine ev_reg (by kernel_rfl) ?_
    refine rs_up 2 [(21, J (i : Int)), (22, J (IntKind.wrap .i64 ((i : Int) + 1)))] (fun cf => by kernel_rfl) ?_
    rw [addI (a := (i : Int)) (b := 1) (A := i) (B := 1) (by rfl) (by rfl) (by omega)]
    refine rs_all (s1 := ⟨[.d x, .d y, U, U, .d (.v (.slice none 0 0)), J (n : Int), .own 0 0 0 n 1 (some n), intA .u64 (((((a.getD i 0) + (b.getD i 0)) + c) / 4294967296 : Nat) : Int), J ((i + 1 : Nat) : Int), intA .u64 ((((a.getD i 0) + (b.getD i 0)) + c : Nat) : Int), x10, x11, x12, x13, x14, x15, x16, x17, J (i : Int), J (n : Int), Yes, J (i : Int), J ((i + 1 : Nat) : Int), .d x, J (i : Int), intA .u64 ((a.getD i 0 : Nat) : Int), .d y, J (i : Int), intA .u64 ((b.getD i 0 : Nat) : Int), intA .u64 (((a.getD i 0) + (b.getD i 0) : Nat) : Int), intA .u64 (c : Int), intA .u64 ((((a.getD i 0) + (b.getD i 0)) + c : Nat) : Int), .own 0 0 0 n 1 (some n), J (i : Int), intA .u64 ((((a.getD i 0) + (b.getD i 0)) + c : Nat) : Int), intA .u64 (((((a.getD i 0) + (b.getD i 0)) + c) % 4294967296 : Nat) : Int), intA .u32 (((((a.getD i 0) + (b.getD i 0)) + c) % 4294967296 : Nat) : Int), .ptr 0 0 i, intA .u64 ((((a.getD i 0) + (b.getD i 0)) + c : Nat) : Int), intA .u64 (((((a.getD i 0) + (b.getD i 0)) + c) / 4294967296 : Nat) : Int), U, U], ⟨[.row (wa (o.set i ((((a.getD i 0) + (b.getD i 0)) + c) % 4294967296))) 0 .ow none], 1⟩⟩) (fun cf => by kernel_rfl) ?_
    exact h1 (by omega) _ _ _ _ _ _ _ _ _ _ _ _ _ _ _ _ _ _ _ _ _ _ _

theorem add_loop {K : Out → St → Prop} {a b : List Nat} {x y : D} {n : Nat} (x10 x11 x12 x13 x14 x15 x16 x17 : AV) (hx : Ws a x) (hy : Ws b y) (ha : Ok a) (hb : Ok b) (hn : n < 1000000000) :
    ∀ (r : Nat) (p : List Nat) (c : Nat) (z9 z18 z19 z20 z21 z22 z23 z24 z25 z26 z27 z28 z29 z30 z31 z32 z33 z34 z35 z36 z37 z38 z39 : AV) (he : p.length + r = n) (hc : c ≤ 1) (h : ∀ (c1 : Nat) (z9 z18 z19 z20 z21 z22 z23 z24 z25 z26 z27 z28 z29 z30 z31 z32 z33 z34 z35 z36 z37 z38 z39 : AV), K (.exit 0) ⟨[.d x, .d y, U, U, .d (.v (.slice none 0 0)), J (n : Int), .own 0 0 0 n 1 (some n), intA .u64 (c1 : Int), J (n : Int), z9, x10, x11, x12, x13, x14, x15, x16, x17, z18, z19, z20, z21, z22, z23, z24, z25, z26, z27, z28, z29, z30, z31, z32, z33, z34, z35, z36, z37, z38, z39, U, U], ⟨[.row (wa (p ++ sumW a b r p.length c)) 0 .ow none], 1⟩⟩), EvK Try.cx 62 (.loop addC) ⟨[.d x, .d y, U, U, .d (.v (.slice none 0 0)), J (n : Int), .own 0 0 0 n 1 (some n), intA .u64 (c : Int), J (p.length : Int), z9, x10, x11, x12, x13, x14, x15, x16, x17, z18, z19, z20, z21, z22, z23, z24, z25, z26, z27, z28, z29, z30, z31, z32, z33, z34, z35, z36, z37, z38, z39, U, U], ⟨[.row (wa (p ++ List.replicate r 0)) 0 .ow none], 1⟩⟩ K
  | 0, p, c, z9, z18, z19, z20, z21, z22, z23, z24, z25, z26, z27, z28, z29, z30, z31, z32, z33, z34, z35, z36, z37, z38, z39, he, hc, h => by
    subst he
    exact add_round x10 x11 x12 x13 x14 x15 x16 x17 hx hy ha hb hn (by simp) hc z9 z18 z19 z20 z21 z22 z23 z24 z25 z26 z27 z28 z29 z30 z31 z32 z33 z34 z35 z36 z37 z38 z39 (fun _ => h c) fun h1 => by omega
  | r + 1, p, c, z9, z18, z19, z20, z21, z22, z23, z24, z25, z26, z27, z28, z29, z30, z31, z32, z33, z34, z35, z36, z37, z38, z39, he, hc, h => by
    refine add_round x10 x11 x12 x13 x14 x15 x16 x17 hx hy ha hb hn (by simp; omega) hc z9 z18 z19 z20 z21 z22 z23 z24 z25 z26 z27 z28 z29 z30 z31 z32 z33 z34 z35 z36 z37 z38 z39 (fun h0 => by omega) fun _ z9 z18 z19 z20 z21 z22 z23 z24 z25 z26 z27 z28 z29 z30 z31 z32 z33 z34 z35 z36 z37 z38 z39 => ?_
    have e : (p ++ List.replicate (r + 1) 0).set p.length ((a.getD p.length 0 + b.getD p.length 0 + c) % 4294967296) = (p ++ [(a.getD p.length 0 + b.getD p.length 0 + c) % 4294967296]) ++ List.replicate r 0 := by rw [List.replicate_succ, set_snoc]
    rw [e, show p.length + 1 = (p ++ [(a.getD p.length 0 + b.getD p.length 0 + c) % 4294967296]).length by simp]
    refine add_loop x10 x11 x12 x13 x14 x15 x16 x17 hx hy ha hb hn r _ _ z9 z18 z19 z20 z21 z22 z23 z24 z25 z26 z27 z28 z29 z30 z31 z32 z33 z34 z35 z36 z37 z38 z39 (by simp; omega) (by have := ha p.length; have := hb p.length; omega) ?_
    simp only [List.length_append, List.length_singleton, List.append_assoc, List.singleton_append]
    exact h

theorem g_added {a b : List Nat} {x y : D} (hx : Ws a x) (hy : Ws b y) (ha : Ok a) (hb : Ok b) (hl : a.length < 100000000) (hm : b.length < 100000000) : ∃ res : D, (fun y => Ws (addL a b) y) res ∧ Gets Try.cx 62 [.d x, .d y] ((fun y => .d y) res) := by
  refine gets_some (fn := Try.f62) (fun y => Ws (addL a b) y) (fun y => .d y) (by kernel_rfl) rfl ?_
  show EvK _ _ _ ⟨[.d x, .d y] ++ us 40, ⟨[], 0⟩⟩ _
  refine ev_seq ?_
  refine ev_reg (by kernel_rfl) ?_
  refine rs_alu [(4, .d (.v (.slice none 0 0)))] (fun cf => by kernel_rfl) ?_
  refine ev_seq ?_
  refine ev_reg (by kernel_rfl) ?_
  refine rs_up 1 [(10, .d x)] (fun cf => by kernel_rfl) ?_
  refine rs_cl (fun m9 => lenA Try.cx 32 m9 (.d x)) (some 11) (a.length) (fun cf => by kernel_rfl) (len_ws hx) ?_
  refine rs_up 1 [(12, .d y)] (fun cf => by kernel_rfl) ?_
  refine rs_cl (fun m9 => lenA Try.cx 32 m9 (.d y)) (some 13) (b.length) (fun cf => by kernel_rfl) (len_ws hy) ?_
  refine rs_up 1 [(14, J (if (b.length : Int) > (a.length : Int) then (b.length : Int) else (a.length : Int)))] (fun cf => by kernel_rfl) ?_
  rw [(show (if (b.length : Int) > (a.length : Int) then (b.length : Int) else (a.length : Int)) = ((max a.length b.length : Nat) : Int) by split <;> omega)]
  refine rs_up 1 [(15, J (IntKind.wrap .i64 (((max a.length b.length : Nat) : Int) + 1)))] (fun cf => by kernel_rfl) ?_
  rw [addI (a := ((max a.length b.length : Nat) : Int)) (b := 1) (A := max a.length b.length) (B := 1) (by rfl) (by rfl) (by omega)]
  refine rs_alu [(5, J (((max a.length b.length) + 1 : Nat) : Int))] (fun cf => by kernel_rfl) ?_
  refine ev_seq ?_
  refine ev_reg (by kernel_rfl) ?_
  refine rs_up 1 [(16, J (((max a.length b.length) + 1 : Nat) : Int))] (fun cf => by kernel_rfl) ?_
  refine rs_co (fun m9 => opA Try.cx (fun _ => false) [J (((max a.length b.length) + 1 : Nat) : Int)] m9 ⟨none, .makeSlice 32 (.tmp 0) (.tmp 0), 0, "", #[], none⟩) (some 17) (.own 0 0 0 ((max a.length b.length) + 1) 1 (some ((max a.length b.length) + 1))) ⟨[.row (wa (List.replicate ((max a.length b.length) + 1) 0)) 0 .ow none], 1⟩ (fun cf => by kernel_rfl) (make_ws (k := (max a.length b.length) + 1) (by rfl) (by omega)) ?_
  refine rs_alu [(6, .own 0 0 0 ((max a.length b.length) + 1) 1 (some ((max a.length b.length) + 1)))] (fun cf => by kernel_rfl) ?_
  refine ev_seq ?_
  refine ev_reg (by kernel_rfl) ?_
  refine rs_alu [(7, intA .u64 0)] (fun cf => by kernel_rfl) ?_
  refine ev_seq ?_
  refine ev_seq ?_
  refine ev_reg (by kernel_rfl) ?_
  refine rs_all (s1 := ⟨[.d x, .d y, U, U, .d (.v (.slice none 0 0)), J (((max a.length b.length) + 1 : Nat) : Int), .own 0 0 0 ((max a.length b.length) + 1) 1 (some ((max a.length b.length) + 1)), intA .u64 0, J 0, U, .d x, J (a.length : Int), .d y, J (b.length : Int), J ((max a.length b.length : Nat) : Int), J (((max a.length b.length) + 1 : Nat) : Int), J (((max a.length b.length) + 1 : Nat) : Int), .own 0 0 0 ((max a.length b.length) + 1) 1 (some ((max a.length b.length) + 1))] ++ us 24, ⟨[.row (wa (List.replicate ((max a.length b.length) + 1) 0)) 0 .ow none], 1⟩⟩) (fun cf => by kernel_rfl) ?_
  refine ev_block ?_
  refine add_loop (n := max a.length b.length + 1) _ _ _ _ _ _ _ _ hx hy ha hb (by omega) (max a.length b.length + 1) [] 0 _ _ _ _ _ _ _ _ _ _ _ _ _ _ _ _ _ _ _ _ _ _ _ (by simp) (by omega) fun c1 v9 v18 v19 v20 v21 v22 v23 v24 v25 v26 v27 v28 v29 v30 v31 v32 v33 v34 v35 v36 v37 v38 v39 => ?_
  have hlen := sumW_len a b (max a.length b.length + 1) 0 0
  refine ev_seq ?_
  refine ev_reg (by kernel_rfl) ?_
  refine rs_up 1 [(40, .own 0 0 0 ((max a.length b.length) + 1) 1 (some ((max a.length b.length) + 1)))] (fun cf => by kernel_rfl) ?_
  refine rs_take 0 (s1 := ⟨[.d x, .d y, U, U, .d (.v (.slice none 0 0)), J (((max a.length b.length) + 1 : Nat) : Int), .own 0 0 0 ((max a.length b.length) + 1) 1 (some ((max a.length b.length) + 1)), intA .u64 (c1 : Int), J ((max a.length b.length + 1 : Nat) : Int), v9, .d x, J (a.length : Int), .d y, J (b.length : Int), J ((max a.length b.length : Nat) : Int), J (((max a.length b.length) + 1 : Nat) : Int), J (((max a.length b.length) + 1 : Nat) : Int), .own 0 0 0 ((max a.length b.length) + 1) 1 (some ((max a.length b.length) + 1)), v18, v19, v20, v21, v22, v23, v24, v25, v26, v27, v28, v29, v30, v31, v32, v33, v34, v35, v36, v37, v38, v39, .own 0 0 0 ((max a.length b.length) + 1) 1 (some ((max a.length b.length) + 1)), U], ⟨[.row (wa (sumW a b (max a.length b.length + 1) 0 0)) 0 .ow none], 1⟩⟩) (fun cf => by kernel_rfl) ?_
  obtain ⟨y1, hy1, gy1⟩ := g_trim (ws_sl false (sumW a b (max a.length b.length + 1) 0 0)) (by first | decide | omega)
  refine rs_frz (g := 74) (bs := [.d (.sl false (sumW a b (max a.length b.length + 1) 0 0).length (wd (sumW a b (max a.length b.length + 1) 0 0)))]) (ow := true) (r := .d y1) (Eq.trans (b := match mapO (snapA (⟨[.row (wa (sumW a b (max a.length b.length + 1) 0 0)) 0 .ow none], 1⟩ : Mem)) [.own 0 0 0 ((max a.length b.length) + 1) 1 (some ((max a.length b.length) + 1))] with | some bs => some (74, bs, true) | none => none) (by kernel_rfl) (by rw [mapO_one (snap_own (l := sumW a b (max a.length b.length + 1) 0 0) (row_at rfl) (by omega))])) (gy1) fun m1 hEm1 _ => ?_
  show RS _ _ _ _ _ ⟨[.d x, .d y, U, U, .d (.v (.slice none 0 0)), J (((max a.length b.length) + 1 : Nat) : Int), .own 0 0 0 ((max a.length b.length) + 1) 1 (some ((max a.length b.length) + 1)), intA .u64 (c1 : Int), J ((max a.length b.length + 1 : Nat) : Int), v9, .d x, J (a.length : Int), .d y, J (b.length : Int), J ((max a.length b.length : Nat) : Int), J (((max a.length b.length) + 1 : Nat) : Int), J (((max a.length b.length) + 1 : Nat) : Int), .own 0 0 0 ((max a.length b.length) + 1) 1 (some ((max a.length b.length) + 1)), v18, v19, v20, v21, v22, v23, v24, v25, v26, v27, v28, v29, v30, v31, v32, v33, v34, v35, v36, v37, v38, v39, .own 0 0 0 ((max a.length b.length) + 1) 1 (some ((max a.length b.length) + 1)), .d y1], m1⟩ _
  refine rs_all (s1 := ⟨[.d x, .d y, U, U, .d y1, J (((max a.length b.length) + 1 : Nat) : Int), .own 0 0 0 ((max a.length b.length) + 1) 1 (some ((max a.length b.length) + 1)), intA .u64 (c1 : Int), J ((max a.length b.length + 1 : Nat) : Int), v9, .d x, J (a.length : Int), .d y, J (b.length : Int), J ((max a.length b.length : Nat) : Int), J (((max a.length b.length) + 1 : Nat) : Int), J (((max a.length b.length) + 1 : Nat) : Int), .own 0 0 0 ((max a.length b.length) + 1) 1 (some ((max a.length b.length) + 1)), v18, v19, v20, v21, v22, v23, v24, v25, v26, v27, v28, v29, v30, v31, v32, v33, v34, v35, v36, v37, v38, v39, .own 0 0 0 ((max a.length b.length) + 1) 1 (some ((max a.length b.length) + 1)), .d y1], m1⟩) (fun cf => by kernel_rfl) ?_
  refine ev_ret ?_
  exact ⟨y1, hy1, .inr rfl, .d y1, by kernel_rfl, by kernel_rfl⟩
def difW (a b : List Nat) : Nat → Nat → Nat → List Nat
  | 0, _, _ => []
  | r + 1, i, c => (4294967296 + a.getD i 0 - b.getD i 0 - c) % 4294967296 :: difW a b r (i + 1) (1 - (4294967296 + a.getD i 0 - b.getD i 0 - c) / 4294967296)
theorem difW_val {a b : List Nat} (ha : Ok a) (hb : Ok b) : ∀ (r i c : Nat), c ≤ 1 → ∃ e, val (difW a b r i c) + vF b i r + c = vF a i r + 4294967296 ^ r * e
  | 0, i, c, hc => ⟨c, by simp [difW, val, vF]⟩
  | r + 1, i, c, hc => by
    have h1 := ha i
    have h2 := hb i
    obtain ⟨e, he⟩ := difW_val ha hb r (i + 1) (1 - (4294967296 + a.getD i 0 - b.getD i 0 - c) / 4294967296) (by omega)
    refine ⟨e, ?_⟩
    simp only [difW, val, vF]
    rw [Nat.pow_succ, Nat.mul_comm (4294967296 ^ r) 4294967296, Nat.mul_assoc]
    omega
theorem difW_ok (a b : List Nat) : ∀ (r i c : Nat), Ok (difW a b r i c)
  | 0, _, _ => ok_nil
  | r + 1, i, c => ok_cons (Nat.mod_lt _ (by decide)) (difW_ok a b r _ _)
theorem difW_len (a b : List Nat) : ∀ (r i c : Nat), (difW a b r i c).length = r
  | 0, _, _ => rfl
  | r + 1, i, c => by simp [difW, difW_len a b r]
def subL (a b : List Nat) : List Nat := trimL (difW a b a.length 0 0)
theorem subL_ok (a b : List Nat) : Ok (subL a b) := ok_trim (difW_ok a b _ _ _)
theorem subL_nrm (a b : List Nat) : Nrm (subL a b) := nrm_trim _
theorem subL_len (a b : List Nat) : (subL a b).length ≤ a.length := by
  have := len_trim (difW a b a.length 0 0)
  rw [difW_len] at this
  exact this
theorem subL_val {a b : List Nat} (ha : Ok a) (hb : Ok b) (hl : b.length ≤ a.length) (h : val b ≤ val a) : val (subL a b) = val a - val b := by
  unfold subL
  rw [val_trim]
  obtain ⟨e, he⟩ := difW_val ha hb a.length 0 0 (by decide)
  rw [vF_val (Nat.le_refl _), vF_val hl] at he
  have h1 := val_lt (difW_ok a b a.length 0 0)
  rw [difW_len] at h1
  have he0 : e = 0 := by
    cases e with
    | zero => rfl
    | succ e =>
      have : 4294967296 ^ a.length * (e + 1) = 4294967296 ^ a.length * e + 4294967296 ^ a.length := Nat.mul_succ _ _
      omega
  rw [he0] at he
  omega

noncomputable def subC : Code := (lft (lft (rgt (lft (rgt (rgt (rgt (Try.f63.body.getD .skip))))))))

theorem sub_round {K : Out → St → Prop} {a b o : List Nat} {x y : D} {i c : Nat} (x9 x10 x11 : AV) (hx : Ws a x) (hy : Ws b y) (ha : Ok a) (hb : Ok b) (hn : a.length < 1000000000) (ho : o.length = a.length) (hc : c ≤ 1) (z8 z12 z13 z14 z15 z16 z17 z18 z19 z20 z21 z22 z23 z24 z25 z26 z27 z28 z29 z30 z31 z32 z33 z34 z35 z36 z37 z38 : AV) (h0 : a.length ≤ i → ∀ z8 z12 z13 z14 z15 z16 z17 z18 z19 z20 z21 z22 z23 z24 z25 z26 z27 z28 z29 z30 z31 z32 z33 z34 z35 z36 z37 z38, K (.exit 0) ⟨[.d x, .d y, U, U, .d (.v (.slice none 0 0)), .own 0 0 0 a.length 1 (some a.length), intA .u64 (c : Int), J (i : Int), z8, x9, x10, x11, z12, z13, z14, z15, z16, z17, z18, z19, z20, z21, z22, z23, z24, z25, z26, z27, z28, z29, z30, z31, z32, z33, z34, z35, z36, z37, z38, U, U], ⟨[.row (wa (o)) 0 .ow none], 1⟩⟩) (h1 : i < a.length → ∀ z8 z12 z13 z14 z15 z16 z17 z18 z19 z20 z21 z22 z23 z24 z25 z26 z27 z28 z29 z30 z31 z32 z33 z34 z35 z36 z37 z38, EvK Try.cx 63 (.loop subC) ⟨[.d x, .d y, U, U, .d (.v (.slice none 0 0)), .own 0 0 0 a.length 1 (some a.length), intA .u64 ((1 - (4294967296 + a.getD i 0 - b.getD i 0 - c) / 4294967296 : Nat) : Int), J ((i + 1 : Nat) : Int), z8, x9, x10, x11, z12, z13, z14, z15, z16, z17, z18, z19, z20, z21, z22, z23, z24, z25, z26, z27, z28, z29, z30, z31, z32, z33, z34, z35, z36, z37, z38, U, U], ⟨[.row (wa (o.set i ((4294967296 + a.getD i 0 - b.getD i 0 - c) % 4294967296))) 0 .ow none], 1⟩⟩ K) : EvK Try.cx 63 (.loop subC) ⟨[.d x, .d y, U, U, .d (.v (.slice none 0 0)), .own 0 0 0 a.length 1 (some a.length), intA .u64 (c : Int), J (i : Int), z8, x9, x10, x11, z12, z13, z14, z15, z16, z17, z18, z19, z20, z21, z22, z23, z24, z25, z26, z27, z28, z29, z30, z31, z32, z33, z34, z35, z36, z37, z38, U, U], ⟨[.row (wa (o)) 0 .ow none], 1⟩⟩ K := by
  refine ev_loop ?_
  refine ev_seq ?_
  refine ev_seq ?_
  refine ev_reg (by kernel_rfl) ?_
  refine rs_up 2 [(12, J (i : Int)), (13, .d x)] (fun cf => by kernel_rfl) ?_
  refine rs_cl (fun m9 => lenA Try.cx 32 m9 (.d x)) (some 14) (a.length) (fun cf => by kernel_rfl) (len_ws hx) ?_
  refine rs_all (s1 := ⟨[.d x, .d y, U, U, .d (.v (.slice none 0 0)), .own 0 0 0 a.length 1 (some a.length), intA .u64 (c : Int), J (i : Int), z8, x9, x10, x11, J (i : Int), .d x, J (a.length : Int), boolA (decide ((i : Int) < (a.length : Int))), z16, z17, z18, z19, z20, z21, z22, z23, z24, z25, z26, z27, z28, z29, z30, z31, z32, z33, z34, z35, z36, z37, z38, U, U], ⟨[.row (wa (o)) 0 .ow none], 1⟩⟩) (fun cf => by kernel_rfl) ?_
  rcases hb1 : ((decide ((i : Int) < (a.length : Int))) : Bool) with _ | _
  ·
    have hb1' := of_decide_eq_false hb1
    refine ev_false (by kernel_rfl) ?_
    refine ev_exit ?_
    exact h0 (by omega) _ _ _ _ _ _ _ _ _ _ _ _ _ _ _ _ _ _ _ _ _ _ _ _ _ _ _ _
  ·
    have hb1' := of_decide_eq_true hb1
    refine ev_true (by kernel_rfl) ?_
    refine ev_skip ?_
    refine ev_seq ?_
    refine ev_block ?_
    refine ev_seq ?_
    refine ev_reg (by kernel_rfl) ?_
    refine rs_up 2 [(18, .d x), (19, J (i : Int))] (fun cf => by kernel_rfl) ?_
    refine rs_cv (fun m9 => indexAddrA Try.cx 32 m9 (.d x) (J (i : Int))) (some 20) (.rp [.v (.int .u32 ((a.getD i 0 : Nat) : Int))]) (fun cf => by kernel_rfl) (idx_ws (k := i) hx (by rfl) (by omega)) ?_
    refine rs_up 2 [(21, intA .u32 ((a.getD i 0 : Nat) : Int)), (22, intA .u64 (IntKind.wrap .u64 ((a.getD i 0 : Nat) : Int)))] (fun cf => by kernel_rfl) ?_
    rw [wrapU (n := a.getD i 0) (by have := ha i; have := hb i; omega)]
    refine rs_up 1 [(23, intA .u64 (IntKind.wrap .u64 (4294967296 + ((a.getD i 0 : Nat) : Int))))] (fun cf => by kernel_rfl) ?_
    rw [addU (a := 4294967296) (b := ((a.getD i 0 : Nat) : Int)) (A := 4294967296) (B := a.getD i 0) (by rfl) (by rfl) (by have := ha i; have := hb i; omega)]
    refine rs_up 2 [(24, .d y), (25, J (i : Int))] (fun cf => by kernel_rfl) ?_
    refine rs_cp 82 [.d y, J (i : Int)] false (some 26) (intA .u64 ((b.getD i 0 : Nat) : Int)) (by kernel_rfl) (g_word (i := i) hy hb) (by kernel_rfl) ?_
    refine rs_up 1 [(27, intA .u64 (IntKind.wrap .u64 (((4294967296 + (a.getD i 0) : Nat) : Int) - ((b.getD i 0 : Nat) : Int))))] (fun cf => by kernel_rfl) ?_
    rw [subU (a := ((4294967296 + (a.getD i 0) : Nat) : Int)) (b := ((b.getD i 0 : Nat) : Int)) (A := 4294967296 + (a.getD i 0)) (B := b.getD i 0) (by rfl) (by rfl) (by have := ha i; have := hb i; omega)]
    refine rs_up 2 [(28, intA .u64 (c : Int)), (29, intA .u64 (IntKind.wrap .u64 ((((4294967296 + (a.getD i 0)) - (b.getD i 0) : Nat) : Int) - (c : Int))))] (fun cf => by kernel_rfl) ?_
    rw [subU (a := (((4294967296 + (a.getD i 0)) - (b.getD i 0) : Nat) : Int)) (b := (c : Int)) (A := (4294967296 + (a.getD i 0)) - (b.getD i 0)) (B := c) (by rfl) (by rfl) (by have := ha i; have := hb i; omega)]
    refine rs_alu [(8, intA .u64 ((((4294967296 + (a.getD i 0)) - (b.getD i 0)) - c : Nat) : Int))] (fun cf => by kernel_rfl) ?_
    refine ev_seq ?_
    refine ev_reg (by kernel_rfl) ?_
    refine rs_up 4 [(30, .own 0 0 0 a.length 1 (some a.length)), (31, J (i : Int)), (32, intA .u64 ((((4294967296 + (a.getD i 0)) - (b.getD i 0)) - c : Nat) : Int)), (33, intA .u64 (Int.tmod ((((4294967296 + (a.getD i 0)) - (b.getD i 0)) - c : Nat) : Int) 4294967296))] (fun cf => by kernel_rfl) ?_
    rw [remN (a := ((((4294967296 + (a.getD i 0)) - (b.getD i 0)) - c : Nat) : Int)) (b := 4294967296) (A := ((4294967296 + (a.getD i 0)) - (b.getD i 0)) - c) (B := 4294967296) (by rfl) (by rfl)]
    refine rs_up 1 [(34, intA .u32 (IntKind.wrap .u32 (((((4294967296 + (a.getD i 0)) - (b.getD i 0)) - c) % 4294967296 : Nat) : Int)))] (fun cf => by kernel_rfl) ?_
    rw [wrapW (n := (((4294967296 + (a.getD i 0)) - (b.getD i 0)) - c) % 4294967296) (by omega)]
    refine rs_cv (fun m9 => indexAddrA Try.cx 32 m9 (.own 0 0 0 a.length 1 (some a.length)) (J (i : Int))) (some 35) (.ptr 0 0 i) (fun cf => by kernel_rfl) (idx_own (k := i) (by rfl) (row_at rfl) (by omega)) ?_
    refine rs_cu (fun m9 => storeA Try.cx 22 m9 (.ptr 0 0 i) (intA .u32 (((((4294967296 + (a.getD i 0)) - (b.getD i 0)) - c) % 4294967296 : Nat) : Int))) none ⟨[.row (wa (o.set i ((((4294967296 + (a.getD i 0)) - (b.getD i 0)) - c) % 4294967296))) 0 .ow none], 1⟩ (fun cf => by kernel_rfl) (store_own (v := (((4294967296 + (a.getD i 0)) - (b.getD i 0)) - c) % 4294967296) rfl (by omega)) ?_
    refine rs_alu [] (fun cf => by kernel_rfl) ?_
    refine ev_reg (by kernel_rfl) ?_
    refine rs_up 2 [(36, intA .u64 ((((4294967296 + (a.getD i 0)) - (b.getD i 0)) - c : Nat) : Int)), (37, intA .u64 (IntKind.wrap .u64 (Int.tdiv ((((4294967296 + (a.getD i 0)) - (b.getD i 0)) - c : Nat) : Int) 4294967296)))] (fun cf => by kernel_rfl) ?_
    rw [quoU (a := ((((4294967296 + (a.getD i 0)) - (b.getD i 0)) - c : Nat) : Int)) (b := 4294967296) (A := ((4294967296 + (a.getD i 0)) - (b.getD i 0)) - c) (B := 4294967296) (by rfl) (by rfl) (by have := ha i; have := hb i; omega)]
    refine rs_up 1 [(38, intA .u64 (IntKind.wrap .u64 (1 - (((((4294967296 + (a.getD i 0)) - (b.getD i 0)) - c) / 4294967296 : Nat) : Int))))] (fun cf => by kernel_rfl) ?_
    rw [subU (a := 1) (b := (((((4294967296 + (a.getD i 0)) - (b.getD i 0)) - c) / 4294967296 : Nat) : Int)) (A := 1) (B := (((4294967296 + (a.getD i 0)) - (b.getD i 0)) - c) / 4294967296) (by rfl) (by rfl) (by have := ha i; have := hb i; omega)]
    refine rs_alu [(6, intA .u64 ((1 - ((((4294967296 + (a.getD i 0)) - (b.getD i 0)) - c) / 4294967296) : Nat) : Int))] (fun cf => by kernel_rfl) ?_
    refine ev_reg (by kernel_rfl) ?_
    refine rs_up 2 [(16, J (i : Int)), (17, J (IntKind.wrap .i64 ((i : Int) + 1)))] (fun cf => by kernel_rfl) ?_
    rw [addI (a := (i : Int)) (b := 1) (A := i) (B := 1) (by rfl) (by rfl) (by omega)]
    refine rs_all (s1 := ⟨[.d x, .d y, U, U, .d (.v (.slice none 0 0)), .own 0 0 0 a.length 1 (some a.length), intA .u64 ((1 - ((((4294967296 + (a.getD i 0)) - (b.getD i 0)) - c) / 4294967296) : Nat) : Int), J ((i + 1 : Nat) : Int), intA .u64 ((((4294967296 + (a.getD i 0)) - (b.getD i 0)) - c : Nat) : Int), x9, x10, x11, J (i : Int), .d x, J (a.length : Int), Yes, J (i : Int), J ((i + 1 : Nat) : Int), .d x, J (i : Int), .rp [.v (.int .u32 ((a.getD i 0 : Nat) : Int))], intA .u32 ((a.getD i 0 : Nat) : Int), intA .u64 ((a.getD i 0 : Nat) : Int), intA .u64 ((4294967296 + (a.getD i 0) : Nat) : Int), .d y, J (i : Int), intA .u64 ((b.getD i 0 : Nat) : Int), intA .u64 (((4294967296 + (a.getD i 0)) - (b.getD i 0) : Nat) : Int), intA .u64 (c : Int), intA .u64 ((((4294967296 + (a.getD i 0)) - (b.getD i 0)) - c : Nat) : Int), .own 0 0 0 a.length 1 (some a.length), J (i : Int), intA .u64 ((((4294967296 + (a.getD i 0)) - (b.getD i 0)) - c : Nat) : Int), intA .u64 (((((4294967296 + (a.getD i 0)) - (b.getD i 0)) - c) % 4294967296 : Nat) : Int), intA .u32 (((((4294967296 + (a.getD i 0)) - (b.getD i 0)) - c) % 4294967296 : Nat) : Int), .ptr 0 0 i, intA .u64 ((((4294967296 + (a.getD i 0)) - (b.getD i 0)) - c : Nat) : Int), intA .u64 (((((4294967296 + (a.getD i 0)) - (b.getD i 0)) - c) / 4294967296 : Nat) : Int), intA .u64 ((1 - ((((4294967296 + (a.getD i 0)) - (b.getD i 0)) - c) / 4294967296) : Nat) : Int), U, U], ⟨[.row (wa (o.set i ((((4294967296 + (a.getD i 0)) - (b.getD i 0)) - c) % 4294967296))) 0 .ow none], 1⟩⟩) (fun cf => by kernel_rfl) ?_
    exact h1 (by omega) _ _ _ _ _ _ _ _ _ _ _ _ _ _ _ _ _ _ _ _ _ _ _ _ _ _ _ _

theorem sub_loop {K : Out → St → Prop} {a b : List Nat} {x y : D} (x9 x10 x11 : AV) (hx : Ws a x) (hy : Ws b y) (ha : Ok a) (hb : Ok b) (hn : a.length < 1000000000) :
    ∀ (r : Nat) (p : List Nat) (c : Nat) (z8 z12 z13 z14 z15 z16 z17 z18 z19 z20 z21 z22 z23 z24 z25 z26 z27 z28 z29 z30 z31 z32 z33 z34 z35 z36 z37 z38 : AV) (he : p.length + r = a.length) (hc : c ≤ 1) (h : ∀ (c1 : Nat) (z8 z12 z13 z14 z15 z16 z17 z18 z19 z20 z21 z22 z23 z24 z25 z26 z27 z28 z29 z30 z31 z32 z33 z34 z35 z36 z37 z38 : AV), K (.exit 0) ⟨[.d x, .d y, U, U, .d (.v (.slice none 0 0)), .own 0 0 0 a.length 1 (some a.length), intA .u64 (c1 : Int), J (a.length : Int), z8, x9, x10, x11, z12, z13, z14, z15, z16, z17, z18, z19, z20, z21, z22, z23, z24, z25, z26, z27, z28, z29, z30, z31, z32, z33, z34, z35, z36, z37, z38, U, U], ⟨[.row (wa (p ++ difW a b r p.length c)) 0 .ow none], 1⟩⟩), EvK Try.cx 63 (.loop subC) ⟨[.d x, .d y, U, U, .d (.v (.slice none 0 0)), .own 0 0 0 a.length 1 (some a.length), intA .u64 (c : Int), J (p.length : Int), z8, x9, x10, x11, z12, z13, z14, z15, z16, z17, z18, z19, z20, z21, z22, z23, z24, z25, z26, z27, z28, z29, z30, z31, z32, z33, z34, z35, z36, z37, z38, U, U], ⟨[.row (wa (p ++ List.replicate r 0)) 0 .ow none], 1⟩⟩ K
  | 0, p, c, z8, z12, z13, z14, z15, z16, z17, z18, z19, z20, z21, z22, z23, z24, z25, z26, z27, z28, z29, z30, z31, z32, z33, z34, z35, z36, z37, z38, he, hc, h => by
    have h := h c
    rw [← he] at h
    exact sub_round x9 x10 x11 hx hy ha hb hn (by simp; omega) hc z8 z12 z13 z14 z15 z16 z17 z18 z19 z20 z21 z22 z23 z24 z25 z26 z27 z28 z29 z30 z31 z32 z33 z34 z35 z36 z37 z38 (fun _ => by rw [← he]; exact h) fun h1 => by omega
  | r + 1, p, c, z8, z12, z13, z14, z15, z16, z17, z18, z19, z20, z21, z22, z23, z24, z25, z26, z27, z28, z29, z30, z31, z32, z33, z34, z35, z36, z37, z38, he, hc, h => by
    refine sub_round x9 x10 x11 hx hy ha hb hn (by simp; omega) hc z8 z12 z13 z14 z15 z16 z17 z18 z19 z20 z21 z22 z23 z24 z25 z26 z27 z28 z29 z30 z31 z32 z33 z34 z35 z36 z37 z38 (fun h0 => by omega) fun _ z8 z12 z13 z14 z15 z16 z17 z18 z19 z20 z21 z22 z23 z24 z25 z26 z27 z28 z29 z30 z31 z32 z33 z34 z35 z36 z37 z38 => ?_
    have e : (p ++ List.replicate (r + 1) 0).set p.length ((4294967296 + a.getD p.length 0 - b.getD p.length 0 - c) % 4294967296) = (p ++ [(4294967296 + a.getD p.length 0 - b.getD p.length 0 - c) % 4294967296]) ++ List.replicate r 0 := by rw [List.replicate_succ, set_snoc]
    rw [e, show p.length + 1 = (p ++ [(4294967296 + a.getD p.length 0 - b.getD p.length 0 - c) % 4294967296]).length by simp]
    refine sub_loop x9 x10 x11 hx hy ha hb hn r _ _ z8 z12 z13 z14 z15 z16 z17 z18 z19 z20 z21 z22 z23 z24 z25 z26 z27 z28 z29 z30 z31 z32 z33 z34 z35 z36 z37 z38 (by simp; omega) (by omega) ?_
    simp only [List.length_append, List.length_singleton, List.append_assoc, List.singleton_append]
    exact h

theorem g_taken {a b : List Nat} {x y : D} (hx : Ws a x) (hy : Ws b y) (ha : Ok a) (hb : Ok b) (hl : a.length < 100000000) : ∃ res : D, (fun y => Ws (subL a b) y) res ∧ Gets Try.cx 63 [.d x, .d y] ((fun y => .d y) res) := by
  refine gets_some (fn := Try.f63) (fun y => Ws (subL a b) y) (fun y => .d y) (by kernel_rfl) rfl ?_
  show EvK _ _ _ ⟨[.d x, .d y] ++ us 39, ⟨[], 0⟩⟩ _
  refine ev_seq ?_
  refine ev_reg (by kernel_rfl) ?_
  refine rs_alu [(4, .d (.v (.slice none 0 0)))] (fun cf => by kernel_rfl) ?_
  refine ev_seq ?_
  refine ev_reg (by kernel_rfl) ?_
  refine rs_up 1 [(9, .d x)] (fun cf => by kernel_rfl) ?_
  refine rs_cl (fun m9 => lenA Try.cx 32 m9 (.d x)) (some 10) (a.length) (fun cf => by kernel_rfl) (len_ws hx) ?_
  refine rs_co (fun m9 => opA Try.cx (fun _ => false) [J (a.length : Int)] m9 ⟨none, .makeSlice 32 (.tmp 0) (.tmp 0), 0, "", #[], none⟩) (some 11) (.own 0 0 0 a.length 1 (some a.length)) ⟨[.row (wa (List.replicate a.length 0)) 0 .ow none], 1⟩ (fun cf => by kernel_rfl) (make_ws (k := a.length) (by rfl) (by omega)) ?_
  refine rs_alu [(5, .own 0 0 0 a.length 1 (some a.length))] (fun cf => by kernel_rfl) ?_
  refine ev_seq ?_
  refine ev_reg (by kernel_rfl) ?_
  refine rs_alu [(6, intA .u64 0)] (fun cf => by kernel_rfl) ?_
  refine ev_seq ?_
  refine ev_seq ?_
  refine ev_reg (by kernel_rfl) ?_
  refine rs_all (s1 := ⟨[.d x, .d y, U, U, .d (.v (.slice none 0 0)), .own 0 0 0 a.length 1 (some a.length), intA .u64 0, J 0, U, .d x, J (a.length : Int), .own 0 0 0 a.length 1 (some a.length)] ++ us 29, ⟨[.row (wa (List.replicate a.length 0)) 0 .ow none], 1⟩⟩) (fun cf => by kernel_rfl) ?_
  refine ev_block ?_
  refine sub_loop _ _ _ hx hy ha hb (by omega) a.length [] 0 _ _ _ _ _ _ _ _ _ _ _ _ _ _ _ _ _ _ _ _ _ _ _ _ _ _ _ _ (by simp) (by omega) fun c1 v8 v12 v13 v14 v15 v16 v17 v18 v19 v20 v21 v22 v23 v24 v25 v26 v27 v28 v29 v30 v31 v32 v33 v34 v35 v36 v37 v38 => ?_
  have hlen := difW_len a b a.length 0 0
  refine ev_seq ?_
  refine ev_reg (by kernel_rfl) ?_
  refine rs_up 1 [(39, .own 0 0 0 a.length 1 (some a.length))] (fun cf => by kernel_rfl) ?_
  refine rs_take 0 (s1 := ⟨[.d x, .d y, U, U, .d (.v (.slice none 0 0)), .own 0 0 0 a.length 1 (some a.length), intA .u64 (c1 : Int), J (a.length : Int), v8, .d x, J (a.length : Int), .own 0 0 0 a.length 1 (some a.length), v12, v13, v14, v15, v16, v17, v18, v19, v20, v21, v22, v23, v24, v25, v26, v27, v28, v29, v30, v31, v32, v33, v34, v35, v36, v37, v38, .own 0 0 0 a.length 1 (some a.length), U], ⟨[.row (wa (difW a b a.length 0 0)) 0 .ow none], 1⟩⟩) (fun cf => by kernel_rfl) ?_
  obtain ⟨y1, hy1, gy1⟩ := g_trim (ws_sl false (difW a b a.length 0 0)) (by first | decide | omega)
  refine rs_frz (g := 74) (bs := [.d (.sl false (difW a b a.length 0 0).length (wd (difW a b a.length 0 0)))]) (ow := true) (r := .d y1) (Eq.trans (b := match mapO (snapA (⟨[.row (wa (difW a b a.length 0 0)) 0 .ow none], 1⟩ : Mem)) [.own 0 0 0 a.length 1 (some a.length)] with | some bs => some (74, bs, true) | none => none) (by kernel_rfl) (by rw [mapO_one (snap_own (l := difW a b a.length 0 0) (row_at rfl) (by omega))])) (gy1) fun m1 hEm1 _ => ?_
  show RS _ _ _ _ _ ⟨[.d x, .d y, U, U, .d (.v (.slice none 0 0)), .own 0 0 0 a.length 1 (some a.length), intA .u64 (c1 : Int), J (a.length : Int), v8, .d x, J (a.length : Int), .own 0 0 0 a.length 1 (some a.length), v12, v13, v14, v15, v16, v17, v18, v19, v20, v21, v22, v23, v24, v25, v26, v27, v28, v29, v30, v31, v32, v33, v34, v35, v36, v37, v38, .own 0 0 0 a.length 1 (some a.length), .d y1], m1⟩ _
  refine rs_all (s1 := ⟨[.d x, .d y, U, U, .d y1, .own 0 0 0 a.length 1 (some a.length), intA .u64 (c1 : Int), J (a.length : Int), v8, .d x, J (a.length : Int), .own 0 0 0 a.length 1 (some a.length), v12, v13, v14, v15, v16, v17, v18, v19, v20, v21, v22, v23, v24, v25, v26, v27, v28, v29, v30, v31, v32, v33, v34, v35, v36, v37, v38, .own 0 0 0 a.length 1 (some a.length), .d y1], m1⟩) (fun cf => by kernel_rfl) ?_
  refine ev_ret ?_
  exact ⟨y1, hy1, .inr rfl, .d y1, by kernel_rfl, by kernel_rfl⟩
def shW (a : List Nat) (d : Nat) : Nat → Nat → List Nat
  | 0, _ => []
  | n + 1, r => shW a d n ((r * 4294967296 + a.getD n 0) % d) ++ [(r * 4294967296 + a.getD n 0) / d]
def shR (a : List Nat) (d n r : Nat) : Nat := (r * 4294967296 ^ n + vF a 0 n) % d
theorem shW_len (a : List Nat) (d : Nat) : ∀ n r, (shW a d n r).length = n
  | 0, _ => rfl
  | n + 1, r => by simp [shW, shW_len a d n]
theorem val_append : ∀ (l m : List Nat), val (l ++ m) = val l + 4294967296 ^ l.length * val m
  | [], m => by simp [val]
  | a :: l, m => by
    simp only [List.cons_append, val, List.length_cons, val_append l m]
    rw [Nat.pow_succ, Nat.mul_comm (4294967296 ^ l.length) 4294967296, Nat.mul_assoc]
    omega
theorem ok_append {l m : List Nat} (hl : Ok l) (hm : Ok m) : Ok (l ++ m) := fun k => by
  rw [List.getD_eq_getElem?_getD, List.getElem?_append]
  split
  · rw [← List.getD_eq_getElem?_getD]; exact hl k
  · rw [← List.getD_eq_getElem?_getD]; exact hm _
theorem vF_snoc (a : List Nat) : ∀ n i, vF a i (n + 1) = vF a i n + 4294967296 ^ n * a.getD (i + n) 0
  | 0, i => by simp [vF]
  | n + 1, i => by
    have h := vF_snoc a n (i + 1)
    rw [vF, h, vF, Nat.pow_succ, Nat.mul_comm (4294967296 ^ n) 4294967296, Nat.mul_assoc, show i + 1 + n = i + (n + 1) by omega, Nat.mul_add]
    omega
theorem sh_digit {r t d : Nat} (hr : r < d) (ht : t < 4294967296) : (r * 4294967296 + t) / d < 4294967296 := by
  rw [Nat.div_lt_iff_lt_mul (by omega)]
  have : (r + 1) * 4294967296 ≤ d * 4294967296 := Nat.mul_le_mul_right _ hr
  omega
theorem shW_ok {a : List Nat} {d : Nat} (ha : Ok a) (hd : 0 < d) : ∀ n r, r < d → Ok (shW a d n r)
  | 0, _, _ => ok_nil
  | n + 1, r, h => ok_append (shW_ok ha hd n _ (Nat.mod_lt _ hd)) (ok_cons (sh_digit h (ha n)) ok_nil)
theorem sh_alg {V R m F q s r t d B : Nat} (ih : V * d + R = s * m + F) (hdm : d * q + s = r * B + t) : (V + m * (q + B * 0)) * d + R = r * (m * B) + (F + m * t) := by
  have e1 : (V + m * (q + B * 0)) * d = V * d + m * (d * q) := by rw [Nat.mul_zero, Nat.add_zero, Nat.add_mul, Nat.mul_assoc, Nat.mul_comm q d]
  have e2 : m * (d * q) + s * m = m * (r * B + t) := by rw [← hdm, Nat.mul_add, Nat.mul_comm s m]
  have e3 : m * (r * B + t) = r * (m * B) + m * t := by rw [Nat.mul_add, Nat.mul_left_comm]
  omega
theorem sh_alg2 {m F r t B : Nat} : (r * B + t) * m + F = r * (m * B) + (F + m * t) := by
  rw [Nat.add_mul, Nat.mul_comm t m, Nat.mul_assoc, Nat.mul_comm B m]
  omega
theorem vF_top (a : List Nat) (n : Nat) : vF a 0 (n + 1) = vF a 0 n + 4294967296 ^ n * a.getD n 0 := by have := vF_snoc a n 0; rwa [Nat.zero_add] at this
theorem shR_succ (a : List Nat) (d n r : Nat) : shR a d n ((r * 4294967296 + a.getD n 0) % d) = shR a d (n + 1) r := by
  unfold shR
  rw [Nat.add_mod, Nat.mod_mul_mod, ← Nat.add_mod, vF_top, Nat.pow_succ, sh_alg2]
theorem sh_val (a : List Nat) {d : Nat} (hd : 0 < d) : ∀ n r, r < d → val (shW a d n r) * d + shR a d n r = r * 4294967296 ^ n + vF a 0 n
  | 0, r, hr => by
    have : shR a d 0 r = r := by unfold shR; rw [Nat.pow_zero, Nat.mul_one]; exact Nat.mod_eq_of_lt hr
    rw [this]
    simp [shW, val, vF]
  | n + 1, r, hr => by
    have ih := sh_val a hd n ((r * 4294967296 + a.getD n 0) % d) (Nat.mod_lt _ hd)
    have hdm := Nat.div_add_mod (r * 4294967296 + a.getD n 0) d
    have e1 : val (shW a d (n + 1) r) = val (shW a d n ((r * 4294967296 + a.getD n 0) % d)) + 4294967296 ^ n * ((r * 4294967296 + a.getD n 0) / d + 4294967296 * 0) := by
      rw [shW, val_append, shW_len, val, val]
    rw [shR_succ] at ih
    rw [e1, vF_top, Nat.pow_succ]
    exact sh_alg ih hdm
theorem shR_lt (a : List Nat) {d : Nat} (hd : 0 < d) (n r : Nat) : shR a d n r < d := Nat.mod_lt _ hd
theorem set_mid (n v : Nat) (q : List Nat) : (List.replicate (n + 1) 0 ++ q).set n v = List.replicate n 0 ++ (v :: q) := by
  have := set_snoc (List.replicate n 0) v 0 q
  rw [List.length_replicate] at this
  rw [List.replicate_succ', List.append_assoc]
  show (List.replicate n 0 ++ 0 :: q).set n v = _
  rw [this, List.append_assoc]
  rfl
def quoS (a : List Nat) (d : Nat) : List Nat := trimL (shW a d a.length 0)
theorem quoS_val {a : List Nat} {d : Nat} (hd : 0 < d) : val (quoS a d) = val a / d ∧ shR a d a.length 0 = val a % d := by
  have h := sh_val a hd a.length 0 hd
  rw [vF_val (Nat.le_refl _), Nat.zero_mul, Nat.zero_add] at h
  have hr := shR_lt a hd a.length 0
  unfold quoS
  rw [val_trim]
  have h2 : val a = d * val (shW a d a.length 0) + shR a d a.length 0 := by rw [Nat.mul_comm]; exact h.symm
  constructor
  · rw [h2, Nat.mul_add_div hd, Nat.div_eq_of_lt hr, Nat.add_zero]
  · rw [h2, Nat.mul_add_mod, Nat.mod_eq_of_lt hr]

noncomputable def shC : Code := (lft (lft (rgt (lft (rgt (rgt (rgt (Try.f84.body.getD .skip))))))))

theorem sh_round {K : Out → St → Prop} {a o : List Nat} {x : D} {d i r : Nat} (x10 x11 x12 x13 x14 x15 : AV) (hx : Ws a x) (ha : Ok a) (hn : a.length < 1000000000) (ho : o.length = a.length) (hr : r < d) (hd : d < 4294967296) (hi : i < a.length) (z9 z16 z17 z18 z19 z20 z21 z22 z23 z24 z25 z26 z27 z28 z29 z30 z31 z32 z33 z34 z35 z36 z37 : AV) (h1 : ∀ z9 z16 z17 z18 z19 z20 z21 z22 z23 z24 z25 z26 z27 z28 z29 z30 z31 z32 z33 z34 z35 z36 z37, EvK Try.cx 84 (.loop shC) ⟨[.d x, intA .u64 (d : Int), U, U, .d (.v (.slice none 0 0)), intA .u64 0, .own 0 0 0 a.length 1 (some a.length), intA .u64 (((r * 4294967296 + a.getD i 0) % d : Nat) : Int), J ((i : Int) - 1), z9, x10, x11, x12, x13, x14, x15, z16, z17, z18, z19, z20, z21, z22, z23, z24, z25, z26, z27, z28, z29, z30, z31, z32, z33, z34, z35, z36, z37] ++ us 3, ⟨[.row (wa (o.set i ((r * 4294967296 + a.getD i 0) / d))) 0 .ow none], 1⟩⟩ K) : EvK Try.cx 84 (.loop shC) ⟨[.d x, intA .u64 (d : Int), U, U, .d (.v (.slice none 0 0)), intA .u64 0, .own 0 0 0 a.length 1 (some a.length), intA .u64 (r : Int), J (i : Int), z9, x10, x11, x12, x13, x14, x15, z16, z17, z18, z19, z20, z21, z22, z23, z24, z25, z26, z27, z28, z29, z30, z31, z32, z33, z34, z35, z36, z37] ++ us 3, ⟨[.row (wa (o)) 0 .ow none], 1⟩⟩ K := by
  refine ev_loop ?_
  refine ev_seq ?_
  refine ev_seq ?_
  refine ev_reg (by kernel_rfl) ?_
  refine rs_up 2 [(16, J (i : Int)), (17, boolA (decide ((i : Int) ≥ 0)))] (fun cf => by kernel_rfl) ?_
  rw [(show decide ((i : Int) ≥ 0) = true from decide_eq_true (by omega))]
  refine rs_alu [] (fun cf => by kernel_rfl) ?_
  refine ev_true (by kernel_rfl) ?_
  refine ev_skip ?_
  refine ev_seq ?_
  refine ev_block ?_
  refine ev_seq ?_
  refine ev_reg (by kernel_rfl) ?_
  refine rs_up 2 [(20, intA .u64 (r : Int)), (21, intA .u64 (IntKind.wrap .u64 ((r : Int) * 4294967296)))] (fun cf => by kernel_rfl) ?_
  rw [mulU (a := (r : Int)) (b := 4294967296) (A := r) (B := 4294967296) (by rfl) (by rfl) (by omega)]
  refine rs_up 2 [(22, .d x), (23, J (i : Int))] (fun cf => by kernel_rfl) ?_
  refine rs_cv (fun m9 => indexAddrA Try.cx 32 m9 (.d x) (J (i : Int))) (some 24) (.rp [.v (.int .u32 ((a.getD i 0 : Nat) : Int))]) (fun cf => by kernel_rfl) (idx_ws (k := i) hx (by rfl) (by omega)) ?_
  refine rs_up 2 [(25, intA .u32 ((a.getD i 0 : Nat) : Int)), (26, intA .u64 (IntKind.wrap .u64 ((a.getD i 0 : Nat) : Int)))] (fun cf => by kernel_rfl) ?_
  rw [wrapU (n := a.getD i 0) (by have := ha i; omega)]
  refine rs_up 1 [(27, intA .u64 (IntKind.wrap .u64 (((r * 4294967296 : Nat) : Int) + ((a.getD i 0 : Nat) : Int))))] (fun cf => by kernel_rfl) ?_
  rw [addU (a := ((r * 4294967296 : Nat) : Int)) (b := ((a.getD i 0 : Nat) : Int)) (A := r * 4294967296) (B := a.getD i 0) (by rfl) (by rfl) (by have := ha i; omega)]
  refine rs_alu [(9, intA .u64 (((r * 4294967296) + (a.getD i 0) : Nat) : Int))] (fun cf => by kernel_rfl) ?_
  refine ev_seq ?_
  refine ev_reg (by kernel_rfl) ?_
  refine rs_up 4 [(28, .own 0 0 0 a.length 1 (some a.length)), (29, J (i : Int)), (30, intA .u64 (((r * 4294967296) + (a.getD i 0) : Nat) : Int)), (31, intA .u64 (d : Int))] (fun cf => by kernel_rfl) ?_
  refine rs_cv (fun m9 => binA Try.cx m9 .quo 23 (intA .u64 (((r * 4294967296) + (a.getD i 0) : Nat) : Int)) (intA .u64 (d : Int))) (some 32) (intA .u64 ((((r * 4294967296) + (a.getD i 0)) / d : Nat) : Int)) (fun cf => by kernel_rfl) (quoU_at (A := (r * 4294967296) + (a.getD i 0)) (P := d) (by rfl) (by rfl) (⟨by omega, by have := ha i; omega⟩)) ?_
  refine rs_up 1 [(33, intA .u32 (IntKind.wrap .u32 ((((r * 4294967296) + (a.getD i 0)) / d : Nat) : Int)))] (fun cf => by kernel_rfl) ?_
  rw [wrapW (n := ((r * 4294967296) + (a.getD i 0)) / d) (sh_digit hr (ha i))]
  refine rs_cv (fun m9 => indexAddrA Try.cx 32 m9 (.own 0 0 0 a.length 1 (some a.length)) (J (i : Int))) (some 34) (.ptr 0 0 i) (fun cf => by kernel_rfl) (idx_own (k := i) (by rfl) (row_at rfl) (by omega)) ?_
  refine rs_cu (fun m9 => storeA Try.cx 22 m9 (.ptr 0 0 i) (intA .u32 ((((r * 4294967296) + (a.getD i 0)) / d : Nat) : Int))) none ⟨[.row (wa (o.set i (((r * 4294967296) + (a.getD i 0)) / d))) 0 .ow none], 1⟩ (fun cf => by kernel_rfl) (store_own (v := ((r * 4294967296) + (a.getD i 0)) / d) rfl (by omega)) ?_
  refine rs_alu [] (fun cf => by kernel_rfl) ?_
  refine ev_reg (by kernel_rfl) ?_
  refine rs_up 2 [(35, intA .u64 (((r * 4294967296) + (a.getD i 0) : Nat) : Int)), (36, intA .u64 (d : Int))] (fun cf => by kernel_rfl) ?_
  refine rs_cv (fun m9 => binA Try.cx m9 .rem 23 (intA .u64 (((r * 4294967296) + (a.getD i 0) : Nat) : Int)) (intA .u64 (d : Int))) (some 37) (intA .u64 ((((r * 4294967296) + (a.getD i 0)) % d : Nat) : Int)) (fun cf => by kernel_rfl) (remU_at (A := (r * 4294967296) + (a.getD i 0)) (P := d) (by rfl) (by rfl) (by omega)) ?_
  refine rs_alu [(7, intA .u64 ((((r * 4294967296) + (a.getD i 0)) % d : Nat) : Int))] (fun cf => by kernel_rfl) ?_
  refine ev_reg (by kernel_rfl) ?_
  refine rs_up 2 [(18, J (i : Int)), (19, J (IntKind.wrap .i64 ((i : Int) - 1)))] (fun cf => by kernel_rfl) ?_
  rw [wrapI (n := (i : Int) - 1) (by omega) (by omega)]
  refine rs_all (s1 := ⟨[.d x, intA .u64 (d : Int), U, U, .d (.v (.slice none 0 0)), intA .u64 0, .own 0 0 0 a.length 1 (some a.length), intA .u64 ((((r * 4294967296) + (a.getD i 0)) % d : Nat) : Int), J ((i : Int) - 1), intA .u64 (((r * 4294967296) + (a.getD i 0) : Nat) : Int), x10, x11, x12, x13, x14, x15, J (i : Int), Yes, J (i : Int), J ((i : Int) - 1), intA .u64 (r : Int), intA .u64 ((r * 4294967296 : Nat) : Int), .d x, J (i : Int), .rp [.v (.int .u32 ((a.getD i 0 : Nat) : Int))], intA .u32 ((a.getD i 0 : Nat) : Int), intA .u64 ((a.getD i 0 : Nat) : Int), intA .u64 (((r * 4294967296) + (a.getD i 0) : Nat) : Int), .own 0 0 0 a.length 1 (some a.length), J (i : Int), intA .u64 (((r * 4294967296) + (a.getD i 0) : Nat) : Int), intA .u64 (d : Int), intA .u64 ((((r * 4294967296) + (a.getD i 0)) / d : Nat) : Int), intA .u32 ((((r * 4294967296) + (a.getD i 0)) / d : Nat) : Int), .ptr 0 0 i, intA .u64 (((r * 4294967296) + (a.getD i 0) : Nat) : Int), intA .u64 (d : Int), intA .u64 ((((r * 4294967296) + (a.getD i 0)) % d : Nat) : Int)] ++ us 3, ⟨[.row (wa (o.set i (((r * 4294967296) + (a.getD i 0)) / d))) 0 .ow none], 1⟩⟩) (fun cf => by kernel_rfl) ?_
  exact h1 _ _ _ _ _ _ _ _ _ _ _ _ _ _ _ _ _ _ _ _ _ _ _

theorem sh_stop {K : Out → St → Prop} {a o : List Nat} {x : D} {d r : Nat} (x10 x11 x12 x13 x14 x15 : AV)  (z9 z16 z17 z18 z19 z20 z21 z22 z23 z24 z25 z26 z27 z28 z29 z30 z31 z32 z33 z34 z35 z36 z37 : AV) (h : ∀ z9 z16 z17 z18 z19 z20 z21 z22 z23 z24 z25 z26 z27 z28 z29 z30 z31 z32 z33 z34 z35 z36 z37, K (.exit 0) ⟨[.d x, intA .u64 (d : Int), U, U, .d (.v (.slice none 0 0)), intA .u64 0, .own 0 0 0 a.length 1 (some a.length), intA .u64 (r : Int), J (-1), z9, x10, x11, x12, x13, x14, x15, z16, z17, z18, z19, z20, z21, z22, z23, z24, z25, z26, z27, z28, z29, z30, z31, z32, z33, z34, z35, z36, z37] ++ us 3, ⟨[.row (wa (o)) 0 .ow none], 1⟩⟩) : EvK Try.cx 84 (.loop shC) ⟨[.d x, intA .u64 (d : Int), U, U, .d (.v (.slice none 0 0)), intA .u64 0, .own 0 0 0 a.length 1 (some a.length), intA .u64 (r : Int), J (-1), z9, x10, x11, x12, x13, x14, x15, z16, z17, z18, z19, z20, z21, z22, z23, z24, z25, z26, z27, z28, z29, z30, z31, z32, z33, z34, z35, z36, z37] ++ us 3, ⟨[.row (wa (o)) 0 .ow none], 1⟩⟩ K := by
  refine ev_loop ?_
  refine ev_seq ?_
  refine ev_seq ?_
  refine ev_reg (by kernel_rfl) ?_
  refine rs_all (s1 := ⟨[.d x, intA .u64 (d : Int), U, U, .d (.v (.slice none 0 0)), intA .u64 0, .own 0 0 0 a.length 1 (some a.length), intA .u64 (r : Int), J (-1), z9, x10, x11, x12, x13, x14, x15, J (-1), No, z18, z19, z20, z21, z22, z23, z24, z25, z26, z27, z28, z29, z30, z31, z32, z33, z34, z35, z36, z37] ++ us 3, ⟨[.row (wa (o)) 0 .ow none], 1⟩⟩) (fun cf => by kernel_rfl) ?_
  refine ev_false (by kernel_rfl) ?_
  refine ev_exit ?_
  exact h _ _ _ _ _ _ _ _ _ _ _ _ _ _ _ _ _ _ _ _ _ _ _

theorem sh_loop {K : Out → St → Prop} {a : List Nat} {x : D} {d : Nat} (x10 x11 x12 x13 x14 x15 : AV) (hx : Ws a x) (ha : Ok a) (hn : a.length < 1000000000) (hd : d < 4294967296) :
    ∀ (n : Nat) (q : List Nat) (r : Nat) (z9 z16 z17 z18 z19 z20 z21 z22 z23 z24 z25 z26 z27 z28 z29 z30 z31 z32 z33 z34 z35 z36 z37 : AV) (he : n + q.length = a.length) (hr : r < d) (h : ∀ (z9 z16 z17 z18 z19 z20 z21 z22 z23 z24 z25 z26 z27 z28 z29 z30 z31 z32 z33 z34 z35 z36 z37 : AV), K (.exit 0) ⟨[.d x, intA .u64 (d : Int), U, U, .d (.v (.slice none 0 0)), intA .u64 0, .own 0 0 0 a.length 1 (some a.length), intA .u64 ((shR a d n r : Nat) : Int), J (-1), z9, x10, x11, x12, x13, x14, x15, z16, z17, z18, z19, z20, z21, z22, z23, z24, z25, z26, z27, z28, z29, z30, z31, z32, z33, z34, z35, z36, z37] ++ us 3, ⟨[.row (wa (shW a d n r ++ q)) 0 .ow none], 1⟩⟩), EvK Try.cx 84 (.loop shC) ⟨[.d x, intA .u64 (d : Int), U, U, .d (.v (.slice none 0 0)), intA .u64 0, .own 0 0 0 a.length 1 (some a.length), intA .u64 (r : Int), J ((n : Int) - 1), z9, x10, x11, x12, x13, x14, x15, z16, z17, z18, z19, z20, z21, z22, z23, z24, z25, z26, z27, z28, z29, z30, z31, z32, z33, z34, z35, z36, z37] ++ us 3, ⟨[.row (wa (List.replicate n 0 ++ q)) 0 .ow none], 1⟩⟩ K
  | 0, q, r, z9, z16, z17, z18, z19, z20, z21, z22, z23, z24, z25, z26, z27, z28, z29, z30, z31, z32, z33, z34, z35, z36, z37, he, hr, h => sh_stop (a := a) (x := x) x10 x11 x12 x13 x14 x15 z9 z16 z17 z18 z19 z20 z21 z22 z23 z24 z25 z26 z27 z28 z29 z30 z31 z32 z33 z34 z35 z36 z37 (by
    have e : shR a d 0 r = r := by unfold shR; rw [Nat.pow_zero, Nat.mul_one]; exact Nat.mod_eq_of_lt hr
    rw [e] at h
    exact h)
  | n + 1, q, r, z9, z16, z17, z18, z19, z20, z21, z22, z23, z24, z25, z26, z27, z28, z29, z30, z31, z32, z33, z34, z35, z36, z37, he, hr, h => by
    rw [show ((n + 1 : Nat) : Int) - 1 = (n : Int) by omega]
    refine sh_round x10 x11 x12 x13 x14 x15 hx ha hn (by simp; omega) hr hd (by omega) z9 z16 z17 z18 z19 z20 z21 z22 z23 z24 z25 z26 z27 z28 z29 z30 z31 z32 z33 z34 z35 z36 z37 fun z9 z16 z17 z18 z19 z20 z21 z22 z23 z24 z25 z26 z27 z28 z29 z30 z31 z32 z33 z34 z35 z36 z37 => ?_
    rw [set_mid]
    refine sh_loop x10 x11 x12 x13 x14 x15 hx ha hn hd n _ _ z9 z16 z17 z18 z19 z20 z21 z22 z23 z24 z25 z26 z27 z28 z29 z30 z31 z32 z33 z34 z35 z36 z37 (by simp; omega) (Nat.mod_lt _ (by omega)) ?_
    rw [shR_succ]
    simp only [shW, List.append_assoc, List.singleton_append] at h
    exact h

theorem g_shortly {a : List Nat} {x : D} {d : Nat} (hx : Ws a x) (ha : Ok a) (hl : a.length < 100000000) (hd0 : 0 < d) (hd : d < 4294967296) : ∃ res : D, (fun y => Ws (quoS a d) y) res ∧ Gets Try.cx 84 [.d x, intA .u64 (d : Int)] ((fun y => .tu [.d y, intA .u64 ((shR a d a.length 0 : Nat) : Int)]) res) := by
  refine gets_some (fn := Try.f84) (fun y => Ws (quoS a d) y) (fun y => .tu [.d y, intA .u64 ((shR a d a.length 0 : Nat) : Int)]) (by kernel_rfl) rfl ?_
  show EvK _ _ _ ⟨[.d x, intA .u64 (d : Int)] ++ us 39, ⟨[], 0⟩⟩ _
  refine ev_seq ?_
  refine ev_reg (by kernel_rfl) ?_
  refine rs_alu [(4, .d (.v (.slice none 0 0))), (5, intA .u64 0)] (fun cf => by kernel_rfl) ?_
  refine ev_seq ?_
  refine ev_reg (by kernel_rfl) ?_
  refine rs_up 1 [(10, .d x)] (fun cf => by kernel_rfl) ?_
  refine rs_cl (fun m9 => lenA Try.cx 32 m9 (.d x)) (some 11) (a.length) (fun cf => by kernel_rfl) (len_ws hx) ?_
  refine rs_co (fun m9 => opA Try.cx (fun _ => false) [J (a.length : Int)] m9 ⟨none, .makeSlice 32 (.tmp 0) (.tmp 0), 0, "", #[], none⟩) (some 12) (.own 0 0 0 a.length 1 (some a.length)) ⟨[.row (wa (List.replicate a.length 0)) 0 .ow none], 1⟩ (fun cf => by kernel_rfl) (make_ws (k := a.length) (by rfl) (by omega)) ?_
  refine rs_alu [(6, .own 0 0 0 a.length 1 (some a.length))] (fun cf => by kernel_rfl) ?_
  refine ev_seq ?_
  refine ev_reg (by kernel_rfl) ?_
  refine rs_alu [(7, intA .u64 0)] (fun cf => by kernel_rfl) ?_
  refine ev_seq ?_
  refine ev_seq ?_
  refine ev_reg (by kernel_rfl) ?_
  refine rs_up 1 [(13, .d x)] (fun cf => by kernel_rfl) ?_
  refine rs_cl (fun m9 => lenA Try.cx 32 m9 (.d x)) (some 14) (a.length) (fun cf => by kernel_rfl) (len_ws hx) ?_
  refine rs_up 1 [(15, J (IntKind.wrap .i64 ((a.length : Int) - 1)))] (fun cf => by kernel_rfl) ?_
  rw [wrapI (n := (a.length : Int) - 1) (by omega) (by omega)]
  refine rs_all (s1 := ⟨[.d x, intA .u64 (d : Int), U, U, .d (.v (.slice none 0 0)), intA .u64 0, .own 0 0 0 a.length 1 (some a.length), intA .u64 0, J ((a.length : Int) - 1), U, .d x, J (a.length : Int), .own 0 0 0 a.length 1 (some a.length), .d x, J (a.length : Int), J ((a.length : Int) - 1)] ++ us 25, ⟨[.row (wa (List.replicate a.length 0)) 0 .ow none], 1⟩⟩) (fun cf => by kernel_rfl) ?_
  refine ev_block ?_
  have happ : List.replicate a.length 0 = List.replicate a.length 0 ++ ([] : List Nat) := (List.append_nil _).symm
  rw [happ]
  refine sh_loop _ _ _ _ _ _ hx ha (by omega) hd a.length [] 0 _ _ _ _ _ _ _ _ _ _ _ _ _ _ _ _ _ _ _ _ _ _ _ (by simp) hd0 fun v9 v16 v17 v18 v19 v20 v21 v22 v23 v24 v25 v26 v27 v28 v29 v30 v31 v32 v33 v34 v35 v36 v37 => ?_
  rw [List.append_nil]
  have hlen := shW_len a d a.length 0
  refine ev_seq ?_
  refine ev_reg (by kernel_rfl) ?_
  refine rs_up 1 [(38, .own 0 0 0 a.length 1 (some a.length))] (fun cf => by kernel_rfl) ?_
  refine rs_take 0 (s1 := ⟨[.d x, intA .u64 (d : Int), U, U, .d (.v (.slice none 0 0)), intA .u64 0, .own 0 0 0 a.length 1 (some a.length), intA .u64 ((shR a d a.length 0 : Nat) : Int), J (-1), v9, .d x, J (a.length : Int), .own 0 0 0 a.length 1 (some a.length), .d x, J (a.length : Int), J ((a.length : Int) - 1), v16, v17, v18, v19, v20, v21, v22, v23, v24, v25, v26, v27, v28, v29, v30, v31, v32, v33, v34, v35, v36, v37, .own 0 0 0 a.length 1 (some a.length), U, U], ⟨[.row (wa (shW a d a.length 0)) 0 .ow none], 1⟩⟩) (fun cf => by kernel_rfl) ?_
  obtain ⟨y1, hy1, gy1⟩ := g_trim (ws_sl false (shW a d a.length 0)) (by first | decide | omega)
  refine rs_frz (g := 74) (bs := [.d (.sl false (shW a d a.length 0).length (wd (shW a d a.length 0)))]) (ow := true) (r := .d y1) (Eq.trans (b := match mapO (snapA (⟨[.row (wa (shW a d a.length 0)) 0 .ow none], 1⟩ : Mem)) [.own 0 0 0 a.length 1 (some a.length)] with | some bs => some (74, bs, true) | none => none) (by kernel_rfl) (by rw [mapO_one (snap_own (l := shW a d a.length 0) (row_at rfl) (by omega))])) (gy1) fun m1 hEm1 _ => ?_
  show RS _ _ _ _ _ ⟨[.d x, intA .u64 (d : Int), U, U, .d (.v (.slice none 0 0)), intA .u64 0, .own 0 0 0 a.length 1 (some a.length), intA .u64 ((shR a d a.length 0 : Nat) : Int), J (-1), v9, .d x, J (a.length : Int), .own 0 0 0 a.length 1 (some a.length), .d x, J (a.length : Int), J ((a.length : Int) - 1), v16, v17, v18, v19, v20, v21, v22, v23, v24, v25, v26, v27, v28, v29, v30, v31, v32, v33, v34, v35, v36, v37, .own 0 0 0 a.length 1 (some a.length), .d y1, U], m1⟩ _
  refine rs_all (s1 := ⟨[.d x, intA .u64 (d : Int), U, U, .d y1, intA .u64 ((shR a d a.length 0 : Nat) : Int), .own 0 0 0 a.length 1 (some a.length), intA .u64 ((shR a d a.length 0 : Nat) : Int), J (-1), v9, .d x, J (a.length : Int), .own 0 0 0 a.length 1 (some a.length), .d x, J (a.length : Int), J ((a.length : Int) - 1), v16, v17, v18, v19, v20, v21, v22, v23, v24, v25, v26, v27, v28, v29, v30, v31, v32, v33, v34, v35, v36, v37, .own 0 0 0 a.length 1 (some a.length), .d y1, intA .u64 ((shR a d a.length 0 : Nat) : Int)], m1⟩) (fun cf => by kernel_rfl) ?_
  refine ev_ret ?_
  exact ⟨y1, hy1, .inr rfl, .tu [.d y1, intA .u64 ((shR a d a.length 0 : Nat) : Int)], by kernel_rfl, by kernel_rfl⟩

end Go.Proofs.Ytgkjdfojogemhaa.W
