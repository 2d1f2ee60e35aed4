/-
  The reference: products of words. Made by program. Conditions: none.
-/
import Derived.Test.YtgkjdfojogemhaaWdc
set_option maxRecDepth 100000
set_option maxHeartbeats 20000000
set_option linter.unusedSimpArgs false
set_option linter.unusedVariables false
namespace Go.Proofs.Ytgkjdfojogemhaa.W
open Go.Am


theorem getD_set_ne {l : List Nat} {j k v : Nat} (h : j ≠ k) : (l.set j v).getD k 0 = l.getD k 0 := by
  rw [List.getD_eq_getElem?_getD, List.getElem?_set_ne h, ← List.getD_eq_getElem?_getD]
theorem getD_set_eq {l : List Nat} {j v : Nat} (h : j < l.length) : (l.set j v).getD j 0 = v := by
  rw [List.getD_eq_getElem?_getD, List.getElem?_set_self h]; rfl
theorem val_set : ∀ {l : List Nat} {j v : Nat}, j < l.length → val (l.set j v) + l.getD j 0 * 4294967296 ^ j = val l + v * 4294967296 ^ j
  | [], j, v, h => absurd h (Nat.not_lt_zero _)
  | a :: l, 0, v, h => by simp [val]; omega
  | a :: l, j + 1, v, h => by
    have ih := val_set (l := l) (j := j) (v := v) (by simpa using h)
    simp only [List.set_cons_succ, val, List.getD_cons_succ]
    rw [Nat.pow_succ, ← Nat.mul_assoc, ← Nat.mul_assoc]
    omega
theorem mulB {a b : Nat} (ha : a < 4294967296) (hb : b < 4294967296) : a * b ≤ 18446744065119617025 := by
  have := Nat.mul_le_mul (Nat.le_of_lt_succ ha) (Nat.le_of_lt_succ hb)
  omega

/-- What the inner loop does: the words, and what is carried. -/
def macI (a b : List Nat) (i : Nat) : Nat → Nat → Nat → List Nat → List Nat × Nat
  | 0, _, c, o => (o, c)
  | r + 1, k, c, o => macI a b i r (k + 1) ((a.getD i 0 * b.getD k 0 + o.getD (i + k) 0 + c) / 4294967296) (o.set (i + k) ((a.getD i 0 * b.getD k 0 + o.getD (i + k) 0 + c) % 4294967296))
theorem macI_len (a b : List Nat) (i : Nat) : ∀ r k c o, (macI a b i r k c o).1.length = o.length
  | 0, _, _, _ => rfl
  | r + 1, k, c, o => by simp only [macI]; rw [macI_len a b i r]; simp
theorem macI_ok {a b : List Nat} {i : Nat} (ha : Ok a) (hb : Ok b) : ∀ r k c o, Ok o → c < 4294967296 → Ok (macI a b i r k c o).1 ∧ (macI a b i r k c o).2 < 4294967296
  | 0, _, _, _, ho, hc => ⟨ho, hc⟩
  | r + 1, k, c, o, ho, hc => by
    have h1 := mulB (ha i) (hb k)
    have h2 := ho (i + k)
    simp only [macI]
    exact macI_ok ha hb r (k + 1) _ _ (ok_set ho (Nat.mod_lt _ (by decide))) (by omega)
theorem macI_far (a b : List Nat) (i : Nat) : ∀ r k c o j, i + k + r ≤ j → (macI a b i r k c o).1.getD j 0 = o.getD j 0
  | 0, _, _, _, _, _ => rfl
  | r + 1, k, c, o, j, h => by
    simp only [macI]
    rw [macI_far a b i r (k + 1) _ _ j (by omega), getD_set_ne (by omega)]
theorem mul_alg {V O w m t B q X A : Nat} (h1 : V + O * m = X + w * m) (hdm : B * q + w = A + O + t) : V + q * (m * B) = X + A * m + t * m := by
  have e : B * q * m + w * m = A * m + O * m + t * m := by rw [← Nat.add_mul, hdm, Nat.add_mul, Nat.add_mul]
  have e2 : q * (m * B) = B * q * m := by rw [Nat.mul_comm m B, ← Nat.mul_assoc, Nat.mul_comm q B]
  omega
theorem macI_val (a b : List Nat) (i : Nat) : ∀ r k c o, i + k + r ≤ o.length → val (macI a b i r k c o).1 + (macI a b i r k c o).2 * 4294967296 ^ (i + k + r) = val o + a.getD i 0 * vF b k r * 4294967296 ^ (i + k) + c * 4294967296 ^ (i + k)
  | 0, k, c, o, h => by simp [macI, vF]
  | r + 1, k, c, o, h => by
    have ih := macI_val a b i r (k + 1) ((a.getD i 0 * b.getD k 0 + o.getD (i + k) 0 + c) / 4294967296) (o.set (i + k) ((a.getD i 0 * b.getD k 0 + o.getD (i + k) 0 + c) % 4294967296)) (by simp; omega)
    have h1 := val_set (l := o) (j := i + k) (v := (a.getD i 0 * b.getD k 0 + o.getD (i + k) 0 + c) % 4294967296) (by omega)
    have h2 := mul_alg h1 (Nat.div_add_mod (a.getD i 0 * b.getD k 0 + o.getD (i + k) 0 + c) 4294967296)
    have e : macI a b i (r + 1) k c o = macI a b i r (k + 1) ((a.getD i 0 * b.getD k 0 + o.getD (i + k) 0 + c) / 4294967296) (o.set (i + k) ((a.getD i 0 * b.getD k 0 + o.getD (i + k) 0 + c) % 4294967296)) := by rw [macI]
    rw [e, show i + k + (r + 1) = i + (k + 1) + r by omega, ih, show i + (k + 1) = i + k + 1 by omega, Nat.pow_succ, vF, Nat.mul_add]
    have e2 : a.getD i 0 * (4294967296 * vF b (k + 1) r) * 4294967296 ^ (i + k) = a.getD i 0 * vF b (k + 1) r * (4294967296 ^ (i + k) * 4294967296) := by
      rw [Nat.mul_left_comm, Nat.mul_comm 4294967296, Nat.mul_assoc, Nat.mul_comm 4294967296]
    rw [Nat.add_mul, e2]
    omega

theorem mul4 {B A V P : Nat} : B * A * V * P = A * V * (P * B) := by
  rw [Nat.mul_comm B A, Nat.mul_assoc A B V, Nat.mul_comm B V, ← Nat.mul_assoc A V B, Nat.mul_assoc (A * V) B P, Nat.mul_comm B P]

def mulO (a b : List Nat) : Nat → Nat → List Nat → List Nat
  | 0, _, o => o
  | r + 1, i, o => mulO a b r (i + 1) ((macI a b i b.length 0 0 o).1.set (i + b.length) (macI a b i b.length 0 0 o).2)
theorem mulO_len (a b : List Nat) : ∀ r i o, (mulO a b r i o).length = o.length
  | 0, _, _ => rfl
  | r + 1, i, o => by simp only [mulO]; rw [mulO_len a b r]; simp [macI_len]
theorem mulO_ok {a b : List Nat} (ha : Ok a) (hb : Ok b) : ∀ r i o, Ok o → Ok (mulO a b r i o)
  | 0, _, _, h => h
  | r + 1, i, o, h => by
    have h1 := macI_ok (i := i) ha hb b.length 0 0 o h (by decide)
    simp only [mulO]
    exact mulO_ok ha hb r _ _ (ok_set h1.1 h1.2)
theorem mulO_val (a b : List Nat) : ∀ r i o, i + r + b.length ≤ o.length → (∀ j, i + b.length ≤ j → o.getD j 0 = 0) → val (mulO a b r i o) = val o + vF a i r * val b * 4294967296 ^ i
  | 0, i, o, _, _ => by simp [mulO, vF]
  | r + 1, i, o, hl, hz => by
    have h1 := macI_val a b i b.length 0 0 o (by omega)
    rw [vF_val (Nat.le_refl _), Nat.zero_mul, Nat.add_zero, Nat.add_zero] at h1
    have h2 := val_set (l := (macI a b i b.length 0 0 o).1) (j := i + b.length) (v := (macI a b i b.length 0 0 o).2) (by rw [macI_len]; omega)
    rw [macI_far a b i b.length 0 0 o _ (by omega), hz _ (Nat.le_refl _), Nat.zero_mul, Nat.add_zero] at h2
    have ih := mulO_val a b r (i + 1) ((macI a b i b.length 0 0 o).1.set (i + b.length) (macI a b i b.length 0 0 o).2) (by simp [macI_len]; omega) fun j hj => by
      rw [getD_set_ne (by omega), macI_far a b i b.length 0 0 o _ (by omega), hz j (by omega)]
    rw [mulO, ih, h2, h1, vF, Nat.pow_succ, Nat.add_mul, Nat.add_mul]
    have e : 4294967296 * vF a (i + 1) r * val b * 4294967296 ^ i = vF a (i + 1) r * val b * (4294967296 ^ i * 4294967296) := mul4
    omega

def timesL (a b : List Nat) : List Nat := trimL (mulO a b a.length 0 (List.replicate (a.length + b.length) 0))
theorem val_zeros : ∀ n, val (List.replicate n 0) = 0
  | 0 => rfl
  | n + 1 => by rw [List.replicate_succ, val, val_zeros n]
theorem timesL_val (a b : List Nat) : val (timesL a b) = val a * val b := by
  unfold timesL
  rw [val_trim, mulO_val a b _ _ _ (by simp) (fun j _ => by rw [List.getD_eq_getElem?_getD, List.getElem?_replicate]; split <;> rfl), val_zeros, vF_val (Nat.le_refl _)]
  simp
theorem timesL_ok {a b : List Nat} (ha : Ok a) (hb : Ok b) : Ok (timesL a b) := ok_trim (mulO_ok ha hb _ _ _ (ok_zeros _))
theorem timesL_nrm (a b : List Nat) : Nrm (timesL a b) := nrm_trim _
theorem timesL_len (a b : List Nat) : (timesL a b).length ≤ a.length + b.length := by
  have := len_trim (mulO a b a.length 0 (List.replicate (a.length + b.length) 0))
  rw [mulO_len, List.length_replicate] at this
  exact this

noncomputable def mulInC : Code := (lft (lft (rgt (lft (rgt (lft (lft (rgt (lft (lft (rgt (lft (rgt (rgt (Try.f49.body.getD .skip)))))))))))))))

theorem mulin_round {K : Out → St → Prop} {a b o : List Nat} {x y : D} {n i k c : Nat} (x10 x11 x12 x13 x14 x15 x16 x17 x18 x19 x20 x21 x59 x60 x61 x62 x63 x64 x65 x66 : AV) (hx : Ws a x) (hy : Ws b y) (ha : Ok a) (hb : Ok b) (hoo : Ok o) (hn : n < 1000000000) (ho : o.length = n) (hi : i < a.length) (hl : a.length + b.length = n) (hc : c < 4294967296) (z9 z22 z23 z24 z25 z26 z27 z28 z29 z30 z31 z32 z33 z34 z35 z36 z37 z38 z39 z40 z41 z42 z43 z44 z45 z46 z47 z48 z49 z50 z51 z52 z53 z54 z55 z56 z57 z58 : AV) (h0 : b.length ≤ k → ∀ z9 z22 z23 z24 z25 z26 z27 z28 z29 z30 z31 z32 z33 z34 z35 z36 z37 z38 z39 z40 z41 z42 z43 z44 z45 z46 z47 z48 z49 z50 z51 z52 z53 z54 z55 z56 z57 z58, K (.exit 2) ⟨[.d x, .d y, U, U, .d (.v (.slice none 0 0)), .own 0 0 0 n 1 (some n), J (i : Int), intA .u64 (c : Int), J (k : Int), z9, x10, x11, x12, x13, x14, x15, x16, x17, x18, x19, x20, x21, z22, z23, z24, z25, z26, z27, z28, z29, z30, z31, z32, z33, z34, z35, z36, z37, z38, z39, z40, z41, z42, z43, z44, z45, z46, z47, z48, z49, z50, z51, z52, z53, z54, z55, z56, z57, z58, x59, x60, x61, x62, x63, x64, x65, x66, U, U], ⟨[.row (wa (o)) 0 .ow none], 1⟩⟩) (h1 : k < b.length → ∀ z9 z22 z23 z24 z25 z26 z27 z28 z29 z30 z31 z32 z33 z34 z35 z36 z37 z38 z39 z40 z41 z42 z43 z44 z45 z46 z47 z48 z49 z50 z51 z52 z53 z54 z55 z56 z57 z58, EvK Try.cx 49 (.loop mulInC) ⟨[.d x, .d y, U, U, .d (.v (.slice none 0 0)), .own 0 0 0 n 1 (some n), J (i : Int), intA .u64 (((a.getD i 0 * b.getD k 0 + o.getD (i + k) 0 + c) / 4294967296 : Nat) : Int), J ((k + 1 : Nat) : Int), z9, x10, x11, x12, x13, x14, x15, x16, x17, x18, x19, x20, x21, z22, z23, z24, z25, z26, z27, z28, z29, z30, z31, z32, z33, z34, z35, z36, z37, z38, z39, z40, z41, z42, z43, z44, z45, z46, z47, z48, z49, z50, z51, z52, z53, z54, z55, z56, z57, z58, x59, x60, x61, x62, x63, x64, x65, x66, U, U], ⟨[.row (wa (o.set (i + k) ((a.getD i 0 * b.getD k 0 + o.getD (i + k) 0 + c) % 4294967296))) 0 .ow none], 1⟩⟩ K) : EvK Try.cx 49 (.loop mulInC) ⟨[.d x, .d y, U, U, .d (.v (.slice none 0 0)), .own 0 0 0 n 1 (some n), J (i : Int), intA .u64 (c : Int), J (k : Int), z9, x10, x11, x12, x13, x14, x15, x16, x17, x18, x19, x20, x21, z22, z23, z24, z25, z26, z27, z28, z29, z30, z31, z32, z33, z34, z35, z36, z37, z38, z39, z40, z41, z42, z43, z44, z45, z46, z47, z48, z49, z50, z51, z52, z53, z54, z55, z56, z57, z58, x59, x60, x61, x62, x63, x64, x65, x66, U, U], ⟨[.row (wa (o)) 0 .ow none], 1⟩⟩ K := by
  refine ev_loop ?_
  refine ev_seq ?_
  refine ev_seq ?_
  refine ev_reg (by kernel_rfl) ?_
  refine rs_up 2 [(22, J (k : Int)), (23, .d y)] (fun cf => by kernel_rfl) ?_
  refine rs_cl (fun m9 => lenA Try.cx 32 m9 (.d y)) (some 24) (b.length) (fun cf => by kernel_rfl) (len_ws hy) ?_
  refine rs_all (s1 := ⟨[.d x, .d y, U, U, .d (.v (.slice none 0 0)), .own 0 0 0 n 1 (some n), J (i : Int), intA .u64 (c : Int), J (k : Int), z9, x10, x11, x12, x13, x14, x15, x16, x17, x18, x19, x20, x21, J (k : Int), .d y, J (b.length : Int), boolA (decide ((k : Int) < (b.length : Int))), z26, z27, z28, z29, z30, z31, z32, z33, z34, z35, z36, z37, z38, z39, z40, z41, z42, z43, z44, z45, z46, z47, z48, z49, z50, z51, z52, z53, z54, z55, z56, z57, z58, x59, x60, x61, x62, x63, x64, x65, x66, U, U], ⟨[.row (wa (o)) 0 .ow none], 1⟩⟩) (fun cf => by kernel_rfl) ?_
  rcases hb1 : ((decide ((k : Int) < (b.length : Int))) : Bool) with _ | _
  ·
    have hb1' := of_decide_eq_false hb1
    refine ev_false (by kernel_rfl) ?_
    refine ev_exit ?_
    exact h0 (by omega) _ _ _ _ _ _ _ _ _ _ _ _ _ _ _ _ _ _ _ _ _ _ _ _ _ _ _ _ _ _ _ _ _ _ _ _ _ _
  ·
    have hb1' := of_decide_eq_true hb1
    refine ev_true (by kernel_rfl) ?_
    refine ev_skip ?_
    refine ev_seq ?_
    refine ev_block ?_
    refine ev_seq ?_
    refine ev_reg (by kernel_rfl) ?_
    refine rs_up 2 [(28, .d x), (29, J (i : Int))] (fun cf => by kernel_rfl) ?_
    refine rs_cv (fun m9 => indexAddrA Try.cx 32 m9 (.d x) (J (i : Int))) (some 30) (.rp [.v (.int .u32 ((a.getD i 0 : Nat) : Int))]) (fun cf => by kernel_rfl) (idx_ws (k := i) hx (by rfl) (by omega)) ?_
    refine rs_up 2 [(31, intA .u32 ((a.getD i 0 : Nat) : Int)), (32, intA .u64 (IntKind.wrap .u64 ((a.getD i 0 : Nat) : Int)))] (fun cf => by kernel_rfl) ?_
    rw [wrapU (n := a.getD i 0) (by have := ha i; omega)]
    refine rs_up 2 [(33, .d y), (34, J (k : Int))] (fun cf => by kernel_rfl) ?_
    refine rs_cv (fun m9 => indexAddrA Try.cx 32 m9 (.d y) (J (k : Int))) (some 35) (.rp [.v (.int .u32 ((b.getD k 0 : Nat) : Int))]) (fun cf => by kernel_rfl) (idx_ws (k := k) hy (by rfl) (by omega)) ?_
    refine rs_up 2 [(36, intA .u32 ((b.getD k 0 : Nat) : Int)), (37, intA .u64 (IntKind.wrap .u64 ((b.getD k 0 : Nat) : Int)))] (fun cf => by kernel_rfl) ?_
    rw [wrapU (n := b.getD k 0) (by have := hb k; omega)]
    refine rs_up 1 [(38, intA .u64 (IntKind.wrap .u64 (((a.getD i 0 : Nat) : Int) * ((b.getD k 0 : Nat) : Int))))] (fun cf => by kernel_rfl) ?_
    rw [mulU (a := ((a.getD i 0 : Nat) : Int)) (b := ((b.getD k 0 : Nat) : Int)) (A := a.getD i 0) (B := b.getD k 0) (by rfl) (by rfl) (by have := mulB (ha i) (hb k); have := hoo (i + k); omega)]
    refine rs_up 4 [(39, .own 0 0 0 n 1 (some n)), (40, J (i : Int)), (41, J (k : Int)), (42, J (IntKind.wrap .i64 ((i : Int) + (k : Int))))] (fun cf => by kernel_rfl) ?_
    rw [addI (a := (i : Int)) (b := (k : Int)) (A := i) (B := k) (by rfl) (by rfl) (by omega)]
    refine rs_cv (fun m9 => indexAddrA Try.cx 32 m9 (.own 0 0 0 n 1 (some n)) (J ((i + k : Nat) : Int))) (some 43) (.ptr 0 0 (i + k)) (fun cf => by kernel_rfl) (idx_own (k := i + k) (by rfl) (row_at rfl) (by omega)) ?_
    refine rs_cv (fun m9 => loadA Try.cx 22 m9 (.ptr 0 0 (i + k))) (some 44) (intA .u32 ((o.getD (i + k) 0 : Nat) : Int)) (fun cf => by kernel_rfl) (load_own (row_at rfl) (by omega)) ?_
    refine rs_up 1 [(45, intA .u64 (IntKind.wrap .u64 ((o.getD (i + k) 0 : Nat) : Int)))] (fun cf => by kernel_rfl) ?_
    rw [wrapU (n := o.getD (i + k) 0) (by have := hoo (i + k); omega)]
    refine rs_up 1 [(46, intA .u64 (IntKind.wrap .u64 ((((a.getD i 0) * (b.getD k 0) : Nat) : Int) + ((o.getD (i + k) 0 : Nat) : Int))))] (fun cf => by kernel_rfl) ?_
    rw [addU (a := (((a.getD i 0) * (b.getD k 0) : Nat) : Int)) (b := ((o.getD (i + k) 0 : Nat) : Int)) (A := (a.getD i 0) * (b.getD k 0)) (B := o.getD (i + k) 0) (by rfl) (by rfl) (by have := mulB (ha i) (hb k); have := hoo (i + k); omega)]
    refine rs_up 2 [(47, intA .u64 (c : Int)), (48, intA .u64 (IntKind.wrap .u64 (((((a.getD i 0) * (b.getD k 0)) + (o.getD (i + k) 0) : Nat) : Int) + (c : Int))))] (fun cf => by kernel_rfl) ?_
    rw [addU (a := ((((a.getD i 0) * (b.getD k 0)) + (o.getD (i + k) 0) : Nat) : Int)) (b := (c : Int)) (A := ((a.getD i 0) * (b.getD k 0)) + (o.getD (i + k) 0)) (B := c) (by rfl) (by rfl) (by have := mulB (ha i) (hb k); have := hoo (i + k); omega)]
    refine rs_alu [(9, intA .u64 (((((a.getD i 0) * (b.getD k 0)) + (o.getD (i + k) 0)) + c : Nat) : Int))] (fun cf => by kernel_rfl) ?_
    refine ev_seq ?_
    refine ev_reg (by kernel_rfl) ?_
    refine rs_up 4 [(49, .own 0 0 0 n 1 (some n)), (50, J (i : Int)), (51, J (k : Int)), (52, J (IntKind.wrap .i64 ((i : Int) + (k : Int))))] (fun cf => by kernel_rfl) ?_
    rw [addI (a := (i : Int)) (b := (k : Int)) (A := i) (B := k) (by rfl) (by rfl) (by omega)]
    refine rs_up 2 [(53, intA .u64 (((((a.getD i 0) * (b.getD k 0)) + (o.getD (i + k) 0)) + c : Nat) : Int)), (54, intA .u64 (Int.tmod (((((a.getD i 0) * (b.getD k 0)) + (o.getD (i + k) 0)) + c : Nat) : Int) 4294967296))] (fun cf => by kernel_rfl) ?_
    rw [remN (a := (((((a.getD i 0) * (b.getD k 0)) + (o.getD (i + k) 0)) + c : Nat) : Int)) (b := 4294967296) (A := (((a.getD i 0) * (b.getD k 0)) + (o.getD (i + k) 0)) + c) (B := 4294967296) (by rfl) (by rfl)]
    refine rs_up 1 [(55, intA .u32 (IntKind.wrap .u32 ((((((a.getD i 0) * (b.getD k 0)) + (o.getD (i + k) 0)) + c) % 4294967296 : Nat) : Int)))] (fun cf => by kernel_rfl) ?_
    rw [wrapW (n := ((((a.getD i 0) * (b.getD k 0)) + (o.getD (i + k) 0)) + c) % 4294967296) (by omega)]
    refine rs_cv (fun m9 => indexAddrA Try.cx 32 m9 (.own 0 0 0 n 1 (some n)) (J ((i + k : Nat) : Int))) (some 56) (.ptr 0 0 (i + k)) (fun cf => by kernel_rfl) (idx_own (k := i + k) (by rfl) (row_at rfl) (by omega)) ?_
    refine rs_cu (fun m9 => storeA Try.cx 22 m9 (.ptr 0 0 (i + k)) (intA .u32 ((((((a.getD i 0) * (b.getD k 0)) + (o.getD (i + k) 0)) + c) % 4294967296 : Nat) : Int))) none ⟨[.row (wa (o.set (i + k) (((((a.getD i 0) * (b.getD k 0)) + (o.getD (i + k) 0)) + c) % 4294967296))) 0 .ow none], 1⟩ (fun cf => by kernel_rfl) (store_own (v := ((((a.getD i 0) * (b.getD k 0)) + (o.getD (i + k) 0)) + c) % 4294967296) rfl (by omega)) ?_
    refine rs_alu [] (fun cf => by kernel_rfl) ?_
    refine ev_reg (by kernel_rfl) ?_
    refine rs_up 2 [(57, intA .u64 (((((a.getD i 0) * (b.getD k 0)) + (o.getD (i + k) 0)) + c : Nat) : Int)), (58, intA .u64 (IntKind.wrap .u64 (Int.tdiv (((((a.getD i 0) * (b.getD k 0)) + (o.getD (i + k) 0)) + c : Nat) : Int) 4294967296)))] (fun cf => by kernel_rfl) ?_
    rw [quoU (a := (((((a.getD i 0) * (b.getD k 0)) + (o.getD (i + k) 0)) + c : Nat) : Int)) (b := 4294967296) (A := (((a.getD i 0) * (b.getD k 0)) + (o.getD (i + k) 0)) + c) (B := 4294967296) (by rfl) (by rfl) (by have := mulB (ha i) (hb k); have := hoo (i + k); omega)]
    refine rs_alu [(7, intA .u64 ((((((a.getD i 0) * (b.getD k 0)) + (o.getD (i + k) 0)) + c) / 4294967296 : Nat) : Int))] (fun cf => by kernel_rfl) ?_
    refine ev_reg (by kernel_rfl) ?_
    refine rs_up 2 [(26, J (k : Int)), (27, J (IntKind.wrap .i64 ((k : Int) + 1)))] (fun cf => by kernel_rfl) ?_
    rw [addI (a := (k : Int)) (b := 1) (A := k) (B := 1) (by rfl) (by rfl) (by omega)]
    refine rs_all (s1 := ⟨[.d x, .d y, U, U, .d (.v (.slice none 0 0)), .own 0 0 0 n 1 (some n), J (i : Int), intA .u64 ((((((a.getD i 0) * (b.getD k 0)) + (o.getD (i + k) 0)) + c) / 4294967296 : Nat) : Int), J ((k + 1 : Nat) : Int), intA .u64 (((((a.getD i 0) * (b.getD k 0)) + (o.getD (i + k) 0)) + c : Nat) : Int), x10, x11, x12, x13, x14, x15, x16, x17, x18, x19, x20, x21, J (k : Int), .d y, J (b.length : Int), Yes, J (k : Int), J ((k + 1 : Nat) : Int), .d x, J (i : Int), .rp [.v (.int .u32 ((a.getD i 0 : Nat) : Int))], intA .u32 ((a.getD i 0 : Nat) : Int), intA .u64 ((a.getD i 0 : Nat) : Int), .d y, J (k : Int), .rp [.v (.int .u32 ((b.getD k 0 : Nat) : Int))], intA .u32 ((b.getD k 0 : Nat) : Int), intA .u64 ((b.getD k 0 : Nat) : Int), intA .u64 (((a.getD i 0) * (b.getD k 0) : Nat) : Int), .own 0 0 0 n 1 (some n), J (i : Int), J (k : Int), J ((i + k : Nat) : Int), .ptr 0 0 (i + k), intA .u32 ((o.getD (i + k) 0 : Nat) : Int), intA .u64 ((o.getD (i + k) 0 : Nat) : Int), intA .u64 ((((a.getD i 0) * (b.getD k 0)) + (o.getD (i + k) 0) : Nat) : Int), intA .u64 (c : Int), intA .u64 (((((a.getD i 0) * (b.getD k 0)) + (o.getD (i + k) 0)) + c : Nat) : Int), .own 0 0 0 n 1 (some n), J (i : Int), J (k : Int), J ((i + k : Nat) : Int), intA .u64 (((((a.getD i 0) * (b.getD k 0)) + (o.getD (i + k) 0)) + c : Nat) : Int), intA .u64 ((((((a.getD i 0) * (b.getD k 0)) + (o.getD (i + k) 0)) + c) % 4294967296 : Nat) : Int), intA .u32 ((((((a.getD i 0) * (b.getD k 0)) + (o.getD (i + k) 0)) + c) % 4294967296 : Nat) : Int), .ptr 0 0 (i + k), intA .u64 (((((a.getD i 0) * (b.getD k 0)) + (o.getD (i + k) 0)) + c : Nat) : Int), intA .u64 ((((((a.getD i 0) * (b.getD k 0)) + (o.getD (i + k) 0)) + c) / 4294967296 : Nat) : Int), x59, x60, x61, x62, x63, x64, x65, x66, U, U], ⟨[.row (wa (o.set (i + k) (((((a.getD i 0) * (b.getD k 0)) + (o.getD (i + k) 0)) + c) % 4294967296))) 0 .ow none], 1⟩⟩) (fun cf => by kernel_rfl) ?_
    exact h1 (by omega) _ _ _ _ _ _ _ _ _ _ _ _ _ _ _ _ _ _ _ _ _ _ _ _ _ _ _ _ _ _ _ _ _ _ _ _ _ _

theorem mulin_loop {K : Out → St → Prop} {a b : List Nat} {x y : D} {n i : Nat} (x10 x11 x12 x13 x14 x15 x16 x17 x18 x19 x20 x21 x59 x60 x61 x62 x63 x64 x65 x66 : AV) (hx : Ws a x) (hy : Ws b y) (ha : Ok a) (hb : Ok b) (hn : n < 1000000000) (hi : i < a.length) (hl : a.length + b.length = n) :
    ∀ (r k c : Nat) (o : List Nat) (z9 z22 z23 z24 z25 z26 z27 z28 z29 z30 z31 z32 z33 z34 z35 z36 z37 z38 z39 z40 z41 z42 z43 z44 z45 z46 z47 z48 z49 z50 z51 z52 z53 z54 z55 z56 z57 z58 : AV) (he : k + r = b.length) (hoo : Ok o) (ho : o.length = n) (hc : c < 4294967296) (h : ∀ (z9 z22 z23 z24 z25 z26 z27 z28 z29 z30 z31 z32 z33 z34 z35 z36 z37 z38 z39 z40 z41 z42 z43 z44 z45 z46 z47 z48 z49 z50 z51 z52 z53 z54 z55 z56 z57 z58 : AV), K (.exit 2) ⟨[.d x, .d y, U, U, .d (.v (.slice none 0 0)), .own 0 0 0 n 1 (some n), J (i : Int), intA .u64 (((macI a b i r k c o).2 : Nat) : Int), J (b.length : Int), z9, x10, x11, x12, x13, x14, x15, x16, x17, x18, x19, x20, x21, z22, z23, z24, z25, z26, z27, z28, z29, z30, z31, z32, z33, z34, z35, z36, z37, z38, z39, z40, z41, z42, z43, z44, z45, z46, z47, z48, z49, z50, z51, z52, z53, z54, z55, z56, z57, z58, x59, x60, x61, x62, x63, x64, x65, x66, U, U], ⟨[.row (wa ((macI a b i r k c o).1)) 0 .ow none], 1⟩⟩), EvK Try.cx 49 (.loop mulInC) ⟨[.d x, .d y, U, U, .d (.v (.slice none 0 0)), .own 0 0 0 n 1 (some n), J (i : Int), intA .u64 (c : Int), J (k : Int), z9, x10, x11, x12, x13, x14, x15, x16, x17, x18, x19, x20, x21, z22, z23, z24, z25, z26, z27, z28, z29, z30, z31, z32, z33, z34, z35, z36, z37, z38, z39, z40, z41, z42, z43, z44, z45, z46, z47, z48, z49, z50, z51, z52, z53, z54, z55, z56, z57, z58, x59, x60, x61, x62, x63, x64, x65, x66, U, U], ⟨[.row (wa (o)) 0 .ow none], 1⟩⟩ K
  | 0, k, c, o, z9, z22, z23, z24, z25, z26, z27, z28, z29, z30, z31, z32, z33, z34, z35, z36, z37, z38, z39, z40, z41, z42, z43, z44, z45, z46, z47, z48, z49, z50, z51, z52, z53, z54, z55, z56, z57, z58, he, hoo, ho, hc, h => by
    have hk : k = b.length := by omega
    subst hk
    exact mulin_round x10 x11 x12 x13 x14 x15 x16 x17 x18 x19 x20 x21 x59 x60 x61 x62 x63 x64 x65 x66 hx hy ha hb hoo hn ho hi hl hc z9 z22 z23 z24 z25 z26 z27 z28 z29 z30 z31 z32 z33 z34 z35 z36 z37 z38 z39 z40 z41 z42 z43 z44 z45 z46 z47 z48 z49 z50 z51 z52 z53 z54 z55 z56 z57 z58 (fun _ => h) fun h1 => by omega
  | r + 1, k, c, o, z9, z22, z23, z24, z25, z26, z27, z28, z29, z30, z31, z32, z33, z34, z35, z36, z37, z38, z39, z40, z41, z42, z43, z44, z45, z46, z47, z48, z49, z50, z51, z52, z53, z54, z55, z56, z57, z58, he, hoo, ho, hc, h => by
    have h2 := mulB (ha i) (hb k)
    have h3 := hoo (i + k)
    refine mulin_round x10 x11 x12 x13 x14 x15 x16 x17 x18 x19 x20 x21 x59 x60 x61 x62 x63 x64 x65 x66 hx hy ha hb hoo hn ho hi hl hc z9 z22 z23 z24 z25 z26 z27 z28 z29 z30 z31 z32 z33 z34 z35 z36 z37 z38 z39 z40 z41 z42 z43 z44 z45 z46 z47 z48 z49 z50 z51 z52 z53 z54 z55 z56 z57 z58 (fun h0 => by omega) fun _ z9 z22 z23 z24 z25 z26 z27 z28 z29 z30 z31 z32 z33 z34 z35 z36 z37 z38 z39 z40 z41 z42 z43 z44 z45 z46 z47 z48 z49 z50 z51 z52 z53 z54 z55 z56 z57 z58 => ?_
    refine mulin_loop x10 x11 x12 x13 x14 x15 x16 x17 x18 x19 x20 x21 x59 x60 x61 x62 x63 x64 x65 x66 hx hy ha hb hn hi hl r (k + 1) _ _ z9 z22 z23 z24 z25 z26 z27 z28 z29 z30 z31 z32 z33 z34 z35 z36 z37 z38 z39 z40 z41 z42 z43 z44 z45 z46 z47 z48 z49 z50 z51 z52 z53 z54 z55 z56 z57 z58 (by omega) (ok_set hoo (Nat.mod_lt _ (by decide))) (by simp; omega) (by omega) ?_
    rw [macI] at h
    exact h

noncomputable def mulOutC : Code := (lft (lft (rgt (lft (rgt (rgt (Try.f49.body.getD .skip)))))))

theorem mulout_round {K : Out → St → Prop} {a b o : List Nat} {x y : D} {n i : Nat} (x10 x11 x12 x13 x14 x15 : AV) (hx : Ws a x) (hy : Ws b y) (ha : Ok a) (hb : Ok b) (hoo : Ok o) (hn : n < 1000000000) (ho : o.length = n) (hl : a.length + b.length = n) (z7 z8 z9 z16 z17 z18 z19 z20 z21 z22 z23 z24 z25 z26 z27 z28 z29 z30 z31 z32 z33 z34 z35 z36 z37 z38 z39 z40 z41 z42 z43 z44 z45 z46 z47 z48 z49 z50 z51 z52 z53 z54 z55 z56 z57 z58 z59 z60 z61 z62 z63 z64 z65 z66 : AV) (h0 : a.length ≤ i → ∀ z7 z8 z9 z16 z17 z18 z19 z20 z21 z22 z23 z24 z25 z26 z27 z28 z29 z30 z31 z32 z33 z34 z35 z36 z37 z38 z39 z40 z41 z42 z43 z44 z45 z46 z47 z48 z49 z50 z51 z52 z53 z54 z55 z56 z57 z58 z59 z60 z61 z62 z63 z64 z65 z66, K (.exit 0) ⟨[.d x, .d y, U, U, .d (.v (.slice none 0 0)), .own 0 0 0 n 1 (some n), J (i : Int), z7, z8, z9, x10, x11, x12, x13, x14, x15, z16, z17, z18, z19, z20, z21, z22, z23, z24, z25, z26, z27, z28, z29, z30, z31, z32, z33, z34, z35, z36, z37, z38, z39, z40, z41, z42, z43, z44, z45, z46, z47, z48, z49, z50, z51, z52, z53, z54, z55, z56, z57, z58, z59, z60, z61, z62, z63, z64, z65, z66, U, U], ⟨[.row (wa (o)) 0 .ow none], 1⟩⟩) (h1 : i < a.length → ∀ z7 z8 z9 z16 z17 z18 z19 z20 z21 z22 z23 z24 z25 z26 z27 z28 z29 z30 z31 z32 z33 z34 z35 z36 z37 z38 z39 z40 z41 z42 z43 z44 z45 z46 z47 z48 z49 z50 z51 z52 z53 z54 z55 z56 z57 z58 z59 z60 z61 z62 z63 z64 z65 z66, EvK Try.cx 49 (.loop mulOutC) ⟨[.d x, .d y, U, U, .d (.v (.slice none 0 0)), .own 0 0 0 n 1 (some n), J ((i + 1 : Nat) : Int), z7, z8, z9, x10, x11, x12, x13, x14, x15, z16, z17, z18, z19, z20, z21, z22, z23, z24, z25, z26, z27, z28, z29, z30, z31, z32, z33, z34, z35, z36, z37, z38, z39, z40, z41, z42, z43, z44, z45, z46, z47, z48, z49, z50, z51, z52, z53, z54, z55, z56, z57, z58, z59, z60, z61, z62, z63, z64, z65, z66, U, U], ⟨[.row (wa ((macI a b i b.length 0 0 o).1.set (i + b.length) (macI a b i b.length 0 0 o).2)) 0 .ow none], 1⟩⟩ K) : EvK Try.cx 49 (.loop mulOutC) ⟨[.d x, .d y, U, U, .d (.v (.slice none 0 0)), .own 0 0 0 n 1 (some n), J (i : Int), z7, z8, z9, x10, x11, x12, x13, x14, x15, z16, z17, z18, z19, z20, z21, z22, z23, z24, z25, z26, z27, z28, z29, z30, z31, z32, z33, z34, z35, z36, z37, z38, z39, z40, z41, z42, z43, z44, z45, z46, z47, z48, z49, z50, z51, z52, z53, z54, z55, z56, z57, z58, z59, z60, z61, z62, z63, z64, z65, z66, U, U], ⟨[.row (wa (o)) 0 .ow none], 1⟩⟩ K := by
  refine ev_loop ?_
  refine ev_seq ?_
  refine ev_seq ?_
  refine ev_reg (by kernel_rfl) ?_
  refine rs_up 2 [(16, J (i : Int)), (17, .d x)] (fun cf => by kernel_rfl) ?_
  refine rs_cl (fun m9 => lenA Try.cx 32 m9 (.d x)) (some 18) (a.length) (fun cf => by kernel_rfl) (len_ws hx) ?_
  refine rs_all (s1 := ⟨[.d x, .d y, U, U, .d (.v (.slice none 0 0)), .own 0 0 0 n 1 (some n), J (i : Int), z7, z8, z9, x10, x11, x12, x13, x14, x15, J (i : Int), .d x, J (a.length : Int), boolA (decide ((i : Int) < (a.length : Int))), z20, z21, z22, z23, z24, z25, z26, z27, z28, z29, z30, z31, z32, z33, z34, z35, z36, z37, z38, z39, z40, z41, z42, z43, z44, z45, z46, z47, z48, z49, z50, z51, z52, z53, z54, z55, z56, z57, z58, z59, z60, z61, z62, z63, z64, z65, z66, U, U], ⟨[.row (wa (o)) 0 .ow none], 1⟩⟩) (fun cf => by kernel_rfl) ?_
  rcases hb1 : ((decide ((i : Int) < (a.length : Int))) : Bool) with _ | _
  ·
    have hb1' := of_decide_eq_false hb1
    refine ev_false (by kernel_rfl) ?_
    refine ev_exit ?_
    exact h0 (by omega) _ _ _ _ _ _ _ _ _ _ _ _ _ _ _ _ _ _ _ _ _ _ _ _ _ _ _ _ _ _ _ _ _ _ _ _ _ _ _ _ _ _ _ _ _ _ _ _ _ _ _ _ _ _
  ·
    have hb1' := of_decide_eq_true hb1
    refine ev_true (by kernel_rfl) ?_
    refine ev_skip ?_
    refine ev_seq ?_
    refine ev_block ?_
    refine ev_seq ?_
    refine ev_reg (by kernel_rfl) ?_
    refine rs_alu [(7, intA .u64 0)] (fun cf => by kernel_rfl) ?_
    refine ev_seq ?_
    refine ev_seq ?_
    refine ev_reg (by kernel_rfl) ?_
    refine rs_all (s1 := ⟨[.d x, .d y, U, U, .d (.v (.slice none 0 0)), .own 0 0 0 n 1 (some n), J (i : Int), intA .u64 0, J 0, z9, x10, x11, x12, x13, x14, x15, J (i : Int), .d x, J (a.length : Int), Yes, z20, z21, z22, z23, z24, z25, z26, z27, z28, z29, z30, z31, z32, z33, z34, z35, z36, z37, z38, z39, z40, z41, z42, z43, z44, z45, z46, z47, z48, z49, z50, z51, z52, z53, z54, z55, z56, z57, z58, z59, z60, z61, z62, z63, z64, z65, z66, U, U], ⟨[.row (wa (o)) 0 .ow none], 1⟩⟩) (fun cf => by kernel_rfl) ?_
    refine ev_block ?_
    have hm := macI_ok (i := i) ha hb b.length 0 0 o hoo (by decide)
    have hml := macI_len a b i b.length 0 0 o
    refine mulin_loop (a := a) (b := b) (n := n) (i := i) _ _ _ _ _ _ _ _ _ _ _ _ _ _ _ _ _ _ _ _ hx hy ha hb hn (by omega) hl b.length 0 0 o _ _ _ _ _ _ _ _ _ _ _ _ _ _ _ _ _ _ _ _ _ _ _ _ _ _ _ _ _ _ _ _ _ _ _ _ _ _ (by omega) hoo ho (by decide) fun v9 v22 v23 v24 v25 v26 v27 v28 v29 v30 v31 v32 v33 v34 v35 v36 v37 v38 v39 v40 v41 v42 v43 v44 v45 v46 v47 v48 v49 v50 v51 v52 v53 v54 v55 v56 v57 v58 => ?_
    refine ev_reg (by kernel_rfl) ?_
    refine rs_up 3 [(59, .own 0 0 0 n 1 (some n)), (60, J (i : Int)), (61, .d y)] (fun cf => by kernel_rfl) ?_
    refine rs_cl (fun m9 => lenA Try.cx 32 m9 (.d y)) (some 62) (b.length) (fun cf => by kernel_rfl) (len_ws hy) ?_
    refine rs_up 1 [(63, J (IntKind.wrap .i64 ((i : Int) + (b.length : Int))))] (fun cf => by kernel_rfl) ?_
    rw [addI (a := (i : Int)) (b := (b.length : Int)) (A := i) (B := b.length) (by rfl) (by rfl) (by omega)]
    refine rs_up 2 [(64, intA .u64 (((macI a b i b.length 0 0 o).2 : Nat) : Int)), (65, intA .u32 (IntKind.wrap .u32 (((macI a b i b.length 0 0 o).2 : Nat) : Int)))] (fun cf => by kernel_rfl) ?_
    rw [wrapW (n := (macI a b i b.length 0 0 o).2) (hm.2)]
    refine rs_cv (fun m9 => indexAddrA Try.cx 32 m9 (.own 0 0 0 n 1 (some n)) (J ((i + b.length : Nat) : Int))) (some 66) (.ptr 0 0 (i + b.length)) (fun cf => by kernel_rfl) (idx_own (k := i + b.length) (by rfl) (row_at rfl) (by omega)) ?_
    refine rs_cu (fun m9 => storeA Try.cx 22 m9 (.ptr 0 0 (i + b.length)) (intA .u32 (((macI a b i b.length 0 0 o).2 : Nat) : Int))) none ⟨[.row (wa (((macI a b i b.length 0 0 o).1).set (i + b.length) ((macI a b i b.length 0 0 o).2))) 0 .ow none], 1⟩ (fun cf => by kernel_rfl) (store_own (v := (macI a b i b.length 0 0 o).2) rfl (by omega)) ?_
    refine rs_alu [] (fun cf => by kernel_rfl) ?_
    refine ev_reg (by kernel_rfl) ?_
    refine rs_up 2 [(20, J (i : Int)), (21, J (IntKind.wrap .i64 ((i : Int) + 1)))] (fun cf => by kernel_rfl) ?_
    rw [addI (a := (i : Int)) (b := 1) (A := i) (B := 1) (by rfl) (by rfl) (by omega)]
    refine rs_all (s1 := ⟨[.d x, .d y, U, U, .d (.v (.slice none 0 0)), .own 0 0 0 n 1 (some n), J ((i + 1 : Nat) : Int), intA .u64 (((macI a b i b.length 0 0 o).2 : Nat) : Int), J (b.length : Int), v9, x10, x11, x12, x13, x14, x15, J (i : Int), .d x, J (a.length : Int), Yes, J (i : Int), J ((i + 1 : Nat) : Int), v22, v23, v24, v25, v26, v27, v28, v29, v30, v31, v32, v33, v34, v35, v36, v37, v38, v39, v40, v41, v42, v43, v44, v45, v46, v47, v48, v49, v50, v51, v52, v53, v54, v55, v56, v57, v58, .own 0 0 0 n 1 (some n), J (i : Int), .d y, J (b.length : Int), J ((i + b.length : Nat) : Int), intA .u64 (((macI a b i b.length 0 0 o).2 : Nat) : Int), intA .u32 (((macI a b i b.length 0 0 o).2 : Nat) : Int), .ptr 0 0 (i + b.length), U, U], ⟨[.row (wa (((macI a b i b.length 0 0 o).1).set (i + b.length) ((macI a b i b.length 0 0 o).2))) 0 .ow none], 1⟩⟩) (fun cf => by kernel_rfl) ?_
    exact h1 (by omega) _ _ _ _ _ _ _ _ _ _ _ _ _ _ _ _ _ _ _ _ _ _ _ _ _ _ _ _ _ _ _ _ _ _ _ _ _ _ _ _ _ _ _ _ _ _ _ _ _ _ _ _ _ _

theorem mulout_loop {K : Out → St → Prop} {a b : List Nat} {x y : D} {n : Nat} (x10 x11 x12 x13 x14 x15 : AV) (hx : Ws a x) (hy : Ws b y) (ha : Ok a) (hb : Ok b) (hn : n < 1000000000) (hl : a.length + b.length = n) :
    ∀ (r i : Nat) (o : List Nat) (z7 z8 z9 z16 z17 z18 z19 z20 z21 z22 z23 z24 z25 z26 z27 z28 z29 z30 z31 z32 z33 z34 z35 z36 z37 z38 z39 z40 z41 z42 z43 z44 z45 z46 z47 z48 z49 z50 z51 z52 z53 z54 z55 z56 z57 z58 z59 z60 z61 z62 z63 z64 z65 z66 : AV) (he : i + r = a.length) (hoo : Ok o) (ho : o.length = n) (h : ∀ (z7 z8 z9 z16 z17 z18 z19 z20 z21 z22 z23 z24 z25 z26 z27 z28 z29 z30 z31 z32 z33 z34 z35 z36 z37 z38 z39 z40 z41 z42 z43 z44 z45 z46 z47 z48 z49 z50 z51 z52 z53 z54 z55 z56 z57 z58 z59 z60 z61 z62 z63 z64 z65 z66 : AV), K (.exit 0) ⟨[.d x, .d y, U, U, .d (.v (.slice none 0 0)), .own 0 0 0 n 1 (some n), J (a.length : Int), z7, z8, z9, x10, x11, x12, x13, x14, x15, z16, z17, z18, z19, z20, z21, z22, z23, z24, z25, z26, z27, z28, z29, z30, z31, z32, z33, z34, z35, z36, z37, z38, z39, z40, z41, z42, z43, z44, z45, z46, z47, z48, z49, z50, z51, z52, z53, z54, z55, z56, z57, z58, z59, z60, z61, z62, z63, z64, z65, z66, U, U], ⟨[.row (wa (mulO a b r i o)) 0 .ow none], 1⟩⟩), EvK Try.cx 49 (.loop mulOutC) ⟨[.d x, .d y, U, U, .d (.v (.slice none 0 0)), .own 0 0 0 n 1 (some n), J (i : Int), z7, z8, z9, x10, x11, x12, x13, x14, x15, z16, z17, z18, z19, z20, z21, z22, z23, z24, z25, z26, z27, z28, z29, z30, z31, z32, z33, z34, z35, z36, z37, z38, z39, z40, z41, z42, z43, z44, z45, z46, z47, z48, z49, z50, z51, z52, z53, z54, z55, z56, z57, z58, z59, z60, z61, z62, z63, z64, z65, z66, U, U], ⟨[.row (wa (o)) 0 .ow none], 1⟩⟩ K
  | 0, i, o, z7, z8, z9, z16, z17, z18, z19, z20, z21, z22, z23, z24, z25, z26, z27, z28, z29, z30, z31, z32, z33, z34, z35, z36, z37, z38, z39, z40, z41, z42, z43, z44, z45, z46, z47, z48, z49, z50, z51, z52, z53, z54, z55, z56, z57, z58, z59, z60, z61, z62, z63, z64, z65, z66, he, hoo, ho, h => by
    have hk : i = a.length := by omega
    subst hk
    exact mulout_round x10 x11 x12 x13 x14 x15 hx hy ha hb hoo hn ho hl z7 z8 z9 z16 z17 z18 z19 z20 z21 z22 z23 z24 z25 z26 z27 z28 z29 z30 z31 z32 z33 z34 z35 z36 z37 z38 z39 z40 z41 z42 z43 z44 z45 z46 z47 z48 z49 z50 z51 z52 z53 z54 z55 z56 z57 z58 z59 z60 z61 z62 z63 z64 z65 z66 (fun _ => h) fun h1 => by omega
  | r + 1, i, o, z7, z8, z9, z16, z17, z18, z19, z20, z21, z22, z23, z24, z25, z26, z27, z28, z29, z30, z31, z32, z33, z34, z35, z36, z37, z38, z39, z40, z41, z42, z43, z44, z45, z46, z47, z48, z49, z50, z51, z52, z53, z54, z55, z56, z57, z58, z59, z60, z61, z62, z63, z64, z65, z66, he, hoo, ho, h => by
    have hm := macI_ok (i := i) ha hb b.length 0 0 o hoo (by decide)
    refine mulout_round x10 x11 x12 x13 x14 x15 hx hy ha hb hoo hn ho hl z7 z8 z9 z16 z17 z18 z19 z20 z21 z22 z23 z24 z25 z26 z27 z28 z29 z30 z31 z32 z33 z34 z35 z36 z37 z38 z39 z40 z41 z42 z43 z44 z45 z46 z47 z48 z49 z50 z51 z52 z53 z54 z55 z56 z57 z58 z59 z60 z61 z62 z63 z64 z65 z66 (fun h0 => by omega) fun _ z7 z8 z9 z16 z17 z18 z19 z20 z21 z22 z23 z24 z25 z26 z27 z28 z29 z30 z31 z32 z33 z34 z35 z36 z37 z38 z39 z40 z41 z42 z43 z44 z45 z46 z47 z48 z49 z50 z51 z52 z53 z54 z55 z56 z57 z58 z59 z60 z61 z62 z63 z64 z65 z66 => ?_
    refine mulout_loop x10 x11 x12 x13 x14 x15 hx hy ha hb hn hl r (i + 1) _ z7 z8 z9 z16 z17 z18 z19 z20 z21 z22 z23 z24 z25 z26 z27 z28 z29 z30 z31 z32 z33 z34 z35 z36 z37 z38 z39 z40 z41 z42 z43 z44 z45 z46 z47 z48 z49 z50 z51 z52 z53 z54 z55 z56 z57 z58 z59 z60 z61 z62 z63 z64 z65 z66 (by omega) (ok_set hm.1 hm.2) (by simp [macI_len, ho]) ?_
    rw [mulO] at h
    exact h

theorem g_times {a b : List Nat} {x y : D} (hx : Ws a x) (hy : Ws b y) (ha : Ok a) (hb : Ok b) (hl : a.length < 100000000) (hm : b.length < 100000000) : ∃ res : D, (fun y => Ws (timesL a b) y) res ∧ Gets Try.cx 49 [.d x, .d y] ((fun y => .d y) res) := by
  refine gets_some (fn := Try.f49) (fun y => Ws (timesL a b) y) (fun y => .d y) (by kernel_rfl) rfl ?_
  show EvK _ _ _ ⟨[.d x, .d y] ++ us 67, ⟨[], 0⟩⟩ _
  refine ev_seq ?_
  refine ev_reg (by kernel_rfl) ?_
  refine rs_alu [(4, .d (.v (.slice none 0 0)))] (fun cf => by kernel_rfl) ?_
  refine ev_seq ?_
  refine ev_reg (by kernel_rfl) ?_
  refine rs_up 1 [(10, .d x)] (fun cf => by kernel_rfl) ?_
  refine rs_cl (fun m9 => lenA Try.cx 32 m9 (.d x)) (some 11) (a.length) (fun cf => by kernel_rfl) (len_ws hx) ?_
  refine rs_up 1 [(12, .d y)] (fun cf => by kernel_rfl) ?_
  refine rs_cl (fun m9 => lenA Try.cx 32 m9 (.d y)) (some 13) (b.length) (fun cf => by kernel_rfl) (len_ws hy) ?_
  refine rs_up 1 [(14, J (IntKind.wrap .i64 ((a.length : Int) + (b.length : Int))))] (fun cf => by kernel_rfl) ?_
  rw [addI (a := (a.length : Int)) (b := (b.length : Int)) (A := a.length) (B := b.length) (by rfl) (by rfl) (by omega)]
  refine rs_co (fun m9 => opA Try.cx (fun _ => false) [J ((a.length + b.length : Nat) : Int)] m9 ⟨none, .makeSlice 32 (.tmp 0) (.tmp 0), 0, "", #[], none⟩) (some 15) (.own 0 0 0 (a.length + b.length) 1 (some (a.length + b.length))) ⟨[.row (wa (List.replicate (a.length + b.length) 0)) 0 .ow none], 1⟩ (fun cf => by kernel_rfl) (make_ws (k := a.length + b.length) (by rfl) (by omega)) ?_
  refine rs_alu [(5, .own 0 0 0 (a.length + b.length) 1 (some (a.length + b.length)))] (fun cf => by kernel_rfl) ?_
  refine ev_seq ?_
  refine ev_seq ?_
  refine ev_reg (by kernel_rfl) ?_
  refine rs_all (s1 := ⟨[.d x, .d y, U, U, .d (.v (.slice none 0 0)), .own 0 0 0 (a.length + b.length) 1 (some (a.length + b.length)), J 0] ++ us 3 ++ [.d x, J (a.length : Int), .d y, J (b.length : Int), J ((a.length + b.length : Nat) : Int), .own 0 0 0 (a.length + b.length) 1 (some (a.length + b.length))] ++ us 53, ⟨[.row (wa (List.replicate (a.length + b.length) 0)) 0 .ow none], 1⟩⟩) (fun cf => by kernel_rfl) ?_
  refine ev_block ?_
  refine mulout_loop _ _ _ _ _ _ hx hy ha hb (by omega) rfl a.length 0 _ _ _ _ _ _ _ _ _ _ _ _ _ _ _ _ _ _ _ _ _ _ _ _ _ _ _ _ _ _ _ _ _ _ _ _ _ _ _ _ _ _ _ _ _ _ _ _ _ _ _ _ _ _ _ (by omega) (ok_zeros _) (by simp) fun v7 v8 v9 v16 v17 v18 v19 v20 v21 v22 v23 v24 v25 v26 v27 v28 v29 v30 v31 v32 v33 v34 v35 v36 v37 v38 v39 v40 v41 v42 v43 v44 v45 v46 v47 v48 v49 v50 v51 v52 v53 v54 v55 v56 v57 v58 v59 v60 v61 v62 v63 v64 v65 v66 => ?_
  have hlen : (mulO a b a.length 0 (List.replicate (a.length + b.length) 0)).length = a.length + b.length := by rw [mulO_len, List.length_replicate]
  refine ev_seq ?_
  refine ev_reg (by kernel_rfl) ?_
  refine rs_up 1 [(67, .own 0 0 0 (a.length + b.length) 1 (some (a.length + b.length)))] (fun cf => by kernel_rfl) ?_
  refine rs_take 0 (s1 := ⟨[.d x, .d y, U, U, .d (.v (.slice none 0 0)), .own 0 0 0 (a.length + b.length) 1 (some (a.length + b.length)), J (a.length : Int), v7, v8, v9, .d x, J (a.length : Int), .d y, J (b.length : Int), J ((a.length + b.length : Nat) : Int), .own 0 0 0 (a.length + b.length) 1 (some (a.length + b.length)), v16, v17, v18, v19, v20, v21, v22, v23, v24, v25, v26, v27, v28, v29, v30, v31, v32, v33, v34, v35, v36, v37, v38, v39, v40, v41, v42, v43, v44, v45, v46, v47, v48, v49, v50, v51, v52, v53, v54, v55, v56, v57, v58, v59, v60, v61, v62, v63, v64, v65, v66, .own 0 0 0 (a.length + b.length) 1 (some (a.length + b.length)), U], ⟨[.row (wa (mulO a b a.length 0 (List.replicate (a.length + b.length) 0))) 0 .ow none], 1⟩⟩) (fun cf => by kernel_rfl) ?_
  obtain ⟨y1, hy1, gy1⟩ := g_trim (ws_sl false (mulO a b a.length 0 (List.replicate (a.length + b.length) 0))) (by first | decide | omega)
  refine rs_frz (g := 74) (bs := [.d (.sl false (mulO a b a.length 0 (List.replicate (a.length + b.length) 0)).length (wd (mulO a b a.length 0 (List.replicate (a.length + b.length) 0))))]) (ow := true) (r := .d y1) (Eq.trans (b := match mapO (snapA (⟨[.row (wa (mulO a b a.length 0 (List.replicate (a.length + b.length) 0))) 0 .ow none], 1⟩ : Mem)) [.own 0 0 0 (a.length + b.length) 1 (some (a.length + b.length))] with | some bs => some (74, bs, true) | none => none) (by kernel_rfl) (by rw [mapO_one (snap_own (l := mulO a b a.length 0 (List.replicate (a.length + b.length) 0)) (row_at rfl) (by omega))])) (gy1) fun m1 hEm1 _ => ?_
  show RS _ _ _ _ _ ⟨[.d x, .d y, U, U, .d (.v (.slice none 0 0)), .own 0 0 0 (a.length + b.length) 1 (some (a.length + b.length)), J (a.length : Int), v7, v8, v9, .d x, J (a.length : Int), .d y, J (b.length : Int), J ((a.length + b.length : Nat) : Int), .own 0 0 0 (a.length + b.length) 1 (some (a.length + b.length)), v16, v17, v18, v19, v20, v21, v22, v23, v24, v25, v26, v27, v28, v29, v30, v31, v32, v33, v34, v35, v36, v37, v38, v39, v40, v41, v42, v43, v44, v45, v46, v47, v48, v49, v50, v51, v52, v53, v54, v55, v56, v57, v58, v59, v60, v61, v62, v63, v64, v65, v66, .own 0 0 0 (a.length + b.length) 1 (some (a.length + b.length)), .d y1], m1⟩ _
  refine rs_all (s1 := ⟨[.d x, .d y, U, U, .d y1, .own 0 0 0 (a.length + b.length) 1 (some (a.length + b.length)), J (a.length : Int), v7, v8, v9, .d x, J (a.length : Int), .d y, J (b.length : Int), J ((a.length + b.length : Nat) : Int), .own 0 0 0 (a.length + b.length) 1 (some (a.length + b.length)), v16, v17, v18, v19, v20, v21, v22, v23, v24, v25, v26, v27, v28, v29, v30, v31, v32, v33, v34, v35, v36, v37, v38, v39, v40, v41, v42, v43, v44, v45, v46, v47, v48, v49, v50, v51, v52, v53, v54, v55, v56, v57, v58, v59, v60, v61, v62, v63, v64, v65, v66, .own 0 0 0 (a.length + b.length) 1 (some (a.length + b.length)), .d y1], m1⟩) (fun cf => by kernel_rfl) ?_
  refine ev_ret ?_
  exact ⟨y1, hy1, .inr rfl, .d y1, by kernel_rfl, by kernel_rfl⟩

end Go.Proofs.Ytgkjdfojogemhaa.W
