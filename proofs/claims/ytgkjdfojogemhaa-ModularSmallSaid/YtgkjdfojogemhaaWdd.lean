/-
  The reference: products of words. Made by program. Conditions: none.
-/
import Derived.Test.YtgkjdfojogemhaaWdc
set_option maxRecDepth 100000
set_option maxHeartbeats 20000000
set_option linter.unusedSimpArgs false
set_option linter.unusedVariables false
namespace Go.Proofs.Ytgkjdfojogemhaa.W
open Go.Am
theorem getD_set_ne {l : List Nat} {j k v : Nat} (h : j ≠ k) : (l.set j v).getD k 0 = l.getD k 0 := by
  rw [List.getD_eq_getElem?_getD, List.getElem?_set_ne h, ← List.getD_eq_getElem?_getD]
theorem val_set : ∀ {l : List Nat} {j v : Nat}, j < l.length → val (l.set j v) + l.getD j 0 * 4294967296 ^ j = val l + v * 4294967296 ^ j
  | [], j, v, h => absurd h (Nat.not_lt_zero _)
  | a :: l, 0, v, h => by simp [val]; omega
  | a :: l, j + 1, v, h => by
    have ih := val_set (l := l) (j := j) (v := v) (by simpa using h)
    simp only [List.set_cons_succ, val, List.getD_cons_succ]
    rw [Nat.pow_succ, ← Nat.mul_assoc, ← Nat.mul_assoc]
    omega
theorem mulB {a b : Nat} (ha : a < 4294967296) (hb : b < 4294967296) : a * b ≤ 18446744065119617025 := by
  have := Nat.mul_le_mul (Nat.le_of_lt_succ ha) (Nat.le_of_lt_succ hb)
  omega
def macI (a b : List Nat) (i : Nat) : Nat → Nat → Nat → List Nat → List Nat × Nat
  | 0, _, c, o => (o, c)
  | r + 1, k, c, o => macI a b i r (k + 1) ((a.getD i 0 * b.getD k 0 + o.getD (i + k) 0 + c) / 4294967296) (o.set (i + k) ((a.getD i 0 * b.getD k 0 + o.getD (i + k) 0 + c) % 4294967296))
theorem macI_len (a b : List Nat) (i : Nat) : ∀ r k c o, (macI a b i r k c o).1.length = o.length
  | 0, _, _, _ => rfl
  | r + 1, k, c, o => by simp only [macI]; rw [macI_len a b i r]; simp
theorem macI_ok {a b : List Nat} {i : Nat} (ha : Ok a) (hb : Ok b) : ∀ r k c o, Ok o → c < 4294967296 → Ok (macI a b i r k c o).1 ∧ (macI a b i r k c o).2 < 4294967296
  | 0, _, _, _, ho, hc => ⟨ho, hc⟩
  | r + 1, k, c, o, ho, hc => by
    have h1 := mulB (ha i) (hb k)
    have h2 := ho (i + k)
    simp only [macI]
    exact macI_ok ha hb r (k + 1) _ _ (ok_set ho (Nat.mod_lt _ (by decide))) (by omega)
theorem macI_far (a b : List Nat) (i : Nat) : ∀ r k c o j, i + k + r ≤ j → (macI a b i r k c o).1.getD j 0 = o.getD j 0
  | 0, _, _, _, _, _ => rfl
  | r + 1, k, c, o, j, h => by
    simp only [macI]
    rw [macI_far a b i r (k + 1) _ _ j (by omega), getD_set_ne (by omega)]
theorem mul_alg {V O w m t B q X A : Nat} (h1 : V + O * m = X + w * m) (hdm : B * q + w = A + O + t) : V + q * (m * B) = X + A * m + t * m := by
  have e : B * q * m + w * m = A * m + O * m + t * m := by rw [← Nat.add_mul, hdm, Nat.add_mul, Nat.add_mul]
  have e2 : q * (m * B) = B * q * m := by rw [Nat.mul_comm m B, ← Nat.mul_assoc, Nat.mul_comm q B]
  omega
theorem macI_val (a b : List Nat) (i : Nat) : ∀ r k c o, i + k + r ≤ o.length → val (macI a b i r k c o).1 + (macI a b i r k c o).2 * 4294967296 ^ (i + k + r) = val o + a.getD i 0 * vF b k r * 4294967296 ^ (i + k) + c * 4294967296 ^ (i + k)
  | 0, k, c, o, h => by simp [macI, vF]
  | r + 1, k, c, o, h => by
    have ih := macI_val a b i r (k + 1) ((a.getD i 0 * b.getD k 0 + o.getD (i + k) 0 + c) / 4294967296) (o.set (i + k) ((a.getD i 0 * b.getD k 0 + o.getD (i + k) 0 + c) % 4294967296)) (by simp; omega)
    have h1 := val_set (l := o) (j := i + k) (v := (a.getD i 0 * b.getD k 0 + o.getD (i + k) 0 + c) % 4294967296) (by omega)
    have h2 := mul_alg h1 (Nat.div_add_mod (a.getD i 0 * b.getD k 0 + o.getD (i + k) 0 + c) 4294967296)
    have e : macI a b i (r + 1) k c o = macI a b i r (k + 1) ((a.getD i 0 * b.getD k 0 + o.getD (i + k) 0 + c) / 4294967296) (o.set (i + k) ((a.getD i 0 * b.getD k 0 + o.getD (i + k) 0 + c) % 4294967296)) := by rw [macI]
    rw [e, show i + k + (r + 1) = i + (k + 1) + r by omega, ih, show i + (k + 1) = i + k + 1 by omega, Nat.pow_succ, vF, Nat.mul_add]
    have e2 : a.getD i 0 * (4294967296 * vF b (k + 1) r) * 4294967296 ^ (i + k) = a.getD i 0 * vF b (k + 1) r * (4294967296 ^ (i + k) * 4294967296) := by
      rw [Nat.mul_left_comm, Nat.mul_comm 4294967296, Nat.mul_assoc, Nat.mul_comm 4294967296]
    rw [Nat.add_mul, e2]
    omega
theorem mul4 {B A V P : Nat} : B * A * V * P = A * V * (P * B) := by
  rw [Nat.mul_comm B A, Nat.mul_assoc A B V, Nat.mul_comm B V, ← Nat.mul_assoc A V B, Nat.mul_assoc (A * V) B P, Nat.mul_comm B P]
def mulO (a b : List Nat) : Nat → Nat → List Nat → List Nat
  | 0, _, o => o
  | r + 1, i, o => mulO a b r (i + 1) ((macI a b i b.length 0 0 o).1.set (i + b.length) (macI a b i b.length 0 0 o).2)
theorem mulO_len (a b : List Nat) : ∀ r i o, (mulO a b r i o).length = o.length
  | 0, _, _ => rfl
  | r + 1, i, o => by simp only [mulO]; rw [mulO_len a b r]; simp [macI_len]
theorem mulO_ok {a b : List Nat} (ha : Ok a) (hb : Ok b) : ∀ r i o, Ok o → Ok (mulO a b r i o)
  | 0, _, _, h => h
  | r + 1, i, o, h => by
    have h1 := macI_ok (i := i) ha hb b.length 0 0 o h (by decide)
    simp only [mulO]
    exact mulO_ok ha hb r _ _ (ok_set h1.1 h1.2)
theorem mulO_val (a b : List Nat) : ∀ r i o, i + r + b.length ≤ o.length → (∀ j, i + b.length ≤ j → o.getD j 0 = 0) → val (mulO a b r i o) = val o + vF a i r * val b * 4294967296 ^ i
  | 0, i, o, _, _ => by simp [mulO, vF]
  | r + 1, i, o, hl, hz => by
    have h1 := macI_val a b i b.length 0 0 o (by omega)
    rw [vF_val (Nat.le_refl _), Nat.zero_mul, Nat.add_zero, Nat.add_zero] at h1
    have h2 := val_set (l := (macI a b i b.length 0 0 o).1) (j := i + b.length) (v := (macI a b i b.length 0 0 o).2) (by rw [macI_len]; omega)
    rw [macI_far a b i b.length 0 0 o _ (by omega), hz _ (Nat.le_refl _), Nat.zero_mul, Nat.add_zero] at h2
    have ih := mulO_val a b r (i + 1) ((macI a b i b.length 0 0 o).1.set (i + b.length) (macI a b i b.length 0 0 o).2) (by simp [macI_len]; omega) fun j hj => by
      rw [getD_set_ne (by omega), macI_far a b i b.length 0 0 o _ (by omega), hz j (by omega)]
    rw [mulO, ih, h2, h1, vF, Nat.pow_succ, Nat.add_mul, Nat.add_mul]
    have e : 4294967296 * vF a (i + 1) r * val b * 4294967296 ^ i = vF a (i + 1) r * val b * (4294967296 ^ i * 4294967296) := mul4
    omega
def timesL (a b : List Nat) : List Nat := trimL (mulO a b a.length 0 (List.replicate (a.length + b.length) 0))
theorem val_zeros : ∀ n, val (List.replicate n 0) = 0
  | 0 => rfl
  | n + 1 => by rw [List.replicate_succ, val, val_zeros n]
theorem timesL_val (a b : List Nat) : val (timesL a b) = val a * val b := by
  unfold timesL
  rw [val_trim, mulO_val a b _ _ _ (by simp) (fun j _ => by rw [List.getD_eq_getElem?_getD, List.getElem?_replicate]; split <;> rfl), val_zeros, vF_val (Nat.le_refl _)]
  simp
theorem timesL_ok {a b : List Nat} (ha : Ok a) (hb : Ok b) : Ok (timesL a b) := ok_trim (mulO_ok ha hb _ _ _ (ok_zeros _))
theorem timesL_nrm (a b : List Nat) : Nrm (timesL a b) := nrm_trim _
theorem timesL_len (a b : List Nat) : (timesL a b).length ≤ a.length + b.length := by
  have := len_trim (mulO a b a.length 0 (List.replicate (a.length + b.length) 0))
  rw [mulO_len, List.length_replicate] at this
  exact this
end Go.Proofs.Ytgkjdfojogemhaa.W
