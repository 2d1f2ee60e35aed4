/-
  The reference: sums, differences, products and short quotients of words. Made by program. Conditions: none.
-/
import Derived.Test.YtgkjdfojogemhaaWdb
set_option maxRecDepth 100000
set_option maxHeartbeats 20000000
set_option linter.unusedSimpArgs false
set_option linter.unusedVariables false
namespace Go.Proofs.Ytgkjdfojogemhaa.W
open Go.Am
theorem set_snoc (p : List Nat) (v z : Nat) (q : List Nat) : (p ++ z :: q).set p.length v = (p ++ [v]) ++ q := by
  rw [List.set_append_right _ _ (Nat.le_refl _), Nat.sub_self]
  simp
def vF (a : List Nat) : Nat → Nat → Nat
  | _, 0 => 0
  | i, r + 1 => a.getD i 0 + 4294967296 * vF a (i + 1) r
theorem vF_out (a : List Nat) : ∀ (r i : Nat), a.length ≤ i → vF a i r = 0
  | 0, _, _ => rfl
  | r + 1, i, h => by simp only [vF]; rw [getD_out h, vF_out a r (i + 1) (by omega)]
theorem vF_drop (a : List Nat) : ∀ (r i : Nat), a.length ≤ i + r → vF a i r = val (a.drop i)
  | 0, i, h => by rw [List.drop_eq_nil_of_le (by omega)]; rfl
  | r + 1, i, h => by
    simp only [vF]
    by_cases hi : i < a.length
    · rw [vF_drop a r (i + 1) (by omega), List.drop_eq_getElem_cons hi, val, List.getD_eq_getElem?_getD, List.getElem?_eq_getElem hi]
      rfl
    · rw [getD_out (by omega), vF_out a r (i + 1) (by omega), List.drop_eq_nil_of_le (by omega)]
      rfl
theorem vF_val {a : List Nat} {r : Nat} (h : a.length ≤ r) : vF a 0 r = val a := by rw [vF_drop a r 0 (by omega), List.drop_zero]
theorem vF_lt {a : List Nat} (ha : Ok a) : ∀ (r i : Nat), vF a i r < 4294967296 ^ r
  | 0, _ => by simp [vF]
  | r + 1, i => by
    have h1 := vF_lt ha r (i + 1)
    have h2 := ha i
    simp only [vF]
    rw [Nat.pow_succ]
    omega
theorem val_lt : ∀ {l : List Nat}, Ok l → val l < 4294967296 ^ l.length
  | [], _ => by simp [val]
  | a :: l, h => by
    have h1 := val_lt (ok_tail h)
    have h2 := ok_head h
    simp only [val, List.length_cons]
    rw [Nat.pow_succ]
    omega
theorem mod_step {t y m : Nat} : (t + 4294967296 * y) % (m * 4294967296) = t % 4294967296 + 4294967296 * ((y + t / 4294967296) % m) := by
  rw [Nat.mul_comm m, Nat.mod_mul]
  congr 1
  · omega
  · congr 2; omega
def sumW (a b : List Nat) : Nat → Nat → Nat → List Nat
  | 0, _, _ => []
  | r + 1, i, c => (a.getD i 0 + b.getD i 0 + c) % 4294967296 :: sumW a b r (i + 1) ((a.getD i 0 + b.getD i 0 + c) / 4294967296)
theorem sumW_val (a b : List Nat) : ∀ (r i c : Nat), val (sumW a b r i c) = (vF a i r + vF b i r + c) % 4294967296 ^ r
  | 0, i, c => by simp [sumW, val, Nat.mod_one]
  | r + 1, i, c => by
    simp only [sumW, val, vF]
    rw [sumW_val a b r (i + 1), Nat.pow_succ, show a.getD i 0 + 4294967296 * vF a (i + 1) r + (b.getD i 0 + 4294967296 * vF b (i + 1) r) + c = (a.getD i 0 + b.getD i 0 + c) + 4294967296 * (vF a (i + 1) r + vF b (i + 1) r) by omega, mod_step]
theorem sumW_ok (a b : List Nat) : ∀ (r i c : Nat), Ok (sumW a b r i c)
  | 0, _, _ => ok_nil
  | r + 1, i, c => ok_cons (Nat.mod_lt _ (by decide)) (sumW_ok a b r _ _)
theorem sumW_len (a b : List Nat) : ∀ (r i c : Nat), (sumW a b r i c).length = r
  | 0, _, _ => rfl
  | r + 1, i, c => by simp [sumW, sumW_len a b r]
def addL (a b : List Nat) : List Nat := trimL (sumW a b (max a.length b.length + 1) 0 0)
theorem addL_val {a b : List Nat} (ha : Ok a) (hb : Ok b) : val (addL a b) = val a + val b := by
  unfold addL
  rw [val_trim, sumW_val, vF_val (by omega), vF_val (by omega), Nat.add_zero]
  refine Nat.mod_eq_of_lt ?_
  have h1 := val_lt ha
  have h2 := val_lt hb
  have h3 : 4294967296 ^ a.length ≤ 4294967296 ^ max a.length b.length := Nat.pow_le_pow_right (by decide) (by omega)
  have h4 : 4294967296 ^ b.length ≤ 4294967296 ^ max a.length b.length := Nat.pow_le_pow_right (by decide) (by omega)
  rw [Nat.pow_succ]
  omega
theorem addL_ok (a b : List Nat) : Ok (addL a b) := ok_trim (sumW_ok a b _ _ _)
theorem addL_nrm (a b : List Nat) : Nrm (addL a b) := nrm_trim _
theorem addL_len (a b : List Nat) : (addL a b).length ≤ max a.length b.length + 1 := by
  have := len_trim (sumW a b (max a.length b.length + 1) 0 0)
  rw [sumW_len] at this
  exact this
def difW (a b : List Nat) : Nat → Nat → Nat → List Nat
  | 0, _, _ => []
  | r + 1, i, c => (4294967296 + a.getD i 0 - b.getD i 0 - c) % 4294967296 :: difW a b r (i + 1) (1 - (4294967296 + a.getD i 0 - b.getD i 0 - c) / 4294967296)
theorem difW_val {a b : List Nat} (ha : Ok a) (hb : Ok b) : ∀ (r i c : Nat), c ≤ 1 → ∃ e, val (difW a b r i c) + vF b i r + c = vF a i r + 4294967296 ^ r * e
  | 0, i, c, hc => ⟨c, by simp [difW, val, vF]⟩
  | r + 1, i, c, hc => by
    have h1 := ha i
    have h2 := hb i
    obtain ⟨e, he⟩ := difW_val ha hb r (i + 1) (1 - (4294967296 + a.getD i 0 - b.getD i 0 - c) / 4294967296) (by omega)
    refine ⟨e, ?_⟩
    simp only [difW, val, vF]
    rw [Nat.pow_succ, Nat.mul_comm (4294967296 ^ r) 4294967296, Nat.mul_assoc]
    omega
theorem difW_ok (a b : List Nat) : ∀ (r i c : Nat), Ok (difW a b r i c)
  | 0, _, _ => ok_nil
  | r + 1, i, c => ok_cons (Nat.mod_lt _ (by decide)) (difW_ok a b r _ _)
theorem difW_len (a b : List Nat) : ∀ (r i c : Nat), (difW a b r i c).length = r
  | 0, _, _ => rfl
  | r + 1, i, c => by simp [difW, difW_len a b r]
def subL (a b : List Nat) : List Nat := trimL (difW a b a.length 0 0)
theorem subL_ok (a b : List Nat) : Ok (subL a b) := ok_trim (difW_ok a b _ _ _)
theorem subL_len (a b : List Nat) : (subL a b).length ≤ a.length := by
  have := len_trim (difW a b a.length 0 0)
  rw [difW_len] at this
  exact this
theorem subL_val {a b : List Nat} (ha : Ok a) (hb : Ok b) (hl : b.length ≤ a.length) (h : val b ≤ val a) : val (subL a b) = val a - val b := by
  unfold subL
  rw [val_trim]
  obtain ⟨e, he⟩ := difW_val ha hb a.length 0 0 (by decide)
  rw [vF_val (Nat.le_refl _), vF_val hl] at he
  have h1 := val_lt (difW_ok a b a.length 0 0)
  rw [difW_len] at h1
  have he0 : e = 0 := by
    cases e with
    | zero => rfl
    | succ e =>
      have : 4294967296 ^ a.length * (e + 1) = 4294967296 ^ a.length * e + 4294967296 ^ a.length := Nat.mul_succ _ _
      omega
  rw [he0] at he
  omega
def shW (a : List Nat) (d : Nat) : Nat → Nat → List Nat
  | 0, _ => []
  | n + 1, r => shW a d n ((r * 4294967296 + a.getD n 0) % d) ++ [(r * 4294967296 + a.getD n 0) / d]
def shR (a : List Nat) (d n r : Nat) : Nat := (r * 4294967296 ^ n + vF a 0 n) % d
theorem shW_len (a : List Nat) (d : Nat) : ∀ n r, (shW a d n r).length = n
  | 0, _ => rfl
  | n + 1, r => by simp [shW, shW_len a d n]
theorem val_append : ∀ (l m : List Nat), val (l ++ m) = val l + 4294967296 ^ l.length * val m
  | [], m => by simp [val]
  | a :: l, m => by
    simp only [List.cons_append, val, List.length_cons, val_append l m]
    rw [Nat.pow_succ, Nat.mul_comm (4294967296 ^ l.length) 4294967296, Nat.mul_assoc]
    omega
theorem ok_append {l m : List Nat} (hl : Ok l) (hm : Ok m) : Ok (l ++ m) := fun k => by
  rw [List.getD_eq_getElem?_getD, List.getElem?_append]
  split
  · rw [← List.getD_eq_getElem?_getD]; exact hl k
  · rw [← List.getD_eq_getElem?_getD]; exact hm _
theorem vF_snoc (a : List Nat) : ∀ n i, vF a i (n + 1) = vF a i n + 4294967296 ^ n * a.getD (i + n) 0
  | 0, i => by simp [vF]
  | n + 1, i => by
    have h := vF_snoc a n (i + 1)
    rw [vF, h, vF, Nat.pow_succ, Nat.mul_comm (4294967296 ^ n) 4294967296, Nat.mul_assoc, show i + 1 + n = i + (n + 1) by omega, Nat.mul_add]
    omega
theorem sh_digit {r t d : Nat} (hr : r < d) (ht : t < 4294967296) : (r * 4294967296 + t) / d < 4294967296 := by
  rw [Nat.div_lt_iff_lt_mul (by omega)]
  have : (r + 1) * 4294967296 ≤ d * 4294967296 := Nat.mul_le_mul_right _ hr
  omega
theorem shW_ok {a : List Nat} {d : Nat} (ha : Ok a) (hd : 0 < d) : ∀ n r, r < d → Ok (shW a d n r)
  | 0, _, _ => ok_nil
  | n + 1, r, h => ok_append (shW_ok ha hd n _ (Nat.mod_lt _ hd)) (ok_cons (sh_digit h (ha n)) ok_nil)
theorem sh_alg {V R m F q s r t d B : Nat} (ih : V * d + R = s * m + F) (hdm : d * q + s = r * B + t) : (V + m * (q + B * 0)) * d + R = r * (m * B) + (F + m * t) := by
  have e1 : (V + m * (q + B * 0)) * d = V * d + m * (d * q) := by rw [Nat.mul_zero, Nat.add_zero, Nat.add_mul, Nat.mul_assoc, Nat.mul_comm q d]
  have e2 : m * (d * q) + s * m = m * (r * B + t) := by rw [← hdm, Nat.mul_add, Nat.mul_comm s m]
  have e3 : m * (r * B + t) = r * (m * B) + m * t := by rw [Nat.mul_add, Nat.mul_left_comm]
  omega
theorem sh_alg2 {m F r t B : Nat} : (r * B + t) * m + F = r * (m * B) + (F + m * t) := by
  rw [Nat.add_mul, Nat.mul_comm t m, Nat.mul_assoc, Nat.mul_comm B m]
  omega
theorem vF_top (a : List Nat) (n : Nat) : vF a 0 (n + 1) = vF a 0 n + 4294967296 ^ n * a.getD n 0 := by have := vF_snoc a n 0; rwa [Nat.zero_add] at this
theorem shR_succ (a : List Nat) (d n r : Nat) : shR a d n ((r * 4294967296 + a.getD n 0) % d) = shR a d (n + 1) r := by
  unfold shR
  rw [Nat.add_mod, Nat.mod_mul_mod, ← Nat.add_mod, vF_top, Nat.pow_succ, sh_alg2]
theorem sh_val (a : List Nat) {d : Nat} (hd : 0 < d) : ∀ n r, r < d → val (shW a d n r) * d + shR a d n r = r * 4294967296 ^ n + vF a 0 n
  | 0, r, hr => by
    have : shR a d 0 r = r := by unfold shR; rw [Nat.pow_zero, Nat.mul_one]; exact Nat.mod_eq_of_lt hr
    rw [this]
    simp [shW, val, vF]
  | n + 1, r, hr => by
    have ih := sh_val a hd n ((r * 4294967296 + a.getD n 0) % d) (Nat.mod_lt _ hd)
    have hdm := Nat.div_add_mod (r * 4294967296 + a.getD n 0) d
    have e1 : val (shW a d (n + 1) r) = val (shW a d n ((r * 4294967296 + a.getD n 0) % d)) + 4294967296 ^ n * ((r * 4294967296 + a.getD n 0) / d + 4294967296 * 0) := by
      rw [shW, val_append, shW_len, val, val]
    rw [shR_succ] at ih
    rw [e1, vF_top, Nat.pow_succ]
    exact sh_alg ih hdm
theorem shR_lt (a : List Nat) {d : Nat} (hd : 0 < d) (n r : Nat) : shR a d n r < d := Nat.mod_lt _ hd
theorem set_mid (n v : Nat) (q : List Nat) : (List.replicate (n + 1) 0 ++ q).set n v = List.replicate n 0 ++ (v :: q) := by
  have := set_snoc (List.replicate n 0) v 0 q
  rw [List.length_replicate] at this
  rw [List.replicate_succ', List.append_assoc]
  show (List.replicate n 0 ++ 0 :: q).set n v = _
  rw [this, List.append_assoc]
  rfl
def quoS (a : List Nat) (d : Nat) : List Nat := trimL (shW a d a.length 0)
theorem quoS_val {a : List Nat} {d : Nat} (hd : 0 < d) : val (quoS a d) = val a / d ∧ shR a d a.length 0 = val a % d := by
  have h := sh_val a hd a.length 0 hd
  rw [vF_val (Nat.le_refl _), Nat.zero_mul, Nat.zero_add] at h
  have hr := shR_lt a hd a.length 0
  unfold quoS
  rw [val_trim]
  have h2 : val a = d * val (shW a d a.length 0) + shR a d a.length 0 := by rw [Nat.mul_comm]; exact h.symm
  constructor
  · rw [h2, Nat.mul_add_div hd, Nat.div_eq_of_lt hr, Nat.add_zero]
  · rw [h2, Nat.mul_add_mod, Nat.mod_eq_of_lt hr]
end Go.Proofs.Ytgkjdfojogemhaa.W
