/-
  The reference: division of words. Made by program. Conditions: none.
-/
import Derived.Test.YtgkjdfojogemhaaWdf
set_option maxRecDepth 100000
set_option maxHeartbeats 20000000
set_option linter.unusedSimpArgs false
set_option linter.unusedVariables false
namespace Go.Proofs.Ytgkjdfojogemhaa.W
open Go.Am
theorem nrm_low {l : List Nat} (h : Nrm l) (h0 : l ≠ []) : 4294967296 ^ (l.length - 1) ≤ val l := by
  rcases h with h | h
  · exact absurd h h0
  · have hl : l.length ≠ 0 := fun h => h0 (List.eq_nil_of_length_eq_zero h)
    obtain ⟨n, hn⟩ : ∃ n, l.length = n + 1 := ⟨l.length - 1, by omega⟩
    have e := vF_top l n
    rw [vF_val (by omega)] at e
    rw [hn, Nat.add_sub_cancel] at h ⊢
    have : 4294967296 ^ n * 1 ≤ 4294967296 ^ n * l.getD n 0 := Nat.mul_le_mul_left _ (by omega)
    omega
theorem cmpN_val {a b : List Nat} (ha : Ok a) (hb : Ok b) : ∀ n, (cmpN a b n = -1 ∧ vF a 0 n < vF b 0 n) ∨ (cmpN a b n = 1 ∧ vF b 0 n < vF a 0 n) ∨ (cmpN a b n = 0 ∧ vF a 0 n = vF b 0 n)
  | 0 => .inr (.inr ⟨rfl, rfl⟩)
  | n + 1 => by
    have ih := cmpN_val ha hb n
    have h1 := vF_lt ha n 0
    have h2 := vF_lt hb n 0
    rw [vF_top, vF_top]
    simp only [cmpN]
    have key : ∀ {s t : Nat}, s < t → 4294967296 ^ n * s + 4294967296 ^ n ≤ 4294967296 ^ n * t := fun {s t} h => by
      have := Nat.mul_le_mul_left (4294967296 ^ n) h
      rwa [Nat.mul_succ] at this
    by_cases hlt : a.getD n 0 < b.getD n 0
    · have := key hlt
      rw [if_pos hlt]
      left
      exact ⟨rfl, by omega⟩
    · by_cases hgt : b.getD n 0 < a.getD n 0
      · have := key hgt
        rw [if_neg hlt, if_pos hgt]
        right; left
        exact ⟨rfl, by omega⟩
      · have he : a.getD n 0 = b.getD n 0 := by omega
        rw [if_neg hlt, if_neg (by omega), he]
        omega
theorem cmpL_val {a b : List Nat} (ha : Ok a) (hb : Ok b) (na : Nrm a) (nb : Nrm b) : (cmpL a b = -1 ∧ val a < val b) ∨ (cmpL a b = 1 ∧ val b < val a) ∨ (cmpL a b = 0 ∧ val a = val b) := by
  have key : ∀ {l m : List Nat}, Ok l → Nrm m → l.length < m.length → val l < val m := fun {l m} hl nm h => by
    have h1 := val_lt hl
    have h2 := nrm_low nm (fun e => by rw [e] at h; exact absurd h (Nat.not_lt_zero _))
    have h3 : 4294967296 ^ l.length ≤ 4294967296 ^ (m.length - 1) := Nat.pow_le_pow_right (by decide) (by omega)
    omega
  unfold cmpL
  by_cases h1 : a.length < b.length
  · rw [if_pos h1]; exact .inl ⟨rfl, key ha nb h1⟩
  · by_cases h2 : a.length > b.length
    · rw [if_neg h1, if_pos h2]; exact .inr (.inl ⟨rfl, key hb na h2⟩)
    · rw [if_neg h1, if_neg h2]
      have := cmpN_val ha hb a.length
      rwa [vF_val (Nat.le_refl _), vF_val (show b.length ≤ a.length by omega)] at this
theorem mapO_two {α β : Type} {f : α → Option β} {x x' : α} {y y' : β} (h : f x = some y) (h' : f x' = some y') : mapO f [x, x'] = some [y, y'] := by simp [mapO, h, h']
end Go.Proofs.Ytgkjdfojogemhaa.W
