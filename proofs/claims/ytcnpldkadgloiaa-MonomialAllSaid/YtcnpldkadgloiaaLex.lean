/-
  Facts on orders and divisors of monomials. Conditions: none.
-/
import Derived.Test.YtcnpldkadgloiaaRaw
set_option maxRecDepth 100000
set_option maxHeartbeats 20000000
set_option linter.unusedSimpArgs false
set_option linter.unusedVariables false
namespace Go.Proofs.Ytcnpldkadgloiaa
open Go.Am

/-- The comparison, place by place. -/
def lexF (a b : Nat → Int) : Nat → Nat → Int
  | _, 0 => 0
  | i, k + 1 => if a i < b i then -1 else if a i > b i then 1 else lexF a b (i + 1) k

theorem cmp_lex (a b : Nat → Int) : cmpM a b = lexF a b 0 8 := rfl

theorem lex_three (a b : Nat → Int) : ∀ k i, lexF a b i k = -1 ∨ lexF a b i k = 0 ∨ lexF a b i k = 1
  | 0, i => .inr (.inl rfl)
  | k + 1, i => by
    simp only [lexF]
    have := lex_three a b k (i + 1)
    split
    · exact .inl rfl
    · split
      · exact .inr (.inr rfl)
      · exact this

theorem lex_neg (a b : Nat → Int) : ∀ k i, lexF b a i k = - lexF a b i k
  | 0, i => rfl
  | k + 1, i => by
    simp only [lexF]
    have := lex_neg a b k (i + 1)
    split <;> split <;> first | omega | (split <;> first | omega | (split <;> omega))

theorem lex_eq (a b : Nat → Int) : ∀ k i, lexF a b i k = 0 ↔ ∀ j, i ≤ j → j < i + k → a j = b j
  | 0, i => ⟨fun _ j h1 h2 => by omega, fun _ => rfl⟩
  | k + 1, i => by
    simp only [lexF]
    have ih := lex_eq a b k (i + 1)
    split
    · rename_i h
      exact ⟨fun h0 => by omega, fun h0 => by have := h0 i (Nat.le_refl i) (by omega); omega⟩
    · split
      · rename_i h
        exact ⟨fun h0 => by omega, fun h0 => by have := h0 i (Nat.le_refl i) (by omega); omega⟩
      · rw [ih]
        constructor
        · intro h0 j h1 h2
          by_cases hj : j = i
          · subst hj; omega
          · exact h0 j (by omega) (by omega)
        · intro h0 j h1 h2
          exact h0 j (by omega) (by omega)

theorem lex_trans (a b c : Nat → Int) : ∀ k i, lexF a b i k < 0 → lexF b c i k ≤ 0 → lexF a c i k = -1
  | 0, i, h, _ => by simp [lexF] at h
  | k + 1, i, h1, h2 => by
    simp only [lexF] at h1 h2 ⊢
    have ih := lex_trans a b c k (i + 1)
    have e1 := lex_three b c k (i + 1)
    split at h1
    · split at h2
      · rw [if_pos (by omega)]
      · split at h2
        · omega
        · rw [if_pos (by omega)]
    · split at h1
      · omega
      · split at h2
        · rw [if_pos (by omega)]
        · split at h2
          · omega
          · rw [if_neg (by omega), if_neg (by omega)]; exact ih h1 h2

theorem lex_add (a b c : Nat → Int) : ∀ k i, lexF (addM a c) (addM b c) i k = lexF a b i k
  | 0, i => rfl
  | k + 1, i => by
    simp only [lexF]
    have ih := lex_add a b c k (i + 1)
    have e1 : addM a c i = a i + c i := rfl
    have e2 : addM b c i = b i + c i := rfl
    by_cases h1 : a i < b i
    · rw [if_pos (by omega), if_pos h1]
    · rw [if_neg (by omega), if_neg h1]
      by_cases h2 : a i > b i
      · rw [if_pos (by omega), if_pos h2]
      · rw [if_neg (by omega), if_neg h2]; exact ih

theorem lex_zero {a : Nat → Int} : ∀ k i, (∀ j, i ≤ j → j < i + k → 0 ≤ a j) → 0 ≤ lexF a zeroM i k
  | 0, i, _ => Int.le_refl _
  | k + 1, i, h => by
    simp only [lexF]
    have e1 : zeroM i = 0 := rfl
    have h0 := h i (Nat.le_refl i) (by omega)
    have ih := lex_zero (a := a) k (i + 1) fun j h1 h2 => h j (by omega) (by omega)
    rw [if_neg (by omega)]
    split
    · decide
    · exact ih

theorem cmp_three (a b : Nat → Int) : cmpM a b = -1 ∨ cmpM a b = 0 ∨ cmpM a b = 1 := lex_three a b 8 0
theorem cmp_neg (a b : Nat → Int) : cmpM b a = - cmpM a b := lex_neg a b 8 0
theorem cmp_add (a b c : Nat → Int) : cmpM (addM a c) (addM b c) = cmpM a b := lex_add a b c 8 0
theorem cmp_trans (a b c : Nat → Int) : cmpM a b < 0 → cmpM b c ≤ 0 → cmpM a c = -1 := lex_trans a b c 8 0
theorem cmp_zero {a : Nat → Int} (ha : InR a) : 0 ≤ cmpM a zeroM := lex_zero 8 0 fun j _ h => (ha j (by omega)).1
theorem cmp_eq (a b : Nat → Int) : cmpM a b = 0 ↔ a 0 = b 0 ∧ a 1 = b 1 ∧ a 2 = b 2 ∧ a 3 = b 3 ∧ a 4 = b 4 ∧ a 5 = b 5 ∧ a 6 = b 6 ∧ a 7 = b 7 := by
  rw [cmp_lex, lex_eq]
  constructor
  · intro h
    exact ⟨h 0 (by omega) (by omega), h 1 (by omega) (by omega), h 2 (by omega) (by omega), h 3 (by omega) (by omega), h 4 (by omega) (by omega), h 5 (by omega) (by omega), h 6 (by omega) (by omega), h 7 (by omega) (by omega)⟩
  · rintro ⟨h0, h1, h2, h3, h4, h5, h6, h7⟩ j _ hj
    have : j = 0 ∨ j = 1 ∨ j = 2 ∨ j = 3 ∨ j = 4 ∨ j = 5 ∨ j = 6 ∨ j = 7 := by omega
    rcases this with rfl | rfl | rfl | rfl | rfl | rfl | rfl | rfl <;> assumption

theorem not_beq {A B : Bool} (h : A = true ↔ B = true) : (!(A == B)) = false := by
  cases A <;> cases B <;> simp_all

theorem valid_congr {a b : Nat → Int} (h : ∀ i, a i = b i) : validB a = validB b := by
  rw [show a = b from funext h]

theorem dvd_iff {a b : Nat → Int} : dvdB a b = true ↔ ∀ i, i < 8 → a i ≤ b i := by
  simp only [dvdB, decide_eq_true_eq]
  constructor
  · intro h i hi
    have : i = 0 ∨ i = 1 ∨ i = 2 ∨ i = 3 ∨ i = 4 ∨ i = 5 ∨ i = 6 ∨ i = 7 := by omega
    rcases this with rfl | rfl | rfl | rfl | rfl | rfl | rfl | rfl <;> omega
  · intro h
    exact ⟨h 0 (by decide), h 1 (by decide), h 2 (by decide), h 3 (by decide), h 4 (by decide), h 5 (by decide), h 6 (by decide), h 7 (by decide)⟩
theorem lcm_at (a b : Nat → Int) (i : Nat) : lcmM a b i = max (a i) (b i) := by unfold lcmM; omega
theorem gcd_at (a b : Nat → Int) (i : Nat) : gcdM a b i = min (a i) (b i) := by unfold gcdM; omega

end Go.Proofs.Ytcnpldkadgloiaa
