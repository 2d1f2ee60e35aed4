/-
  The reference: quotients of integers. Made by program. Conditions: none.
-/
import Derived.Test.YtgkjdfojogemhaaWdj
set_option maxRecDepth 100000
set_option maxHeartbeats 20000000
set_option linter.unusedSimpArgs false
set_option linter.unusedVariables false
namespace Go.Proofs.Ytgkjdfojogemhaa.W
open Go.Am
theorem dm_pos {A B : Nat} : (A : Int) / (B : Int) = ((A / B : Nat) : Int) ∧ (A : Int) % (B : Int) = ((A % B : Nat) : Int) := ⟨(Int.natCast_ediv A B).symm, (Int.natCast_emod A B).symm⟩
theorem dm_neg0 {A B : Nat} (hB : 0 < B) (h : A % B = 0) : (-(A : Int)) / (B : Int) = -((A / B : Nat) : Int) ∧ (-(A : Int)) % (B : Int) = 0 := by
  have hdm := Nat.div_add_mod A B
  rw [h, Nat.add_zero] at hdm
  refine (Int.ediv_emod_unique (by omega)).mpr ⟨?_, Int.le_refl 0, by omega⟩
  rw [Int.mul_neg, ← Int.natCast_mul, hdm]
  omega
theorem dm_neg1 {A B : Nat} (hB : 0 < B) (h : A % B ≠ 0) : (-(A : Int)) / (B : Int) = -((A / B + 1 : Nat) : Int) ∧ (-(A : Int)) % (B : Int) = ((B - A % B : Nat) : Int) := by
  have hdm := Nat.div_add_mod A B
  have hlt := Nat.mod_lt A hB
  refine (Int.ediv_emod_unique (by omega)).mpr ⟨?_, by omega, by omega⟩
  rw [Int.mul_neg, ← Int.natCast_mul, Nat.mul_add, Nat.mul_one]
  omega
theorem dm_all {n m : Int} {s t : Bool} {A B q r : Nat} (hn : n = (bif s then -(A : Int) else (A : Int))) (hm : m = (bif t then -(B : Int) else (B : Int))) (hB : 0 < B)
    (h : (s = true ∧ A % B ≠ 0 ∧ q = A / B + 1 ∧ r = B - A % B) ∨ ((s = false ∨ A % B = 0) ∧ q = A / B ∧ r = A % B)) :
    n / m = (bif (!(s == t)) then -(q : Int) else (q : Int)) ∧ n % m = (r : Int) := by
  subst hn hm
  have key : (bif s then -(A : Int) else (A : Int)) / (B : Int) = (bif s then -(q : Int) else (q : Int)) ∧ (bif s then -(A : Int) else (A : Int)) % (B : Int) = (r : Int) := by
    rcases h with ⟨rfl, h1, rfl, rfl⟩ | ⟨h1, rfl, rfl⟩
    · exact dm_neg1 hB h1
    · cases s with
      | false => exact dm_pos
      | true =>
        have h2 : A % B = 0 := by rcases h1 with h1 | h1; · cases h1
                                  · exact h1
        have := dm_neg0 hB h2
        rw [h2]
        exact this
  cases t with
  | false =>
    refine ⟨?_, key.2⟩
    show _ / (B : Int) = _
    rw [key.1]
    cases s <;> rfl
  | true =>
    refine ⟨?_, ?_⟩
    · show _ / -(B : Int) = _
      rw [Int.ediv_neg, key.1]
      cases s <;> simp
    · show _ % -(B : Int) = _
      rw [Int.emod_neg, key.2]
end Go.Proofs.Ytgkjdfojogemhaa.W
