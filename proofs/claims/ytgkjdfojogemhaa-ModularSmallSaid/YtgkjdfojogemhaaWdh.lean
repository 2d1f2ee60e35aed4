/-
  The reference: division of words, the whole. Made by program. Conditions: none.
-/
import Derived.Test.YtgkjdfojogemhaaWdg
set_option maxRecDepth 100000
set_option maxHeartbeats 20000000
set_option linter.unusedSimpArgs false
set_option linter.unusedVariables false
namespace Go.Proofs.Ytgkjdfojogemhaa.W
open Go.Am
theorem nrm_len {l : List Nat} {k : Nat} (h : Nrm l) (hv : val l < 4294967296 ^ k) : l.length ≤ k := by
  by_cases h0 : l = []
  · rw [h0]; exact Nat.zero_le _
  · have h1 := nrm_low h h0
    have h2 : l.length ≠ 0 := fun e => h0 (List.eq_nil_of_length_eq_zero e)
    have h3 : l.length - 1 < k := by
      by_cases hk : l.length - 1 < k
      · exact hk
      · have := Nat.pow_le_pow_right (show 0 < 4294967296 by decide) (Nat.le_of_not_lt hk)
        omega
    omega
theorem val_pos {l : List Nat} (h : Nrm l) (h0 : l ≠ []) : 0 < val l := by
  have h1 := nrm_low h h0
  have h2 : 0 < 4294967296 ^ (l.length - 1) := Nat.pow_pos (by decide)
  omega
end Go.Proofs.Ytgkjdfojogemhaa.W
