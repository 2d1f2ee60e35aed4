/-
  The reference: made numbers and residues. Made by program. Conditions: none.
-/
import Derived.Test.YtgkjdfojogemhaaWdl
set_option maxRecDepth 100000
set_option maxHeartbeats 20000000
set_option linter.unusedSimpArgs false
set_option linter.unusedVariables false
namespace Go.Proofs.Ytgkjdfojogemhaa.W
open Go.Am
theorem iv_sign {n : Int} {s : Bool} {x : D} {l : List Nat} (h : Iv n s x l) (h0 : 0 ≤ n) : s = false := by
  obtain ⟨_, _, _, hn, hs⟩ := h
  cases s with
  | false => rfl
  | true =>
    have := hs rfl
    simp only [cond_true] at hn
    omega
end Go.Proofs.Ytgkjdfojogemhaa.W
