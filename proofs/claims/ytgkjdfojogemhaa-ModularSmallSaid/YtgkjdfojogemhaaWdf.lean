/-
  The reference: lessen and restore, in place. Made by program. Conditions: none.
-/
import Derived.Test.YtgkjdfojogemhaaWde
set_option maxRecDepth 100000
set_option maxHeartbeats 20000000
set_option linter.unusedSimpArgs false
set_option linter.unusedVariables false
namespace Go.Proofs.Ytgkjdfojogemhaa.W
open Go.Am
end Go.Proofs.Ytgkjdfojogemhaa.W
