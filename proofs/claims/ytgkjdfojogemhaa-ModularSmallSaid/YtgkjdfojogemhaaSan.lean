/-
  The fixed examples of the laws of package modular. Conditions: none.
-/
import Derived.Test.YtgkjdfojogemhaaCtx
set_option maxRecDepth 100000
set_option maxHeartbeats 20000000
namespace Go.Proofs.Ytgkjdfojogemhaa
open Go.Am
theorem g_sanity : Gets Try.cx 10 [] (boolA true) := gets_run 300 (by kernel_rfl)
end Go.Proofs.Ytgkjdfojogemhaa
