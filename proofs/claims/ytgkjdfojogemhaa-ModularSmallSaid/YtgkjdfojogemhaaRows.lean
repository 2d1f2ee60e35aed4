/-
  No cell of these rows narrows 'for every input' (looked for: loops, veiled, ifaces, maps, wideKeys, modest, calm, conditions, laid).
  DERIVED. THE GIVEN ROWS OF THIS SEAT. 7 by the template 'for every input the law returns true; each argument reads behind the call as it read before'; 0 by the template 'total and deterministic' (their statements: YtgkjdfojogemhaaTotals.lean).
  GIVEN WITH THE SEED: the statements are not yours to turn. If you find one false, say at which input.
  Laid BY PROGRAM, IN A SANDBOX (cutbox-rows.mjs): the forced cells as the released guide's own fill.sh prints them over the translation 321d17bdeb286940… (all of the seat's roots in one cut). By AI agents, Wed Nov 11 2026. No macro, syntax, notation, axiom, sorry.
-/
import Derived.Test.YtgkjdfojogemhaaChecked
import GoSem.Claim
import GoSem.ClaimJoined
import GoSem.ClaimMapViews
import Derived.JoinedTies
import Derived.KernelRfl
namespace Go.Proofs.Ytgkjdfojogemhaa
/- THE CELL 'sum', in the pinned program and in every row, IS THE sha256 OF THE DUMP (.gsa) THAT YtgkjdfojogemhaaProg.lean LOADS. Nothing in Lean hashes anything: it is a label: what it is worth is what the hold of that sum in a sandbox is worth. -/
noncomputable def Try.pinned : Pinned := { name := "ytgkjdfojogemhaa", sum := "321d17bdeb2869407c51e470c5b03410401b5708bbb485bc4b79f0c52e2d8ef7", checked := Try.checked }
namespace Rows
def none {H : Type} : Left H := { results := [], args := [] }

/-- 'eliminantlaw03.ModularMatchesReference': WHATEVER THE INPUT: true; the input reads as it did. -/
def modularMatchesReferenceSpec : ChangeSpec := { name := "modularMatchesReference", fn := fun _ => fun
  | [d1, d2, d3] => { results := [.lit (.bool true)], args := [d1, d2, d3] }
  | _ => none }
def modularMatchesReferenceRow : OpenClaim := { program := "ytgkjdfojogemhaa", sum := "321d17bdeb2869407c51e470c5b03410401b5708bbb485bc4b79f0c52e2d8ef7", func := "eliminant/eliminantlaw03.ModularMatchesReference", spec := "modularMatchesReference", unfollowed := true, recurses := true, named := ["math/bits.overflowError"], apart := false }
def ModularMatchesReferenceSaid : Prop := modularMatchesReferenceRow.holds Try.pinned (OpenSpec.ofChange modularMatchesReferenceSpec)

/-- ITS FALSE NEIGHBOUR: 'it returns false'. Refute it at one input. -/
def modularMatchesReferenceWrong : ChangeSpec := { name := "modularMatchesReference", fn := fun _ => fun
  | [d1, d2, d3] => { results := [.lit (.bool false)], args := [d1, d2, d3] }
  | _ => none }
def ModularMatchesReferenceWrongFalsely : Prop := modularMatchesReferenceRow.holds Try.pinned (OpenSpec.ofChange modularMatchesReferenceWrong)

/-- 'eliminantlaw03.ModularPrimes': WHATEVER THE INPUT: true; the input reads as it did. -/
def modularPrimesSpec : ChangeSpec := { name := "modularPrimes", fn := fun _ => fun
  | [d1, d2] => { results := [.lit (.bool true)], args := [d1, d2] }
  | _ => none }
def modularPrimesRow : OpenClaim := { program := "ytgkjdfojogemhaa", sum := "321d17bdeb2869407c51e470c5b03410401b5708bbb485bc4b79f0c52e2d8ef7", func := "eliminant/eliminantlaw03.ModularPrimes", spec := "modularPrimes", unfollowed := true, recurses := true, named := ["math/bits.overflowError"], apart := false }
def ModularPrimesSaid : Prop := modularPrimesRow.holds Try.pinned (OpenSpec.ofChange modularPrimesSpec)

/-- ITS FALSE NEIGHBOUR: 'it returns false'. Refute it at one input. -/
def modularPrimesWrong : ChangeSpec := { name := "modularPrimes", fn := fun _ => fun
  | [d1, d2] => { results := [.lit (.bool false)], args := [d1, d2] }
  | _ => none }
def ModularPrimesWrongFalsely : Prop := modularPrimesRow.holds Try.pinned (OpenSpec.ofChange modularPrimesWrong)

/-- 'eliminantlaw03.ModularInverts': WHATEVER THE INPUT: true; the input reads as it did. -/
def modularInvertsSpec : ChangeSpec := { name := "modularInverts", fn := fun _ => fun
  | [d1, d2, d3] => { results := [.lit (.bool true)], args := [d1, d2, d3] }
  | _ => none }
def modularInvertsRow : OpenClaim := { program := "ytgkjdfojogemhaa", sum := "321d17bdeb2869407c51e470c5b03410401b5708bbb485bc4b79f0c52e2d8ef7", func := "eliminant/eliminantlaw03.ModularInverts", spec := "modularInverts", unfollowed := true, recurses := true, named := ["math/bits.overflowError"], apart := false }
def ModularInvertsSaid : Prop := modularInvertsRow.holds Try.pinned (OpenSpec.ofChange modularInvertsSpec)

/-- ITS FALSE NEIGHBOUR: 'it returns false'. Refute it at one input. -/
def modularInvertsWrong : ChangeSpec := { name := "modularInverts", fn := fun _ => fun
  | [d1, d2, d3] => { results := [.lit (.bool false)], args := [d1, d2, d3] }
  | _ => none }
def ModularInvertsWrongFalsely : Prop := modularInvertsRow.holds Try.pinned (OpenSpec.ofChange modularInvertsWrong)

/-- 'eliminantlaw03.ModularReduces': WHATEVER THE INPUT: true; the input reads as it did. -/
def modularReducesSpec : ChangeSpec := { name := "modularReduces", fn := fun _ => fun
  | [d1, d2, d3] => { results := [.lit (.bool true)], args := [d1, d2, d3] }
  | _ => none }
def modularReducesRow : OpenClaim := { program := "ytgkjdfojogemhaa", sum := "321d17bdeb2869407c51e470c5b03410401b5708bbb485bc4b79f0c52e2d8ef7", func := "eliminant/eliminantlaw03.ModularReduces", spec := "modularReduces", unfollowed := true, recurses := true, named := ["math/bits.overflowError"], apart := false }
def ModularReducesSaid : Prop := modularReducesRow.holds Try.pinned (OpenSpec.ofChange modularReducesSpec)

/-- ITS FALSE NEIGHBOUR: 'it returns false'. Refute it at one input. -/
def modularReducesWrong : ChangeSpec := { name := "modularReduces", fn := fun _ => fun
  | [d1, d2, d3] => { results := [.lit (.bool false)], args := [d1, d2, d3] }
  | _ => none }
def ModularReducesWrongFalsely : Prop := modularReducesRow.holds Try.pinned (OpenSpec.ofChange modularReducesWrong)

/-- 'eliminantlaw03.ModularJoins': WHATEVER THE INPUT: true; the input reads as it did. -/
def modularJoinsSpec : ChangeSpec := { name := "modularJoins", fn := fun _ => fun
  | [d1, d2, d3] => { results := [.lit (.bool true)], args := [d1, d2, d3] }
  | _ => none }
def modularJoinsRow : OpenClaim := { program := "ytgkjdfojogemhaa", sum := "321d17bdeb2869407c51e470c5b03410401b5708bbb485bc4b79f0c52e2d8ef7", func := "eliminant/eliminantlaw03.ModularJoins", spec := "modularJoins", unfollowed := true, recurses := true, named := ["math/bits.overflowError"], apart := false }
def ModularJoinsSaid : Prop := modularJoinsRow.holds Try.pinned (OpenSpec.ofChange modularJoinsSpec)

/-- ITS FALSE NEIGHBOUR: 'it returns false'. Refute it at one input. -/
def modularJoinsWrong : ChangeSpec := { name := "modularJoins", fn := fun _ => fun
  | [d1, d2, d3] => { results := [.lit (.bool false)], args := [d1, d2, d3] }
  | _ => none }
def ModularJoinsWrongFalsely : Prop := modularJoinsRow.holds Try.pinned (OpenSpec.ofChange modularJoinsWrong)

/-- 'eliminantlaw03.ModularRebuilds': WHATEVER THE INPUT: true; the input reads as it did. -/
def modularRebuildsSpec : ChangeSpec := { name := "modularRebuilds", fn := fun _ => fun
  | [d1, d2, d3] => { results := [.lit (.bool true)], args := [d1, d2, d3] }
  | _ => none }
def modularRebuildsRow : OpenClaim := { program := "ytgkjdfojogemhaa", sum := "321d17bdeb2869407c51e470c5b03410401b5708bbb485bc4b79f0c52e2d8ef7", func := "eliminant/eliminantlaw03.ModularRebuilds", spec := "modularRebuilds", unfollowed := true, recurses := true, named := ["math/bits.overflowError"], apart := false }
def ModularRebuildsSaid : Prop := modularRebuildsRow.holds Try.pinned (OpenSpec.ofChange modularRebuildsSpec)

/-- ITS FALSE NEIGHBOUR: 'it returns false'. Refute it at one input. -/
def modularRebuildsWrong : ChangeSpec := { name := "modularRebuilds", fn := fun _ => fun
  | [d1, d2, d3] => { results := [.lit (.bool false)], args := [d1, d2, d3] }
  | _ => none }
def ModularRebuildsWrongFalsely : Prop := modularRebuildsRow.holds Try.pinned (OpenSpec.ofChange modularRebuildsWrong)

/-- 'eliminantlaw03.ModularSmall': WHATEVER THE INPUT: true; the input reads as it did. -/
def modularSmallSpec : ChangeSpec := { name := "modularSmall", fn := fun _ => fun
  | [d1, d2] => { results := [.lit (.bool true)], args := [d1, d2] }
  | _ => none }
def modularSmallRow : OpenClaim := { program := "ytgkjdfojogemhaa", sum := "321d17bdeb2869407c51e470c5b03410401b5708bbb485bc4b79f0c52e2d8ef7", func := "eliminant/eliminantlaw03.ModularSmall", spec := "modularSmall", unfollowed := true, recurses := true, named := ["math/bits.overflowError"], apart := false }
def ModularSmallSaid : Prop := modularSmallRow.holds Try.pinned (OpenSpec.ofChange modularSmallSpec)

/-- ITS FALSE NEIGHBOUR: 'it returns false'. Refute it at one input. -/
def modularSmallWrong : ChangeSpec := { name := "modularSmall", fn := fun _ => fun
  | [d1, d2] => { results := [.lit (.bool false)], args := [d1, d2] }
  | _ => none }
def ModularSmallWrongFalsely : Prop := modularSmallRow.holds Try.pinned (OpenSpec.ofChange modularSmallWrong)

/- THE SECOND FORM. 'bulk': how many values and letters a reading holds, each counted each time it is reached (what is shared counts as often as it is met; a slice's spare places count too). A statement '..UptoSaid' is the law's where the arguments, and the package variables that the reading takes, are together of bulk at most 1048576: NARROWER than '..Said'. Prove '..Said' where nothing that the law and all that it calls make is longer than what came in: it says more and counts as full. Else prove '..UptoSaid'. A law counts once. -/
mutual
def uptoBulk {H : Type} : DataW H → Nat
  | .lit (.string bytes) => bytes.length + 1
  | .lit _ => 1
  | .nil => 1
  | .ptr d => uptoBulk d + 1
  | .slice elems spare => uptoBulkAll elems + uptoBulkAll spare + 1
  | .agg parts => uptoBulkAll parts + 1
  | .iface _ d => uptoBulk d + 1
  | .map entries => uptoBulkEntries entries + 1
  | .held _ => 1
def uptoBulkAll {H : Type} : List (DataW H) → Nat
  | [] => 0
  | d :: r => uptoBulk d + uptoBulkAll r
def uptoBulkEntries {H : Type} : List (Lit × DataW H) → Nat
  | [] => 0
  | x :: r => uptoBulkEntry x + uptoBulkEntries r
def uptoBulkEntry {H : Type} : Lit × DataW H → Nat
  | (.string bytes, d) => bytes.length + uptoBulk d + 1
  | (_, d) => uptoBulk d + 1
 end
def uptoSmall : (H : Type) → List (DataW H) → Bool := fun _ ds => decide (uptoBulkAll ds ≤ 1048576)
def OpenSpec.upto (s : _root_.Go.ChangeSpec) : _root_.Go.OpenSpec := { _root_.Go.OpenSpec.ofChange s with cond := some uptoSmall }

/-- 'eliminantlaw03.ModularMatchesReference', WHERE WHAT IT READS IS OF BULK AT MOST 1048576: true; the input reads as it did. -/
def modularMatchesReferenceUptoRow : OpenClaim := { program := "ytgkjdfojogemhaa", sum := "321d17bdeb2869407c51e470c5b03410401b5708bbb485bc4b79f0c52e2d8ef7", func := "eliminant/eliminantlaw03.ModularMatchesReference", spec := "modularMatchesReference", unfollowed := true, recurses := true, named := ["math/bits.overflowError"], apart := false, narrowed := true }
def ModularMatchesReferenceUptoSaid : Prop := modularMatchesReferenceUptoRow.holds Try.pinned (OpenSpec.upto modularMatchesReferenceSpec)

/-- 'eliminantlaw03.ModularPrimes', WHERE WHAT IT READS IS OF BULK AT MOST 1048576: true; the input reads as it did. -/
def modularPrimesUptoRow : OpenClaim := { program := "ytgkjdfojogemhaa", sum := "321d17bdeb2869407c51e470c5b03410401b5708bbb485bc4b79f0c52e2d8ef7", func := "eliminant/eliminantlaw03.ModularPrimes", spec := "modularPrimes", unfollowed := true, recurses := true, named := ["math/bits.overflowError"], apart := false, narrowed := true }
def ModularPrimesUptoSaid : Prop := modularPrimesUptoRow.holds Try.pinned (OpenSpec.upto modularPrimesSpec)

/-- 'eliminantlaw03.ModularInverts', WHERE WHAT IT READS IS OF BULK AT MOST 1048576: true; the input reads as it did. -/
def modularInvertsUptoRow : OpenClaim := { program := "ytgkjdfojogemhaa", sum := "321d17bdeb2869407c51e470c5b03410401b5708bbb485bc4b79f0c52e2d8ef7", func := "eliminant/eliminantlaw03.ModularInverts", spec := "modularInverts", unfollowed := true, recurses := true, named := ["math/bits.overflowError"], apart := false, narrowed := true }
def ModularInvertsUptoSaid : Prop := modularInvertsUptoRow.holds Try.pinned (OpenSpec.upto modularInvertsSpec)

/-- 'eliminantlaw03.ModularReduces', WHERE WHAT IT READS IS OF BULK AT MOST 1048576: true; the input reads as it did. -/
def modularReducesUptoRow : OpenClaim := { program := "ytgkjdfojogemhaa", sum := "321d17bdeb2869407c51e470c5b03410401b5708bbb485bc4b79f0c52e2d8ef7", func := "eliminant/eliminantlaw03.ModularReduces", spec := "modularReduces", unfollowed := true, recurses := true, named := ["math/bits.overflowError"], apart := false, narrowed := true }
def ModularReducesUptoSaid : Prop := modularReducesUptoRow.holds Try.pinned (OpenSpec.upto modularReducesSpec)

/-- 'eliminantlaw03.ModularJoins', WHERE WHAT IT READS IS OF BULK AT MOST 1048576: true; the input reads as it did. -/
def modularJoinsUptoRow : OpenClaim := { program := "ytgkjdfojogemhaa", sum := "321d17bdeb2869407c51e470c5b03410401b5708bbb485bc4b79f0c52e2d8ef7", func := "eliminant/eliminantlaw03.ModularJoins", spec := "modularJoins", unfollowed := true, recurses := true, named := ["math/bits.overflowError"], apart := false, narrowed := true }
def ModularJoinsUptoSaid : Prop := modularJoinsUptoRow.holds Try.pinned (OpenSpec.upto modularJoinsSpec)

/-- 'eliminantlaw03.ModularRebuilds', WHERE WHAT IT READS IS OF BULK AT MOST 1048576: true; the input reads as it did. -/
def modularRebuildsUptoRow : OpenClaim := { program := "ytgkjdfojogemhaa", sum := "321d17bdeb2869407c51e470c5b03410401b5708bbb485bc4b79f0c52e2d8ef7", func := "eliminant/eliminantlaw03.ModularRebuilds", spec := "modularRebuilds", unfollowed := true, recurses := true, named := ["math/bits.overflowError"], apart := false, narrowed := true }
def ModularRebuildsUptoSaid : Prop := modularRebuildsUptoRow.holds Try.pinned (OpenSpec.upto modularRebuildsSpec)

/-- 'eliminantlaw03.ModularSmall', WHERE WHAT IT READS IS OF BULK AT MOST 1048576: true; the input reads as it did. -/
def modularSmallUptoRow : OpenClaim := { program := "ytgkjdfojogemhaa", sum := "321d17bdeb2869407c51e470c5b03410401b5708bbb485bc4b79f0c52e2d8ef7", func := "eliminant/eliminantlaw03.ModularSmall", spec := "modularSmall", unfollowed := true, recurses := true, named := ["math/bits.overflowError"], apart := false, narrowed := true }
def ModularSmallUptoSaid : Prop := modularSmallUptoRow.holds Try.pinned (OpenSpec.upto modularSmallSpec)

end Rows
end Go.Proofs.Ytgkjdfojogemhaa
