/-
  No cell of these rows narrows 'for every input' (looked for: loops, veiled, ifaces, maps, wideKeys, modest, calm, conditions, laid).
  DERIVED. THE GIVEN ROWS OF THIS SEAT. 8 by the template 'for every input the law returns true; each argument reads behind the call as it read before'; 0 by the template 'total and deterministic' (their statements: YtcnpldkadgloiaaTotals.lean).
  GIVEN WITH THE SEED: the statements are not yours to turn. If you find one false, say at which input.
  Laid BY PROGRAM, IN A SANDBOX (cutbox-rows.mjs): the forced cells as the released guide's own fill.sh prints them over the translation 56991d2b848d4757… (all of the seat's roots in one cut). By AI agents, Wed Nov 11 2026. No macro, syntax, notation, axiom, sorry.
-/
import Derived.Test.YtcnpldkadgloiaaChecked
import GoSem.Claim
import GoSem.ClaimJoined
import GoSem.ClaimMapViews
import Derived.JoinedTies
import Derived.KernelRfl
namespace Go.Proofs.Ytcnpldkadgloiaa
/- THE CELL 'sum', in the pinned program and in every row, IS THE sha256 OF THE DUMP (.gsa) THAT YtcnpldkadgloiaaProg.lean LOADS. Nothing in Lean hashes anything: it is a label: what it is worth is what the hold of that sum in a sandbox is worth. -/
noncomputable def Try.pinned : Pinned := { name := "ytcnpldkadgloiaa", sum := "56991d2b848d47572d545f45b1e22ae27daf4fc96953f35d690cadf736a819da", checked := Try.checked }
namespace Rows
def none {H : Type} : Left H := { results := [], args := [] }

/-- 'eliminantlaw04.MonomialMatchesReference': WHATEVER THE INPUT: true; the input reads as it did. -/
def monomialMatchesReferenceSpec : ChangeSpec := { name := "monomialMatchesReference", fn := fun _ => fun
  | [d1, d2] => { results := [.lit (.bool true)], args := [d1, d2] }
  | _ => none }
def monomialMatchesReferenceRow : OpenClaim := { program := "ytcnpldkadgloiaa", sum := "56991d2b848d47572d545f45b1e22ae27daf4fc96953f35d690cadf736a819da", func := "eliminant/eliminantlaw04.MonomialMatchesReference", spec := "monomialMatchesReference", unfollowed := true, recurses := true, apart := false }
def MonomialMatchesReferenceSaid : Prop := monomialMatchesReferenceRow.holds Try.pinned (OpenSpec.ofChange monomialMatchesReferenceSpec)

/-- ITS FALSE NEIGHBOUR: 'it returns false'. Refute it at one input. -/
def monomialMatchesReferenceWrong : ChangeSpec := { name := "monomialMatchesReference", fn := fun _ => fun
  | [d1, d2] => { results := [.lit (.bool false)], args := [d1, d2] }
  | _ => none }
def MonomialMatchesReferenceWrongFalsely : Prop := monomialMatchesReferenceRow.holds Try.pinned (OpenSpec.ofChange monomialMatchesReferenceWrong)

/-- 'eliminantlaw04.MonomialLimits': WHATEVER THE INPUT: true; the input reads as it did. -/
def monomialLimitsSpec : ChangeSpec := { name := "monomialLimits", fn := fun _ => fun
  | [d1, d2] => { results := [.lit (.bool true)], args := [d1, d2] }
  | _ => none }
def monomialLimitsRow : OpenClaim := { program := "ytcnpldkadgloiaa", sum := "56991d2b848d47572d545f45b1e22ae27daf4fc96953f35d690cadf736a819da", func := "eliminant/eliminantlaw04.MonomialLimits", spec := "monomialLimits", unfollowed := true, recurses := true, apart := false }
def MonomialLimitsSaid : Prop := monomialLimitsRow.holds Try.pinned (OpenSpec.ofChange monomialLimitsSpec)

/-- ITS FALSE NEIGHBOUR: 'it returns false'. Refute it at one input. -/
def monomialLimitsWrong : ChangeSpec := { name := "monomialLimits", fn := fun _ => fun
  | [d1, d2] => { results := [.lit (.bool false)], args := [d1, d2] }
  | _ => none }
def MonomialLimitsWrongFalsely : Prop := monomialLimitsRow.holds Try.pinned (OpenSpec.ofChange monomialLimitsWrong)

/-- 'eliminantlaw04.MonomialProducts': WHATEVER THE INPUT: true; the input reads as it did. -/
def monomialProductsSpec : ChangeSpec := { name := "monomialProducts", fn := fun _ => fun
  | [d1, d2, d3] => { results := [.lit (.bool true)], args := [d1, d2, d3] }
  | _ => none }
def monomialProductsRow : OpenClaim := { program := "ytcnpldkadgloiaa", sum := "56991d2b848d47572d545f45b1e22ae27daf4fc96953f35d690cadf736a819da", func := "eliminant/eliminantlaw04.MonomialProducts", spec := "monomialProducts", unfollowed := true, recurses := true, apart := false }
def MonomialProductsSaid : Prop := monomialProductsRow.holds Try.pinned (OpenSpec.ofChange monomialProductsSpec)

/-- ITS FALSE NEIGHBOUR: 'it returns false'. Refute it at one input. -/
def monomialProductsWrong : ChangeSpec := { name := "monomialProducts", fn := fun _ => fun
  | [d1, d2, d3] => { results := [.lit (.bool false)], args := [d1, d2, d3] }
  | _ => none }
def MonomialProductsWrongFalsely : Prop := monomialProductsRow.holds Try.pinned (OpenSpec.ofChange monomialProductsWrong)

/-- 'eliminantlaw04.MonomialDivides': WHATEVER THE INPUT: true; the input reads as it did. -/
def monomialDividesSpec : ChangeSpec := { name := "monomialDivides", fn := fun _ => fun
  | [d1, d2, d3] => { results := [.lit (.bool true)], args := [d1, d2, d3] }
  | _ => none }
def monomialDividesRow : OpenClaim := { program := "ytcnpldkadgloiaa", sum := "56991d2b848d47572d545f45b1e22ae27daf4fc96953f35d690cadf736a819da", func := "eliminant/eliminantlaw04.MonomialDivides", spec := "monomialDivides", unfollowed := true, recurses := true, apart := false }
def MonomialDividesSaid : Prop := monomialDividesRow.holds Try.pinned (OpenSpec.ofChange monomialDividesSpec)

/-- ITS FALSE NEIGHBOUR: 'it returns false'. Refute it at one input. -/
def monomialDividesWrong : ChangeSpec := { name := "monomialDivides", fn := fun _ => fun
  | [d1, d2, d3] => { results := [.lit (.bool false)], args := [d1, d2, d3] }
  | _ => none }
def MonomialDividesWrongFalsely : Prop := monomialDividesRow.holds Try.pinned (OpenSpec.ofChange monomialDividesWrong)

/-- 'eliminantlaw04.MonomialLattice': WHATEVER THE INPUT: true; the input reads as it did. -/
def monomialLatticeSpec : ChangeSpec := { name := "monomialLattice", fn := fun _ => fun
  | [d1, d2, d3] => { results := [.lit (.bool true)], args := [d1, d2, d3] }
  | _ => none }
def monomialLatticeRow : OpenClaim := { program := "ytcnpldkadgloiaa", sum := "56991d2b848d47572d545f45b1e22ae27daf4fc96953f35d690cadf736a819da", func := "eliminant/eliminantlaw04.MonomialLattice", spec := "monomialLattice", unfollowed := true, recurses := true, apart := false }
def MonomialLatticeSaid : Prop := monomialLatticeRow.holds Try.pinned (OpenSpec.ofChange monomialLatticeSpec)

/-- ITS FALSE NEIGHBOUR: 'it returns false'. Refute it at one input. -/
def monomialLatticeWrong : ChangeSpec := { name := "monomialLattice", fn := fun _ => fun
  | [d1, d2, d3] => { results := [.lit (.bool false)], args := [d1, d2, d3] }
  | _ => none }
def MonomialLatticeWrongFalsely : Prop := monomialLatticeRow.holds Try.pinned (OpenSpec.ofChange monomialLatticeWrong)

/-- 'eliminantlaw04.MonomialOrders': WHATEVER THE INPUT: true; the input reads as it did. -/
def monomialOrdersSpec : ChangeSpec := { name := "monomialOrders", fn := fun _ => fun
  | [d1, d2, d3] => { results := [.lit (.bool true)], args := [d1, d2, d3] }
  | _ => none }
def monomialOrdersRow : OpenClaim := { program := "ytcnpldkadgloiaa", sum := "56991d2b848d47572d545f45b1e22ae27daf4fc96953f35d690cadf736a819da", func := "eliminant/eliminantlaw04.MonomialOrders", spec := "monomialOrders", unfollowed := true, recurses := true, apart := false }
def MonomialOrdersSaid : Prop := monomialOrdersRow.holds Try.pinned (OpenSpec.ofChange monomialOrdersSpec)

/-- ITS FALSE NEIGHBOUR: 'it returns false'. Refute it at one input. -/
def monomialOrdersWrong : ChangeSpec := { name := "monomialOrders", fn := fun _ => fun
  | [d1, d2, d3] => { results := [.lit (.bool false)], args := [d1, d2, d3] }
  | _ => none }
def MonomialOrdersWrongFalsely : Prop := monomialOrdersRow.holds Try.pinned (OpenSpec.ofChange monomialOrdersWrong)

/-- 'eliminantlaw04.MonomialMinimal': WHATEVER THE INPUT: true; the input reads as it did. -/
def monomialMinimalSpec : ChangeSpec := { name := "monomialMinimal", fn := fun _ => fun
  | [d1, d2] => { results := [.lit (.bool true)], args := [d1, d2] }
  | _ => none }
def monomialMinimalRow : OpenClaim := { program := "ytcnpldkadgloiaa", sum := "56991d2b848d47572d545f45b1e22ae27daf4fc96953f35d690cadf736a819da", func := "eliminant/eliminantlaw04.MonomialMinimal", spec := "monomialMinimal", unfollowed := true, recurses := true, apart := false }
def MonomialMinimalSaid : Prop := monomialMinimalRow.holds Try.pinned (OpenSpec.ofChange monomialMinimalSpec)

/-- ITS FALSE NEIGHBOUR: 'it returns false'. Refute it at one input. -/
def monomialMinimalWrong : ChangeSpec := { name := "monomialMinimal", fn := fun _ => fun
  | [d1, d2] => { results := [.lit (.bool false)], args := [d1, d2] }
  | _ => none }
def MonomialMinimalWrongFalsely : Prop := monomialMinimalRow.holds Try.pinned (OpenSpec.ofChange monomialMinimalWrong)

/-- 'eliminantlaw04.MonomialAll': WHATEVER THE INPUT: true; the input reads as it did. -/
def monomialAllSpec : ChangeSpec := { name := "monomialAll", fn := fun _ => fun
  | [d1, d2, d3] => { results := [.lit (.bool true)], args := [d1, d2, d3] }
  | _ => none }
def monomialAllRow : OpenClaim := { program := "ytcnpldkadgloiaa", sum := "56991d2b848d47572d545f45b1e22ae27daf4fc96953f35d690cadf736a819da", func := "eliminant/eliminantlaw04.MonomialAll", spec := "monomialAll", unfollowed := true, recurses := true, apart := false }
def MonomialAllSaid : Prop := monomialAllRow.holds Try.pinned (OpenSpec.ofChange monomialAllSpec)

/-- ITS FALSE NEIGHBOUR: 'it returns false'. Refute it at one input. -/
def monomialAllWrong : ChangeSpec := { name := "monomialAll", fn := fun _ => fun
  | [d1, d2, d3] => { results := [.lit (.bool false)], args := [d1, d2, d3] }
  | _ => none }
def MonomialAllWrongFalsely : Prop := monomialAllRow.holds Try.pinned (OpenSpec.ofChange monomialAllWrong)

/- THE SECOND FORM. 'bulk': how many values and letters a reading holds, each counted each time it is reached (what is shared counts as often as it is met; a slice's spare places count too). A statement '..UptoSaid' is the law's where the arguments, and the package variables that the reading takes, are together of bulk at most 1048576: NARROWER than '..Said'. Prove '..Said' where nothing that the law and all that it calls make is longer than what came in: it says more and counts as full. Else prove '..UptoSaid'. A law counts once. -/
mutual
def uptoBulk {H : Type} : DataW H → Nat
  | .lit (.string bytes) => bytes.length + 1
  | .lit _ => 1
  | .nil => 1
  | .ptr d => uptoBulk d + 1
  | .slice elems spare => uptoBulkAll elems + uptoBulkAll spare + 1
  | .agg parts => uptoBulkAll parts + 1
  | .iface _ d => uptoBulk d + 1
  | .map entries => uptoBulkEntries entries + 1
  | .held _ => 1
def uptoBulkAll {H : Type} : List (DataW H) → Nat
  | [] => 0
  | d :: r => uptoBulk d + uptoBulkAll r
def uptoBulkEntries {H : Type} : List (Lit × DataW H) → Nat
  | [] => 0
  | x :: r => uptoBulkEntry x + uptoBulkEntries r
def uptoBulkEntry {H : Type} : Lit × DataW H → Nat
  | (.string bytes, d) => bytes.length + uptoBulk d + 1
  | (_, d) => uptoBulk d + 1
 end
def uptoSmall : (H : Type) → List (DataW H) → Bool := fun _ ds => decide (uptoBulkAll ds ≤ 1048576)
def OpenSpec.upto (s : _root_.Go.ChangeSpec) : _root_.Go.OpenSpec := { _root_.Go.OpenSpec.ofChange s with cond := some uptoSmall }

/-- 'eliminantlaw04.MonomialMatchesReference', WHERE WHAT IT READS IS OF BULK AT MOST 1048576: true; the input reads as it did. -/
def monomialMatchesReferenceUptoRow : OpenClaim := { program := "ytcnpldkadgloiaa", sum := "56991d2b848d47572d545f45b1e22ae27daf4fc96953f35d690cadf736a819da", func := "eliminant/eliminantlaw04.MonomialMatchesReference", spec := "monomialMatchesReference", unfollowed := true, recurses := true, apart := false, narrowed := true }
def MonomialMatchesReferenceUptoSaid : Prop := monomialMatchesReferenceUptoRow.holds Try.pinned (OpenSpec.upto monomialMatchesReferenceSpec)

/-- 'eliminantlaw04.MonomialLimits', WHERE WHAT IT READS IS OF BULK AT MOST 1048576: true; the input reads as it did. -/
def monomialLimitsUptoRow : OpenClaim := { program := "ytcnpldkadgloiaa", sum := "56991d2b848d47572d545f45b1e22ae27daf4fc96953f35d690cadf736a819da", func := "eliminant/eliminantlaw04.MonomialLimits", spec := "monomialLimits", unfollowed := true, recurses := true, apart := false, narrowed := true }
def MonomialLimitsUptoSaid : Prop := monomialLimitsUptoRow.holds Try.pinned (OpenSpec.upto monomialLimitsSpec)

/-- 'eliminantlaw04.MonomialProducts', WHERE WHAT IT READS IS OF BULK AT MOST 1048576: true; the input reads as it did. -/
def monomialProductsUptoRow : OpenClaim := { program := "ytcnpldkadgloiaa", sum := "56991d2b848d47572d545f45b1e22ae27daf4fc96953f35d690cadf736a819da", func := "eliminant/eliminantlaw04.MonomialProducts", spec := "monomialProducts", unfollowed := true, recurses := true, apart := false, narrowed := true }
def MonomialProductsUptoSaid : Prop := monomialProductsUptoRow.holds Try.pinned (OpenSpec.upto monomialProductsSpec)

/-- 'eliminantlaw04.MonomialDivides', WHERE WHAT IT READS IS OF BULK AT MOST 1048576: true; the input reads as it did. -/
def monomialDividesUptoRow : OpenClaim := { program := "ytcnpldkadgloiaa", sum := "56991d2b848d47572d545f45b1e22ae27daf4fc96953f35d690cadf736a819da", func := "eliminant/eliminantlaw04.MonomialDivides", spec := "monomialDivides", unfollowed := true, recurses := true, apart := false, narrowed := true }
def MonomialDividesUptoSaid : Prop := monomialDividesUptoRow.holds Try.pinned (OpenSpec.upto monomialDividesSpec)

/-- 'eliminantlaw04.MonomialLattice', WHERE WHAT IT READS IS OF BULK AT MOST 1048576: true; the input reads as it did. -/
def monomialLatticeUptoRow : OpenClaim := { program := "ytcnpldkadgloiaa", sum := "56991d2b848d47572d545f45b1e22ae27daf4fc96953f35d690cadf736a819da", func := "eliminant/eliminantlaw04.MonomialLattice", spec := "monomialLattice", unfollowed := true, recurses := true, apart := false, narrowed := true }
def MonomialLatticeUptoSaid : Prop := monomialLatticeUptoRow.holds Try.pinned (OpenSpec.upto monomialLatticeSpec)

/-- 'eliminantlaw04.MonomialOrders', WHERE WHAT IT READS IS OF BULK AT MOST 1048576: true; the input reads as it did. -/
def monomialOrdersUptoRow : OpenClaim := { program := "ytcnpldkadgloiaa", sum := "56991d2b848d47572d545f45b1e22ae27daf4fc96953f35d690cadf736a819da", func := "eliminant/eliminantlaw04.MonomialOrders", spec := "monomialOrders", unfollowed := true, recurses := true, apart := false, narrowed := true }
def MonomialOrdersUptoSaid : Prop := monomialOrdersUptoRow.holds Try.pinned (OpenSpec.upto monomialOrdersSpec)

/-- 'eliminantlaw04.MonomialMinimal', WHERE WHAT IT READS IS OF BULK AT MOST 1048576: true; the input reads as it did. -/
def monomialMinimalUptoRow : OpenClaim := { program := "ytcnpldkadgloiaa", sum := "56991d2b848d47572d545f45b1e22ae27daf4fc96953f35d690cadf736a819da", func := "eliminant/eliminantlaw04.MonomialMinimal", spec := "monomialMinimal", unfollowed := true, recurses := true, apart := false, narrowed := true }
def MonomialMinimalUptoSaid : Prop := monomialMinimalUptoRow.holds Try.pinned (OpenSpec.upto monomialMinimalSpec)

/-- 'eliminantlaw04.MonomialAll', WHERE WHAT IT READS IS OF BULK AT MOST 1048576: true; the input reads as it did. -/
def monomialAllUptoRow : OpenClaim := { program := "ytcnpldkadgloiaa", sum := "56991d2b848d47572d545f45b1e22ae27daf4fc96953f35d690cadf736a819da", func := "eliminant/eliminantlaw04.MonomialAll", spec := "monomialAll", unfollowed := true, recurses := true, apart := false, narrowed := true }
def MonomialAllUptoSaid : Prop := monomialAllUptoRow.holds Try.pinned (OpenSpec.upto monomialAllSpec)

end Rows
end Go.Proofs.Ytcnpldkadgloiaa
