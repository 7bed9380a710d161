/-
  No cell of these rows narrows 'for every input' (looked for: loops, veiled, ifaces, maps, wideKeys, modest, calm, conditions, laid).
  DERIVED. THE GIVEN ROWS OF THIS SEAT. 9 by the template 'for every input the law returns true; each argument reads behind the call as it read before'; 0 by the template 'total and deterministic' (their statements: YtkbcgahpekmlbaaTotals.lean).
  GIVEN WITH THE SEED: the statements are not yours to turn. If you find one false, say at which input.
  Laid BY PROGRAM, IN A SANDBOX (cutbox-rows.mjs): the forced cells as the released guide's own fill.sh prints them over the translation 2ff7ae9b51412670… (all of the seat's roots in one cut). By AI agents, Wed Nov 11 2026. No macro, syntax, notation, axiom, sorry.
-/
import Derived.Test.YtkbcgahpekmlbaaChecked
import GoSem.Claim
import GoSem.ClaimJoined
import GoSem.ClaimMapViews
import Derived.JoinedTies
import Derived.KernelRfl
namespace Go.Proofs.Ytkbcgahpekmlbaa
/- THE CELL 'sum', in the pinned program and in every row, IS THE sha256 OF THE DUMP (.gsa) THAT YtkbcgahpekmlbaaProg.lean LOADS. Nothing in Lean hashes anything: it is a label: what it is worth is what the hold of that sum in a sandbox is worth. -/
noncomputable def Try.pinned : Pinned := { name := "ytkbcgahpekmlbaa", sum := "2ff7ae9b514126700797304a98ab440120fec8dc6572a17b9490429098ce2f8a", checked := Try.checked }
namespace Rows
def none {H : Type} : Left H := { results := [], args := [] }

/-- 'railplanlaw13.PropagateRejects': WHATEVER THE INPUT: true; the input reads as it did. -/
def propagateRejectsSpec : ChangeSpec := { name := "propagateRejects", fn := fun _ => fun
  | [d1, d2, d3, d4, d5] => { results := [.lit (.bool true)], args := [d1, d2, d3, d4, d5] }
  | _ => none }
def propagateRejectsRow : OpenClaim := { program := "ytkbcgahpekmlbaa", sum := "2ff7ae9b514126700797304a98ab440120fec8dc6572a17b9490429098ce2f8a", func := "railplan/railplanlaw13.PropagateRejects", spec := "propagateRejects", unfollowed := true, recurses := true, apart := false }
def PropagateRejectsSaid : Prop := propagateRejectsRow.holds Try.pinned (OpenSpec.ofChange propagateRejectsSpec)

/-- ITS FALSE NEIGHBOUR: 'it returns false'. Refute it at one input. -/
def propagateRejectsWrong : ChangeSpec := { name := "propagateRejects", fn := fun _ => fun
  | [d1, d2, d3, d4, d5] => { results := [.lit (.bool false)], args := [d1, d2, d3, d4, d5] }
  | _ => none }
def PropagateRejectsWrongFalsely : Prop := propagateRejectsRow.holds Try.pinned (OpenSpec.ofChange propagateRejectsWrong)

/-- 'railplanlaw13.PropagateExamples': WHATEVER THE INPUT: true; the input reads as it did. -/
def propagateExamplesSpec : ChangeSpec := { name := "propagateExamples", fn := fun _ => fun
  | [] => { results := [.lit (.bool true)], args := [] }
  | _ => none }
def propagateExamplesRow : OpenClaim := { program := "ytkbcgahpekmlbaa", sum := "2ff7ae9b514126700797304a98ab440120fec8dc6572a17b9490429098ce2f8a", func := "railplan/railplanlaw13.PropagateExamples", spec := "propagateExamples", unfollowed := true, recurses := true, apart := false }
def PropagateExamplesSaid : Prop := propagateExamplesRow.holds Try.pinned (OpenSpec.ofChange propagateExamplesSpec)

/-- ITS FALSE NEIGHBOUR: 'it returns false'. Refute it at one input. -/
def propagateExamplesWrong : ChangeSpec := { name := "propagateExamples", fn := fun _ => fun
  | [] => { results := [.lit (.bool false)], args := [] }
  | _ => none }
def PropagateExamplesWrongFalsely : Prop := propagateExamplesRow.holds Try.pinned (OpenSpec.ofChange propagateExamplesWrong)

/-- 'railplanlaw13.PropagateIsClosed': WHATEVER THE INPUT: true; the input reads as it did. -/
def propagateIsClosedSpec : ChangeSpec := { name := "propagateIsClosed", fn := fun _ => fun
  | [d1, d2, d3, d4] => { results := [.lit (.bool true)], args := [d1, d2, d3, d4] }
  | _ => none }
def propagateIsClosedRow : OpenClaim := { program := "ytkbcgahpekmlbaa", sum := "2ff7ae9b514126700797304a98ab440120fec8dc6572a17b9490429098ce2f8a", func := "railplan/railplanlaw13.PropagateIsClosed", spec := "propagateIsClosed", unfollowed := true, recurses := true, apart := false }
def PropagateIsClosedSaid : Prop := propagateIsClosedRow.holds Try.pinned (OpenSpec.ofChange propagateIsClosedSpec)

/-- ITS FALSE NEIGHBOUR: 'it returns false'. Refute it at one input. -/
def propagateIsClosedWrong : ChangeSpec := { name := "propagateIsClosed", fn := fun _ => fun
  | [d1, d2, d3, d4] => { results := [.lit (.bool false)], args := [d1, d2, d3, d4] }
  | _ => none }
def PropagateIsClosedWrongFalsely : Prop := propagateIsClosedRow.holds Try.pinned (OpenSpec.ofChange propagateIsClosedWrong)

/-- 'railplanlaw13.PropagateIsSymmetric': WHATEVER THE INPUT: true; the input reads as it did. -/
def propagateIsSymmetricSpec : ChangeSpec := { name := "propagateIsSymmetric", fn := fun _ => fun
  | [d1, d2, d3, d4] => { results := [.lit (.bool true)], args := [d1, d2, d3, d4] }
  | _ => none }
def propagateIsSymmetricRow : OpenClaim := { program := "ytkbcgahpekmlbaa", sum := "2ff7ae9b514126700797304a98ab440120fec8dc6572a17b9490429098ce2f8a", func := "railplan/railplanlaw13.PropagateIsSymmetric", spec := "propagateIsSymmetric", unfollowed := true, recurses := true, apart := false }
def PropagateIsSymmetricSaid : Prop := propagateIsSymmetricRow.holds Try.pinned (OpenSpec.ofChange propagateIsSymmetricSpec)

/-- ITS FALSE NEIGHBOUR: 'it returns false'. Refute it at one input. -/
def propagateIsSymmetricWrong : ChangeSpec := { name := "propagateIsSymmetric", fn := fun _ => fun
  | [d1, d2, d3, d4] => { results := [.lit (.bool false)], args := [d1, d2, d3, d4] }
  | _ => none }
def PropagateIsSymmetricWrongFalsely : Prop := propagateIsSymmetricRow.holds Try.pinned (OpenSpec.ofChange propagateIsSymmetricWrong)

/-- 'railplanlaw13.PropagateEmptiness': WHATEVER THE INPUT: true; the input reads as it did. -/
def propagateEmptinessSpec : ChangeSpec := { name := "propagateEmptiness", fn := fun _ => fun
  | [d1, d2, d3] => { results := [.lit (.bool true)], args := [d1, d2, d3] }
  | _ => none }
def propagateEmptinessRow : OpenClaim := { program := "ytkbcgahpekmlbaa", sum := "2ff7ae9b514126700797304a98ab440120fec8dc6572a17b9490429098ce2f8a", func := "railplan/railplanlaw13.PropagateEmptiness", spec := "propagateEmptiness", unfollowed := true, recurses := true, apart := false }
def PropagateEmptinessSaid : Prop := propagateEmptinessRow.holds Try.pinned (OpenSpec.ofChange propagateEmptinessSpec)

/-- ITS FALSE NEIGHBOUR: 'it returns false'. Refute it at one input. -/
def propagateEmptinessWrong : ChangeSpec := { name := "propagateEmptiness", fn := fun _ => fun
  | [d1, d2, d3] => { results := [.lit (.bool false)], args := [d1, d2, d3] }
  | _ => none }
def PropagateEmptinessWrongFalsely : Prop := propagateEmptinessRow.holds Try.pinned (OpenSpec.ofChange propagateEmptinessWrong)

/-- 'railplanlaw13.PropagateRestricts': WHATEVER THE INPUT: true; the input reads as it did. -/
def propagateRestrictsSpec : ChangeSpec := { name := "propagateRestricts", fn := fun _ => fun
  | [d1, d2, d3, d4, d5, d6, d7] => { results := [.lit (.bool true)], args := [d1, d2, d3, d4, d5, d6, d7] }
  | _ => none }
def propagateRestrictsRow : OpenClaim := { program := "ytkbcgahpekmlbaa", sum := "2ff7ae9b514126700797304a98ab440120fec8dc6572a17b9490429098ce2f8a", func := "railplan/railplanlaw13.PropagateRestricts", spec := "propagateRestricts", unfollowed := true, recurses := true, apart := false }
def PropagateRestrictsSaid : Prop := propagateRestrictsRow.holds Try.pinned (OpenSpec.ofChange propagateRestrictsSpec)

/-- ITS FALSE NEIGHBOUR: 'it returns false'. Refute it at one input. -/
def propagateRestrictsWrong : ChangeSpec := { name := "propagateRestricts", fn := fun _ => fun
  | [d1, d2, d3, d4, d5, d6, d7] => { results := [.lit (.bool false)], args := [d1, d2, d3, d4, d5, d6, d7] }
  | _ => none }
def PropagateRestrictsWrongFalsely : Prop := propagateRestrictsRow.holds Try.pinned (OpenSpec.ofChange propagateRestrictsWrong)

/-- 'railplanlaw13.PropagateIsSound': WHATEVER THE INPUT: true; the input reads as it did. -/
def propagateIsSoundSpec : ChangeSpec := { name := "propagateIsSound", fn := fun _ => fun
  | [d1, d2] => { results := [.lit (.bool true)], args := [d1, d2] }
  | _ => none }
def propagateIsSoundRow : OpenClaim := { program := "ytkbcgahpekmlbaa", sum := "2ff7ae9b514126700797304a98ab440120fec8dc6572a17b9490429098ce2f8a", func := "railplan/railplanlaw13.PropagateIsSound", spec := "propagateIsSound", unfollowed := true, recurses := true, apart := false }
def PropagateIsSoundSaid : Prop := propagateIsSoundRow.holds Try.pinned (OpenSpec.ofChange propagateIsSoundSpec)

/-- ITS FALSE NEIGHBOUR: 'it returns false'. Refute it at one input. -/
def propagateIsSoundWrong : ChangeSpec := { name := "propagateIsSound", fn := fun _ => fun
  | [d1, d2] => { results := [.lit (.bool false)], args := [d1, d2] }
  | _ => none }
def PropagateIsSoundWrongFalsely : Prop := propagateIsSoundRow.holds Try.pinned (OpenSpec.ofChange propagateIsSoundWrong)

/-- 'railplanlaw13.PropagateIsExactForTrees': WHATEVER THE INPUT: true; the input reads as it did. -/
def propagateIsExactForTreesSpec : ChangeSpec := { name := "propagateIsExactForTrees", fn := fun _ => fun
  | [d1, d2, d3, d4] => { results := [.lit (.bool true)], args := [d1, d2, d3, d4] }
  | _ => none }
def propagateIsExactForTreesRow : OpenClaim := { program := "ytkbcgahpekmlbaa", sum := "2ff7ae9b514126700797304a98ab440120fec8dc6572a17b9490429098ce2f8a", func := "railplan/railplanlaw13.PropagateIsExactForTrees", spec := "propagateIsExactForTrees", unfollowed := true, recurses := true, apart := false }
def PropagateIsExactForTreesSaid : Prop := propagateIsExactForTreesRow.holds Try.pinned (OpenSpec.ofChange propagateIsExactForTreesSpec)

/-- ITS FALSE NEIGHBOUR: 'it returns false'. Refute it at one input. -/
def propagateIsExactForTreesWrong : ChangeSpec := { name := "propagateIsExactForTrees", fn := fun _ => fun
  | [d1, d2, d3, d4] => { results := [.lit (.bool false)], args := [d1, d2, d3, d4] }
  | _ => none }
def PropagateIsExactForTreesWrongFalsely : Prop := propagateIsExactForTreesRow.holds Try.pinned (OpenSpec.ofChange propagateIsExactForTreesWrong)

/-- 'railplanlaw13.PropagateReference': WHATEVER THE INPUT: true; the input reads as it did. -/
def propagateReferenceSpec : ChangeSpec := { name := "propagateReference", fn := fun _ => fun
  | [d1, d2] => { results := [.lit (.bool true)], args := [d1, d2] }
  | _ => none }
def propagateReferenceRow : OpenClaim := { program := "ytkbcgahpekmlbaa", sum := "2ff7ae9b514126700797304a98ab440120fec8dc6572a17b9490429098ce2f8a", func := "railplan/railplanlaw13.PropagateReference", spec := "propagateReference", unfollowed := true, recurses := true, apart := false }
def PropagateReferenceSaid : Prop := propagateReferenceRow.holds Try.pinned (OpenSpec.ofChange propagateReferenceSpec)

/-- ITS FALSE NEIGHBOUR: 'it returns false'. Refute it at one input. -/
def propagateReferenceWrong : ChangeSpec := { name := "propagateReference", fn := fun _ => fun
  | [d1, d2] => { results := [.lit (.bool false)], args := [d1, d2] }
  | _ => none }
def PropagateReferenceWrongFalsely : Prop := propagateReferenceRow.holds Try.pinned (OpenSpec.ofChange propagateReferenceWrong)

/- THE SECOND FORM. 'bulk': how many values and letters a reading holds, each counted each time it is reached (what is shared counts as often as it is met; a slice's spare places count too). A statement '..UptoSaid' is the law's where the arguments, and the package variables that the reading takes, are together of bulk at most 1048576: NARROWER than '..Said'. Prove '..Said' where nothing that the law and all that it calls make is longer than what came in: it says more and counts as full. Else prove '..UptoSaid'. A law counts once. -/
mutual
def uptoBulk {H : Type} : DataW H → Nat
  | .lit (.string bytes) => bytes.length + 1
  | .lit _ => 1
  | .nil => 1
  | .ptr d => uptoBulk d + 1
  | .slice elems spare => uptoBulkAll elems + uptoBulkAll spare + 1
  | .agg parts => uptoBulkAll parts + 1
  | .iface _ d => uptoBulk d + 1
  | .map entries => uptoBulkEntries entries + 1
  | .held _ => 1
def uptoBulkAll {H : Type} : List (DataW H) → Nat
  | [] => 0
  | d :: r => uptoBulk d + uptoBulkAll r
def uptoBulkEntries {H : Type} : List (Lit × DataW H) → Nat
  | [] => 0
  | x :: r => uptoBulkEntry x + uptoBulkEntries r
def uptoBulkEntry {H : Type} : Lit × DataW H → Nat
  | (.string bytes, d) => bytes.length + uptoBulk d + 1
  | (_, d) => uptoBulk d + 1
 end
def uptoSmall : (H : Type) → List (DataW H) → Bool := fun _ ds => decide (uptoBulkAll ds ≤ 1048576)
def OpenSpec.upto (s : _root_.Go.ChangeSpec) : _root_.Go.OpenSpec := { _root_.Go.OpenSpec.ofChange s with cond := some uptoSmall }

/-- 'railplanlaw13.PropagateRejects', WHERE WHAT IT READS IS OF BULK AT MOST 1048576: true; the input reads as it did. -/
def propagateRejectsUptoRow : OpenClaim := { program := "ytkbcgahpekmlbaa", sum := "2ff7ae9b514126700797304a98ab440120fec8dc6572a17b9490429098ce2f8a", func := "railplan/railplanlaw13.PropagateRejects", spec := "propagateRejects", unfollowed := true, recurses := true, apart := false, narrowed := true }
def PropagateRejectsUptoSaid : Prop := propagateRejectsUptoRow.holds Try.pinned (OpenSpec.upto propagateRejectsSpec)

/-- 'railplanlaw13.PropagateExamples', WHERE WHAT IT READS IS OF BULK AT MOST 1048576: true; the input reads as it did. -/
def propagateExamplesUptoRow : OpenClaim := { program := "ytkbcgahpekmlbaa", sum := "2ff7ae9b514126700797304a98ab440120fec8dc6572a17b9490429098ce2f8a", func := "railplan/railplanlaw13.PropagateExamples", spec := "propagateExamples", unfollowed := true, recurses := true, apart := false, narrowed := true }
def PropagateExamplesUptoSaid : Prop := propagateExamplesUptoRow.holds Try.pinned (OpenSpec.upto propagateExamplesSpec)

/-- 'railplanlaw13.PropagateIsClosed', WHERE WHAT IT READS IS OF BULK AT MOST 1048576: true; the input reads as it did. -/
def propagateIsClosedUptoRow : OpenClaim := { program := "ytkbcgahpekmlbaa", sum := "2ff7ae9b514126700797304a98ab440120fec8dc6572a17b9490429098ce2f8a", func := "railplan/railplanlaw13.PropagateIsClosed", spec := "propagateIsClosed", unfollowed := true, recurses := true, apart := false, narrowed := true }
def PropagateIsClosedUptoSaid : Prop := propagateIsClosedUptoRow.holds Try.pinned (OpenSpec.upto propagateIsClosedSpec)

/-- 'railplanlaw13.PropagateIsSymmetric', WHERE WHAT IT READS IS OF BULK AT MOST 1048576: true; the input reads as it did. -/
def propagateIsSymmetricUptoRow : OpenClaim := { program := "ytkbcgahpekmlbaa", sum := "2ff7ae9b514126700797304a98ab440120fec8dc6572a17b9490429098ce2f8a", func := "railplan/railplanlaw13.PropagateIsSymmetric", spec := "propagateIsSymmetric", unfollowed := true, recurses := true, apart := false, narrowed := true }
def PropagateIsSymmetricUptoSaid : Prop := propagateIsSymmetricUptoRow.holds Try.pinned (OpenSpec.upto propagateIsSymmetricSpec)

/-- 'railplanlaw13.PropagateEmptiness', WHERE WHAT IT READS IS OF BULK AT MOST 1048576: true; the input reads as it did. -/
def propagateEmptinessUptoRow : OpenClaim := { program := "ytkbcgahpekmlbaa", sum := "2ff7ae9b514126700797304a98ab440120fec8dc6572a17b9490429098ce2f8a", func := "railplan/railplanlaw13.PropagateEmptiness", spec := "propagateEmptiness", unfollowed := true, recurses := true, apart := false, narrowed := true }
def PropagateEmptinessUptoSaid : Prop := propagateEmptinessUptoRow.holds Try.pinned (OpenSpec.upto propagateEmptinessSpec)

/-- 'railplanlaw13.PropagateRestricts', WHERE WHAT IT READS IS OF BULK AT MOST 1048576: true; the input reads as it did. -/
def propagateRestrictsUptoRow : OpenClaim := { program := "ytkbcgahpekmlbaa", sum := "2ff7ae9b514126700797304a98ab440120fec8dc6572a17b9490429098ce2f8a", func := "railplan/railplanlaw13.PropagateRestricts", spec := "propagateRestricts", unfollowed := true, recurses := true, apart := false, narrowed := true }
def PropagateRestrictsUptoSaid : Prop := propagateRestrictsUptoRow.holds Try.pinned (OpenSpec.upto propagateRestrictsSpec)

/-- 'railplanlaw13.PropagateIsSound', WHERE WHAT IT READS IS OF BULK AT MOST 1048576: true; the input reads as it did. -/
def propagateIsSoundUptoRow : OpenClaim := { program := "ytkbcgahpekmlbaa", sum := "2ff7ae9b514126700797304a98ab440120fec8dc6572a17b9490429098ce2f8a", func := "railplan/railplanlaw13.PropagateIsSound", spec := "propagateIsSound", unfollowed := true, recurses := true, apart := false, narrowed := true }
def PropagateIsSoundUptoSaid : Prop := propagateIsSoundUptoRow.holds Try.pinned (OpenSpec.upto propagateIsSoundSpec)

/-- 'railplanlaw13.PropagateIsExactForTrees', WHERE WHAT IT READS IS OF BULK AT MOST 1048576: true; the input reads as it did. -/
def propagateIsExactForTreesUptoRow : OpenClaim := { program := "ytkbcgahpekmlbaa", sum := "2ff7ae9b514126700797304a98ab440120fec8dc6572a17b9490429098ce2f8a", func := "railplan/railplanlaw13.PropagateIsExactForTrees", spec := "propagateIsExactForTrees", unfollowed := true, recurses := true, apart := false, narrowed := true }
def PropagateIsExactForTreesUptoSaid : Prop := propagateIsExactForTreesUptoRow.holds Try.pinned (OpenSpec.upto propagateIsExactForTreesSpec)

/-- 'railplanlaw13.PropagateReference', WHERE WHAT IT READS IS OF BULK AT MOST 1048576: true; the input reads as it did. -/
def propagateReferenceUptoRow : OpenClaim := { program := "ytkbcgahpekmlbaa", sum := "2ff7ae9b514126700797304a98ab440120fec8dc6572a17b9490429098ce2f8a", func := "railplan/railplanlaw13.PropagateReference", spec := "propagateReference", unfollowed := true, recurses := true, apart := false, narrowed := true }
def PropagateReferenceUptoSaid : Prop := propagateReferenceUptoRow.holds Try.pinned (OpenSpec.upto propagateReferenceSpec)

end Rows
end Go.Proofs.Ytkbcgahpekmlbaa
