/-
  No cell of these rows narrows 'for every input' (looked for: loops, veiled, ifaces, maps, wideKeys, modest, calm, conditions, laid).
  DERIVED. THE GIVEN ROWS OF THIS SEAT. 12 by the template 'for every input the law returns true; each argument reads behind the call as it read before'; 0 by the template 'total and deterministic' (their statements: YtdnileakboefgaaTotals.lean).
  GIVEN WITH THE SEED: the statements are not yours to turn. If you find one false, say at which input.
  Laid BY PROGRAM, IN A SANDBOX (cutbox-rows.mjs): the forced cells as the released guide's own fill.sh prints them over the translation 6ff81707ed7ce6bd… (all of the seat's roots in one cut). By AI agents, Wed Nov 11 2026. No macro, syntax, notation, axiom, sorry.
-/
import Derived.Test.YtdnileakboefgaaChecked
import GoSem.Claim
import GoSem.ClaimJoined
import GoSem.ClaimMapViews
import Derived.JoinedTies
import Derived.KernelRfl
namespace Go.Proofs.Ytdnileakboefgaa
/- THE CELL 'sum', in the pinned program and in every row, IS THE sha256 OF THE DUMP (.gsa) THAT YtdnileakboefgaaProg.lean LOADS. Nothing in Lean hashes anything: it is a label: what it is worth is what the hold of that sum in a sandbox is worth. -/
noncomputable def Try.pinned : Pinned := { name := "ytdnileakboefgaa", sum := "6ff81707ed7ce6bdada26e5e84b8993828b56169ec170c0ca295f59820750713", checked := Try.checked }
namespace Rows
def none {H : Type} : Left H := { results := [], args := [] }

/-- 'railplanlaw2.ResidueValid': WHATEVER THE INPUT: true; the input reads as it did. -/
def residueValidSpec : ChangeSpec := { name := "residueValid", fn := fun _ => fun
  | [d1, d2, d3] => { results := [.lit (.bool true)], args := [d1, d2, d3] }
  | _ => none }
def residueValidRow : OpenClaim := { program := "ytdnileakboefgaa", sum := "6ff81707ed7ce6bdada26e5e84b8993828b56169ec170c0ca295f59820750713", func := "railplan/railplanlaw2.ResidueValid", spec := "residueValid", apart := false }
def ResidueValidSaid : Prop := residueValidRow.holds Try.pinned (OpenSpec.ofChange residueValidSpec)

/-- ITS FALSE NEIGHBOUR: 'it returns false'. Refute it at one input. -/
def residueValidWrong : ChangeSpec := { name := "residueValid", fn := fun _ => fun
  | [d1, d2, d3] => { results := [.lit (.bool false)], args := [d1, d2, d3] }
  | _ => none }
def ResidueValidWrongFalsely : Prop := residueValidRow.holds Try.pinned (OpenSpec.ofChange residueValidWrong)

/-- 'railplanlaw2.ResidueMake': WHATEVER THE INPUT: true; the input reads as it did. -/
def residueMakeSpec : ChangeSpec := { name := "residueMake", fn := fun _ => fun
  | [d1, d2, d3] => { results := [.lit (.bool true)], args := [d1, d2, d3] }
  | _ => none }
def residueMakeRow : OpenClaim := { program := "ytdnileakboefgaa", sum := "6ff81707ed7ce6bdada26e5e84b8993828b56169ec170c0ca295f59820750713", func := "railplan/railplanlaw2.ResidueMake", spec := "residueMake", apart := false }
def ResidueMakeSaid : Prop := residueMakeRow.holds Try.pinned (OpenSpec.ofChange residueMakeSpec)

/-- ITS FALSE NEIGHBOUR: 'it returns false'. Refute it at one input. -/
def residueMakeWrong : ChangeSpec := { name := "residueMake", fn := fun _ => fun
  | [d1, d2, d3] => { results := [.lit (.bool false)], args := [d1, d2, d3] }
  | _ => none }
def ResidueMakeWrongFalsely : Prop := residueMakeRow.holds Try.pinned (OpenSpec.ofChange residueMakeWrong)

/-- 'railplanlaw2.ResidueShiftAndSum': WHATEVER THE INPUT: true; the input reads as it did. -/
def residueShiftAndSumSpec : ChangeSpec := { name := "residueShiftAndSum", fn := fun _ => fun
  | [d1, d2, d3, d4, d5, d6] => { results := [.lit (.bool true)], args := [d1, d2, d3, d4, d5, d6] }
  | _ => none }
def residueShiftAndSumRow : OpenClaim := { program := "ytdnileakboefgaa", sum := "6ff81707ed7ce6bdada26e5e84b8993828b56169ec170c0ca295f59820750713", func := "railplan/railplanlaw2.ResidueShiftAndSum", spec := "residueShiftAndSum", apart := false }
def ResidueShiftAndSumSaid : Prop := residueShiftAndSumRow.holds Try.pinned (OpenSpec.ofChange residueShiftAndSumSpec)

/-- ITS FALSE NEIGHBOUR: 'it returns false'. Refute it at one input. -/
def residueShiftAndSumWrong : ChangeSpec := { name := "residueShiftAndSum", fn := fun _ => fun
  | [d1, d2, d3, d4, d5, d6] => { results := [.lit (.bool false)], args := [d1, d2, d3, d4, d5, d6] }
  | _ => none }
def ResidueShiftAndSumWrongFalsely : Prop := residueShiftAndSumRow.holds Try.pinned (OpenSpec.ofChange residueShiftAndSumWrong)

/-- 'railplanlaw2.ResidueMembers': WHATEVER THE INPUT: true; the input reads as it did. -/
def residueMembersSpec : ChangeSpec := { name := "residueMembers", fn := fun _ => fun
  | [d1, d2, d3, d4] => { results := [.lit (.bool true)], args := [d1, d2, d3, d4] }
  | _ => none }
def residueMembersRow : OpenClaim := { program := "ytdnileakboefgaa", sum := "6ff81707ed7ce6bdada26e5e84b8993828b56169ec170c0ca295f59820750713", func := "railplan/railplanlaw2.ResidueMembers", spec := "residueMembers", apart := false }
def ResidueMembersSaid : Prop := residueMembersRow.holds Try.pinned (OpenSpec.ofChange residueMembersSpec)

/-- ITS FALSE NEIGHBOUR: 'it returns false'. Refute it at one input. -/
def residueMembersWrong : ChangeSpec := { name := "residueMembers", fn := fun _ => fun
  | [d1, d2, d3, d4] => { results := [.lit (.bool false)], args := [d1, d2, d3, d4] }
  | _ => none }
def ResidueMembersWrongFalsely : Prop := residueMembersRow.holds Try.pinned (OpenSpec.ofChange residueMembersWrong)

/-- 'railplanlaw2.ResidueNextIsFirst': WHATEVER THE INPUT: true; the input reads as it did. -/
def residueNextIsFirstSpec : ChangeSpec := { name := "residueNextIsFirst", fn := fun _ => fun
  | [d1, d2, d3] => { results := [.lit (.bool true)], args := [d1, d2, d3] }
  | _ => none }
def residueNextIsFirstRow : OpenClaim := { program := "ytdnileakboefgaa", sum := "6ff81707ed7ce6bdada26e5e84b8993828b56169ec170c0ca295f59820750713", func := "railplan/railplanlaw2.ResidueNextIsFirst", spec := "residueNextIsFirst", apart := false }
def ResidueNextIsFirstSaid : Prop := residueNextIsFirstRow.holds Try.pinned (OpenSpec.ofChange residueNextIsFirstSpec)

/-- ITS FALSE NEIGHBOUR: 'it returns false'. Refute it at one input. -/
def residueNextIsFirstWrong : ChangeSpec := { name := "residueNextIsFirst", fn := fun _ => fun
  | [d1, d2, d3] => { results := [.lit (.bool false)], args := [d1, d2, d3] }
  | _ => none }
def ResidueNextIsFirstWrongFalsely : Prop := residueNextIsFirstRow.holds Try.pinned (OpenSpec.ofChange residueNextIsFirstWrong)

/-- 'railplanlaw2.ResidueSumOfShifts': WHATEVER THE INPUT: true; the input reads as it did. -/
def residueSumOfShiftsSpec : ChangeSpec := { name := "residueSumOfShifts", fn := fun _ => fun
  | [d1, d2, d3, d4] => { results := [.lit (.bool true)], args := [d1, d2, d3, d4] }
  | _ => none }
def residueSumOfShiftsRow : OpenClaim := { program := "ytdnileakboefgaa", sum := "6ff81707ed7ce6bdada26e5e84b8993828b56169ec170c0ca295f59820750713", func := "railplan/railplanlaw2.ResidueSumOfShifts", spec := "residueSumOfShifts", apart := false }
def ResidueSumOfShiftsSaid : Prop := residueSumOfShiftsRow.holds Try.pinned (OpenSpec.ofChange residueSumOfShiftsSpec)

/-- ITS FALSE NEIGHBOUR: 'it returns false'. Refute it at one input. -/
def residueSumOfShiftsWrong : ChangeSpec := { name := "residueSumOfShifts", fn := fun _ => fun
  | [d1, d2, d3, d4] => { results := [.lit (.bool false)], args := [d1, d2, d3, d4] }
  | _ => none }
def ResidueSumOfShiftsWrongFalsely : Prop := residueSumOfShiftsRow.holds Try.pinned (OpenSpec.ofChange residueSumOfShiftsWrong)

/-- 'railplanlaw2.ResidueQueries': WHATEVER THE INPUT: true; the input reads as it did. -/
def residueQueriesSpec : ChangeSpec := { name := "residueQueries", fn := fun _ => fun
  | [d1, d2, d3, d4, d5] => { results := [.lit (.bool true)], args := [d1, d2, d3, d4, d5] }
  | _ => none }
def residueQueriesRow : OpenClaim := { program := "ytdnileakboefgaa", sum := "6ff81707ed7ce6bdada26e5e84b8993828b56169ec170c0ca295f59820750713", func := "railplan/railplanlaw2.ResidueQueries", spec := "residueQueries", apart := false }
def ResidueQueriesSaid : Prop := residueQueriesRow.holds Try.pinned (OpenSpec.ofChange residueQueriesSpec)

/-- ITS FALSE NEIGHBOUR: 'it returns false'. Refute it at one input. -/
def residueQueriesWrong : ChangeSpec := { name := "residueQueries", fn := fun _ => fun
  | [d1, d2, d3, d4, d5] => { results := [.lit (.bool false)], args := [d1, d2, d3, d4, d5] }
  | _ => none }
def ResidueQueriesWrongFalsely : Prop := residueQueriesRow.holds Try.pinned (OpenSpec.ofChange residueQueriesWrong)

/-- 'railplanlaw2.ResidueExamples': WHATEVER THE INPUT: true; the input reads as it did. -/
def residueExamplesSpec : ChangeSpec := { name := "residueExamples", fn := fun _ => fun
  | [] => { results := [.lit (.bool true)], args := [] }
  | _ => none }
def residueExamplesRow : OpenClaim := { program := "ytdnileakboefgaa", sum := "6ff81707ed7ce6bdada26e5e84b8993828b56169ec170c0ca295f59820750713", func := "railplan/railplanlaw2.ResidueExamples", spec := "residueExamples", apart := false }
def ResidueExamplesSaid : Prop := residueExamplesRow.holds Try.pinned (OpenSpec.ofChange residueExamplesSpec)

/-- ITS FALSE NEIGHBOUR: 'it returns false'. Refute it at one input. -/
def residueExamplesWrong : ChangeSpec := { name := "residueExamples", fn := fun _ => fun
  | [] => { results := [.lit (.bool false)], args := [] }
  | _ => none }
def ResidueExamplesWrongFalsely : Prop := residueExamplesRow.holds Try.pinned (OpenSpec.ofChange residueExamplesWrong)

/-- 'railplanlaw2.ResidueSetOperations': WHATEVER THE INPUT: true; the input reads as it did. -/
def residueSetOperationsSpec : ChangeSpec := { name := "residueSetOperations", fn := fun _ => fun
  | [d1, d2, d3, d4, d5] => { results := [.lit (.bool true)], args := [d1, d2, d3, d4, d5] }
  | _ => none }
def residueSetOperationsRow : OpenClaim := { program := "ytdnileakboefgaa", sum := "6ff81707ed7ce6bdada26e5e84b8993828b56169ec170c0ca295f59820750713", func := "railplan/railplanlaw2.ResidueSetOperations", spec := "residueSetOperations", apart := false }
def ResidueSetOperationsSaid : Prop := residueSetOperationsRow.holds Try.pinned (OpenSpec.ofChange residueSetOperationsSpec)

/-- ITS FALSE NEIGHBOUR: 'it returns false'. Refute it at one input. -/
def residueSetOperationsWrong : ChangeSpec := { name := "residueSetOperations", fn := fun _ => fun
  | [d1, d2, d3, d4, d5] => { results := [.lit (.bool false)], args := [d1, d2, d3, d4, d5] }
  | _ => none }
def ResidueSetOperationsWrongFalsely : Prop := residueSetOperationsRow.holds Try.pinned (OpenSpec.ofChange residueSetOperationsWrong)

/-- 'railplanlaw2.ResidueDeMorgan': WHATEVER THE INPUT: true; the input reads as it did. -/
def residueDeMorganSpec : ChangeSpec := { name := "residueDeMorgan", fn := fun _ => fun
  | [d1, d2, d3] => { results := [.lit (.bool true)], args := [d1, d2, d3] }
  | _ => none }
def residueDeMorganRow : OpenClaim := { program := "ytdnileakboefgaa", sum := "6ff81707ed7ce6bdada26e5e84b8993828b56169ec170c0ca295f59820750713", func := "railplan/railplanlaw2.ResidueDeMorgan", spec := "residueDeMorgan", apart := false }
def ResidueDeMorganSaid : Prop := residueDeMorganRow.holds Try.pinned (OpenSpec.ofChange residueDeMorganSpec)

/-- ITS FALSE NEIGHBOUR: 'it returns false'. Refute it at one input. -/
def residueDeMorganWrong : ChangeSpec := { name := "residueDeMorgan", fn := fun _ => fun
  | [d1, d2, d3] => { results := [.lit (.bool false)], args := [d1, d2, d3] }
  | _ => none }
def ResidueDeMorganWrongFalsely : Prop := residueDeMorganRow.holds Try.pinned (OpenSpec.ofChange residueDeMorganWrong)

/-- 'railplanlaw2.ResidueRejects': WHATEVER THE INPUT: true; the input reads as it did. -/
def residueRejectsSpec : ChangeSpec := { name := "residueRejects", fn := fun _ => fun
  | [d1, d2] => { results := [.lit (.bool true)], args := [d1, d2] }
  | _ => none }
def residueRejectsRow : OpenClaim := { program := "ytdnileakboefgaa", sum := "6ff81707ed7ce6bdada26e5e84b8993828b56169ec170c0ca295f59820750713", func := "railplan/railplanlaw2.ResidueRejects", spec := "residueRejects", apart := false }
def ResidueRejectsSaid : Prop := residueRejectsRow.holds Try.pinned (OpenSpec.ofChange residueRejectsSpec)

/-- ITS FALSE NEIGHBOUR: 'it returns false'. Refute it at one input. -/
def residueRejectsWrong : ChangeSpec := { name := "residueRejects", fn := fun _ => fun
  | [d1, d2] => { results := [.lit (.bool false)], args := [d1, d2] }
  | _ => none }
def ResidueRejectsWrongFalsely : Prop := residueRejectsRow.holds Try.pinned (OpenSpec.ofChange residueRejectsWrong)

/-- 'railplanlaw2.ResidueKeepsArguments': WHATEVER THE INPUT: true; the input reads as it did. -/
def residueKeepsArgumentsSpec : ChangeSpec := { name := "residueKeepsArguments", fn := fun _ => fun
  | [d1, d2, d3] => { results := [.lit (.bool true)], args := [d1, d2, d3] }
  | _ => none }
def residueKeepsArgumentsRow : OpenClaim := { program := "ytdnileakboefgaa", sum := "6ff81707ed7ce6bdada26e5e84b8993828b56169ec170c0ca295f59820750713", func := "railplan/railplanlaw2.ResidueKeepsArguments", spec := "residueKeepsArguments", apart := false }
def ResidueKeepsArgumentsSaid : Prop := residueKeepsArgumentsRow.holds Try.pinned (OpenSpec.ofChange residueKeepsArgumentsSpec)

/-- ITS FALSE NEIGHBOUR: 'it returns false'. Refute it at one input. -/
def residueKeepsArgumentsWrong : ChangeSpec := { name := "residueKeepsArguments", fn := fun _ => fun
  | [d1, d2, d3] => { results := [.lit (.bool false)], args := [d1, d2, d3] }
  | _ => none }
def ResidueKeepsArgumentsWrongFalsely : Prop := residueKeepsArgumentsRow.holds Try.pinned (OpenSpec.ofChange residueKeepsArgumentsWrong)

/- THE SECOND FORM. 'bulk': how many values and letters a reading holds, each counted each time it is reached (what is shared counts as often as it is met; a slice's spare places count too). A statement '..UptoSaid' is the law's where the arguments, and the package variables that the reading takes, are together of bulk at most 1048576: NARROWER than '..Said'. Prove '..Said' where nothing that the law and all that it calls make is longer than what came in: it says more and counts as full. Else prove '..UptoSaid'. A law counts once. -/
mutual
def uptoBulk {H : Type} : DataW H → Nat
  | .lit (.string bytes) => bytes.length + 1
  | .lit _ => 1
  | .nil => 1
  | .ptr d => uptoBulk d + 1
  | .slice elems spare => uptoBulkAll elems + uptoBulkAll spare + 1
  | .agg parts => uptoBulkAll parts + 1
  | .iface _ d => uptoBulk d + 1
  | .map entries => uptoBulkEntries entries + 1
  | .held _ => 1
def uptoBulkAll {H : Type} : List (DataW H) → Nat
  | [] => 0
  | d :: r => uptoBulk d + uptoBulkAll r
def uptoBulkEntries {H : Type} : List (Lit × DataW H) → Nat
  | [] => 0
  | x :: r => uptoBulkEntry x + uptoBulkEntries r
def uptoBulkEntry {H : Type} : Lit × DataW H → Nat
  | (.string bytes, d) => bytes.length + uptoBulk d + 1
  | (_, d) => uptoBulk d + 1
 end
def uptoSmall : (H : Type) → List (DataW H) → Bool := fun _ ds => decide (uptoBulkAll ds ≤ 1048576)
def OpenSpec.upto (s : _root_.Go.ChangeSpec) : _root_.Go.OpenSpec := { _root_.Go.OpenSpec.ofChange s with cond := some uptoSmall }

/-- 'railplanlaw2.ResidueValid', WHERE WHAT IT READS IS OF BULK AT MOST 1048576: true; the input reads as it did. -/
def residueValidUptoRow : OpenClaim := { program := "ytdnileakboefgaa", sum := "6ff81707ed7ce6bdada26e5e84b8993828b56169ec170c0ca295f59820750713", func := "railplan/railplanlaw2.ResidueValid", spec := "residueValid", apart := false, narrowed := true }
def ResidueValidUptoSaid : Prop := residueValidUptoRow.holds Try.pinned (OpenSpec.upto residueValidSpec)

/-- 'railplanlaw2.ResidueMake', WHERE WHAT IT READS IS OF BULK AT MOST 1048576: true; the input reads as it did. -/
def residueMakeUptoRow : OpenClaim := { program := "ytdnileakboefgaa", sum := "6ff81707ed7ce6bdada26e5e84b8993828b56169ec170c0ca295f59820750713", func := "railplan/railplanlaw2.ResidueMake", spec := "residueMake", apart := false, narrowed := true }
def ResidueMakeUptoSaid : Prop := residueMakeUptoRow.holds Try.pinned (OpenSpec.upto residueMakeSpec)

/-- 'railplanlaw2.ResidueShiftAndSum', WHERE WHAT IT READS IS OF BULK AT MOST 1048576: true; the input reads as it did. -/
def residueShiftAndSumUptoRow : OpenClaim := { program := "ytdnileakboefgaa", sum := "6ff81707ed7ce6bdada26e5e84b8993828b56169ec170c0ca295f59820750713", func := "railplan/railplanlaw2.ResidueShiftAndSum", spec := "residueShiftAndSum", apart := false, narrowed := true }
def ResidueShiftAndSumUptoSaid : Prop := residueShiftAndSumUptoRow.holds Try.pinned (OpenSpec.upto residueShiftAndSumSpec)

/-- 'railplanlaw2.ResidueMembers', WHERE WHAT IT READS IS OF BULK AT MOST 1048576: true; the input reads as it did. -/
def residueMembersUptoRow : OpenClaim := { program := "ytdnileakboefgaa", sum := "6ff81707ed7ce6bdada26e5e84b8993828b56169ec170c0ca295f59820750713", func := "railplan/railplanlaw2.ResidueMembers", spec := "residueMembers", apart := false, narrowed := true }
def ResidueMembersUptoSaid : Prop := residueMembersUptoRow.holds Try.pinned (OpenSpec.upto residueMembersSpec)

/-- 'railplanlaw2.ResidueNextIsFirst', WHERE WHAT IT READS IS OF BULK AT MOST 1048576: true; the input reads as it did. -/
def residueNextIsFirstUptoRow : OpenClaim := { program := "ytdnileakboefgaa", sum := "6ff81707ed7ce6bdada26e5e84b8993828b56169ec170c0ca295f59820750713", func := "railplan/railplanlaw2.ResidueNextIsFirst", spec := "residueNextIsFirst", apart := false, narrowed := true }
def ResidueNextIsFirstUptoSaid : Prop := residueNextIsFirstUptoRow.holds Try.pinned (OpenSpec.upto residueNextIsFirstSpec)

/-- 'railplanlaw2.ResidueSumOfShifts', WHERE WHAT IT READS IS OF BULK AT MOST 1048576: true; the input reads as it did. -/
def residueSumOfShiftsUptoRow : OpenClaim := { program := "ytdnileakboefgaa", sum := "6ff81707ed7ce6bdada26e5e84b8993828b56169ec170c0ca295f59820750713", func := "railplan/railplanlaw2.ResidueSumOfShifts", spec := "residueSumOfShifts", apart := false, narrowed := true }
def ResidueSumOfShiftsUptoSaid : Prop := residueSumOfShiftsUptoRow.holds Try.pinned (OpenSpec.upto residueSumOfShiftsSpec)

/-- 'railplanlaw2.ResidueQueries', WHERE WHAT IT READS IS OF BULK AT MOST 1048576: true; the input reads as it did. -/
def residueQueriesUptoRow : OpenClaim := { program := "ytdnileakboefgaa", sum := "6ff81707ed7ce6bdada26e5e84b8993828b56169ec170c0ca295f59820750713", func := "railplan/railplanlaw2.ResidueQueries", spec := "residueQueries", apart := false, narrowed := true }
def ResidueQueriesUptoSaid : Prop := residueQueriesUptoRow.holds Try.pinned (OpenSpec.upto residueQueriesSpec)

/-- 'railplanlaw2.ResidueExamples', WHERE WHAT IT READS IS OF BULK AT MOST 1048576: true; the input reads as it did. -/
def residueExamplesUptoRow : OpenClaim := { program := "ytdnileakboefgaa", sum := "6ff81707ed7ce6bdada26e5e84b8993828b56169ec170c0ca295f59820750713", func := "railplan/railplanlaw2.ResidueExamples", spec := "residueExamples", apart := false, narrowed := true }
def ResidueExamplesUptoSaid : Prop := residueExamplesUptoRow.holds Try.pinned (OpenSpec.upto residueExamplesSpec)

/-- 'railplanlaw2.ResidueSetOperations', WHERE WHAT IT READS IS OF BULK AT MOST 1048576: true; the input reads as it did. -/
def residueSetOperationsUptoRow : OpenClaim := { program := "ytdnileakboefgaa", sum := "6ff81707ed7ce6bdada26e5e84b8993828b56169ec170c0ca295f59820750713", func := "railplan/railplanlaw2.ResidueSetOperations", spec := "residueSetOperations", apart := false, narrowed := true }
def ResidueSetOperationsUptoSaid : Prop := residueSetOperationsUptoRow.holds Try.pinned (OpenSpec.upto residueSetOperationsSpec)

/-- 'railplanlaw2.ResidueDeMorgan', WHERE WHAT IT READS IS OF BULK AT MOST 1048576: true; the input reads as it did. -/
def residueDeMorganUptoRow : OpenClaim := { program := "ytdnileakboefgaa", sum := "6ff81707ed7ce6bdada26e5e84b8993828b56169ec170c0ca295f59820750713", func := "railplan/railplanlaw2.ResidueDeMorgan", spec := "residueDeMorgan", apart := false, narrowed := true }
def ResidueDeMorganUptoSaid : Prop := residueDeMorganUptoRow.holds Try.pinned (OpenSpec.upto residueDeMorganSpec)

/-- 'railplanlaw2.ResidueRejects', WHERE WHAT IT READS IS OF BULK AT MOST 1048576: true; the input reads as it did. -/
def residueRejectsUptoRow : OpenClaim := { program := "ytdnileakboefgaa", sum := "6ff81707ed7ce6bdada26e5e84b8993828b56169ec170c0ca295f59820750713", func := "railplan/railplanlaw2.ResidueRejects", spec := "residueRejects", apart := false, narrowed := true }
def ResidueRejectsUptoSaid : Prop := residueRejectsUptoRow.holds Try.pinned (OpenSpec.upto residueRejectsSpec)

/-- 'railplanlaw2.ResidueKeepsArguments', WHERE WHAT IT READS IS OF BULK AT MOST 1048576: true; the input reads as it did. -/
def residueKeepsArgumentsUptoRow : OpenClaim := { program := "ytdnileakboefgaa", sum := "6ff81707ed7ce6bdada26e5e84b8993828b56169ec170c0ca295f59820750713", func := "railplan/railplanlaw2.ResidueKeepsArguments", spec := "residueKeepsArguments", apart := false, narrowed := true }
def ResidueKeepsArgumentsUptoSaid : Prop := residueKeepsArgumentsUptoRow.holds Try.pinned (OpenSpec.upto residueKeepsArgumentsSpec)

end Rows
end Go.Proofs.Ytdnileakboefgaa
