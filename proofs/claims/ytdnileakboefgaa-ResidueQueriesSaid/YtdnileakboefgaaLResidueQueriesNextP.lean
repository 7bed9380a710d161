/- The next residue of a set. -/
import Derived.Test.YtdnileakboefgaaLResidueQueriesB
namespace Go.Proofs.Ytdnileakboefgaa.PResidueQueries
open Go.RowKit Go.Proofs.YtdnileakboefgaaW.PrintWords Go.Proofs.YtdnileakboefgaaW.PrintLast Go.Proofs.YtdnileakboefgaaW.PrintMore
set_option linter.unusedVariables false
set_option linter.unusedSimpArgs false

/-- d is the least distance from a residue r to a member. -/
def first (n : Nat) (s : List S35) (r d : Int) : Prop := 0 ≤ d ∧ d < n ∧ mem s ((r + d) % n) = true ∧ ∀ k : Int, 0 ≤ k → k < d → mem s ((r + k) % n) = false
theorem first_uniq {n : Nat} {s : List S35} {r d e : Int} (h : first n s r d) (g : first n s r e) : d = e := by
  rcases Int.lt_trichotomy d e with hl | hl | hl
  · have := g.2.2.2 d h.1 hl; rw [h.2.2.1] at this; cases this
  · exact hl
  · have := h.2.2.2 e g.1 hl; rw [g.2.2.1] at this; cases this
end Go.Proofs.Ytdnileakboefgaa.PResidueQueries
