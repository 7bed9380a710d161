/- The source of numbers. -/
import Derived.Test.YtdnileakboefgaaLResidueKeepsArgumentsCPk
namespace Go.Proofs.Ytdnileakboefgaa.PResidueKeepsArguments
open Go.RowKit Go.Proofs.YtdnileakboefgaaW.PrintWords Go.Proofs.YtdnileakboefgaaW.PrintLast Go.Proofs.YtdnileakboefgaaW.PrintMore
set_option linter.unusedVariables false
set_option linter.unusedSimpArgs false

theorem Next_some (l : List Int) (hl : Fit l) (i n : Int) (h0 : 0 ≤ i) (hi : i ≤ l.length) (h1 : 1 ≤ n) (h2 : n ≤ 9223372036854775807) :
    ∃ r j, railplankeep_Source_Next.f l i n = some (r, j) ∧ 0 ≤ r ∧ r < n ∧ 0 ≤ j ∧ j ≤ l.length := by
  unfold Fit at hl
  unfold railplankeep_Source_Next.f
  by_cases h : i ≥ (l.length : Int)
  · rw [if_pos h]; exact ⟨0, i, rfl, by omega, by omega, h0, hi⟩
  · rw [if_neg h, wrap_ok (a := i + 1) (by omega) (by omega), wrap_ok (by omega) (by omega), if_pos (by omega), if_pos (by omega)]
    obtain ⟨r, hr, r0, r1⟩ := Pick_some (rd l (i + 1 - 1)) n h1 h2
    rw [hr]
    exact ⟨r, i + 1, rfl, r0, r1, by omega, by omega⟩
end Go.Proofs.Ytdnileakboefgaa.PResidueKeepsArguments
