/- The maker of a number below a bound. -/
import Derived.Test.YtdnileakboefgaaLResidueKeepsArgumentsB
namespace Go.Proofs.Ytdnileakboefgaa.PResidueKeepsArguments
open Go.RowKit Go.Proofs.YtdnileakboefgaaW.PrintWords Go.Proofs.YtdnileakboefgaaW.PrintLast Go.Proofs.YtdnileakboefgaaW.PrintMore
set_option linter.unusedVariables false
set_option linter.unusedSimpArgs false

theorem Pick_some (a n : Int) (h1 : 1 ≤ n) (h2 : n ≤ 9223372036854775807) : ∃ r, railplankeep_Pick.f a n = some r ∧ 0 ≤ r ∧ r < n := by
  have hu : IntKind.u64.wrap n = n := by simp only [IntKind.wrap_u64]; exact em_lo (by omega) (by omega)
  have hb := em_bound (IntKind.u64.wrap a) (show 0 < n by omega)
  have h0 : 0 ≤ IntKind.u64.wrap a := by simp only [IntKind.wrap_u64]; exact Int.emod_nonneg _ (by omega)
  refine ⟨IntKind.u64.wrap a % n, ?_, hb⟩
  unfold railplankeep_Pick.f
  rw [hu, if_neg (by omega), tmod_pos h0, wrap_ok (by omega) (by omega)]
end Go.Proofs.Ytdnileakboefgaa.PResidueKeepsArguments
