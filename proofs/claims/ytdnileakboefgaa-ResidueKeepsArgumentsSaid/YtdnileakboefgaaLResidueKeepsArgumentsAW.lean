/- The statements' own look at Make. -/
import Derived.Test.YtdnileakboefgaaLResidueKeepsArgumentsB
namespace Go.Proofs.Ytdnileakboefgaa.PResidueKeepsArguments
open Go.RowKit Go.Proofs.YtdnileakboefgaaW.PrintWords Go.Proofs.YtdnileakboefgaaW.PrintLast Go.Proofs.YtdnileakboefgaaW.PrintMore
set_option linter.unusedVariables false
set_option linter.unusedSimpArgs false

theorem awake_ev : Ev (fun k => railplanlaw2_awake.f k) true := by
  simp only [railplanlaw2_awake.f]
  refine Ev.bind (Make_ev 7 (by omega) (by omega) 2 3) ?_
  refine Ev.ite_pos rfl ?_
  have e : can 7 (fun x => decide ((x - 2) % ((7 : Nat) : Int) < 3)) = [⟨2, 5⟩] := by rfl
  rw [e]
  exact Ev.bind (Same_ev _ (fit_le (by simp))) (Ev.now _)
end Go.Proofs.Ytdnileakboefgaa.PResidueKeepsArguments
