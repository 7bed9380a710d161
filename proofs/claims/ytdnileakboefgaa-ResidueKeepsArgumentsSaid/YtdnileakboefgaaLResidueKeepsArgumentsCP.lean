/- The makers of the statements' numbers. -/
import Derived.Test.YtdnileakboefgaaLResidueKeepsArgumentsCPk
namespace Go.Proofs.Ytdnileakboefgaa.PResidueKeepsArguments
open Go.RowKit Go.Proofs.YtdnileakboefgaaW.PrintWords Go.Proofs.YtdnileakboefgaaW.PrintLast Go.Proofs.YtdnileakboefgaaW.PrintMore
set_option linter.unusedVariables false
set_option linter.unusedSimpArgs false

theorem Period_some (a : Int) : ∃ n : Nat, railplankeep_Period.f a = some (n : Int) ∧ 1 ≤ n ∧ n ≤ 600 := by
  obtain ⟨r, hr, h0, h1⟩ := Pick_some a 8 (by omega) (by omega)
  obtain ⟨u, hu, u0, u1⟩ := Pick_some (wrap64 (Int.tdiv a 8)) 600 (by omega) (by omega)
  obtain ⟨v, hv, v0, v1⟩ := Pick_some (wrap64 (Int.tdiv a 8)) 30 (by omega) (by omega)
  unfold railplankeep_Period.f
  rw [hr]
  simp only [Option.bind_some]
  by_cases h : r = 7
  · rw [if_pos h, hu]; simp only [Option.bind_some]
    rw [wrap_ok (by omega) (by omega)]
    exact ⟨(1 + u).toNat, by rw [Int.toNat_of_nonneg (by omega)], by omega, by omega⟩
  · rw [if_neg h, hv]; simp only [Option.bind_some]
    rw [wrap_ok (by omega) (by omega)]
    exact ⟨(1 + v).toNat, by rw [Int.toNat_of_nonneg (by omega)], by omega, by omega⟩
end Go.Proofs.Ytdnileakboefgaa.PResidueKeepsArguments
