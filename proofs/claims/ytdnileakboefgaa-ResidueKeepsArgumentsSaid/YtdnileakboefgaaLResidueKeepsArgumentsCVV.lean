/- What the reference's look at a list comes to. -/
import Derived.Test.YtdnileakboefgaaLResidueKeepsArgumentsB
namespace Go.Proofs.Ytdnileakboefgaa.PResidueKeepsArguments
open Go.RowKit Go.Proofs.YtdnileakboefgaaW.PrintWords Go.Proofs.YtdnileakboefgaaW.PrintLast Go.Proofs.YtdnileakboefgaaW.PrintMore
set_option linter.unusedVariables false
set_option linter.unusedSimpArgs false

theorem ValidSpans_loop (t : Int) : ∀ (suf pre : List S35) (last : Int), Fit (pre ++ suf) →
    Ev (fun k => railplanref1_ValidSpans.l0 k t (pre ++ suf) last (pre.length : Int)) (vldF t last suf)
  | [], pre, last, hb => by
    refine Ev.step (f := fun _ => some true) (fun k => ?_) (Ev.now _)
    simp only [railplanref1_ValidSpans.l0]
    rw [if_neg (nlt_pre pre)]
  | u :: suf, pre, last, hb => by
    have ih := ValidSpans_loop t suf (pre ++ [u]) u.f1 (by rwa [← List.append_cons])
    rw [← List.append_cons, len1] at ih
    have hlt0 := lt_pre pre u suf
    have hb' : (pre.length : Int) < 140737488355328 := by unfold Fit at hb; simp at hb; omega
    by_cases c : last < u.f0 ∧ 0 ≤ u.f0 ∧ u.f0 < u.f1 ∧ u.f1 ≤ t
    · have hv : vldF t last (u :: suf) = vldF t u.f1 suf := by simp [vldF, c]
      rw [hv]
      refine Ev.step (fun k => ?_) ih
      simp only [railplanref1_ValidSpans.l0]
      rw [if_pos hlt0, if_pos (by omega), rd_pre, if_neg (by omega), if_neg (by omega), if_neg (by omega), if_neg (by omega), wrap_ok (by omega) (by omega)]
    · have hv : vldF t last (u :: suf) = false := by rw [Bool.eq_false_iff, ne_eq, vldF_cons]; intro h; exact c ⟨h.1, h.2.1, h.2.2.1, h.2.2.2.1⟩
      rw [hv]
      refine Ev.step (f := fun _ => some false) (fun k => ?_) (Ev.now _)
      simp only [railplanref1_ValidSpans.l0]
      rw [if_pos hlt0, if_pos (by omega), rd_pre]
      iterate 4 (split; · rfl)
      exfalso; omega
theorem ValidSpans_ev (t : Int) (s : List S35) (hs : Fit s) : Ev (fun k => railplanref1_ValidSpans.f k t s) (vld t s) := by
  simp only [railplanref1_ValidSpans.f]
  unfold vld per
  by_cases h : t < 1
  · refine Ev.ite_pos h ?_
    rw [decide_eq_false (show ¬ 1 ≤ t by omega)]
    refine Ev.step (f := fun _ => some false) (fun k => ?_) (Ev.now _)
    simp only [railplanref1_ValidSpans.j0]; rfl
  · refine Ev.ite_neg h ?_
    rw [decide_eq_true (show 1 ≤ t by omega), Bool.true_and]
    by_cases h' : t > 7200
    · rw [decide_eq_true h', decide_eq_false (show ¬ t ≤ 7200 by omega)]
      refine Ev.step (f := fun _ => some false) (fun k => ?_) (Ev.now _)
      simp only [railplanref1_ValidSpans.j0]; rfl
    · rw [decide_eq_false h', decide_eq_true (show t ≤ 7200 by omega), Bool.true_and]
      refine Ev.step (fun k => ?_) (ValidSpans_loop t s [] (-1) hs)
      simp only [railplanref1_ValidSpans.j0]; rfl

end Go.Proofs.Ytdnileakboefgaa.PResidueKeepsArguments
