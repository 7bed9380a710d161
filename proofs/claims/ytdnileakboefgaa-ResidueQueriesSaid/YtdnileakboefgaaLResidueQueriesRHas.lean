/- What the reference's Has comes to. -/
import Derived.Test.YtdnileakboefgaaLResidueQueriesCnt
import Derived.Test.YtdnileakboefgaaLResidueQueriesCV
namespace Go.Proofs.Ytdnileakboefgaa.PResidueQueries
open Go.RowKit Go.Proofs.YtdnileakboefgaaW.PrintWords Go.Proofs.YtdnileakboefgaaW.PrintLast Go.Proofs.YtdnileakboefgaaW.PrintMore
set_option linter.unusedVariables false
set_option linter.unusedSimpArgs false

theorem rHas_loop (r : Int) : ∀ (suf pre : List S35), Fit (pre ++ suf) →
    Ev (fun k => railplanref1_Has.l0 k (pre ++ suf) r (pre.length : Int)) (mem suf r)
  | [], pre, hb => by
    refine Ev.step (f := fun _ => some false) (fun k => ?_) (Ev.now _)
    simp only [railplanref1_Has.l0]
    rw [if_neg (by exact nlt_pre pre)]
  | u :: suf, pre, hb => by
    have hlt0 := lt_pre pre u suf
    have hb' : (pre.length : Int) < 140737488355328 := by unfold Fit at hb; simp at hb; omega
    have ih := rHas_loop r suf (pre ++ [u]) (by rwa [← List.append_cons])
    rw [← List.append_cons, len1] at ih
    rw [mem_cons]
    by_cases h : u.f0 ≤ r ∧ r < u.f1
    · rw [(inS_iff u r).2 h, Bool.true_or]
      refine Ev.step (f := fun _ => some true) (fun k => ?_) (Ev.now _)
      simp only [railplanref1_Has.l0]
      rw [if_pos (by exact hlt0), if_pos (by omega), rd_pre, if_pos h.1, if_pos h.2]
    · have hf : inS u r = false := by rw [Bool.eq_false_iff]; exact fun hc => h ((inS_iff u r).1 hc)
      rw [hf, Bool.false_or]
      refine Ev.step (fun k => ?_) ih
      simp only [railplanref1_Has.l0]
      rw [if_pos (by exact hlt0), if_pos (by omega), rd_pre, wrap_ok (by omega) (by omega)]
      by_cases h0 : r ≥ u.f0
      · rw [if_pos h0, if_neg (by omega)]
      · rw [if_neg h0]
theorem rHas_ev (n : Nat) (hn : 1 ≤ n) (hn2 : n ≤ 7200) (s : List S35) (hs : Fit s) (x : Int) : Ev (fun k => railplanref1_Has.f k n s x) (vld n s && mem s (x % n)) := by
  simp only [railplanref1_Has.f]
  refine Ev.bind (ValidSpans_ev n s hs) ?_
  cases vld n s
  · exact Ev.ite_neg (by simp) (Ev.now _)
  · refine Ev.ite_pos rfl ?_
    simp only [rMod_eq (show (1 : Int) ≤ n by omega) (show (n : Int) ≤ 9223372036854775807 by omega), Option.bind_some, Bool.true_and]
    exact rHas_loop (x % n) s [] hs
end Go.Proofs.Ytdnileakboefgaa.PResidueQueries
