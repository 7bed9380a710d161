/- What the program's Has comes to. -/
import Derived.Test.YtdnileakboefgaaLResidueQueriesCnt
namespace Go.Proofs.Ytdnileakboefgaa.PResidueQueries
open Go.RowKit Go.Proofs.YtdnileakboefgaaW.PrintWords Go.Proofs.YtdnileakboefgaaW.PrintLast Go.Proofs.YtdnileakboefgaaW.PrintMore
set_option linter.unusedVariables false
set_option linter.unusedSimpArgs false

theorem Has_loop (r : Int) (m : Int) : ∀ (suf pre : List S35), Fit (pre ++ suf) → m = ((pre ++ suf).length : Int) →
    Ev (fun k => residue_Has.l0 k r (pre ++ suf) m (pre.length : Int)) (mem suf r)
  | [], pre, hb, hm => by
    refine Ev.step (f := fun _ => some false) (fun k => ?_) (Ev.now _)
    simp only [residue_Has.l0]
    rw [if_neg (by rw [hm]; exact nlt_pre pre)]
  | u :: suf, pre, hb, hm => by
    have hlt0 := lt_pre pre u suf
    have hb' : (pre.length : Int) < 140737488355328 := by unfold Fit at hb; simp at hb; omega
    have ih := Has_loop r m suf (pre ++ [u]) (by rwa [← List.append_cons]) (by rwa [← List.append_cons])
    rw [← List.append_cons, len1] at ih
    rw [mem_cons]
    by_cases h : u.f0 ≤ r ∧ r < u.f1
    · rw [(inS_iff u r).2 h, Bool.true_or]
      refine Ev.step (f := fun _ => some true) (fun k => ?_) (Ev.now _)
      simp only [residue_Has.l0]
      rw [if_pos (by rw [hm]; exact hlt0), if_pos (by omega), if_pos hlt0, rd_pre, if_pos h.1, if_pos h.2]
    · have hf : inS u r = false := by rw [Bool.eq_false_iff]; exact fun hc => h ((inS_iff u r).1 hc)
      rw [hf, Bool.false_or]
      refine Ev.step (fun k => ?_) ih
      simp only [residue_Has.l0]
      rw [if_pos (by rw [hm]; exact hlt0), if_pos (by omega), if_pos hlt0, rd_pre, wrap_ok (by omega) (by omega)]
      by_cases h0 : r ≥ u.f0
      · rw [if_pos h0, if_neg (by omega)]
      · rw [if_neg h0]
theorem Has_ev (n : Nat) (hn : 1 ≤ n) (hn2 : n ≤ 7200) (s : List S35) (hs : Fit s) (x : Int) : Ev (fun k => residue_Has.f k n s x) (vld n s && mem s (x % n)) := by
  simp only [residue_Has.f]
  refine Ev.bind (Valid_ev n s hs) ?_
  cases vld n s
  · exact Ev.ite_neg (by simp) (Ev.now _)
  · refine Ev.ite_pos rfl ?_
    simp only [Mod_eq (show (1 : Int) ≤ n by omega) (show (n : Int) ≤ 9223372036854775807 by omega), Option.bind_some, Bool.true_and]
    exact Has_loop (x % n) s.length s [] hs rfl
end Go.Proofs.Ytdnileakboefgaa.PResidueQueries
