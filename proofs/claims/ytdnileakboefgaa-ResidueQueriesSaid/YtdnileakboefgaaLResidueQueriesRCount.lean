/- What the reference's Count comes to. -/
import Derived.Test.YtdnileakboefgaaLResidueQueriesCnt
import Derived.Test.YtdnileakboefgaaLResidueQueriesCV
namespace Go.Proofs.Ytdnileakboefgaa.PResidueQueries
open Go.RowKit Go.Proofs.YtdnileakboefgaaW.PrintWords Go.Proofs.YtdnileakboefgaaW.PrintLast Go.Proofs.YtdnileakboefgaaW.PrintMore
set_option linter.unusedVariables false
set_option linter.unusedSimpArgs false

theorem rCount_loop (n : Nat) (hn2 : n ≤ 7200) : ∀ (suf pre : List S35) (last c : Int), Fit (pre ++ suf) → vldF n last suf = true → 0 ≤ c → c ≤ last + 1 →
    Ev (fun k => railplanref1_Count.l0 k (pre ++ suf) c (pre.length : Int)) (c + sizes suf)
  | [], pre, last, c, hb, hv, hc0, hc1 => by
    have e : c + sizes [] = c := by simp [sizes]
    rw [e]
    refine Ev.step (f := fun _ => some c) (fun k => ?_) (Ev.now _)
    simp only [railplanref1_Count.l0]
    rw [if_neg (by exact nlt_pre pre)]
  | u :: suf, pre, last, c, hb, hv, hc0, hc1 => by
    rw [vldF_cons] at hv
    obtain ⟨h1, h2, h3, h4, h5⟩ := hv
    have hlt0 := lt_pre pre u suf
    have hb' : (pre.length : Int) < 140737488355328 := by unfold Fit at hb; simp at hb; omega
    have ih := rCount_loop n hn2 suf (pre ++ [u]) u.f1 (c + (u.f1 - u.f0)) (by rwa [← List.append_cons]) h5 (by omega) (by omega)
    rw [← List.append_cons, len1] at ih
    have e : c + sizes (u :: suf) = c + (u.f1 - u.f0) + sizes suf := by simp only [sizes]; omega
    rw [e]
    refine Ev.step (fun k => ?_) ih
    simp only [railplanref1_Count.l0]
    rw [if_pos (by exact hlt0), if_pos (by omega), rd_pre, wrap_ok (a := u.f1 - u.f0) (by omega) (by omega), wrap_ok (a := c + (u.f1 - u.f0)) (by omega) (by omega), wrap_ok (by omega) (by omega)]
theorem rCount_ev (n : Nat) (hn : 1 ≤ n) (hn2 : n ≤ 7200) (s : List S35) (hs : Fit s) : Ev (fun k => railplanref1_Count.f k n s) (if vld n s = true then cnt (mem s) n else 0) := by
  simp only [railplanref1_Count.f]
  refine Ev.bind (ValidSpans_ev n s hs) ?_
  by_cases h : vld n s = true
  · rw [if_pos h]
    rw [vld_iff] at h
    refine Ev.ite_pos ((vld_iff _ _).2 h) ?_
    have := rCount_loop n hn2 s [] (-1) 0 hs h.2 (Int.le_refl _) (by omega)
    rw [Int.zero_add, sizes_cnt n s _ h.2] at this
    exact this
  · rw [if_neg h]
    exact Ev.ite_neg h (Ev.now _)
end Go.Proofs.Ytdnileakboefgaa.PResidueQueries
