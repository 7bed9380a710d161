/- The reference's flags of a list. -/
import Derived.Test.YtdnileakboefgaaLResidueKeepsArgumentsCV
namespace Go.Proofs.Ytdnileakboefgaa.PResidueKeepsArguments
open Go.RowKit Go.Proofs.YtdnileakboefgaaW.PrintWords Go.Proofs.YtdnileakboefgaaW.PrintLast Go.Proofs.YtdnileakboefgaaW.PrintMore
set_option linter.unusedVariables false
set_option linter.unusedSimpArgs false

/-! the flags of a list -/
theorem rmarks_loop (n : Nat) (hn2 : n ≤ 7200) : ∀ (suf pre : List S35) (p : Int → Bool) (last : Int), Fit (pre ++ suf) → vldF n last suf = true →
    Ev (fun k => railplanref1_marks.l0 k (pre ++ suf) (tab n p) (pre.length : Int)) (tab n fun x => p x || mem suf x)
  | [], pre, p, last, hb, hv => by
    have e : (tab n fun x => p x || mem [] x) = tab n p := tab_congr fun x _ _ => by rw [mem_nil, Bool.or_false]
    rw [e]
    refine Ev.step (f := fun _ => some (tab n p)) (fun k => ?_) (Ev.now _)
    simp only [railplanref1_marks.l0]
    rw [if_neg (nlt_pre pre)]
  | u :: suf, pre, p, last, hb, hv => by
    rw [vldF_cons] at hv
    obtain ⟨h1, h2, h3, h4, h5⟩ := hv
    have hlt0 := lt_pre pre u suf
    have hb' : (pre.length : Int) < 140737488355328 := by unfold Fit at hb; simp at hb; omega
    have inner : ∀ (d : Nat) (q : Int → Bool) (y : Int), 0 ≤ y → u.f1 - y ≤ d → (∀ x, q x = (p x || (decide (u.f0 ≤ x) && decide (x < y)))) → u.f0 ≤ y → y ≤ u.f1 →
        Ev (fun k => railplanref1_marks.l1 k (pre ++ u :: suf) (tab n q) (pre.length : Int) y) (tab n fun x => p x || mem (u :: suf) x) := by
      intro d
      induction d with
      | zero =>
        intro q y hy0 hd hq hl hr
        obtain rfl : y = u.f1 := by omega
        have ih := rmarks_loop n hn2 suf (pre ++ [u]) q u.f1 (by rwa [← List.append_cons]) h5
        rw [← List.append_cons, len1] at ih
        have e : (tab n fun x => q x || mem suf x) = tab n fun x => p x || mem (u :: suf) x := tab_congr fun x _ _ => by
          rw [hq, mem_cons]; unfold inS; rw [Bool.or_assoc]
        rw [e] at ih
        refine Ev.step (fun k => ?_) ih
        simp only [railplanref1_marks.l1]
        rw [if_pos (by omega), if_pos hlt0, rd_pre, if_neg (by omega), wrap_ok (by omega) (by omega)]
      | succ d ihd =>
        intro q y hy0 hd hq hl hr
        by_cases he : y = u.f1
        · exact ihd q y hy0 (by omega) hq hl hr
        · have := ihd (fun x => if x = y then true else q x) (y + 1) (by omega) (by omega) (fun x => by
            show (if x = y then true else q x) = _
            by_cases hx : x = y
            · rw [if_pos hx, decide_eq_true (show u.f0 ≤ x by omega), decide_eq_true (show x < y + 1 by omega)]; simp
            · rw [if_neg hx, hq]; congr 2; apply decide_eq_decide.2; omega) (by omega) (by omega)
          refine Ev.step (fun k => ?_) this
          simp only [railplanref1_marks.l1]
          rw [if_pos (by omega), if_pos hlt0, rd_pre, if_pos (by omega), if_pos hy0, if_pos (by rw [tab_len]; omega), tab_set q true hy0, wrap_ok (by omega) (by omega)]
    have := inner (u.f1 - u.f0).toNat p u.f0 h2 (by omega) (fun x => by
      by_cases hx : u.f0 ≤ x
      · rw [decide_eq_false (show ¬ x < u.f0 by omega), Bool.and_false, Bool.or_false]
      · rw [decide_eq_false hx, Bool.false_and, Bool.or_false]) (Int.le_refl _) (by omega)
    refine Ev.step (fun k => ?_) this
    simp only [railplanref1_marks.l0]
    rw [if_pos hlt0, if_pos (by omega), rd_pre]
theorem rmarks_ev (n : Nat) (hn2 : n ≤ 7200) (s : List S35) (hs : Fit s) (hv : vldF n (-1) s = true) : Ev (fun k => railplanref1_marks.f k n s) (tab n (mem s)) := by
  simp only [railplanref1_marks.f]
  refine Ev.ite_pos (by omega) (Ev.ite_pos (by omega) ?_)
  simp only [Int.toNat_natCast, tab_rep]
  have := rmarks_loop n hn2 s [] (fun _ => false) (-1) hs hv
  simp only [Bool.false_or] at this
  exact this

end Go.Proofs.Ytdnileakboefgaa.PResidueKeepsArguments
