/- What the program's Union comes to. -/
import Derived.Test.YtdnileakboefgaaLResidueKeepsArgumentsCnt
namespace Go.Proofs.Ytdnileakboefgaa.PResidueKeepsArguments
open Go.RowKit Go.Proofs.YtdnileakboefgaaW.PrintWords Go.Proofs.YtdnileakboefgaaW.PrintLast Go.Proofs.YtdnileakboefgaaW.PrintMore
set_option linter.unusedVariables false
set_option linter.unusedSimpArgs false

theorem marked_loop (n : Nat) (hn2 : n ≤ 7200) (m : Int) : ∀ (suf pre : List S35) (p : Int → Bool) (last : Int), Fit (pre ++ suf) → m = ((pre ++ suf).length : Int) → vldF n last suf = true →
    Ev (fun k => residue_marked.l0 k (tab n p) (pre ++ suf) m (pre.length : Int)) (tab n fun x => p x || mem suf x)
  | [], pre, p, last, hb, hm, hv => by
    have e : (tab n fun x => p x || mem [] x) = tab n p := tab_congr fun x _ _ => by rw [mem_nil, Bool.or_false]
    rw [e]
    refine Ev.step (f := fun _ => some (tab n p)) (fun k => ?_) (Ev.now _)
    simp only [residue_marked.l0]
    rw [if_neg (by rw [hm]; exact nlt_pre pre)]
  | u :: suf, pre, p, last, hb, hm, hv => by
    rw [vldF_cons] at hv
    obtain ⟨h1, h2, h3, h4, h5⟩ := hv
    have hlt0 := lt_pre pre u suf
    have hb' : (pre.length : Int) < 140737488355328 := by unfold Fit at hb; simp at hb; omega
    have inner : ∀ (d : Nat) (q : Int → Bool) (y : Int), 0 ≤ y → u.f1 - y ≤ d → (∀ x, q x = (p x || (decide (u.f0 ≤ x) && decide (x < y)))) → u.f0 ≤ y → y ≤ u.f1 →
        Ev (fun k => residue_marked.l1 k (tab n q) y (pre ++ u :: suf) m (pre.length : Int) u.f0 u.f1) (tab n fun x => p x || mem (u :: suf) x) := by
      intro d
      induction d with
      | zero =>
        intro q y hy0 hd hq hl hr
        obtain rfl : y = u.f1 := by omega
        have ih := marked_loop n hn2 m suf (pre ++ [u]) q u.f1 (by rwa [← List.append_cons]) (by rwa [← List.append_cons]) h5
        rw [← List.append_cons, len1] at ih
        have e : (tab n fun x => q x || mem suf x) = tab n fun x => p x || mem (u :: suf) x := tab_congr fun x _ _ => by
          rw [hq, mem_cons]; unfold inS; rw [Bool.or_assoc]
        rw [e] at ih
        refine Ev.step (fun k => ?_) ih
        simp only [residue_marked.l1]
        rw [if_neg (by omega), wrap_ok (by omega) (by omega)]
      | succ d ihd =>
        intro q y hy0 hd hq hl hr
        by_cases he : y = u.f1
        · exact ihd q y hy0 (by omega) hq hl hr
        · have := ihd (fun x => if x = y then true else q x) (y + 1) (by omega) (by omega) (fun x => by
            show (if x = y then true else q x) = _
            by_cases hx : x = y
            · rw [if_pos hx, decide_eq_true (show u.f0 ≤ x by omega), decide_eq_true (show x < y + 1 by omega)]; simp
            · rw [if_neg hx, hq]; congr 2; apply decide_eq_decide.2; omega) (by omega) (by omega)
          refine Ev.step (fun k => ?_) this
          simp only [residue_marked.l1]
          rw [if_pos (by omega), if_pos hy0, if_pos (by rw [tab_len]; omega), tab_set q true hy0, wrap_ok (by omega) (by omega)]
    have := inner (u.f1 - u.f0).toNat p u.f0 h2 (by omega) (fun x => by
      by_cases hx : u.f0 ≤ x
      · rw [decide_eq_false (show ¬ x < u.f0 by omega), Bool.and_false, Bool.or_false]
      · rw [decide_eq_false hx, Bool.false_and, Bool.or_false]) (Int.le_refl _) (by omega)
    refine Ev.step (fun k => ?_) this
    simp only [residue_marked.l0]
    rw [if_pos (by rw [hm]; exact hlt0), if_pos (by omega), if_pos hlt0, rd_pre]
theorem marked_ev (n : Nat) (hn2 : n ≤ 7200) (s : List S35) (hs : Fit s) (hv : vldF n (-1) s = true) : Ev (fun k => residue_marked.f k n s) (tab n (mem s)) := by
  simp only [residue_marked.f]
  refine Ev.ite_pos (by omega) (Ev.ite_pos (by omega) ?_)
  simp only [Int.toNat_natCast, tab_rep]
  have := marked_loop n hn2 s.length s [] (fun _ => false) (-1) hs rfl hv
  simp only [Bool.false_or] at this
  exact this
theorem Union_loop (n : Nat) (hn : 1 ≤ n) (hn2 : n ≤ 7200) (m : Int) : ∀ (suf pre : List S35) (p : Int → Bool) (last : Int), Fit (pre ++ suf) → m = ((pre ++ suf).length : Int) → vldF n last suf = true →
    Ev (fun k => residue_Union.l0 k (tab n p) (pre ++ suf) m (pre.length : Int)) (can n fun x => p x || mem suf x, 0)
  | [], pre, p, last, hb, hm, hv => by
    have e : (can n fun x => p x || mem [] x) = can n p := can_congr fun x _ _ => by rw [mem_nil, Bool.or_false]
    rw [e]
    refine Ev.step (f := fun k => (residue_marks_list.f k (tab n p)).bind fun t => some (t, 0)) (fun k => ?_) (Ev.bind (list_ev n hn2 p) (Ev.now _))
    simp only [residue_Union.l0]
    rw [if_neg (by rw [hm]; exact nlt_pre pre)]
  | u :: suf, pre, p, last, hb, hm, hv => by
    rw [vldF_cons] at hv
    obtain ⟨h1, h2, h3, h4, h5⟩ := hv
    have hlt0 := lt_pre pre u suf
    have hb' : (pre.length : Int) < 140737488355328 := by unfold Fit at hb; simp at hb; omega
    have ih := Union_loop n hn hn2 m suf (pre ++ [u]) (fun x => p x || decide ((x - u.f0) % n < u.f1 - u.f0)) u.f1 (by rwa [← List.append_cons]) (by rwa [← List.append_cons]) h5
    rw [← List.append_cons, len1] at ih
    have e : (can n fun x => (p x || decide ((x - u.f0) % n < u.f1 - u.f0)) || mem suf x) = can n fun x => p x || mem (u :: suf) x := can_congr fun x hx0 hx1 => by
      have hr := em_run (x := x) (b := 0) (n := n) (by omega) h2 h3 h4
      rw [Int.add_zero, Int.sub_zero, em_lo hx0 hx1] at hr
      rw [mem_cons, Bool.or_assoc]; congr 2
      rw [Bool.eq_iff_iff, decide_eq_true_eq, inS_iff]; exact hr
    rw [e] at ih
    refine Ev.step (f := fun k => (residue_marks_put.f k (tab n p) u.f0 (u.f1 - u.f0)).bind fun t => residue_Union.l0 k t (pre ++ u :: suf) m ((pre.length : Int) + 1)) (fun k => ?_) (Ev.bind (put_ev n hn hn2 p u.f0 (u.f1 - u.f0)) ih)
    simp only [residue_Union.l0]
    rw [if_pos (by rw [hm]; exact hlt0), if_pos (by omega), if_pos hlt0, rd_pre, wrap_ok (a := u.f1 - u.f0) (by omega) (by omega), wrap_ok (by omega) (by omega)]
theorem Union_ev (n : Nat) (hn : 1 ≤ n) (hn2 : n ≤ 7200) (a b : List S35) (ha : Fit a) (hb : Fit b) :
    Ev (fun k => residue_Union.f k n a b) (if vld n a = true ∧ vld n b = true then (can n fun x => mem a x || mem b x, 0) else ([], 1)) := by
  simp only [residue_Union.f]
  refine Ev.bind (check_ev n [a, b] (fit_le (by simp)) (by simp; exact ⟨ha, hb⟩)) ?_
  rw [if_pos ((per_iff _).2 (by omega))]
  by_cases h : vld n a = true ∧ vld n b = true
  · rw [if_pos (by simp [h]), if_pos h]
    obtain ⟨h, h'⟩ := h
    rw [vld_iff] at h h'
    refine Ev.ite_pos (by simp) (Ev.bind (marked_ev n hn2 a ha h.2) ?_)
    exact Union_loop n hn hn2 b.length b [] (mem a) (-1) hb rfl h'.2
  · rw [if_neg (by simpa using h), if_neg h]
    exact Ev.ite_neg (by simp) (Ev.now _)
theorem Union_bad (t : Int) (a b : List S35) (ha : Fit a) (hb : Fit b) (h : per t = false) : Ev (fun k => residue_Union.f k t a b) ([], 4) := by
  simp only [residue_Union.f]
  refine Ev.bind (check_ev t [a, b] (fit_le (by simp)) (by simp; exact ⟨ha, hb⟩)) ?_
  rw [if_neg (by simp [h])]
  exact Ev.ite_neg (by simp) (Ev.now _)
end Go.Proofs.Ytdnileakboefgaa.PResidueKeepsArguments
