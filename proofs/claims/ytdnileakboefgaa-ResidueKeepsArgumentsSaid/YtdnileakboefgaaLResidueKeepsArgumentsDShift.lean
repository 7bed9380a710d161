/- What the program's Shift comes to. -/
import Derived.Test.YtdnileakboefgaaLResidueKeepsArgumentsCnt
namespace Go.Proofs.Ytdnileakboefgaa.PResidueKeepsArguments
open Go.RowKit Go.Proofs.YtdnileakboefgaaW.PrintWords Go.Proofs.YtdnileakboefgaaW.PrintLast Go.Proofs.YtdnileakboefgaaW.PrintMore
set_option linter.unusedVariables false
set_option linter.unusedSimpArgs false

theorem Shift_loop (n : Nat) (hn : 1 ≤ n) (hn2 : n ≤ 7200) (m b : Int) (b0 : 0 ≤ b) (b1 : b < n) : ∀ (suf pre : List S35) (p : Int → Bool) (last : Int), Fit (pre ++ suf) → m = ((pre ++ suf).length : Int) → vldF n last suf = true →
    Ev (fun k => residue_Shift.l0 k b (tab n p) (pre ++ suf) m (pre.length : Int)) (can n fun x => p x || mem suf ((x - b) % n), 0)
  | [], pre, p, last, hb, hm, hv => by
    have e : (can n fun x => p x || mem [] ((x - b) % n)) = can n p := can_congr fun x _ _ => by rw [mem_nil, Bool.or_false]
    rw [e]
    refine Ev.step (f := fun k => (residue_marks_list.f k (tab n p)).bind fun t => some (t, 0)) (fun k => ?_) (Ev.bind (list_ev n hn2 p) (Ev.now _))
    simp only [residue_Shift.l0]
    rw [if_neg (by rw [hm]; exact nlt_pre pre)]
  | u :: suf, pre, p, last, hb, hm, hv => by
    rw [vldF_cons] at hv
    obtain ⟨h1, h2, h3, h4, h5⟩ := hv
    have hlt0 := lt_pre pre u suf
    have hb' : (pre.length : Int) < 140737488355328 := by unfold Fit at hb; simp at hb; omega
    have ih := Shift_loop n hn hn2 m b b0 b1 suf (pre ++ [u]) (fun x => p x || decide ((x - (u.f0 + b)) % n < u.f1 - u.f0)) u.f1 (by rwa [← List.append_cons]) (by rwa [← List.append_cons]) h5
    rw [← List.append_cons, len1] at ih
    have e : (can n fun x => (p x || decide ((x - (u.f0 + b)) % n < u.f1 - u.f0)) || mem suf ((x - b) % n)) = can n fun x => p x || mem (u :: suf) ((x - b) % n) := can_congr fun x hx0 hx1 => by
      have hr := em_run (x := x) (b := b) (n := n) (by omega) h2 h3 h4
      rw [mem_cons, Bool.or_assoc]; congr 2
      rw [Bool.eq_iff_iff, decide_eq_true_eq, inS_iff]; exact hr
    rw [e] at ih
    refine Ev.step (f := fun k => (residue_marks_put.f k (tab n p) (u.f0 + b) (u.f1 - u.f0)).bind fun t => residue_Shift.l0 k b t (pre ++ u :: suf) m ((pre.length : Int) + 1)) (fun k => ?_) (Ev.bind (put_ev n hn hn2 p (u.f0 + b) (u.f1 - u.f0)) ih)
    simp only [residue_Shift.l0]
    rw [if_pos (by rw [hm]; exact hlt0), if_pos (by omega), if_pos hlt0, rd_pre, wrap_ok (a := u.f0 + b) (by omega) (by omega), wrap_ok (a := u.f1 - u.f0) (by omega) (by omega), wrap_ok (by omega) (by omega)]
theorem Shift_ev (n : Nat) (hn : 1 ≤ n) (hn2 : n ≤ 7200) (a : List S35) (ha : Fit a) (b : Int) :
    Ev (fun k => residue_Shift.f k n a b) (if vld n a = true then (can n fun x => mem a ((x - b) % n), 0) else ([], 1)) := by
  simp only [residue_Shift.f]
  refine Ev.bind (check_ev n [a] (fit_le (by simp)) (by simpa using ha)) ?_
  rw [if_pos ((per_iff _).2 (by omega))]
  by_cases h : vld n a = true
  · rw [if_pos (by simpa using h), if_pos h]
    rw [vld_iff] at h
    refine Ev.ite_pos (by simp) ?_
    simp only [Mod_eq (show (1 : Int) ≤ n by omega) (show (n : Int) ≤ 9223372036854775807 by omega), Option.bind_some]
    refine Ev.ite_pos (by omega) (Ev.ite_pos (by omega) ?_)
    simp only [Int.toNat_natCast, tab_rep]
    have hb := em_bound b (show (0 : Int) < n by omega)
    have := Shift_loop n hn hn2 a.length (b % n) hb.1 hb.2 a [] (fun _ => false) (-1) ha rfl h.2
    simp only [Bool.false_or, em_sub] at this
    exact this
  · rw [if_neg (by simpa using h), if_neg h]
    exact Ev.ite_neg (by simp) (Ev.now _)
theorem Shift_bad (t : Int) (a : List S35) (ha : Fit a) (b : Int) (h : per t = false) : Ev (fun k => residue_Shift.f k t a b) ([], 4) := by
  simp only [residue_Shift.f]
  refine Ev.bind (check_ev t [a] (fit_le (by simp)) (by simpa using ha)) ?_
  rw [if_neg (by simp [h])]
  exact Ev.ite_neg (by simp) (Ev.now _)
end Go.Proofs.Ytdnileakboefgaa.PResidueKeepsArguments
