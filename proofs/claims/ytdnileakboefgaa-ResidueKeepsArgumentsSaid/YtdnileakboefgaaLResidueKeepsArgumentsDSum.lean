/- What the program's Sum comes to. -/
import Derived.Test.YtdnileakboefgaaLResidueKeepsArgumentsSumP
import Derived.Test.YtdnileakboefgaaLResidueKeepsArgumentsCnt
namespace Go.Proofs.Ytdnileakboefgaa.PResidueKeepsArguments
open Go.RowKit Go.Proofs.YtdnileakboefgaaW.PrintWords Go.Proofs.YtdnileakboefgaaW.PrintLast Go.Proofs.YtdnileakboefgaaW.PrintMore
set_option linter.unusedVariables false
set_option linter.unusedSimpArgs false

theorem Sum_inner (n : Nat) (hn : 1 ≤ n) (hn2 : n ≤ 7200) (bb aa : List S35) (m i : Int) (u : S35) (R : List S35 × Int) (m' : Int) (hu0 : 0 ≤ u.f0) (hu1 : u.f0 < u.f1) (hu2 : u.f1 ≤ n) : ∀ (suf pre : List S35) (p : Int → Bool) (last : Int), Fit (pre ++ suf) → m' = ((pre ++ suf).length : Int) → vldF n last suf = true →
    (∀ q : Int → Bool, (∀ x, q x = (p x || sm1 n u suf x)) → Ev (fun k => residue_Sum.l0 k bb (tab n q) aa m (wrap64 (i + 1))) R) →
    Ev (fun k => residue_Sum.l1 k bb (tab n p) aa m i (pre ++ suf) m' (pre.length : Int) u.f0 u.f1) R
  | [], pre, p, last, hb, hm, hv, hk => by
    refine Ev.step (fun k => ?_) (hk p (fun x => by simp [sm1]))
    simp only [residue_Sum.l1]
    rw [if_neg (by rw [hm]; exact nlt_pre pre)]
  | v :: suf, pre, p, last, hb, hm, hv, hk => by
    rw [vldF_cons] at hv
    obtain ⟨h1, h2, h3, h4, h5⟩ := hv
    have hlt0 := lt_pre pre v suf
    have hb' : (pre.length : Int) < 140737488355328 := by unfold Fit at hb; simp at hb; omega
    have ih := Sum_inner n hn hn2 bb aa m i u R m' hu0 hu1 hu2 suf (pre ++ [v]) (fun x => p x || decide ((x - (u.f0 + v.f0)) % n < u.f1 - u.f0 + v.f1 - v.f0 - 1)) v.f1 (by rwa [← List.append_cons]) (by rwa [← List.append_cons]) h5
      (fun q hq => hk q fun x => by rw [hq x, sm1_cons, Bool.or_assoc])
    rw [← List.append_cons, len1] at ih
    refine Ev.step (f := fun k => (residue_marks_put.f k (tab n p) (u.f0 + v.f0) (u.f1 - u.f0 + v.f1 - v.f0 - 1)).bind fun t => residue_Sum.l1 k bb t aa m i (pre ++ v :: suf) m' ((pre.length : Int) + 1) u.f0 u.f1) (fun k => ?_) (Ev.bind (put_ev n hn hn2 p (u.f0 + v.f0) (u.f1 - u.f0 + v.f1 - v.f0 - 1)) ih)
    simp only [residue_Sum.l1]
    rw [if_pos (by rw [hm]; exact hlt0), if_pos (by omega), if_pos hlt0, rd_pre, wrap_ok (a := u.f0 + v.f0) (by omega) (by omega), wrap_ok (a := u.f1 - u.f0) (by omega) (by omega), wrap_ok (a := u.f1 - u.f0 + v.f1) (by omega) (by omega), wrap_ok (a := u.f1 - u.f0 + v.f1 - v.f0) (by omega) (by omega), wrap_ok (a := u.f1 - u.f0 + v.f1 - v.f0 - 1) (by omega) (by omega), wrap_ok (by omega) (by omega)]
theorem Sum_loop (n : Nat) (hn : 1 ≤ n) (hn2 : n ≤ 7200) (b : List S35) (hfb : Fit b) (hvb : vldF n (-1) b = true) (m : Int) : ∀ (suf pre : List S35) (p : Int → Bool) (last : Int), Fit (pre ++ suf) → m = ((pre ++ suf).length : Int) → vldF n last suf = true →
    Ev (fun k => residue_Sum.l0 k b (tab n p) (pre ++ suf) m (pre.length : Int)) (can n fun x => p x || sm n suf b x, 0)
  | [], pre, p, last, hb, hm, hv => by
    have e : (can n fun x => p x || sm n [] b x) = can n p := can_congr fun x _ _ => by simp [sm]
    rw [e]
    refine Ev.step (f := fun k => (residue_marks_list.f k (tab n p)).bind fun t => some (t, 0)) (fun k => ?_) (Ev.bind (list_ev n hn2 p) (Ev.now _))
    simp only [residue_Sum.l0]
    rw [if_neg (by rw [hm]; exact nlt_pre pre)]
  | u :: suf, pre, p, last, hb, hm, hv => by
    rw [vldF_cons] at hv
    obtain ⟨h1, h2, h3, h4, h5⟩ := hv
    have hlt0 := lt_pre pre u suf
    have hb' : (pre.length : Int) < 140737488355328 := by unfold Fit at hb; simp at hb; omega
    have := Sum_inner n hn hn2 b (pre ++ u :: suf) m (pre.length : Int) u (can n fun x => p x || sm n (u :: suf) b x, 0) b.length h2 h3 h4 b [] p (-1) hfb rfl hvb (fun q hq => by
      have ih := Sum_loop n hn hn2 b hfb hvb m suf (pre ++ [u]) q u.f1 (by rwa [← List.append_cons]) (by rwa [← List.append_cons]) h5
      rw [← List.append_cons, len1] at ih
      have e : (can n fun x => q x || sm n suf b x) = can n fun x => p x || sm n (u :: suf) b x := can_congr fun x hx0 hx1 => by rw [hq x, sm_cons, Bool.or_assoc]
      rw [e] at ih
      rw [wrap_ok (by omega) (by omega)]; exact ih)
    refine Ev.step (fun k => ?_) this
    simp only [residue_Sum.l0]
    rw [if_pos (by rw [hm]; exact hlt0), if_pos (by omega), if_pos hlt0, rd_pre]; rfl
theorem Sum_ev (n : Nat) (hn : 1 ≤ n) (hn2 : n ≤ 7200) (a b : List S35) (ha : Fit a) (hb : Fit b) :
    Ev (fun k => residue_Sum.f k n a b) (if vld n a = true ∧ vld n b = true then (can n fun x => sm n a b x, 0) else ([], 1)) := by
  simp only [residue_Sum.f]
  refine Ev.bind (check_ev n [a, b] (fit_le (by simp)) (by simp; exact ⟨ha, hb⟩)) ?_
  rw [if_pos ((per_iff _).2 (by omega))]
  by_cases h : vld n a = true ∧ vld n b = true
  · rw [if_pos (by simp [h]), if_pos h]
    obtain ⟨h, h'⟩ := h
    rw [vld_iff] at h h'
    refine Ev.ite_pos (by simp) (Ev.ite_pos (by omega) (Ev.ite_pos (by omega) ?_))
    simp only [Int.toNat_natCast, tab_rep]
    have := Sum_loop n hn hn2 b hb h'.2 a.length a [] (fun _ => false) (-1) ha rfl h.2
    simp only [Bool.false_or] at this
    exact this
  · rw [if_neg (by simpa using h), if_neg h]
    exact Ev.ite_neg (by simp) (Ev.now _)
theorem Sum_bad (t : Int) (a b : List S35) (ha : Fit a) (hb : Fit b) (h : per t = false) : Ev (fun k => residue_Sum.f k t a b) ([], 4) := by
  simp only [residue_Sum.f]
  refine Ev.bind (check_ev t [a, b] (fit_le (by simp)) (by simp; exact ⟨ha, hb⟩)) ?_
  rw [if_neg (by simp [h])]
  exact Ev.ite_neg (by simp) (Ev.now _)
end Go.Proofs.Ytdnileakboefgaa.PResidueKeepsArguments
