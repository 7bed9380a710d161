/- What the reference's Sum comes to. -/
import Derived.Test.YtdnileakboefgaaLResidueShiftAndSumSumP
import Derived.Test.YtdnileakboefgaaLResidueShiftAndSumCV
namespace Go.Proofs.Ytdnileakboefgaa.PResidueShiftAndSum
open Go.RowKit Go.Proofs.YtdnileakboefgaaW.PrintWords Go.Proofs.YtdnileakboefgaaW.PrintLast Go.Proofs.YtdnileakboefgaaW.PrintMore
set_option linter.unusedVariables false
set_option linter.unusedSimpArgs false

theorem rSum_run (n : Nat) (hn : 1 ≤ n) (hn2 : n ≤ 7200) (a b : List S35) (i j m : Int) (R : List S35 × Int) : ∀ (d : Nat) (p : Int → Bool) (at0 c : Int), 0 ≤ at0 → at0 < n → 0 ≤ c → mn m n - c ≤ d →
    (∀ q : Int → Bool, (∀ x : Int, 0 ≤ x → x < n → q x = (p x || decide ((x - at0) % n < mn m n - c))) → Ev (fun k => railplanref1_Sum.l1 k n a b (tab n q) i (wrap64 (j + 1))) R) →
    Ev (fun k => railplanref1_Sum.l2 k n a b (tab n p) i j m at0 c) R
  | d, p, at0, c, h0, h1, h2, hd, hk => by
    by_cases hc : c < m ∧ c < n
    · cases d with
      | zero => exfalso; unfold mn at hd; split at hd <;> omega
      | succ d =>
      have hb := em_bound (at0 + 1) (show (0 : Int) < n by omega)
      have ih := rSum_run n hn hn2 a b i j m R d (fun x => if x = at0 then true else p x) ((at0 + 1) % n) (c + 1) hb.1 hb.2 (by omega) (by omega) (fun q hq => hk q fun x hx0 hx1 => by
        rw [hq x hx0 hx1]
        have hs := em_step (x := x) (a := at0) (n := n) (m := mn m n - c) (by omega) hx0 hx1 h0 h1 (by unfold mn; split <;> omega)
        by_cases hx : x = at0
        · rw [if_pos hx, Bool.true_or, decide_eq_true (hs.2 (.inl hx)), Bool.or_true]
        · rw [if_neg hx]
          congr 1
          apply decide_eq_decide.2
          rw [hs]
          constructor
          · intro h; exact .inr (by omega)
          · rintro (h | h)
            · exact absurd h hx
            · omega)
      refine Ev.step (fun k => ?_) ih
      simp only [railplanref1_Sum.l2]
      rw [if_pos hc.1, if_pos hc.2, if_pos h0, if_pos (by rw [tab_len]; exact h1), if_neg (by omega), tab_set p true h0, wrap_ok (by omega) (by omega), wrap_ok (by omega) (by omega), tmod_pos (by omega)]
    · refine Ev.step (fun k => ?_) (hk p fun x hx0 hx1 => by
        have := em_bound (x - at0) (show (0 : Int) < n by omega)
        rw [decide_eq_false (by unfold mn; split <;> omega), Bool.or_false])
      simp only [railplanref1_Sum.l2]
      by_cases h : c < m
      · rw [if_pos h, if_neg (by omega)]
      · rw [if_neg h]
theorem rSum_inner (n : Nat) (hn : 1 ≤ n) (hn2 : n ≤ 7200) (aa : List S35) (i : Int) (i0 : 0 ≤ i) (hi : i < aa.length) (u : S35) (hu : rd_T35 aa i = u) (hu0 : 0 ≤ u.f0) (hu1 : u.f0 < u.f1) (hu2 : u.f1 ≤ n) (R : List S35 × Int) : ∀ (suf pre : List S35) (p : Int → Bool) (last : Int), Fit (pre ++ suf) → vldF n last suf = true →
    (∀ q : Int → Bool, (∀ x : Int, 0 ≤ x → x < n → q x = (p x || sm1 n u suf x)) → Ev (fun k => railplanref1_Sum.l0 k n aa (pre ++ suf) (tab n q) (wrap64 (i + 1))) R) →
    Ev (fun k => railplanref1_Sum.l1 k n aa (pre ++ suf) (tab n p) i (pre.length : Int)) R
  | [], pre, p, last, hb, hv, hk => by
    refine Ev.step (fun k => ?_) (hk p (fun x _ _ => by simp [sm1]))
    simp only [railplanref1_Sum.l1]
    rw [if_neg (nlt_pre pre)]
  | v :: suf, pre, p, last, hb, hv, hk => by
    rw [vldF_cons] at hv
    obtain ⟨h1, h2, h3, h4, h5⟩ := hv
    have hlt0 := lt_pre pre v suf
    have hb' : (pre.length : Int) < 140737488355328 := by unfold Fit at hb; simp at hb; omega
    have hm := em_bound (u.f0 + v.f0) (show (0 : Int) < n by omega)
    have run := rSum_run n hn hn2 aa (pre ++ v :: suf) i (pre.length : Int) (u.f1 - u.f0 + v.f1 - v.f0 - 1) R n p ((u.f0 + v.f0) % n) 0 hm.1 hm.2 (Int.le_refl _) (by unfold mn; split <;> omega) (fun q hq => by
      have ih := rSum_inner n hn hn2 aa i i0 hi u hu hu0 hu1 hu2 R suf (pre ++ [v]) q v.f1 (by rwa [← List.append_cons]) h5 (fun r hr => by
        rw [← List.append_cons]
        refine hk r fun x hx0 hx1 => ?_
        rw [hr x hx0 hx1, hq x hx0 hx1, sm1_cons, Bool.or_assoc]
        congr 2
        apply decide_eq_decide.2
        rw [em_sub]
        have := em_bound (x - (u.f0 + v.f0)) (show (0 : Int) < n by omega)
        unfold mn; split <;> omega)
      rw [← List.append_cons, len1] at ih
      rw [wrap_ok (by omega) (by omega)]; exact ih)
    refine Ev.step (fun k => ?_) run
    simp only [railplanref1_Sum.l1]
    rw [if_pos hlt0, if_pos i0, if_pos hi, if_pos (by omega), if_neg (by omega), hu, rd_pre, wrap_ok (a := u.f1 - u.f0) (by omega) (by omega), wrap_ok (a := u.f1 - u.f0 + v.f1) (by omega) (by omega), wrap_ok (a := u.f1 - u.f0 + v.f1 - v.f0) (by omega) (by omega), wrap_ok (a := u.f1 - u.f0 + v.f1 - v.f0 - 1) (by omega) (by omega), wrap_ok (a := u.f0 + v.f0) (by omega) (by omega), tmod_pos (by omega)]
theorem rSum_loop (n : Nat) (hn : 1 ≤ n) (hn2 : n ≤ 7200) (b : List S35) (hfb : Fit b) (hvb : vldF n (-1) b = true) : ∀ (suf pre : List S35) (p : Int → Bool) (last : Int), Fit (pre ++ suf) → vldF n last suf = true →
    Ev (fun k => railplanref1_Sum.l0 k n (pre ++ suf) b (tab n p) (pre.length : Int)) (can n fun x => p x || sm n suf b x, 0)
  | [], pre, p, last, hb, hv => by
    have e : (can n fun x => p x || sm n [] b x) = can n p := can_congr fun x _ _ => by simp [sm]
    rw [e]
    refine Ev.step (f := fun k => (railplanref1_spans.f k (tab n p)).bind fun t => some (t, 0)) (fun k => ?_) (Ev.bind (spans_ev n hn2 p) (Ev.now _))
    simp only [railplanref1_Sum.l0]
    rw [if_neg (nlt_pre pre)]
  | u :: suf, pre, p, last, hb, hv => by
    rw [vldF_cons] at hv
    obtain ⟨h1, h2, h3, h4, h5⟩ := hv
    have hlt0 := lt_pre pre u suf
    have hb' : (pre.length : Int) < 140737488355328 := by unfold Fit at hb; simp at hb; omega
    have := rSum_inner n hn hn2 (pre ++ u :: suf) (pre.length : Int) (by omega) hlt0 u (rd_pre pre u suf) h2 h3 h4 (can n fun x => p x || sm n (u :: suf) b x, 0) b [] p (-1) hfb hvb (fun q hq => by
      have ih := rSum_loop n hn hn2 b hfb hvb suf (pre ++ [u]) q u.f1 (by rwa [← List.append_cons]) h5
      rw [← List.append_cons, len1] at ih
      have e : (can n fun x => q x || sm n suf b x) = can n fun x => p x || sm n (u :: suf) b x := can_congr fun x hx0 hx1 => by rw [hq x hx0 hx1, sm_cons, Bool.or_assoc]
      rw [e] at ih
      rw [wrap_ok (by omega) (by omega)]; exact ih)
    refine Ev.step (fun k => ?_) this
    simp only [railplanref1_Sum.l0]
    rw [if_pos hlt0]; rfl
theorem rSum_ev (n : Nat) (hn : 1 ≤ n) (hn2 : n ≤ 7200) (a b : List S35) (ha : Fit a) (hb : Fit b) :
    Ev (fun k => railplanref1_Sum.f k n a b) (if vld n a = true ∧ vld n b = true then (can n fun x => sm n a b x, 0) else ([], 1)) := by
  simp only [railplanref1_Sum.f]
  refine Ev.bind (bad_ev n a b ha hb) ?_
  rw [if_pos ((per_iff _).2 (by omega))]
  by_cases h : vld n a = true
  · rw [if_pos h]
    by_cases h' : vld n b = true
    · rw [if_pos h', if_pos ⟨h, h'⟩]
      rw [vld_iff] at h h'
      refine Ev.ite_pos (by simp) (Ev.ite_pos (by omega) (Ev.ite_pos (by omega) ?_))
      simp only [Int.toNat_natCast, tab_rep]
      have := rSum_loop n hn hn2 b hb h'.2 a [] (fun _ => false) (-1) ha h.2
      simp only [Bool.false_or] at this
      exact this
    · rw [if_neg h', if_neg (fun h => h' h.2)]
      exact Ev.ite_neg (by simp) (Ev.now _)
  · rw [if_neg h, if_neg (fun h' => h h'.1)]
    exact Ev.ite_neg (by simp) (Ev.now _)
end Go.Proofs.Ytdnileakboefgaa.PResidueShiftAndSum
