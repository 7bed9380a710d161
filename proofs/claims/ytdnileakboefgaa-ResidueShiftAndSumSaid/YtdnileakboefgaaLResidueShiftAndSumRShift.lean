/- What the reference's Shift comes to. -/
import Derived.Test.YtdnileakboefgaaLResidueShiftAndSumCM
namespace Go.Proofs.Ytdnileakboefgaa.PResidueShiftAndSum
open Go.RowKit Go.Proofs.YtdnileakboefgaaW.PrintWords Go.Proofs.YtdnileakboefgaaW.PrintLast Go.Proofs.YtdnileakboefgaaW.PrintMore
set_option linter.unusedVariables false
set_option linter.unusedSimpArgs false

theorem rShift_loop (n : Nat) (hn : 1 ≤ n) (hn2 : n ≤ 7200) (q : Int → Bool) (b : Int) (b0 : 0 ≤ b) (b1 : b < n) : ∀ (d : Nat) (p : Int → Bool) (i : Int), 0 ≤ i → i + d = n →
    Ev (fun k => railplanref1_Shift.l0 k n (tab n p) (tab n q) b i) (can n fun x => p x || (decide (i ≤ (x - b) % n) && q ((x - b) % n)), 0)
  | 0, p, i, h0, hd => by
    have e : (can n fun x => p x || (decide (i ≤ (x - b) % n) && q ((x - b) % n))) = can n p := can_congr fun x hx0 hx1 => by
      have := em_bound (x - b) (show (0 : Int) < n by omega)
      rw [decide_eq_false (by omega), Bool.false_and, Bool.or_false]
    rw [e]
    refine Ev.step (f := fun k => (railplanref1_spans.f k (tab n p)).bind fun t => some (t, 0)) (fun k => ?_) (Ev.bind (spans_ev n hn2 p) (Ev.now _))
    simp only [railplanref1_Shift.l0]
    rw [if_neg (by omega)]
  | d + 1, p, i, h0, hd => by
    have hb := em_bound (i + b) (show (0 : Int) < n by omega)
    have at_i : ∀ x : Int, 0 ≤ x → x < n → (x = (i + b) % n ↔ (x - b) % n = i) := by
      intro x x0 x1
      constructor
      · rintro rfl
        rw [em_sub_left, show i + b - b = i by omega, em_lo h0 (by omega)]
      · intro h
        rw [← h, em_add_left, show x - b + b = x by omega, em_lo x0 x1]
    have hb2 : tab n p = tab n p := rfl
    by_cases hq : q i = true
    · have ih := rShift_loop n hn hn2 q b b0 b1 d (fun x => if x = (i + b) % n then true else p x) (i + 1) (by omega) (by omega)
      have e : (can n fun x => (if x = (i + b) % n then true else p x) || (decide (i + 1 ≤ (x - b) % n) && q ((x - b) % n))) = can n fun x => p x || (decide (i ≤ (x - b) % n) && q ((x - b) % n)) := can_congr fun x hx0 hx1 => by
        by_cases hx : (x - b) % n = i
        · rw [if_pos ((at_i x hx0 hx1).2 hx), hx, hq, decide_eq_true (Int.le_refl _)]; simp
        · rw [if_neg (fun h => hx ((at_i x hx0 hx1).1 h))]; congr 2; apply decide_eq_decide.2; omega
      rw [e] at ih
      refine Ev.step (fun k => ?_) ih
      simp only [railplanref1_Shift.l0]
      rw [if_pos (by omega), if_pos h0, tab_len, if_pos (by omega), tab_rd q h0 (by omega), if_pos hq, if_neg (by omega), wrap_ok (a := i + b) (by omega) (by omega), wrap_ok (by omega) (by omega), tmod_pos (by omega), if_pos hb.1, tab_len, if_pos hb.2, tab_set p true hb.1]
    · have ih := rShift_loop n hn hn2 q b b0 b1 d p (i + 1) (by omega) (by omega)
      have hqf : q i = false := by simpa using hq
      have e : (can n fun x => p x || (decide (i + 1 ≤ (x - b) % n) && q ((x - b) % n))) = can n fun x => p x || (decide (i ≤ (x - b) % n) && q ((x - b) % n)) := can_congr fun x hx0 hx1 => by
        by_cases hx : (x - b) % n = i
        · rw [hx, hqf]; simp
        · congr 2; apply decide_eq_decide.2; omega
      rw [e] at ih
      refine Ev.step (fun k => ?_) ih
      simp only [railplanref1_Shift.l0]
      rw [if_pos (by omega), if_pos h0, tab_len, if_pos (by omega), tab_rd q h0 (by omega), if_neg hq, wrap_ok (by omega) (by omega)]
theorem rShift_ev (n : Nat) (hn : 1 ≤ n) (hn2 : n ≤ 7200) (a : List S35) (ha : Fit a) (b : Int) :
    Ev (fun k => railplanref1_Shift.f k n a b) (if vld n a = true then (can n fun x => mem a ((x - b) % n), 0) else ([], 1)) := by
  simp only [railplanref1_Shift.f]
  refine Ev.bind (bad_ev n a [] ha fit_nil) ?_
  rw [if_pos ((per_iff _).2 (by omega))]
  by_cases h : vld n a = true
  · have hv : vld n ([] : List S35) = true := by rw [vld_iff]; exact ⟨by omega, rfl⟩
    rw [if_pos h, if_pos hv, if_pos h]
    rw [vld_iff] at h
    refine Ev.ite_pos (by simp) (Ev.ite_pos (by omega) (Ev.ite_pos (by omega) (Ev.bind (rmarks_ev n hn2 a ha h.2) ?_)))
    have hb := em_bound b (show (0 : Int) < n by omega)
    simp only [Int.toNat_natCast, tab_rep, rMod_eq (show (1 : Int) ≤ n by omega) (show (n : Int) ≤ 9223372036854775807 by omega), Option.bind_some]
    have := rShift_loop n hn hn2 (mem a) (b % n) hb.1 hb.2 n (fun _ => false) 0 (Int.le_refl _) (by omega)
    have e : (can n fun x => false || (decide (0 ≤ (x - b % n) % n) && mem a ((x - b % n) % n))) = can n fun x => mem a ((x - b) % n) := can_congr fun x hx0 hx1 => by
      have := em_bound (x - b % n) (show (0 : Int) < n by omega)
      rw [decide_eq_true this.1, Bool.false_or, Bool.true_and, em_sub]
    rwa [e] at this
  · rw [if_neg h, if_neg h]
    exact Ev.ite_neg (by simp) (Ev.now _)
end Go.Proofs.Ytdnileakboefgaa.PResidueShiftAndSum
