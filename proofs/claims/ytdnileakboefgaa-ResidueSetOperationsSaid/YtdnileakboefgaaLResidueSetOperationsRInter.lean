/- What the reference's Intersect comes to. -/
import Derived.Test.YtdnileakboefgaaLResidueSetOperationsCM
namespace Go.Proofs.Ytdnileakboefgaa.PResidueSetOperations
open Go.RowKit Go.Proofs.YtdnileakboefgaaW.PrintWords Go.Proofs.YtdnileakboefgaaW.PrintLast Go.Proofs.YtdnileakboefgaaW.PrintMore
set_option linter.unusedVariables false
set_option linter.unusedSimpArgs false

theorem rIntersect_loop (n : Nat) (hn2 : n ≤ 7200) (q : Int → Bool) : ∀ (d : Nat) (p : Int → Bool) (i : Int), 0 ≤ i → i + d = n →
    Ev (fun k => railplanref1_Intersect.l0 k n (tab n p) (tab n q) i) (can n fun x => p x && (decide (x < i) || q x), 0)
  | 0, p, i, h0, hd => by
    have e : (can n fun x => p x && (decide (x < i) || q x)) = can n p := can_congr fun x hx0 hx1 => by
      rw [decide_eq_true (by omega), Bool.true_or, Bool.and_true]
    rw [e]
    refine Ev.step (f := fun k => (railplanref1_spans.f k (tab n p)).bind fun t => some (t, 0)) (fun k => ?_) (Ev.bind (spans_ev n hn2 p) (Ev.now _))
    simp only [railplanref1_Intersect.l0]
    rw [if_neg (by omega)]
  | d + 1, p, i, h0, hd => by
    have ih := rIntersect_loop n hn2 q d (fun x => if x = i then (p i && q i) else p x) (i + 1) (by omega) (by omega)
    have e : (can n fun x => (if x = i then (p i && q i) else p x) && (decide (x < i + 1) || q x)) = can n fun x => p x && (decide (x < i) || q x) := can_congr fun x hx0 hx1 => by
      by_cases hx : x = i
      · rw [if_pos hx, hx, decide_eq_true (show i < i + 1 by omega), decide_eq_false (show ¬ i < i by omega)]; simp
      · rw [if_neg hx]; congr 2; apply decide_eq_decide.2; omega
    rw [e] at ih
    refine Ev.step (fun k => ?_) ih
    simp only [railplanref1_Intersect.l0]
    rw [if_pos (by omega), if_pos h0, tab_len, if_pos (by omega), tab_rd p h0 (by omega), wrap_ok (by omega) (by omega)]
    by_cases hp : p i = true
    · rw [if_pos hp, tab_len, if_pos (by omega), tab_rd q h0 (by omega), tab_set p (q i) h0]; simp only [hp, Bool.true_and]
    · have hpf : p i = false := by simpa using hp
      rw [if_neg hp, tab_set p false h0]; simp only [hpf, Bool.false_and]
theorem rIntersect_ev (n : Nat) (hn : 1 ≤ n) (hn2 : n ≤ 7200) (a b : List S35) (ha : Fit a) (hb : Fit b) :
    Ev (fun k => railplanref1_Intersect.f k n a b) (if vld n a = true ∧ vld n b = true then (can n fun x => mem a x && mem b x, 0) else ([], 1)) := by
  simp only [railplanref1_Intersect.f]
  refine Ev.bind (bad_ev n a b ha hb) ?_
  rw [if_pos ((per_iff _).2 (by omega))]
  by_cases h : vld n a = true
  · rw [if_pos h]
    by_cases h' : vld n b = true
    · rw [if_pos h', if_pos ⟨h, h'⟩]
      rw [vld_iff] at h h'
      refine Ev.ite_pos (by simp) (Ev.bind (rmarks_ev n hn2 a ha h.2) (Ev.bind (rmarks_ev n hn2 b hb h'.2) ?_))
      have := rIntersect_loop n hn2 (mem b) n (mem a) 0 (Int.le_refl _) (by omega)
      have e : (can n fun x => mem a x && (decide (x < 0) || mem b x)) = can n fun x => mem a x && mem b x := can_congr fun x hx0 hx1 => by
        rw [decide_eq_false (by omega), Bool.false_or]
      rwa [e] at this
    · rw [if_neg h', if_neg (fun h => h' h.2)]
      exact Ev.ite_neg (by simp) (Ev.now _)
  · rw [if_neg h, if_neg (fun h' => h h'.1)]
    exact Ev.ite_neg (by simp) (Ev.now _)
end Go.Proofs.Ytdnileakboefgaa.PResidueSetOperations
