/- What the reference's Complement comes to. -/
import Derived.Test.YtdnileakboefgaaLResidueSetOperationsCM
namespace Go.Proofs.Ytdnileakboefgaa.PResidueSetOperations
open Go.RowKit Go.Proofs.YtdnileakboefgaaW.PrintWords Go.Proofs.YtdnileakboefgaaW.PrintLast Go.Proofs.YtdnileakboefgaaW.PrintMore
set_option linter.unusedVariables false
set_option linter.unusedSimpArgs false

theorem rComplement_loop (n : Nat) (hn2 : n ≤ 7200) : ∀ (d : Nat) (p : Int → Bool) (i : Int), 0 ≤ i → i + d = n →
    Ev (fun k => railplanref1_Complement.l0 k n (tab n p) i) (can n fun x => if x < i then p x else !p x, 0)
  | 0, p, i, h0, hd => by
    have e : (can n fun x => if x < i then p x else !p x) = can n p := can_congr fun x hx0 hx1 => by rw [if_pos (by omega)]
    rw [e]
    refine Ev.step (f := fun k => (railplanref1_spans.f k (tab n p)).bind fun t => some (t, 0)) (fun k => ?_) (Ev.bind (spans_ev n hn2 p) (Ev.now _))
    simp only [railplanref1_Complement.l0]
    rw [if_neg (by omega)]
  | d + 1, p, i, h0, hd => by
    have ih := rComplement_loop n hn2 d (fun x => if x = i then !p i else p x) (i + 1) (by omega) (by omega)
    have e : (can n fun x => if x < i + 1 then (if x = i then !p i else p x) else !(if x = i then !p i else p x)) = can n fun x => if x < i then p x else !p x := can_congr fun x hx0 hx1 => by
      by_cases hx : x = i
      · rw [if_pos (by omega), if_pos hx, if_neg (by omega), hx]
      · rw [if_neg hx]
        by_cases h : x < i
        · rw [if_pos (by omega), if_pos h]
        · rw [if_neg (by omega), if_neg h]
    rw [e] at ih
    refine Ev.step (fun k => ?_) ih
    simp only [railplanref1_Complement.l0]
    rw [if_pos (by omega), if_pos h0, tab_len, if_pos (by omega), tab_rd p h0 (by omega), wrap_ok (by omega) (by omega), tab_set p (!p i) h0]
theorem rComplement_ev (n : Nat) (hn : 1 ≤ n) (hn2 : n ≤ 7200) (a : List S35) (ha : Fit a) :
    Ev (fun k => railplanref1_Complement.f k n a) (if vld n a = true then (can n fun x => !mem a x, 0) else ([], 1)) := by
  simp only [railplanref1_Complement.f]
  refine Ev.bind (bad_ev n a [] ha fit_nil) ?_
  rw [if_pos ((per_iff _).2 (by omega))]
  by_cases h : vld n a = true
  · have hv : vld n ([] : List S35) = true := by rw [vld_iff]; exact ⟨by omega, rfl⟩
    rw [if_pos h, if_pos hv, if_pos h]
    rw [vld_iff] at h
    refine Ev.ite_pos (by simp) (Ev.bind (rmarks_ev n hn2 a ha h.2) ?_)
    have := rComplement_loop n hn2 n (mem a) 0 (Int.le_refl _) (by omega)
    have e : (can n fun x => if x < 0 then mem a x else !mem a x) = can n fun x => !mem a x := can_congr fun x hx0 hx1 => by rw [if_neg (by omega)]
    rwa [e] at this
  · rw [if_neg h, if_neg h]
    exact Ev.ite_neg (by simp) (Ev.now _)
end Go.Proofs.Ytdnileakboefgaa.PResidueSetOperations
