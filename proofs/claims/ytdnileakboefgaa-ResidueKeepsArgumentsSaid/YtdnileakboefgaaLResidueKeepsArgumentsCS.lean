/- What the reference's Union and the maker of sets come to. -/
import Derived.Test.YtdnileakboefgaaLResidueKeepsArgumentsCM
import Derived.Test.YtdnileakboefgaaLResidueKeepsArgumentsCP
import Derived.Test.YtdnileakboefgaaLResidueKeepsArgumentsCN
namespace Go.Proofs.Ytdnileakboefgaa.PResidueKeepsArguments
open Go.RowKit Go.Proofs.YtdnileakboefgaaW.PrintWords Go.Proofs.YtdnileakboefgaaW.PrintLast Go.Proofs.YtdnileakboefgaaW.PrintMore
set_option linter.unusedVariables false
set_option linter.unusedSimpArgs false

theorem rUnion_loop (n : Nat) (hn2 : n ≤ 7200) (q : Int → Bool) : ∀ (d : Nat) (p : Int → Bool) (i : Int), 0 ≤ i → i + d = n →
    Ev (fun k => railplanref1_Union.l0 k n (tab n p) (tab n q) i) (can n fun x => p x || (decide (i ≤ x) && q x), 0)
  | 0, p, i, h0, hd => by
    have e : (can n fun x => p x || (decide (i ≤ x) && q x)) = can n p := can_congr fun x hx0 hx1 => by
      rw [decide_eq_false (by omega), Bool.false_and, Bool.or_false]
    rw [e]
    refine Ev.step (f := fun k => (railplanref1_spans.f k (tab n p)).bind fun t => some (t, 0)) (fun k => ?_) (Ev.bind (spans_ev n hn2 p) (Ev.now _))
    simp only [railplanref1_Union.l0]
    rw [if_neg (by omega)]
  | d + 1, p, i, h0, hd => by
    have ih := rUnion_loop n hn2 q d (fun x => if x = i then (p i || q i) else p x) (i + 1) (by omega) (by omega)
    have e : (can n fun x => (if x = i then (p i || q i) else p x) || (decide (i + 1 ≤ x) && q x)) = can n fun x => p x || (decide (i ≤ x) && q x) := can_congr fun x hx0 hx1 => by
      by_cases hx : x = i
      · rw [if_pos hx, hx, decide_eq_false (show ¬ i + 1 ≤ i by omega), decide_eq_true (show i ≤ i by omega)]; simp
      · rw [if_neg hx]; congr 2; apply decide_eq_decide.2; omega
    rw [e] at ih
    refine Ev.step (fun k => ?_) ih
    simp only [railplanref1_Union.l0]
    rw [if_pos (by omega), if_pos h0, tab_len, if_pos (by omega), tab_rd p h0 (by omega), wrap_ok (by omega) (by omega)]
    by_cases hp : p i = true
    · rw [if_pos hp, tab_set p true h0]; simp only [hp, Bool.true_or]
    · have hpf : p i = false := by simpa using hp
      rw [if_neg hp, tab_len, if_pos (by omega), tab_rd q h0 (by omega), tab_set p (q i) h0]; simp only [hpf, Bool.false_or]
theorem rUnion_ev (n : Nat) (hn : 1 ≤ n) (hn2 : n ≤ 7200) (a b : List S35) (ha : Fit a) (hb : Fit b) :
    Ev (fun k => railplanref1_Union.f k n a b) (if vld n a = true ∧ vld n b = true then (can n fun x => mem a x || mem b x, 0) else ([], 1)) := by
  simp only [railplanref1_Union.f]
  refine Ev.bind (bad_ev n a b ha hb) ?_
  rw [if_pos ((per_iff _).2 (by omega))]
  by_cases h : vld n a = true
  · rw [if_pos h]
    by_cases h' : vld n b = true
    · rw [if_pos h', if_pos ⟨h, h'⟩]
      rw [vld_iff] at h h'
      refine Ev.ite_pos (by simp) (Ev.bind (rmarks_ev n hn2 a ha h.2) (Ev.bind (rmarks_ev n hn2 b hb h'.2) ?_))
      have := rUnion_loop n hn2 (mem b) n (mem a) 0 (Int.le_refl _) (by omega)
      have e : (can n fun x => mem a x || (decide (0 ≤ x) && mem b x)) = can n fun x => mem a x || mem b x := can_congr fun x hx0 hx1 => by
        rw [decide_eq_true hx0, Bool.true_and]
      rwa [e] at this
    · rw [if_neg h', if_neg (fun h => h' h.2)]
      exact Ev.ite_neg (by simp) (Ev.now _)
  · rw [if_neg h, if_neg (fun h' => h h'.1)]
    exact Ev.ite_neg (by simp) (Ev.now _)

theorem Set_loop (l : List Int) (hl : Fit l) (n : Nat) (hn : 1 ≤ n) (hn2 : n ≤ 7200) : ∀ (d : Nat) (s : List S35) (c i : Int), c ≤ d → c ≤ 5 → 0 ≤ c → 0 ≤ i → i ≤ l.length → vld n s = true →
    ∃ r, Ev (fun k => railplankeep_Set.l0 k n s c l i) r ∧ vld n r = true
  | d, s, c, i, hd, h5, hc, h0, hi, hs => by
    by_cases h : c > 0
    · cases d with
      | zero => exfalso; omega
      | succ d =>
      obtain ⟨x, j, hx, x0, x1, j0, j1⟩ := Next_some l hl i n h0 hi (by omega) (by omega)
      have hw : wrap64 (1 + wrap64 (Int.tdiv n 2)) = 1 + (n : Int) / 2 := by
        rw [show Int.tdiv (n : Int) 2 = (n : Int) / 2 from Int.tdiv_eq_ediv_of_nonneg (by omega), wrap_ok (a := (n : Int) / 2) (by omega) (by omega), wrap_ok (by omega) (by omega)]
      obtain ⟨y, j', hy, y0, y1, j0', j1'⟩ := Next_some l hl j (1 + (n : Int) / 2) j0 j1 (by omega) (by omega)
      have hm := rMake_ev n hn hn2 x y
      have hmv := can_vld (fun z => decide ((z - x) % n < y)) hn hn2
      generalize (can n fun z => decide ((z - x) % n < y)) = mk at hm hmv
      have hu := rUnion_ev n hn hn2 s mk (fit_le (vld_fit hs)) (fit_le (vld_fit hmv))
      rw [if_pos ⟨hs, hmv⟩] at hu
      have huv := can_vld (fun x => mem s x || mem mk x) hn hn2
      generalize (can n fun x => mem s x || mem mk x) = un at hu huv
      obtain ⟨r, hr, hrv⟩ := Set_loop l hl n hn hn2 d un (c - 1) j' (by omega) (by omega) (by omega) j0' j1' huv
      refine ⟨r, Ev.step (f := fun k => (railplanref1_Make.f k n x y).bind fun bt200 => ((railplanref1_Union.f k n s bt200.1).bind fun bt204 => railplankeep_Set.l0 k n bt204.1 (c - 1) l j')) (fun k => ?_) (Ev.bind hm (Ev.bind hu hr)), hrv⟩
      simp only [railplankeep_Set.l0]
      rw [if_pos h, hx]; simp only [Option.bind_some]
      rw [hw, hy]; simp only [Option.bind_some]
      rw [wrap_ok (a := c - 1) (by omega) (by omega)]
    · refine ⟨s, Ev.step (f := fun _ => some s) (fun k => ?_) (Ev.now _), hs⟩
      simp only [railplankeep_Set.l0]
      rw [if_neg h]
theorem Set_ev (l : List Int) (hl : Fit l) (n : Nat) (hn : 1 ≤ n) (hn2 : n ≤ 7200) : ∃ r, Ev (fun k => railplankeep_Set.f k n l) r ∧ vld n r = true := by
  obtain ⟨x, j, hx, x0, x1, j0, j1⟩ := Next_some l hl 0 5 (Int.le_refl _) (by omega) (by omega) (by omega)
  have hv : vld n [] = true := by rw [vld_iff]; exact ⟨by omega, rfl⟩
  obtain ⟨r, hr, h⟩ := Set_loop l hl n hn hn2 5 [] x j (by omega) (by omega) x0 j0 j1 hv
  refine ⟨r, ?_, h⟩
  simp only [railplankeep_Set.f, railplankeep_From.f, Option.bind_some, hx]
  exact hr
end Go.Proofs.Ytdnileakboefgaa.PResidueKeepsArguments
