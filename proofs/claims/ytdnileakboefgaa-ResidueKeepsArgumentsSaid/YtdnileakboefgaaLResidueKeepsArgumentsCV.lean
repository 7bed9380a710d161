/- What the reference's check and Make on residue sets come to. -/
import Derived.Test.YtdnileakboefgaaLResidueKeepsArgumentsCVV
import Derived.Test.YtdnileakboefgaaLResidueKeepsArgumentsCMod
namespace Go.Proofs.Ytdnileakboefgaa.PResidueKeepsArguments
open Go.RowKit Go.Proofs.YtdnileakboefgaaW.PrintWords Go.Proofs.YtdnileakboefgaaW.PrintLast Go.Proofs.YtdnileakboefgaaW.PrintMore
set_option linter.unusedVariables false
set_option linter.unusedSimpArgs false

theorem bad_ev (t : Int) (a b : List S35) (ha : Fit a) (hb : Fit b) :
    Ev (fun k => railplanref1_bad.f k t a b) (if per t = true then (if vld t a = true then (if vld t b = true then 0 else 1) else 1) else 4) := by
  simp only [railplanref1_bad.f]
  by_cases h : t < 1
  · refine Ev.ite_pos h ?_
    rw [if_neg (by simp [per]; omega)]
    refine Ev.step (f := fun _ => some 4) (fun k => ?_) (Ev.now _)
    simp only [railplanref1_bad.j0]; rfl
  · refine Ev.ite_neg h ?_
    by_cases h' : t > 7200
    · rw [decide_eq_true h', if_neg (by simp [per]; omega)]
      refine Ev.step (f := fun _ => some 4) (fun k => ?_) (Ev.now _)
      simp only [railplanref1_bad.j0]; rfl
    · rw [decide_eq_false h', if_pos (by simp [per]; omega)]
      refine Ev.step (f := fun k => (railplanref1_ValidSpans.f k t a).bind fun t145 => (if t145 = true then ((railplanref1_ValidSpans.f k t b).bind fun t146 => (if t146 = true then (some 0) else (some 1))) else (some 1))) (fun k => ?_) ?_
      · simp only [railplanref1_bad.j0]; rfl
      · refine Ev.bind (ValidSpans_ev t a ha) ?_
        cases vld t a
        · exact Ev.ite_neg (by simp) (Ev.now _)
        · refine Ev.ite_pos rfl (Ev.bind (ValidSpans_ev t b hb) ?_)
          cases vld t b
          · exact Ev.ite_neg (by simp) (Ev.now _)
          · exact Ev.ite_pos rfl (Ev.now _)

theorem spans_loop (n : Nat) (hn2 : n ≤ 7200) (p : Int → Bool) : ∀ (d i : Nat), i + d = n →
    Ev (fun k => railplanref1_spans.l0 k (tab n p) (rr p i).reverse i) (can n p)
  | 0, i, hd => by
    obtain rfl : i = n := by omega
    refine Ev.step (f := fun _ => some (can i p)) (fun k => ?_) (Ev.now _)
    simp only [railplanref1_spans.l0]
    rw [if_neg (by rw [tab_len]; omega)]; rfl
  | d + 1, i, hd => by
    have ih := spans_loop n hn2 p d (i + 1) (by omega)
    have hlen := can_len p i
    refine Ev.step (fun k => ?_) ih
    simp only [railplanref1_spans.l0]
    rw [tab_len, if_pos (by omega), if_pos (by omega), tab_rd p (by omega) (by omega), wrap_ok (a := (i : Int) + 1) (by omega) (by omega)]
    simp only [rr]
    by_cases hp : p i = true
    · rw [if_pos hp, if_pos hp]
      have hlt : ((rr p i).reverse).length < 8796093022208 := by rw [List.length_reverse]; omega
      cases e : rr p i with
      | nil => rw [e] at hlt; rw [if_neg (by simp), if_pos hlt]; simp
      | cons u l =>
        rw [e] at hlen hlt
        have hle : ((u :: l).reverse.length : Int) ≤ 7200 := by rw [List.length_reverse]; omega
        have hge : 1 ≤ ((u :: l).reverse.length : Int) := by simp; omega
        rw [if_pos (by omega), wrap_ok (a := ((u :: l).reverse.length : Int) - 1) (by omega) (by omega), if_pos (by omega), if_pos (by omega), rev_rd, rev_set]
        by_cases h1 : u.f1 = i
        · rw [if_pos h1]; simp only [if_pos h1]; rfl
        · rw [if_neg h1, if_pos hlt]; simp only [if_neg h1]; simp
    · rw [if_neg hp, if_neg hp]; rfl
theorem spans_ev (n : Nat) (hn2 : n ≤ 7200) (p : Int → Bool) : Ev (fun k => railplanref1_spans.f k (tab n p)) (can n p) := by
  simp only [railplanref1_spans.f]
  exact spans_loop n hn2 p n 0 (by omega)

theorem rMake_loop (n : Nat) (hn : 1 ≤ n) (hn2 : n ≤ 7200) (m : Int) : ∀ (d : Nat) (p : Int → Bool) (at0 i : Int), 0 ≤ at0 → at0 < n → 0 ≤ i → n - i ≤ d →
    Ev (fun k => railplanref1_Make.l0 k n m (tab n p) at0 i) (can n fun x => p x || decide ((x - at0) % n < mn m n - i), 0)
  | d, p, at0, i, h0, h1, h2, hd => by
    by_cases hi : i < m ∧ i < n
    · cases d with
      | zero => exfalso; omega
      | succ d =>
      have hb := em_bound (at0 + 1) (show (0 : Int) < n by omega)
      have ih := rMake_loop n hn hn2 m d (fun x => if x = at0 then true else p x) ((at0 + 1) % n) (i + 1) hb.1 hb.2 (by omega) (by omega)
      have e : (can n fun x => (if x = at0 then true else p x) || decide ((x - (at0 + 1) % n) % n < mn m n - (i + 1))) = can n fun x => p x || decide ((x - at0) % n < mn m n - i) := by
        refine can_congr fun x hx0 hx1 => ?_
        have hs := em_step (x := x) (a := at0) (n := n) (m := mn m n - i) (by omega) hx0 hx1 h0 h1 (by unfold mn; split <;> omega)
        by_cases hx : x = at0
        · rw [if_pos hx, Bool.true_or, decide_eq_true (hs.2 (.inl hx)), Bool.or_true]
        · rw [if_neg hx]
          congr 1
          apply decide_eq_decide.2
          rw [hs]
          constructor
          · intro h; exact .inr (by omega)
          · rintro (h | h)
            · exact absurd h hx
            · omega
      rw [e] at ih
      refine Ev.step (fun k => ?_) ih
      simp only [railplanref1_Make.l0]
      rw [if_pos hi.1, if_pos hi.2, if_pos h0, if_pos (by rw [tab_len]; exact h1), if_neg (by omega), tab_set p true h0, wrap_ok (by omega) (by omega), wrap_ok (by omega) (by omega), tmod_pos (by omega)]
    · have e : (can n fun x => p x || decide ((x - at0) % n < mn m n - i)) = can n p := by
        refine can_congr fun x hx0 hx1 => ?_
        have := em_bound (x - at0) (show (0 : Int) < n by omega)
        rw [decide_eq_false (by unfold mn; split <;> omega), Bool.or_false]
      rw [e]
      refine Ev.step (f := fun k => (railplanref1_spans.f k (tab n p)).bind fun t => some (t, 0)) (fun k => ?_) (Ev.bind (spans_ev n hn2 p) (Ev.now _))
      simp only [railplanref1_Make.l0]
      by_cases h : i < m
      · rw [if_pos h, if_neg (by omega)]
      · rw [if_neg h]
theorem rMake_ev (n : Nat) (hn : 1 ≤ n) (hn2 : n ≤ 7200) (a m : Int) : Ev (fun k => railplanref1_Make.f k n a m) (can n fun x => decide ((x - a) % n < m), 0) := by
  simp only [railplanref1_Make.f]
  refine Ev.bind (bad_ev n [] [] fit_nil fit_nil) ?_
  have hv : vld n [] = true := by rw [vld_iff]; exact ⟨by omega, rfl⟩
  rw [if_pos ((per_iff _).2 (by omega)), if_pos hv, if_pos hv]
  refine Ev.ite_pos (by simp) (Ev.ite_pos (by omega) (Ev.ite_pos (by omega) ?_))
  simp only [Int.toNat_natCast, tab_rep, rMod_eq (show (1 : Int) ≤ n by omega) (show (n : Int) ≤ 9223372036854775807 by omega), Option.bind_some]
  have hb := em_bound a (show (0 : Int) < n by omega)
  have h := rMake_loop n hn hn2 m n (fun _ => false) (a % n) 0 hb.1 hb.2 (Int.le_refl _) (by omega)
  have e : (can n fun x => false || decide ((x - a % n) % n < mn m n - 0)) = can n fun x => decide ((x - a) % n < m) := by
    refine can_congr fun x hx0 hx1 => ?_
    rw [Bool.false_or]
    apply decide_eq_decide.2
    rw [em_sub]
    have := em_bound (x - a) (show (0 : Int) < n by omega)
    unfold mn; split <;> omega
  rwa [e] at h
theorem rMake_bad (t a m : Int) (h : per t = false) : Ev (fun k => railplanref1_Make.f k t a m) ([], 4) := by
  simp only [railplanref1_Make.f]
  refine Ev.bind (bad_ev t [] [] fit_nil fit_nil) ?_
  rw [if_neg (by simp [h])]
  exact Ev.ite_neg (by simp) (Ev.now _)

end Go.Proofs.Ytdnileakboefgaa.PResidueKeepsArguments
