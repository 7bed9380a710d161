/- What the reference's Next comes to. -/
import Derived.Test.YtdnileakboefgaaLResidueQueriesNextP
import Derived.Test.YtdnileakboefgaaLResidueQueriesRHas
namespace Go.Proofs.Ytdnileakboefgaa.PResidueQueries
open Go.RowKit Go.Proofs.YtdnileakboefgaaW.PrintWords Go.Proofs.YtdnileakboefgaaW.PrintLast Go.Proofs.YtdnileakboefgaaW.PrintMore
set_option linter.unusedVariables false
set_option linter.unusedSimpArgs false

theorem rNext_yes (n : Nat) (hn : 1 ≤ n) (hn2 : n ≤ 7200) (s : List S35) (hs : Fit s) (hv : vld n s = true) (r D : Int) (r0 : 0 ≤ r) (r1 : r < n) (hD : first n s r D) : ∀ (d : Nat) (i : Int), 0 ≤ i → i + d = D →
    Ev (fun k => railplanref1_Next.l0 k n s r i) (D, true)
  | 0, i, i0, hd => by
    obtain rfl : i = D := by omega
    have e := rHas_ev n hn hn2 s hs (r + i)
    rw [hv, Bool.true_and, hD.2.2.1] at e
    have := hD.2.1
    refine Ev.step (f := fun k => (railplanref1_Has.f k n s (r + i)).bind fun t226 => (if t226 = true then (some (i, true)) else (railplanref1_Next.l0 k n s r (wrap64 (i + 1))))) (fun k => ?_) (Ev.bind e (Ev.ite_pos rfl (Ev.now _)))
    simp only [railplanref1_Next.l0]
    rw [if_pos (by omega), wrap_ok (a := r + i) (by omega) (by omega)]
  | d + 1, i, i0, hd => by
    have ih := rNext_yes n hn hn2 s hs hv r D r0 r1 hD d (i + 1) (by omega) (by omega)
    have e := rHas_ev n hn hn2 s hs (r + i)
    rw [hv, Bool.true_and, hD.2.2.2 i i0 (by omega)] at e
    have := hD.2.1
    refine Ev.step (f := fun k => (railplanref1_Has.f k n s (r + i)).bind fun t226 => (if t226 = true then (some (i, true)) else (railplanref1_Next.l0 k n s r (i + 1)))) (fun k => ?_) (Ev.bind e (Ev.ite_neg (by simp) ih))
    simp only [railplanref1_Next.l0]
    rw [if_pos (by omega), wrap_ok (a := r + i) (by omega) (by omega), wrap_ok (a := i + 1) (by omega) (by omega)]
theorem rNext_no (n : Nat) (hn : 1 ≤ n) (hn2 : n ≤ 7200) (r : Int) (r0 : 0 ≤ r) (r1 : r < n) : ∀ (d : Nat) (i : Int), 0 ≤ i → i + d = n →
    Ev (fun k => railplanref1_Next.l0 k n [] r i) (0, false)
  | 0, i, i0, hd => by
    refine Ev.step (f := fun _ => some (0, false)) (fun k => ?_) (Ev.now _)
    simp only [railplanref1_Next.l0]
    rw [if_neg (by omega)]
  | d + 1, i, i0, hd => by
    have ih := rNext_no n hn hn2 r r0 r1 d (i + 1) (by omega) (by omega)
    have e := rHas_ev n hn hn2 [] fit_nil (r + i)
    rw [mem_nil, Bool.and_false] at e
    refine Ev.step (f := fun k => (railplanref1_Has.f k n [] (r + i)).bind fun t226 => (if t226 = true then (some (i, true)) else (railplanref1_Next.l0 k n [] r (i + 1)))) (fun k => ?_) (Ev.bind e (Ev.ite_neg (by simp) ih))
    simp only [railplanref1_Next.l0]
    rw [if_pos (by omega), wrap_ok (a := r + i) (by omega) (by omega), wrap_ok (a := i + 1) (by omega) (by omega)]
theorem rNext_ev (n : Nat) (hn : 1 ≤ n) (hn2 : n ≤ 7200) (s : List S35) (hs : Fit s) (x d : Int) (b : Bool) (h1 : b = true → vld n s = true ∧ first n s (x % n) d) (h2 : b = false → d = 0 ∧ (vld n s = false ∨ s = [])) :
    Ev (fun k => railplanref1_Next.f k n s x) (d, b) := by
  simp only [railplanref1_Next.f]
  refine Ev.bind (ValidSpans_ev n s hs) ?_
  have hb := em_bound x (show (0 : Int) < n by omega)
  cases b with
  | true =>
    obtain ⟨hv, hf⟩ := h1 rfl
    refine Ev.ite_pos hv ?_
    simp only [rMod_eq (show (1 : Int) ≤ n by omega) (show (n : Int) ≤ 9223372036854775807 by omega), Option.bind_some]
    exact rNext_yes n hn hn2 s hs hv (x % n) d hb.1 hb.2 hf d.toNat 0 (Int.le_refl _) (by have := hf.1; omega)
  | false =>
    obtain ⟨rfl, h⟩ := h2 rfl
    cases hv : vld n s with
    | false => exact Ev.ite_neg (by simp) (Ev.now _)
    | true =>
      rw [hv] at h
      rcases h with h | rfl
      · cases h
      refine Ev.ite_pos rfl ?_
      simp only [rMod_eq (show (1 : Int) ≤ n by omega) (show (n : Int) ≤ 9223372036854775807 by omega), Option.bind_some]
      exact rNext_no n hn hn2 (x % n) hb.1 hb.2 n 0 (Int.le_refl _) (by omega)
end Go.Proofs.Ytdnileakboefgaa.PResidueQueries
