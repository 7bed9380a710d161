/- The residue that Next finds is in the set and none before it is, for every argument. -/
import Derived.Test.YtdnileakboefgaaLResidueNextIsFirstCS
import Derived.Test.YtdnileakboefgaaLResidueNextIsFirstAW
import Derived.Test.YtdnileakboefgaaLResidueNextIsFirstDHas
import Derived.Test.YtdnileakboefgaaLResidueNextIsFirstDNext
namespace Go.Proofs.Ytdnileakboefgaa.Pure
open Go.RowKit Go.Proofs.Ytdnileakboefgaa.PResidueNextIsFirst Go.Proofs.YtdnileakboefgaaW.PrintWords Go.Proofs.YtdnileakboefgaaW.PrintLast
set_option linter.unusedVariables false
set_option linter.unusedSimpArgs false
theorem Nif_loop (n : Nat) (n1 : 1 ≤ n) (n2 : n ≤ 7200) (a : List S35) (va : vld n a = true) (x : Int) (x0 : -7200 ≤ x) (x1 : x < 36000) (D : Int) (hf : first n a (x % n) D) : ∀ (d : Nat) (i : Int), 0 ≤ i → i + d = D →
    Ev (fun k => railplanlaw2_ResidueNextIsFirst.l0 k x n a D i) true
  | 0, i, i0, hd => by
    obtain rfl : i = D := by omega
    have e2 := Has_ev n n1 n2 a (fit_le (vld_fit va)) (x + i)
    rw [va, Bool.true_and, ← em_add_left, hf.2.2.1] at e2
    have := hf.2.1
    refine Ev.step (f := fun k => railplanlaw2_ResidueNextIsFirst.j1 k x n a i i false) (fun k => ?_) ?_
    · simp only [railplanlaw2_ResidueNextIsFirst.l0]
      rw [if_neg (by omega)]
    · refine Ev.step (f := fun k => (railplanlaw2_awake.f k).bind fun t226 => (if t226 = true then (if i ≥ 0 then (if i < n then ((residue_Has.f k n a (x + i)).bind fun t227 => (some t227)) else (some false)) else (some false)) else (some false))) (fun k => ?_) ?_
      · simp only [railplanlaw2_ResidueNextIsFirst.j1]
        rw [if_neg (by simp), wrap_ok (a := x + i) (by omega) (by omega)]
      · exact Ev.bind awake_ev (Ev.ite_pos rfl (Ev.ite_pos i0 (Ev.ite_pos hf.2.1 (Ev.bind e2 (Ev.now _)))))
  | d + 1, i, i0, hd => by
    have ih := Nif_loop n n1 n2 a va x x0 x1 D hf d (i + 1) (by omega) (by omega)
    have e2 := Has_ev n n1 n2 a (fit_le (vld_fit va)) (x + i)
    rw [va, Bool.true_and, ← em_add_left, hf.2.2.2 i i0 (by omega)] at e2
    have := hf.2.1
    refine Ev.step (f := fun k => railplanlaw2_ResidueNextIsFirst.j1 k x n a D i true) (fun k => ?_) ?_
    · simp only [railplanlaw2_ResidueNextIsFirst.l0]
      rw [if_pos (by omega), decide_eq_true (by omega)]
    · refine Ev.step (f := fun k => (residue_Has.f k n a (x + i)).bind fun t225 => (if t225 = true then (some false) else (railplanlaw2_ResidueNextIsFirst.l0 k x n a D (i + 1)))) (fun k => ?_) (Ev.bind e2 (Ev.ite_neg (by simp) ih))
      simp only [railplanlaw2_ResidueNextIsFirst.j1]
      rw [if_pos trivial, wrap_ok (a := x + i) (by omega) (by omega), wrap_ok (a := i + 1) (by omega) (by omega)]
theorem ResidueNextIsFirst : railplanlaw2_ResidueNextIsFirst.Pure := by
  intro a0 l1 a2 w0 h1 _ _ _
  obtain ⟨n, hn, n1, n2⟩ := Period_some a0
  have hn2 : n ≤ 7200 := by omega
  obtain ⟨a, ea, va⟩ := Set_ev l1 (by unfold Fit; unfold maxLen at h1; omega) n n1 hn2
  obtain ⟨x, hx, x0, x1⟩ := Pick_some a2 (3 * n) (by omega) (by omega)
  have hw3 : wrap64 (3 * (n : Int)) = 3 * n := wrap_ok (by omega) (by omega)
  have hwx : wrap64 (x - (n : Int)) = x - n := wrap_ok (by omega) (by omega)
  obtain ⟨d, b, e5, hb, hf⟩ := Next_ev n n1 hn2 a (fit_le (vld_fit va)) (x - n)
  apply Ev.rounds
  simp only [railplanlaw2_ResidueNextIsFirst.f, hn, hw3, hx, hwx, Option.bind_some]
  refine Ev.bind ea (Ev.bind e5 ?_)
  cases b with
  | true =>
    have hF := (hb rfl).2
    exact Ev.ite_pos rfl (Nif_loop n n1 hn2 a va (x - n) (by omega) (by omega) d hF d.toNat 0 (Int.le_refl _) (by have := hF.1; omega))
  | false =>
    obtain ⟨rfl, h⟩ := hf rfl
    rw [va] at h
    rcases h with h | rfl
    · cases h
    · exact Ev.ite_neg (by simp) (Ev.bind awake_ev (Ev.ite_pos rfl (Ev.ite_pos rfl (Ev.now _))))
end Go.Proofs.Ytdnileakboefgaa.Pure
