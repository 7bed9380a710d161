/- Make returns the same set or error as the reference, for every period, every start and every number. -/
import Derived.Test.YtdnileakboefgaaLResidueMakeCP
import Derived.Test.YtdnileakboefgaaLResidueMakeCV
import Derived.Test.YtdnileakboefgaaLResidueMakeAW
namespace Go.Proofs.Ytdnileakboefgaa.Pure
open Go.RowKit Go.Proofs.Ytdnileakboefgaa.PResidueMake Go.Proofs.YtdnileakboefgaaW.PrintWords Go.Proofs.YtdnileakboefgaaW.PrintLast
set_option linter.unusedVariables false
set_option linter.unusedSimpArgs false
theorem fit_can {n : Nat} (p : Int → Bool) (h1 : 1 ≤ n) (h2 : n ≤ 7200) : Fit (can n p) := fit_le (vld_fit (can_vld p h1 h2))
theorem Make_same (t a m : Int) : ∃ s e, Ev (fun k => residue_Make.f k t a m) (s, e) ∧ Ev (fun k => railplanref1_Make.f k t a m) (s, e) ∧ Fit s := by
  cases h : per t with
  | false => exact ⟨[], 4, Make_bad t a m h, rMake_bad t a m h, fit_nil⟩
  | true =>
    rw [per_iff] at h
    obtain ⟨u, rfl⟩ := Int.eq_ofNat_of_zero_le (show 0 ≤ t by omega)
    exact ⟨_, _, Make_ev u (by omega) (by omega) a m, rMake_ev u (by omega) (by omega) a m, fit_can _ (by omega) (by omega)⟩
theorem law_of (t a m n q : Int) (s s' : List S35) (e e' : Int) (hn : railplankeep_Period.f t = some n) (hw : wrap64 (2 * n) = 2 * n) (hq : railplankeep_Pick.f m (2 * n) = some q)
    (e1 : Ev (fun k => residue_Make.f k t a m) (s, e)) (e2 : Ev (fun k => railplanref1_Make.f k t a m) (s, e)) (hs : Fit s)
    (g1 : Ev (fun k => residue_Make.f k n a q) (s', e')) (g2 : Ev (fun k => railplanref1_Make.f k n a q) (s', e')) (hs' : Fit s') :
    ∃ k, railplanlaw2_ResidueMake.f k t a m = some true := by
  apply Ev.rounds
  simp only [railplanlaw2_ResidueMake.f, hn, hw, hq, Option.bind_some]
  refine Ev.bind e1 (Ev.bind e2 (Ev.bind g1 (Ev.bind g2 (Ev.bind awake_ev ?_))))
  refine Ev.ite_pos rfl (Ev.bind (Same_ev _ hs) (Ev.ite_pos rfl (Ev.ite_pos rfl (Ev.bind (Same_ev _ hs') (Ev.ite_pos rfl ?_)))))
  simp only [BEq.rfl]
  exact Ev.now _
theorem ResidueMake : railplanlaw2_ResidueMake.Pure := by
  intro t a m wt wa wm
  obtain ⟨n, hn, n1, n2⟩ := Period_some t
  obtain ⟨q, hq, q0, q1⟩ := Pick_some m (2 * n) (by omega) (by omega)
  obtain ⟨s, e, e1, e2, hs⟩ := Make_same t a m
  exact law_of t a m n q s _ e _ hn (wrap_ok (by omega) (by omega)) hq e1 e2 hs (Make_ev n n1 (by omega) a q) (rMake_ev n n1 (by omega) a q) (fit_can _ n1 (by omega))
end Go.Proofs.Ytdnileakboefgaa.Pure
