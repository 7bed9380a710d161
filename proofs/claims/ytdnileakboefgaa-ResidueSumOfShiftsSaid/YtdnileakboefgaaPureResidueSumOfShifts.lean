/- The sum of a set and a single residue is the shifted set, and shifts add up, for every argument. -/
import Derived.Test.YtdnileakboefgaaLResidueSumOfShiftsCS
import Derived.Test.YtdnileakboefgaaLResidueSumOfShiftsAW
import Derived.Test.YtdnileakboefgaaLResidueSumOfShiftsDCount
import Derived.Test.YtdnileakboefgaaLResidueSumOfShiftsDShift
import Derived.Test.YtdnileakboefgaaLResidueSumOfShiftsDSum
namespace Go.Proofs.Ytdnileakboefgaa.Pure
open Go.RowKit Go.Proofs.Ytdnileakboefgaa.PResidueSumOfShifts Go.Proofs.YtdnileakboefgaaW.PrintWords Go.Proofs.YtdnileakboefgaaW.PrintLast
set_option linter.unusedVariables false
set_option linter.unusedSimpArgs false
theorem cnt_cut (q : Int → Bool) (a : Nat) : ∀ b : Nat, cnt q (a + b) = cnt q a + cnt (fun x => q (x + a)) b
  | 0 => by simp [cnt]
  | b + 1 => by
    have := cnt_cut q a b
    rw [← Nat.add_assoc]; simp only [cnt]
    rw [this, show ((a + b : Nat) : Int) = (b : Int) + a by omega]; omega
theorem cnt_turn {n b : Nat} (hb : b ≤ n) (hn : 1 ≤ n) (p : Int → Bool) : cnt (fun x => p ((x - b) % n)) n = cnt p n := by
  by_cases e : b = n
  · subst e
    refine cnt_congr fun x x0 x1 => ?_
    show p ((x - b) % b) = p x
    rw [Int.sub_emod_right, em_lo x0 x1]
  · have h1 := cnt_cut (fun x => p ((x - b) % n)) b (n - b)
    have h2 := cnt_cut p (n - b) b
    rw [show b + (n - b) = n by omega] at h1
    rw [show n - b + b = n by omega] at h2
    rw [h1, h2]
    have g1 : cnt (fun x => p ((x - b) % n)) b = cnt (fun x => p (x + (n - b : Nat))) b := cnt_congr fun x x0 x1 => by
      show p ((x - b) % n) = _
      rw [em_neg (by omega) (by omega)]; congr 1; omega
    have g2 : cnt (fun x => p ((x + b - b) % n)) (n - b) = cnt p (n - b) := cnt_congr fun x x0 x1 => by
      show p ((x + b - b) % n) = _
      rw [em_lo (by omega) (by omega)]; congr 1; omega
    rw [g1, g2]; omega
theorem ResidueSumOfShifts : railplanlaw2_ResidueSumOfShifts.Pure := by
  intro a0 l1 a2 a3 w0 h1 _ _ _ _
  obtain ⟨n, hn, n1, n2⟩ := Period_some a0
  have hn2 : n ≤ 7200 := by omega
  obtain ⟨a, ea, va⟩ := Set_ev l1 (by unfold Fit; unfold maxLen at h1; omega) n n1 hn2
  obtain ⟨x, hx, x0, x1⟩ := Pick_some a2 n (by omega) (by omega)
  obtain ⟨y, hy, y0, y1⟩ := Pick_some a3 (5 * n) (by omega) (by omega)
  have hw5 : wrap64 (5 * (n : Int)) = 5 * n := wrap_ok (by omega) (by omega)
  have hwx : wrap64 (x + y) = x + y := wrap_ok (by omega) (by omega)
  have fit : ∀ {s : List S35}, vld n s = true → Fit s := fun h => fit_le (vld_fit h)
  have cv := fun p => can_vld (n := n) p n1 hn2
  have e1 := Make_ev n n1 hn2 x 1
  have one : (can n fun z => decide ((z - x) % n < 1)) = [⟨x, x + 1⟩] := by
    refine (eq_can (a := -1) ?_ fun z z0 z1 => ?_).symm
    · rw [vldF_cons]; exact ⟨by show -1 < x; omega, x0, by show x < x + 1; omega, by show x + 1 ≤ n; omega, rfl⟩
    · rw [mem_cons, mem_nil, Bool.or_false, Bool.eq_iff_iff, inS_iff, decide_eq_true_eq]
      have hr := em_run (x := z) (b := 0) (c := x) (d := x + 1) (n := n) (by omega) x0 (by omega) (by omega)
      rw [Int.add_zero, Int.sub_zero, em_lo z0 z1] at hr
      show x ≤ z ∧ z < x + 1 ↔ _
      rw [← hr, show x + 1 - x = 1 by omega]
  rw [one] at e1
  have vo : vld n [⟨x, x + 1⟩] = true := by rw [← one]; exact cv _
  have es := Sum_ev n n1 hn2 a [⟨x, x + 1⟩] (fit va) (fit vo)
  rw [if_pos ⟨va, vo⟩] at es
  have eh := Shift_ev n n1 hn2 a (fit va) x
  rw [if_pos va] at eh
  have ek := Shift_ev n n1 hn2 _ (fit (cv fun z => mem a ((z - x) % n))) y
  rw [if_pos (cv _)] at ek
  have eq := Shift_ev n n1 hn2 a (fit va) (x + y)
  rw [if_pos va] at eq
  have c1 : (can n fun z => sm n a [⟨x, x + 1⟩] z) = can n fun z => mem a ((z - x) % n) := can_congr fun z z0 z1 => by
    rw [Bool.eq_iff_iff, sm_iff, mem_iff]
    have hv := (vld_iff _ _).1 va
    constructor
    · rintro ⟨u, hu, v, hv', h⟩
      rw [List.mem_singleton] at hv'
      subst hv'
      have gu := vldF_mem a hv.2 u hu
      exact ⟨u, hu, (em_run (by omega) gu.2.1 gu.2.2.1 gu.2.2.2).1 (by have h' : (z - (u.f0 + x)) % n < u.f1 - u.f0 + (x + 1) - x - 1 := h; omega)⟩
    · rintro ⟨u, hu, h⟩
      have gu := vldF_mem a hv.2 u hu
      refine ⟨u, hu, ⟨x, x + 1⟩, List.mem_singleton.2 rfl, ?_⟩
      have := (em_run (x := z) (b := x) (n := n) (by omega) gu.2.1 gu.2.2.1 gu.2.2.2).2 h
      show (z - (u.f0 + x)) % n < u.f1 - u.f0 + (x + 1) - x - 1
      omega
  have c2 : (can n fun z => mem (can n fun z => mem a ((z - x) % n)) ((z - y) % n)) = can n fun z => mem a ((z - (x + y)) % n) := can_congr fun z z0 z1 => by
    have hb := em_bound (z - y) (show (0 : Int) < n by omega)
    rw [can_in _ hb.1 hb.2, em_sub_left]; congr 2; omega
  have k1 := Count_ev n n1 hn2 _ (fit (cv fun z => mem a ((z - x) % n)))
  have hxn : ((x.toNat : Nat) : Int) = x := Int.toNat_of_nonneg x0
  have ht := cnt_turn (n := n) (b := x.toNat) (by omega) n1 (mem a)
  rw [hxn] at ht
  rw [if_pos (cv _), cnt_congr (q := fun z => mem a ((z - x) % n)) fun z z0 z1 => can_in (fun z => mem a ((z - x) % n)) z0 z1, ht] at k1
  have k2 := Count_ev n n1 hn2 a (fit va)
  rw [if_pos va] at k2
  apply Ev.rounds
  simp only [railplanlaw2_ResidueSumOfShifts.f, hn, hx, hw5, hy, hwx, Option.bind_some]
  refine Ev.bind ea (Ev.bind e1 (Ev.bind es (Ev.bind eh (Ev.bind ek (Ev.bind eq (Ev.bind awake_ev ?_))))))
  rw [c1, c2]
  refine Ev.ite_pos rfl (Ev.ite_pos rfl (Ev.ite_pos rfl (Ev.bind (Same_ev _ (fit (cv _))) (Ev.ite_pos rfl (Ev.bind (Same_ev _ (fit (cv _))) (Ev.ite_pos rfl (Ev.bind k1 (Ev.bind k2 ?_))))))))
  simp only [BEq.rfl]
  exact Ev.now _
end Go.Proofs.Ytdnileakboefgaa.Pure
