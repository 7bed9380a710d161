/- A residue is in a sum exactly if some residue of the one set has its difference in the other one, for every argument. -/
import Derived.Test.YtdnileakboefgaaLResidueMembersCS
import Derived.Test.YtdnileakboefgaaLResidueMembersAW
import Derived.Test.YtdnileakboefgaaLResidueMembersDHas
import Derived.Test.YtdnileakboefgaaLResidueMembersDSum
namespace Go.Proofs.Ytdnileakboefgaa.Pure
open Go.RowKit Go.Proofs.Ytdnileakboefgaa.PResidueMembers Go.Proofs.YtdnileakboefgaaW.PrintWords Go.Proofs.YtdnileakboefgaaW.PrintLast
set_option linter.unusedVariables false
set_option linter.unusedSimpArgs false
theorem exi_step (q : Int → Bool) (i : Int) (b : Bool) (n : Int) (h : i < n) (hb : b = true ↔ ∃ d : Int, 0 ≤ d ∧ d < i ∧ q d = true) (i0 : 0 ≤ i) : (b || q i) = true ↔ ∃ d : Int, 0 ≤ d ∧ d < i + 1 ∧ q d = true := by
  rw [Bool.or_eq_true, hb]
  constructor
  · rintro (⟨d, d0, d1, hd⟩ | h)
    · exact ⟨d, d0, by omega, hd⟩
    · exact ⟨i, i0, by omega, h⟩
  · rintro ⟨d, d0, d1, hd⟩
    by_cases he : d = i
    · subst he; exact .inr hd
    · exact .inl ⟨d, d0, by omega, hd⟩
theorem Members_loop (n : Nat) (n1 : 1 ≤ n) (n2 : n ≤ 7200) (a b : List S35) (va : vld n a = true) (vb : vld n b = true) (x : Int) (x0 : 0 ≤ x) (x1 : x < n) (s : List S35) (hs : s = can n fun x => sm n a b x) : ∀ (d : Nat) (w : Bool) (i : Int), 0 ≤ i → i + d = n →
    (w = true ↔ ∃ d : Int, 0 ≤ d ∧ d < i ∧ (mem a d && mem b ((x - d) % n)) = true) → Ev (fun k => railplanlaw2_ResidueMembers.l0 k x n a b s 0 w i) true
  | 0, w, i, i0, hd, hw => by
    have hi : i = n := by omega
    subst hi
    have vs := can_vld (fun x => sm n a b x) n1 n2
    refine Ev.step (f := fun k => (railplanlaw2_awake.f k).bind fun t241 => (if t241 = true then (if (0 : Int) = 0 then ((residue_Has.f k n s x).bind fun t242 => (some (t242 == w))) else (some false)) else (some false))) (fun k => ?_) ?_
    · simp only [railplanlaw2_ResidueMembers.l0]
      rw [if_neg (by omega)]
    · refine Ev.bind awake_ev (Ev.ite_pos rfl (Ev.ite_pos rfl ?_))
      rw [hs]
      refine Ev.bind (Has_ev n n1 n2 _ (fit_le (vld_fit vs)) x) ?_
      rw [vs, em_lo x0 x1, can_in _ x0 x1, Bool.true_and]
      have : sm n a b x = w := by
        rw [Bool.eq_iff_iff, sm_mem n1 ((vld_iff _ _).1 va).2 ((vld_iff _ _).1 vb).2, hw]
        simp only [Bool.and_eq_true]
      rw [this]
      simp only [BEq.rfl]
      exact Ev.now _
  | d + 1, w, i, i0, hd, hw => by
    have ih := fun w' hw' => Members_loop n n1 n2 a b va vb x x0 x1 s hs d w' (i + 1) (by omega) (by omega) hw'
    have hstep := exi_step (fun d => mem a d && mem b ((x - d) % n)) i w n (by omega) hw i0
    have e1 := Has_ev n n1 n2 a (fit_le (vld_fit va)) i
    rw [va, Bool.true_and, em_lo i0 (by omega)] at e1
    have e2 := Has_ev n n1 n2 b (fit_le (vld_fit vb)) (x - i)
    rw [vb, Bool.true_and] at e2
    have hwr : wrap64 (i + 1) = i + 1 := wrap_ok (by omega) (by omega)
    have hwr2 : wrap64 (x - i) = x - i := wrap_ok (by omega) (by omega)
    refine Ev.step (f := fun k => if w = true then railplanlaw2_ResidueMembers.l0 k x n a b s 0 true (i + 1) else ((residue_Has.f k n a i).bind fun t239 => (if t239 = true then ((residue_Has.f k n b (x - i)).bind fun t240 => (railplanlaw2_ResidueMembers.l0 k x n a b s 0 t240 (i + 1))) else (railplanlaw2_ResidueMembers.l0 k x n a b s 0 false (i + 1))))) (fun k => ?_) ?_
    · simp only [railplanlaw2_ResidueMembers.l0]
      rw [if_pos (by omega), hwr, hwr2]
    · cases w with
      | true => exact Ev.ite_pos rfl (ih true (by simpa using hstep))
      | false =>
        refine Ev.ite_neg (by simp) (Ev.bind e1 ?_)
        simp only [Bool.false_or] at hstep
        cases hm : mem a i with
        | true => 
          rw [hm, Bool.true_and] at hstep
          exact Ev.ite_pos rfl (Ev.bind e2 (ih _ hstep))
        | false =>
          rw [hm, Bool.false_and] at hstep
          exact Ev.ite_neg (by simp) (ih false hstep)
theorem ResidueMembers : railplanlaw2_ResidueMembers.Pure := by
  intro a0 l1 l2 a3 w0 h1 _ _ h2 _ _ _
  obtain ⟨n, hn, n1, n2⟩ := Period_some a0
  have hn2 : n ≤ 7200 := by omega
  obtain ⟨a, ea, va⟩ := Set_ev l1 (by unfold Fit; unfold maxLen at h1; omega) n n1 hn2
  obtain ⟨b, eb, vb⟩ := Set_ev l2 (by unfold Fit; unfold maxLen at h2; omega) n n1 hn2
  obtain ⟨x, hx, x0, x1⟩ := Pick_some a3 n (by omega) (by omega)
  have es := Sum_ev n n1 hn2 a b (fit_le (vld_fit va)) (fit_le (vld_fit vb))
  rw [if_pos ⟨va, vb⟩] at es
  apply Ev.rounds
  simp only [railplanlaw2_ResidueMembers.f, hn, hx, Option.bind_some]
  refine Ev.bind ea (Ev.bind eb (Ev.bind es ?_))
  exact Members_loop n n1 hn2 a b va vb x x0 x1 _ rfl n false 0 (Int.le_refl _) (by omega) ⟨fun h => (by cases h), fun ⟨d, d0, d1, _⟩ => by omega⟩
end Go.Proofs.Ytdnileakboefgaa.Pure
