/- A period out of range gives ErrRange, and an invalid list ErrArg, for all operations, for every argument. -/
import Derived.Test.YtdnileakboefgaaPResidueRejectsx5
import Derived.Test.YtdnileakboefgaaLResidueRejectsAW
import Derived.Test.YtdnileakboefgaaLResidueRejectsCVV
import Derived.Test.YtdnileakboefgaaLResidueRejectsDUnion
import Derived.Test.YtdnileakboefgaaLResidueRejectsDInter
import Derived.Test.YtdnileakboefgaaLResidueRejectsDComp
import Derived.Test.YtdnileakboefgaaLResidueRejectsDShift
import Derived.Test.YtdnileakboefgaaLResidueRejectsDSum
namespace Go.Proofs.Ytdnileakboefgaa.Pure
open Go.RowKit Go.Proofs.Ytdnileakboefgaa.PResidueRejects Go.Proofs.YtdnileakboefgaaW.PrintWords Go.Proofs.YtdnileakboefgaaW.PrintLast
set_option linter.unusedVariables false
def er (t : Int) (s : List S35) : Int := if per t = true then (if vld t s = true then 0 else 1) else 4
theorem er_bad {t : Int} {s : List S35} (h : per t = false) : er t s = 4 := by unfold er; rw [if_neg (by simp [h])]
theorem er_in {n : Nat} {s : List S35} (h1 : 1 ≤ n) (h2 : n ≤ 7200) : er n s = if vld n s = true then 0 else 1 := by unfold er; rw [if_pos ((per_iff _).2 (by omega))]
theorem nil_vld {n : Nat} (h1 : 1 ≤ n) (h2 : n ≤ 7200) : vld n ([] : List S35) = true := by rw [vld_iff]; exact ⟨by omega, rfl⟩
theorem nat_of {t : Int} (h : per t = true) : ∃ n : Nat, t = n ∧ 1 ≤ n ∧ n ≤ 7200 := by
  rw [per_iff] at h
  obtain ⟨n, rfl⟩ := Int.eq_ofNat_of_zero_le (show 0 ≤ t by omega)
  exact ⟨n, rfl, by omega, by omega⟩
theorem cut (g : Nat → Option (List S35 × Int)) (n : Nat) (s : List S35) (h1 : 1 ≤ n) (h2 : n ≤ 7200) {P : Prop} [Decidable P] {r : List S35} (hp : P ↔ vld n s = true) (h : Ev g (if P then (r, 0) else ([], 1))) : ∃ r, Ev g (r, er n s) := by
  rw [er_in h1 h2]
  by_cases hv : vld n s = true
  · rw [if_pos (hp.2 hv)] at h; rw [if_pos hv]; exact ⟨_, h⟩
  · rw [if_neg (fun hc => hv (hp.1 hc))] at h; rw [if_neg hv]; exact ⟨_, h⟩
theorem all_er (t : Int) (s : List S35) (hs : Fit s) : (∃ r, Ev (fun k => residue_Union.f k t s []) (r, er t s)) ∧ (∃ r, Ev (fun k => residue_Intersect.f k t [] s) (r, er t s)) ∧ (∃ r, Ev (fun k => residue_Complement.f k t s) (r, er t s)) ∧
    (∃ r, Ev (fun k => residue_Shift.f k t s 1) (r, er t s)) ∧ ∃ r, Ev (fun k => residue_Sum.f k t s []) (r, er t s) := by
  cases h : per t with
  | false =>
    rw [er_bad h]
    exact ⟨⟨_, Union_bad t s [] hs fit_nil h⟩, ⟨_, Intersect_bad t [] s fit_nil hs h⟩, ⟨_, Complement_bad t s hs h⟩, ⟨_, Shift_bad t s hs 1 h⟩, ⟨_, Sum_bad t s [] hs fit_nil h⟩⟩
  | true =>
    obtain ⟨n, rfl, h1, h2⟩ := nat_of h
    have hn := nil_vld h1 h2
    exact ⟨cut _ n s h1 h2 (by simp [hn]) (Union_ev n h1 h2 s [] hs fit_nil), cut _ n s h1 h2 (by simp [hn]) (Intersect_ev n h1 h2 [] s fit_nil hs), cut _ n s h1 h2 Iff.rfl (Complement_ev n h1 h2 s hs), cut _ n s h1 h2 Iff.rfl (Shift_ev n h1 h2 s hs 1), cut _ n s h1 h2 (by simp [hn]) (Sum_ev n h1 h2 s [] hs fit_nil)⟩
theorem last_bad (t : Int) (s : List S35) : Ev (fun k => railplanlaw2_ResidueRejects.j0 k t s 4 4 4 4 4 0 true) true := by
  refine Ev.step (f := fun k => (railplanlaw2_awake.f k).bind fun t237 => (if t237 = true then (some true) else (some false))) (fun k => ?_) (Ev.bind awake_ev (Ev.ite_pos rfl (Ev.now _)))
  simp only [railplanlaw2_ResidueRejects.j0]; rfl
theorem last_in (n : Nat) (s : List S35) (hs : Fit s) (h1 : 1 ≤ n) (h2 : n ≤ 7200) (e : Int) (he : e = if vld n s = true then 0 else 1) : Ev (fun k => railplanlaw2_ResidueRejects.j0 k n s e e e e e 0 false) true := by
  refine Ev.step (f := fun k => (railplanref1_ValidSpans.f k n s).bind fun t238 => (if t238 = true then ((railplanlaw2_awake.f k).bind fun t239 => (if t239 = true then (if e = 0 then (if e = 0 then (if e = 0 then (if e = 0 then (some (e == 0)) else (some false)) else (some false)) else (some false)) else (some false)) else (some false))) else ((railplanlaw2_awake.f k).bind fun t240 => (if t240 = true then (if e = 1 then (if e = 1 then (if e = 1 then (if e = 1 then (some (e == 1)) else (some false)) else (some false)) else (some false)) else (some false)) else (some false))))) (fun k => ?_) ?_
  · simp only [railplanlaw2_ResidueRejects.j0]; rfl
  · refine Ev.bind (ValidSpans_ev n s hs) ?_
    by_cases hv : vld n s = true
    · rw [if_pos hv] at he; subst he
      exact Ev.ite_pos hv (Ev.bind awake_ev (Ev.ite_pos rfl (Ev.ite_pos rfl (Ev.ite_pos rfl (Ev.ite_pos rfl (Ev.ite_pos rfl (Ev.now _)))))))
    · rw [if_neg hv] at he; subst he
      exact Ev.ite_neg hv (Ev.bind awake_ev (Ev.ite_pos rfl (Ev.ite_pos rfl (Ev.ite_pos rfl (Ev.ite_pos rfl (Ev.ite_pos rfl (Ev.now _)))))))
theorem ResidueRejects (t : Int) (s : List S35) (hs : Fit s) : ∃ k, railplanlaw2_ResidueRejects.f k t s = some true := by
  obtain ⟨⟨r1, e1⟩, ⟨r2, e2⟩, ⟨r3, e3⟩, ⟨r4, e4⟩, ⟨r5, e5⟩⟩ := all_er t s hs
  apply Ev.rounds
  simp only [railplanlaw2_ResidueRejects.f]
  refine Ev.bind e1 (Ev.bind e2 (Ev.bind e3 (Ev.bind e4 (Ev.bind e5 ?_))))
  cases h : per t with
  | false =>
    simp only [er_bad h]
    by_cases ht : t < 1
    · exact Ev.ite_pos ht (last_bad t s)
    · have hd : decide (t > 7200) = true := by
        have hf : ¬ (1 ≤ t ∧ t ≤ 7200) := fun hc => by rw [(per_iff t).2 hc] at h; cases h
        rw [decide_eq_true_eq]; omega
      refine Ev.ite_neg ht ?_
      rw [hd]; exact last_bad t s
  | true =>
    obtain ⟨n, rfl, h1, h2⟩ := nat_of h
    refine Ev.ite_neg (by omega) ?_
    rw [decide_eq_false (by omega)]
    exact last_in n s hs h1 h2 _ (er_in h1 h2)
theorem ResidueRejects_walk (w : World) (a0 : Int) (w0 : (Lit.int .i64 a0).wf = true) (A1 : Option Addr) (c1 : Nat) (l1 : List S35) (hr1 : Kd.C k35 w A1 l1.length l1) (hc1 : l1.length ≤ c1) (hf1 : Fit l1) (hw1 : ∀ u ∈ l1, (Lit.int .i64 u.f0).wf = true ∧ (Lit.int .i64 u.f1).wf = true) :
    Calls Try.prog 13 #[.int .i64 a0, .slice A1 l1.length c1] w fun e w' => e = .returned (.bool true) ∧ Below w.heap.size w w' := by
  obtain ⟨k, h⟩ := ResidueRejects a0 l1 hf1
  exact railplanlaw2_ResidueRejects.calls k a0 A1 c1 l1 true w hr1 hc1 h
end Go.Proofs.Ytdnileakboefgaa.Pure
