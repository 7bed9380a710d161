/- Valid accepts exactly the valid lists, for every argument. -/
import Derived.Test.YtdnileakboefgaaPResidueValidx6
import Derived.Test.YtdnileakboefgaaLResidueValidCS
import Derived.Test.YtdnileakboefgaaLResidueValidAW
namespace Go.Proofs.Ytdnileakboefgaa.Pure
open Go.RowKit Go.Proofs.Ytdnileakboefgaa.PResidueValid Go.Proofs.YtdnileakboefgaaW.PrintWords Go.Proofs.YtdnileakboefgaaW.PrintLast
set_option linter.unusedVariables false
theorem ResidueValid (t : Int) (s : List S35) (l : List Int) (hs : Fit s) (hl : Fit l) : ∃ k, railplanlaw2_ResidueValid.f k t s l = some true := by
  obtain ⟨n, hn, n1, n2⟩ := Period_some t
  have hn2 : n ≤ 7200 := by omega
  obtain ⟨a, ea, va⟩ := Set_ev l hl n n1 hn2
  apply Ev.rounds
  simp only [railplanlaw2_ResidueValid.f, hn, Option.bind_some]
  refine Ev.bind awake_ev (Ev.ite_pos rfl (Ev.bind (Valid_ev t s hs) (Ev.bind (ValidSpans_ev t s hs) (Ev.ite_pos (by simp) (Ev.bind ea ?_)))))
  have ev := Valid_ev n a (fit_le (vld_fit va))
  rw [va] at ev
  refine Ev.bind ev (Ev.ite_pos rfl (Ev.bind (Valid_ev n s hs) (Ev.bind (ValidSpans_ev n s hs) ?_)))
  simp only [BEq.rfl]
  exact Ev.now _
theorem ResidueValid_walk (w : World) (a0 : Int) (w0 : (Lit.int .i64 a0).wf = true) (A1 : Option Addr) (c1 : Nat) (l1 : List S35) (hr1 : Kd.C k35 w A1 l1.length l1) (hc1 : l1.length ≤ c1) (hf1 : Fit l1) (hw1 : ∀ u ∈ l1, (Lit.int .i64 u.f0).wf = true ∧ (Lit.int .i64 u.f1).wf = true)
    (A2 : Option Addr) (c2 : Nat) (l2 : List Int) (hr2 : Kd.C (Kd.int .i64) w A2 l2.length l2) (hc2 : l2.length ≤ c2) (y2 : l2.length * 8 ≤ 140737488351232) (hw2 : ∀ x ∈ l2, (Lit.int .i64 x).wf = true) :
    Calls Try.prog 3 #[.int .i64 a0, .slice A1 l1.length c1, .slice A2 l2.length c2] w fun e w' => e = .returned (.bool true) ∧ Below w.heap.size w w' := by
  obtain ⟨k, h⟩ := ResidueValid a0 l1 l2 hf1 (by unfold Fit; omega)
  exact railplanlaw2_ResidueValid.calls k a0 A1 c1 l1 A2 c2 l2 true w hr1 hc1 hr2 hc2 h
end Go.Proofs.Ytdnileakboefgaa.Pure
