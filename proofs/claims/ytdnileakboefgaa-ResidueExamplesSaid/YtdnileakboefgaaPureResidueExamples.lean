/- The examples of chapter 2 hold of the program. -/
import Derived.Test.YtdnileakboefgaaLResidueExamplesDComp
import Derived.Test.YtdnileakboefgaaLResidueExamplesDShift
import Derived.Test.YtdnileakboefgaaLResidueExamplesDSum
import Derived.Test.YtdnileakboefgaaLResidueExamplesDNext
namespace Go.Proofs.Ytdnileakboefgaa.Pure
open Go.RowKit Go.Proofs.Ytdnileakboefgaa.PResidueExamples Go.Proofs.YtdnileakboefgaaW.PrintWords Go.Proofs.YtdnileakboefgaaW.PrintLast
set_option linter.unusedVariables false
set_option linter.unusedSimpArgs false
theorem first10 : first 10 [⟨0, 2⟩, ⟨8, 10⟩] 3 5 := by
  refine ⟨by omega, by omega, by rfl, fun k k0 k1 => ?_⟩
  have : k = 0 ∨ k = 1 ∨ k = 2 ∨ k = 3 ∨ k = 4 := by omega
  rcases this with rfl | rfl | rfl | rfl | rfl <;> rfl
theorem ResidueExamples : railplanlaw2_ResidueExamples.Pure := by
  have h1 : (1 : Nat) ≤ 10 := by omega
  have h2 : 10 ≤ 7200 := by omega
  have fit : ∀ {s : List S35}, s.length ≤ 2 → Fit s := fun h => fit_le (by omega)
  have em : (can 10 fun x => decide ((x - 8) % ((10 : Nat) : Int) < 4)) = [⟨0, 2⟩, ⟨8, 10⟩] := by rfl
  have e1 := Make_ev 10 h1 h2 8 4
  rw [em] at e1
  have e2 := Complement_ev 10 h1 h2 [⟨0, 2⟩, ⟨8, 10⟩] (fit (by simp))
  rw [if_pos (by rfl), show (can 10 fun x => !mem [⟨0, 2⟩, ⟨8, 10⟩] x) = [⟨2, 8⟩] by rfl] at e2
  have e3 := Shift_ev 10 h1 h2 [⟨8, 10⟩] (fit (by simp)) 3
  rw [if_pos (by rfl), show (can 10 fun x => mem [⟨8, 10⟩] ((x - 3) % ((10 : Nat) : Int))) = [⟨1, 3⟩] by rfl] at e3
  have e4 := Sum_ev 10 h1 h2 [⟨0, 2⟩] [⟨5, 7⟩] (fit (by simp)) (fit (by simp))
  rw [if_pos (by exact ⟨rfl, rfl⟩), show (can 10 fun x => sm ((10 : Nat) : Int) [⟨0, 2⟩] [⟨5, 7⟩] x) = [⟨5, 8⟩] by rfl] at e4
  obtain ⟨d, b, e5, hb, hf⟩ := Next_ev 10 h1 h2 [⟨0, 2⟩, ⟨8, 10⟩] (fit (by simp)) 3
  cases b with
  | false => exact absurd (hf rfl).2 (by intro h; rcases h with h | h; · revert h; rw [show vld ((10 : Nat) : Int) [⟨0, 2⟩, ⟨8, 10⟩] = true by rfl]; simp
                                         · cases h)
  | true =>
  have hd := first_uniq (hb rfl).2 first10
  subst hd
  show ∃ k, railplanlaw2_ResidueExamples.f k = some true
  apply Ev.rounds
  unfold railplanlaw2_ResidueExamples.f
  refine Ev.bind e1 (Ev.bind e2 (Ev.bind e3 (Ev.bind e4 (Ev.bind e5 ?_))))
  refine Ev.ite_pos rfl (Ev.ite_pos rfl (Ev.bind (Same_ev _ (fit (by simp))) (Ev.ite_pos rfl (Ev.bind (Same_ev _ (fit (by simp))) (Ev.ite_pos rfl (Ev.bind (Same_ev _ (fit (by simp))) (Ev.ite_pos rfl (Ev.bind (Same_ev _ (fit (by simp))) (Ev.ite_pos rfl (Ev.ite_pos rfl ?_))))))))))
  exact Ev.now _
end Go.Proofs.Ytdnileakboefgaa.Pure
