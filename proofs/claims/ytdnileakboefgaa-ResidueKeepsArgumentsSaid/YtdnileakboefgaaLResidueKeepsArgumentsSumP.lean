/- The predicate of a sum. -/
import Derived.Test.YtdnileakboefgaaLResidueKeepsArgumentsB
namespace Go.Proofs.Ytdnileakboefgaa.PResidueKeepsArguments
open Go.RowKit Go.Proofs.YtdnileakboefgaaW.PrintWords Go.Proofs.YtdnileakboefgaaW.PrintLast Go.Proofs.YtdnileakboefgaaW.PrintMore
set_option linter.unusedVariables false
set_option linter.unusedSimpArgs false

def sm1 (n : Int) (u : S35) (b : List S35) (x : Int) : Bool := b.any fun v => decide ((x - (u.f0 + v.f0)) % n < u.f1 - u.f0 + v.f1 - v.f0 - 1)
def sm (n : Int) (a b : List S35) (x : Int) : Bool := a.any fun u => sm1 n u b x
theorem sm1_cons (n : Int) (u v : S35) (b : List S35) (x : Int) : sm1 n u (v :: b) x = (decide ((x - (u.f0 + v.f0)) % n < u.f1 - u.f0 + v.f1 - v.f0 - 1) || sm1 n u b x) := rfl
theorem sm_cons (n : Int) (u : S35) (a b : List S35) (x : Int) : sm n (u :: a) b x = (sm1 n u b x || sm n a b x) := rfl
theorem sm1_iff (n : Int) (u : S35) (b : List S35) (x : Int) : sm1 n u b x = true ↔ ∃ v, v ∈ b ∧ (x - (u.f0 + v.f0)) % n < u.f1 - u.f0 + v.f1 - v.f0 - 1 := by
  simp [sm1, List.any_eq_true]
theorem sm_iff (n : Int) (a b : List S35) (x : Int) : sm n a b x = true ↔ ∃ u, u ∈ a ∧ ∃ v, v ∈ b ∧ (x - (u.f0 + v.f0)) % n < u.f1 - u.f0 + v.f1 - v.f0 - 1 := by
  simp [sm, List.any_eq_true, sm1_iff]
/-- A residue is in a sum exactly if it is the sum of a member of the one set and a member of the other one. -/
theorem sm_mem {n : Nat} (hn : 1 ≤ n) {a b : List S35} (ha : vldF n (-1) a = true) (hb : vldF n (-1) b = true) (x : Int) :
    sm n a b x = true ↔ ∃ d : Int, 0 ≤ d ∧ d < n ∧ mem a d = true ∧ mem b ((x - d) % n) = true := by
  rw [sm_iff]
  constructor
  · rintro ⟨u, hu, v, hv, h⟩
    have gu := vldF_mem a ha u hu
    have gv := vldF_mem b hb v hv
    have hz := em_bound (x - (u.f0 + v.f0)) (show (0 : Int) < n by omega)
    have key : ∃ d : Int, u.f0 ≤ d ∧ d < u.f1 ∧ (x - (v.f0 + d)) % n < v.f1 - v.f0 := by
      by_cases hc : (x - (u.f0 + v.f0)) % n < u.f1 - u.f0
      · refine ⟨u.f0 + (x - (u.f0 + v.f0)) % n, by omega, by omega, ?_⟩
        have e : x - (v.f0 + (u.f0 + (x - (u.f0 + v.f0)) % n)) = (x - (u.f0 + v.f0)) - (x - (u.f0 + v.f0)) % n := by omega
        rw [e, em_sub, Int.sub_self, Int.zero_emod]; omega
      · refine ⟨u.f1 - 1, by omega, by omega, ?_⟩
        have e : x - (v.f0 + (u.f1 - 1)) = (x - (u.f0 + v.f0)) - (u.f1 - 1 - u.f0) := by omega
        rw [e, ← em_sub_left, em_lo (by omega) (by omega)]; omega
    obtain ⟨d, d0, d1, hd⟩ := key
    have hr := (em_run (x := x) (b := d) (n := n) (by omega) gv.2.1 gv.2.2.1 gv.2.2.2).1 hd
    exact ⟨d, by omega, by omega, (mem_iff _ _).2 ⟨u, hu, d0, d1⟩, (mem_iff _ _).2 ⟨v, hv, hr⟩⟩
  · rintro ⟨d, d0, d1, hm, hm'⟩
    obtain ⟨u, hu, u0, u1⟩ := (mem_iff _ _).1 hm
    obtain ⟨v, hv, v0, v1⟩ := (mem_iff _ _).1 hm'
    have gu := vldF_mem a ha u hu
    have gv := vldF_mem b hb v hv
    refine ⟨u, hu, v, hv, ?_⟩
    have e : (x - (u.f0 + v.f0)) % n = ((x - d) % n - v.f0 + (d - u.f0)) % n := by
      rw [show (x - d) % n - v.f0 + (d - u.f0) = (x - d) % n + (d - u.f0 - v.f0) by omega, em_add_left]; congr 1; omega
    rw [e]
    have hz := em_bound (x - d) (show (0 : Int) < n by omega)
    generalize (x - d) % n = z at *
    by_cases hc : z - v.f0 + (d - u.f0) < n
    · rw [em_lo (by omega) hc]; omega
    · rw [em_hi (by omega) (by omega)]; omega
end Go.Proofs.Ytdnileakboefgaa.PResidueKeepsArguments
