/- No operation on residue sets changes its arguments or their spare capacity, and no result shares memory with them, for every argument. -/
import Derived.Test.YtdnileakboefgaaLResidueKeepsArgumentsK2
import Derived.Test.YtdnileakboefgaaLResidueKeepsArgumentsDUnion
import Derived.Test.YtdnileakboefgaaLResidueKeepsArgumentsDInter
import Derived.Test.YtdnileakboefgaaLResidueKeepsArgumentsDComp
import Derived.Test.YtdnileakboefgaaLResidueKeepsArgumentsDShift
import Derived.Test.YtdnileakboefgaaLResidueKeepsArgumentsDSum
import Derived.Test.YtdnileakboefgaaLResidueKeepsArgumentsCP
namespace Go.Proofs.Ytdnileakboefgaa.Pure
open Go.RowKit Go.Proofs.Ytdnileakboefgaa.PResidueKeepsArguments Go.Proofs.YtdnileakboefgaaW.PrintWords Go.Proofs.YtdnileakboefgaaW.PrintLast Go.Proofs.YtdnileakboefgaaW.PrintMore
set_option linter.unusedVariables false
theorem ResidueKeepsArguments_walk (w : World) (a0 : Int) (w0 : (Lit.int .i64 a0).wf = true) (A1 : Option Addr) (c1 : Nat) (l1 : List Int) (hr1 : Kd.C (Kd.int .i64) w A1 l1.length l1) (hc1 : l1.length ≤ c1) (y1 : l1.length * 8 ≤ 140737488351232) (hw1 : ∀ x ∈ l1, (Lit.int .i64 x).wf = true)
    (A2 : Option Addr) (c2 : Nat) (l2 : List Int) (hr2 : Kd.C (Kd.int .i64) w A2 l2.length l2) (hc2 : l2.length ≤ c2) (y2 : l2.length * 8 ≤ 140737488351232) (hw2 : ∀ x ∈ l2, (Lit.int .i64 x).wf = true) :
    Calls Try.prog 14 #[.int .i64 a0, .slice A1 l1.length c1, .slice A2 l2.length c2] w fun e w' => e = .returned (.bool true) ∧ Below w.heap.size w w' := by
  obtain ⟨n, hn, n1, n2⟩ := Period_some a0
  have hn2 : n ≤ 7200 := by omega
  obtain ⟨a, ⟨K1, ea⟩, va⟩ := Set_ev l1 (by unfold Fit; omega) n n1 hn2
  obtain ⟨b, ⟨K2, eb⟩, vb⟩ := Set_ev l2 (by unfold Fit; omega) n n1 hn2
  have fa := fit_le (vld_fit va)
  have fb := fit_le (vld_fit vb)
  obtain ⟨k1, h1⟩ := Union_ev n n1 hn2 a b fa fb
  obtain ⟨k2, h2⟩ := Intersect_ev n n1 hn2 a b fa fb
  obtain ⟨k3, h3⟩ := Complement_ev n n1 hn2 a fa
  obtain ⟨k4, h4⟩ := Shift_ev n n1 hn2 a fa 0
  obtain ⟨k5, h5⟩ := Sum_ev n n1 hn2 a b fa fb
  rw [if_pos ⟨va, vb⟩] at h1 h2 h5
  rw [if_pos va] at h3 h4
  have hl : ∀ p : Int → Bool, (can n p).length ≤ 7200 := fun p => vld_fit (can_vld p n1 hn2)
  exact keeps w a0 A1 A2 c1 c2 l1 l2 n (K1 + K2 + k1 + k2 + k3 + k4 + k5) a b hr1 hc1 hr2 hc2 hn (ea _ (by omega)) (eb _ (by omega)) (vld_fit va) (vld_fit vb) _ _ _ _ _ _ _ _ _ _ (h1 _ (by omega)) (h2 _ (by omega)) (h3 _ (by omega)) (h4 _ (by omega)) (h5 _ (by omega)) (hl _) (hl _) (hl _) (hl _) (hl _)
end Go.Proofs.Ytdnileakboefgaa.Pure
