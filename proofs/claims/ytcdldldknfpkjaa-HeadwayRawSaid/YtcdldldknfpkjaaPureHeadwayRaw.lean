/- All functions return the specified results for arbitrary arguments. -/
import Derived.Test.YtcdldldknfpkjaaLHwM2
namespace Go.Proofs.Ytcdldldknfpkjaa.Pure
open Go.RowKit Go.Proofs.Ytcdldldknfpkjaa.PHw Go.Proofs.YtcdldldknfpkjaaW.PrintWords Go.Proofs.YtcdldldknfpkjaaW.PrintLast Go.Proofs.YtcdldldknfpkjaaW.PrintMore
set_option linter.unusedVariables false
set_option maxRecDepth 100000
theorem HeadwayRaw_walk (w : World) (t : Int) (wt : (Lit.int .i64 t).wf = true) (A1 : Option Addr) (c1 : Nat) (a : List S41) (hr1 : Kd.C k41 w A1 a.length a) (hc1 : a.length ≤ c1) (fa : Fit a) (hw1 : ∀ u ∈ a, (Lit.int .i64 u.f0).wf = true ∧ (Lit.int .i64 u.f1).wf = true ∧ (Lit.int .i64 u.f2).wf = true)
    (A2 : Option Addr) (c2 : Nat) (b : List S41) (hr2 : Kd.C k41 w A2 b.length b) (hc2 : b.length ≤ c2) (fb : Fit b) (hw2 : ∀ u ∈ b, (Lit.int .i64 u.f0).wf = true ∧ (Lit.int .i64 u.f1).wf = true ∧ (Lit.int .i64 u.f2).wf = true) :
    Calls Try.prog 8 #[.int .i64 t, .slice A1 a.length c1, .slice A2 b.length c2] w fun e w' => e = .returned (.bool true) ∧ Below w.heap.size w w' := by
  have Va := Aside0.mk (VA_of hr1 hc1)
  have Vb := Aside0.mk (VA_of hr2 hc2)
  have FA := Aside0.mk fa
  have FB := Aside0.mk fb
  have HB := Aside0.mk (Below.refl w.heap.size w)
  clear hr1 hr2 fa fb hw1 hw2
  go_enter Try.func8, Try.ntmps8
  go_wp2_with fail
  refine (awake_c _).mono ?_
  rintro _ w1 ⟨rfl, hb⟩
  replace Va := Aside0.mk (VA_below Va.out hb)
  replace Vb := Aside0.mk (VA_below Vb.out hb)
  replace HB := Aside0.mk (below_step HB.out hb)
  clear hb
  go_wp2_with fail
  refine (agrees_c _ _ _ c1 c2 a b t Va.out FA.out Vb.out FB.out).mono ?_
  rintro _ w2 ⟨rfl, hb⟩
  replace HB := Aside0.mk (below_step HB.out hb)
  clear hb
  go_wp2_with fail
  go_ret
  exact ⟨rfl, HB.out⟩
end Go.Proofs.Ytcdldldknfpkjaa.Pure
