/- The contract of Least. -/
import Derived.Test.YtcdldldknfpkjaaLHwC1
import Derived.Test.YtcdldldknfpkjaaLHwP1
namespace Go.Proofs.Ytcdldldknfpkjaa.PHw
open Go.RowKit Go.Proofs.YtcdldldknfpkjaaW.PrintWords Go.Proofs.YtcdldldknfpkjaaW.PrintLast Go.Proofs.YtcdldldknfpkjaaW.PrintMore
set_option linter.unusedVariables false
set_option maxRecDepth 100000
/-- What Least answers. -/
def lst (a b : List S41) : Int × Bool := if ovld a = true ∧ ovld b = true then (cm a b).foldl lstep (0, false) else (0, false)
theorem NF_new (w : World) (n : Int) (f : Bool) : NF ((w.alloc (.cells #[.int .i64 n] 3)).alloc (.cells #[.bool f] 4)) w.heap.size (w.heap.size + 1) (n, f) := by
  constructor
  · rw [Below.heap_alloc _ _ _ (by simp)]; exact heap_alloc_new w _
  · have := heap_alloc_new (w.alloc (.cells #[.int .i64 n] 3)) (.cells #[.bool f] 4)
    simpa using this
theorem Least_c (w : World) (A1 A2 : Option Addr) (c1 c2 : Nat) (a b : List S41) (Va : VA w (.slice A1 a.length c1) a) (Vb : VA w (.slice A2 b.length c2) b) (fa : Fit a) (fb : Fit b) :
    Calls Try.prog 13 #[.slice A1 a.length c1, .slice A2 b.length c2] w fun e w' => e = .returned (.tuple #[.int .i64 (lst a b).1, .bool (lst a b).2]) ∧ Below w.heap.size w w' := by
  have HVA := Aside0.mk Va
  have HVB := Aside0.mk Vb
  have HFA := Aside0.mk fa
  have HFB := Aside0.mk fb
  clear Va Vb fa fb
  cases ha : ovld a with
  | false =>
    have HL : lst a b = (0, false) := by unfold lst; rw [if_neg (by simp [ha])]
    rw [HL]
    have HHA := Aside0.mk ha
    clear ha HL
    go_enter Try.func13, Try.ntmps13
    go_wp2_with fail
    refine (OValid_c _ A1 c1 a (VA_C HVA.out) (VA_le HVA.out) HFA.out).mono ?_
    rw [HHA.out]
    rintro _ w1 ⟨rfl, hb⟩
    have HB := Aside0.mk hb
    clear hb
    go_wp2_with fail
    go_ret2
    exact ⟨rfl, HB.out⟩
  | true =>
    have HHA := Aside0.mk ha
    clear ha
    cases hb0 : ovld b with
    | false =>
      have HL : lst a b = (0, false) := by unfold lst; rw [if_neg (by simp [hb0])]
      rw [HL]
      have HHB := Aside0.mk hb0
      clear hb0 HL
      go_enter Try.func13, Try.ntmps13
      go_wp2_with fail
      refine (OValid_c _ A1 c1 a (VA_C HVA.out) (VA_le HVA.out) HFA.out).mono ?_
      rw [HHA.out]
      rintro _ w1 ⟨rfl, hb⟩
      have HB := Aside0.mk hb
      have HVB1 := Aside0.mk (VA_below HVB.out hb)
      clear hb
      go_wp2_with fail
      refine (OValid_c _ A2 c2 b (VA_C HVB1.out) (VA_le HVB1.out) HFB.out).mono ?_
      rw [HHB.out]
      rintro _ w2 ⟨rfl, hb⟩
      have HB2 := Aside0.mk (below_step HB.out hb)
      clear hb
      go_wp2_with fail
      go_ret2
      exact ⟨rfl, HB2.out⟩
    | true =>
      have HL : lst a b = (cm a b).foldl lstep (0, false) := by unfold lst; rw [if_pos ⟨HHA.out, hb0⟩]
      rw [HL]
      have HHB := Aside0.mk hb0
      clear hb0 HL
      generalize hR : (cm a b).foldl lstep (0, false) = R
      have HRR := Aside0.mk hR
      clear hR
      go_enter Try.func13, Try.ntmps13
      go_wp2_with fail
      refine (OValid_c _ A1 c1 a (VA_C HVA.out) (VA_le HVA.out) HFA.out).mono ?_
      rw [HHA.out]
      rintro _ w1 ⟨rfl, hb⟩
      have HB := Aside0.mk hb
      have HVA1 := Aside0.mk (VA_below HVA.out hb)
      have HVB1 := Aside0.mk (VA_below HVB.out hb)
      clear hb
      go_wp2_with fail
      refine (OValid_c _ A2 c2 b (VA_C HVB1.out) (VA_le HVB1.out) HFB.out).mono ?_
      rw [HHB.out]
      rintro _ w2 ⟨rfl, hb⟩
      have HB2 := Aside0.mk (below_step HB.out hb)
      have HVA2 := Aside0.mk (VA_below HVA1.out hb)
      have HVB2 := Aside0.mk (VA_below HVB1.out hb)
      clear hb
      go_wp2_with fail
      refine (common_least w2 _ A1 A2 c1 c2 a b (VA_C HVA2.out) (VA_C HVB2.out) (ovld_small HHA.out) (ovld_small HHB.out) w2.heap.size (w2.heap.size + 1) (by omega) (Nat.le_refl _) (by omega) (0, false) (box2_below (Below.refl _ _) (Nat.le_refl _) _ _) (NF_new w2 0 false)).mono ?_
      rintro _ w3 ⟨rfl, hnf, hb⟩
      rw [HRR.out] at hnf
      have HB3 := Aside0.mk (below_step HB2.out hb)
      have c1' := cell_of_one hnf.1
      have c2' := cell_of_one hnf.2
      clear hb hnf HVA HVB HVA1 HVB1 HVA2 HVB2 HB HB2
      go_wp2_with fail
      go_quiet (fail)
      go_wp2_with fail
      go_ret2
      exact ⟨rfl, pw_below_drewN HB3.out _⟩
end Go.Proofs.Ytcdldldknfpkjaa.PHw
