/- The contracts of Alone and of the statements' own look at Least and Alone. -/
import Derived.Test.YtcdldldknfpkjaaLHwC4
import Derived.Test.YtcdldldknfpkjaaLHwC5
namespace Go.Proofs.Ytcdldldknfpkjaa.PHw
open Go.RowKit Go.Proofs.YtcdldldknfpkjaaW.PrintWords Go.Proofs.YtcdldldknfpkjaaW.PrintLast Go.Proofs.YtcdldldknfpkjaaW.PrintMore
set_option linter.unusedVariables false
set_option maxRecDepth 100000
def aln (t : Int) (a : List S41) : Bool := ovld a && per t && !(a.any (longer t))
theorem Alone_c (w : World) (A : Option Addr) (c : Nat) (a : List S41) (t : Int) (Va : VA w (.slice A a.length c) a) (fa : Fit a) :
    Calls Try.prog 17 #[.int .i64 t, .slice A a.length c] w fun e w' => e = .returned (.bool (aln t a)) ∧ Below w.heap.size w w' := by
  have HVA := Aside0.mk Va
  have HFA := Aside0.mk fa
  have B0 : Below w.heap.size w (w.alloc (.cells #[.int .i64 t] 3)) := (Below.refl _ _).alloc (Nat.le_refl _) _
  have HVA1 := Aside0.mk (VA_below HVA.out B0)
  have HT := Aside0.mk (heap_alloc_new w (.cells #[.int .i64 t] 3))
  have HB0 := Aside0.mk B0
  clear Va fa B0
  cases ha : ovld a with
  | false =>
    have HL : aln t a = false := by unfold aln; rw [ha]; rfl
    rw [HL]
    have HHA := Aside0.mk ha
    clear ha HL
    go_enter Try.func17, Try.ntmps17
    go_wp2_with fail
    refine (OValid_c _ A c a (VA_C HVA1.out) (VA_le HVA1.out) HFA.out).mono ?_
    rw [HHA.out]
    rintro _ w1 ⟨rfl, hb⟩
    have HB := Aside0.mk (below_step HB0.out hb)
    clear hb
    go_wp2_with fail
    go_ret
    exact ⟨rfl, HB.out⟩
  | true =>
    have HHA := Aside0.mk ha
    by_cases h1 : 1 ≤ t
    · by_cases h2 : t ≤ 7200
      · have HL : aln t a = !(a.any (longer t)) := by unfold aln; rw [ha, (per_iff t).2 ⟨h1, h2⟩]; rfl
        rw [HL]
        clear ha HL
        generalize hR : a.any (longer t) = R
        have HRR := Aside0.mk hR
        clear hR
        go_enter Try.func17, Try.ntmps17
        go_wp2_with fail
        refine (OValid_c _ A c a (VA_C HVA1.out) (VA_le HVA1.out) HFA.out).mono ?_
        rw [HHA.out]
        rintro _ w1 ⟨rfl, hb⟩
        have HB := Aside0.mk (below_step HB0.out hb)
        have HVA2 := Aside0.mk (VA_below HVA1.out hb)
        have HT1 := Aside0.mk ((hb.block w.heap.size (by simp)).trans HT.out)
        have k1 := cell_of_one HT1.out
        clear hb
        go_wp2_with fail
        refine (Contains_c w1 A c a (VA_C HVA2.out) (ovld_small HHA.out) w.heap.size t k1).mono ?_
        rw [HRR.out]
        rintro _ w2 ⟨rfl, hb⟩
        have HB2 := Aside0.mk (below_step HB.out hb)
        clear hb k1 HVA HVA1 HVA2 HT HT1 HB HB0
        go_wp2_with fail
        go_ret
        exact ⟨rfl, HB2.out⟩
      · have HL : aln t a = false := by
          unfold aln
          have hp : per t = false := by rw [Bool.eq_false_iff]; intro hc; rw [per_iff] at hc; omega
          rw [hp]; simp
        rw [HL]
        clear ha HL
        go_enter Try.func17, Try.ntmps17
        go_wp2_with fail
        refine (OValid_c _ A c a (VA_C HVA1.out) (VA_le HVA1.out) HFA.out).mono ?_
        rw [HHA.out]
        rintro _ w1 ⟨rfl, hb⟩
        have HB := Aside0.mk (below_step HB0.out hb)
        have HT1 := Aside0.mk ((hb.block w.heap.size (by simp)).trans HT.out)
        have k1 := cell_of_one HT1.out
        clear hb
        go_wp2_with fail
        go_ret
        exact ⟨rfl, HB.out⟩
    · have HL : aln t a = false := by
        unfold aln
        have hp : per t = false := by rw [Bool.eq_false_iff]; intro hc; rw [per_iff] at hc; omega
        rw [hp]; simp
      rw [HL]
      clear ha HL
      go_enter Try.func17, Try.ntmps17
      go_wp2_with fail
      refine (OValid_c _ A c a (VA_C HVA1.out) (VA_le HVA1.out) HFA.out).mono ?_
      rw [HHA.out]
      rintro _ w1 ⟨rfl, hb⟩
      have HB := Aside0.mk (below_step HB0.out hb)
      have HT1 := Aside0.mk ((hb.block w.heap.size (by simp)).trans HT.out)
      have k1 := cell_of_one HT1.out
      clear hb
      go_wp2_with fail
      go_ret
      exact ⟨rfl, HB.out⟩
theorem lst_one : lst [⟨0, 0, 4⟩] [⟨0, 0, 4⟩] = (4, true) := by
  unfold lst
  rw [if_pos (by exact ⟨rfl, rfl⟩), cm_cons, if_neg (by show ¬ (0 : Int) < 0; omega), if_neg (by show ¬ (0 : Int) > 0; omega), cm_nil]; rfl
theorem awake_c (w : World) : Calls Try.prog 14 #[] w fun e w' => e = .returned (.bool true) ∧ Below w.heap.size w w' := by
  have one : ∀ W : World, VA (W.alloc (.cells #[.int .i64 0, .int .i64 0, .int .i64 4] 41)) (.slice (some ⟨W.heap.size, 0, none⟩) ([⟨0, 0, 4⟩] : List S41).length 1) [⟨0, 0, 4⟩] := by
    intro W
    refine VA_of ⟨rfl, by decide, fun _ => ⟨_, rfl, fun j p hj => ?_⟩⟩ (Nat.le_refl _)
    match j, hj with
    | 0, hj =>
      simp only [List.getElem?_cons_zero, Option.some.injEq] at hj
      subst hj
      refine ⟨[.int .i64 0, .int .i64 0, .int .i64 4], rfl, k41_mk _ _, fun i u hu => ?_⟩
      match i, hu with
      | 0, hu => simp only [List.getElem?_cons_zero, Option.some.injEq] at hu; subst hu; exact World.cell?_alloc_at _ _ _ _ rfl
      | 1, hu => simp only [List.getElem?_cons_succ, List.getElem?_cons_zero, Option.some.injEq] at hu; subst hu; exact World.cell?_alloc_at _ _ _ _ rfl
      | 2, hu => simp only [List.getElem?_cons_succ, List.getElem?_cons_zero, Option.some.injEq] at hu; subst hu; exact World.cell?_alloc_at _ _ _ _ rfl
      | i + 3, hu => simp at hu
    | j + 1, hj => simp at hj
  have HV := Aside0.mk (one w)
  have HB0 := Aside0.mk ((Below.refl w.heap.size w).alloc (Nat.le_refl _) (.cells #[.int .i64 0, .int .i64 0, .int .i64 4] 41))
  clear one
  go_enter Try.func14, Try.ntmps14
  go_wp2_with fail
  refine (Least_c _ _ _ 1 1 [⟨0, 0, 4⟩] [⟨0, 0, 4⟩] HV.out HV.out (fit_le (by simp)) (fit_le (by simp))).mono ?_
  rw [lst_one]
  rintro _ w1 ⟨rfl, hb⟩
  have HB1 := Aside0.mk (below_step HB0.out hb)
  have HV1 := Aside0.mk (VA_below HV.out hb)
  clear hb HV HB0
  go_wp2_with fail
  refine (Alone_c _ _ 1 [⟨0, 0, 4⟩] 4 HV1.out (fit_le (by simp))).mono ?_
  rw [show aln 4 [⟨0, 0, 4⟩] = true by rfl]
  rintro _ w2 ⟨rfl, hb⟩
  have HB2 := Aside0.mk (below_step HB1.out hb)
  have HV2 := Aside0.mk (VA_below HV1.out hb)
  clear hb HV1 HB1
  go_wp2_with fail
  refine (Alone_c _ _ 1 [⟨0, 0, 4⟩] 3 HV2.out (fit_le (by simp))).mono ?_
  rw [show aln 3 [⟨0, 0, 4⟩] = false by rfl]
  rintro _ w3 ⟨rfl, hb⟩
  have HB3 := Aside0.mk (below_step HB2.out hb)
  clear hb HV2 HB2
  go_wp2_with fail
  go_ret
  exact ⟨rfl, HB3.out⟩
end Go.Proofs.Ytcdldldknfpkjaa.PHw
