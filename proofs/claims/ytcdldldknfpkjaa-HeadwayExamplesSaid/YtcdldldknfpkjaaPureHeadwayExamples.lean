/- Checks the example of chapter 9. -/
import Derived.Test.YtcdldldknfpkjaaLHwM2
namespace Go.Proofs.Ytcdldldknfpkjaa.Pure
open Go.RowKit Go.Proofs.Ytcdldldknfpkjaa.PHw Go.Proofs.YtcdldldknfpkjaaW.PrintWords Go.Proofs.YtcdldldknfpkjaaW.PrintLast Go.Proofs.YtcdldldknfpkjaaW.PrintMore
set_option linter.unusedVariables false
set_option maxRecDepth 100000
theorem VA_new (W : World) (x : S41) : VA (W.alloc (.cells #[.int .i64 x.f0, .int .i64 x.f1, .int .i64 x.f2] 41)) (.slice (some ⟨W.heap.size, 0, none⟩) ([x] : List S41).length 1) [x] := by
  refine VA_of ⟨rfl, by simp, fun _ => ⟨_, rfl, fun j p hj => ?_⟩⟩ (Nat.le_refl _)
  match j, hj with
  | 0, hj =>
    simp only [List.getElem?_cons_zero, Option.some.injEq] at hj
    subst hj
    refine ⟨[.int .i64 x.f0, .int .i64 x.f1, .int .i64 x.f2], rfl, k41_mk _ _, fun i u hu => ?_⟩
    match i, hu with
    | 0, hu => simp only [List.getElem?_cons_zero, Option.some.injEq] at hu; subst hu; exact World.cell?_alloc_at _ _ _ _ rfl
    | 1, hu => simp only [List.getElem?_cons_succ, List.getElem?_cons_zero, Option.some.injEq] at hu; subst hu; exact World.cell?_alloc_at _ _ _ _ rfl
    | 2, hu => simp only [List.getElem?_cons_succ, List.getElem?_cons_zero, Option.some.injEq] at hu; subst hu; exact World.cell?_alloc_at _ _ _ _ rfl
    | i + 3, hu => simp at hu
  | j + 1, hj => simp at hj
theorem cm_ex : cm [⟨1, 0, 5⟩] [⟨1, -2, 3⟩] = [((⟨1, 0, 5⟩ : S41), (⟨1, -2, 3⟩ : S41))] := by
  rw [cm_cons, if_neg (by show ¬ (1 : Int) < 1; omega), if_neg (by show ¬ (1 : Int) > 1; omega), cm_nil]
theorem lst_ex : lst [⟨1, 0, 5⟩] [⟨1, -2, 3⟩] = (7, true) := by
  unfold lst
  rw [if_pos (by exact ⟨rfl, rfl⟩), cm_ex]; rfl
theorem frb_ex : frb 20 [⟨1, 0, 5⟩] [⟨1, -2, 3⟩] = ([⟨0, 7⟩, ⟨18, 20⟩], 0) := by
  unfold frb fbp
  rw [if_pos (by exact rfl), if_pos (by exact ⟨rfl, rfl⟩), cm_ex]; rfl
theorem win_ex : win 20 [⟨1, 0, 5⟩] [⟨1, -2, 3⟩] = ([⟨27, 37⟩], 0) := by
  unfold win fbp
  rw [if_pos (by exact rfl), if_pos (by exact ⟨rfl, rfl⟩), cm_ex]
  rw [if_neg (by decide)]
  rfl
theorem C_two (w : World) (x y : S47) : Kd.C k47 (w.alloc (.cells #[.int .i64 x.f0, .int .i64 x.f1, .int .i64 y.f0, .int .i64 y.f1] 47)) (some ⟨w.heap.size, 0, none⟩) ([x, y] : List S47).length [x, y] := by
  refine ⟨rfl, by simp, fun _ => ⟨_, rfl, fun j p hj => ?_⟩⟩
  match j, hj with
  | 0, hj =>
    simp only [List.getElem?_cons_zero, Option.some.injEq] at hj
    subst hj
    refine ⟨[.int .i64 x.f0, .int .i64 x.f1], rfl, k47_mk _ _, fun i u hu => ?_⟩
    match i, hu with
    | 0, hu => simp only [List.getElem?_cons_zero, Option.some.injEq] at hu; subst hu; exact World.cell?_alloc_at _ _ _ _ rfl
    | 1, hu => simp only [List.getElem?_cons_succ, List.getElem?_cons_zero, Option.some.injEq] at hu; subst hu; exact World.cell?_alloc_at _ _ _ _ rfl
    | i + 2, hu => simp at hu
  | 1, hj =>
    simp only [List.getElem?_cons_succ, List.getElem?_cons_zero, Option.some.injEq] at hj
    subst hj
    refine ⟨[.int .i64 y.f0, .int .i64 y.f1], rfl, k47_mk _ _, fun i u hu => ?_⟩
    match i, hu with
    | 0, hu => simp only [List.getElem?_cons_zero, Option.some.injEq] at hu; subst hu; exact World.cell?_alloc_at _ _ _ _ rfl
    | 1, hu => simp only [List.getElem?_cons_succ, List.getElem?_cons_zero, Option.some.injEq] at hu; subst hu; exact World.cell?_alloc_at _ _ _ _ rfl
    | i + 2, hu => simp at hu
  | j + 2, hj => simp at hj
theorem C_one (w : World) (x : S50) : Kd.C k50 (w.alloc (.cells #[.int .i64 x.f0, .int .i64 x.f1] 50)) (some ⟨w.heap.size, 0, none⟩) ([x] : List S50).length [x] := by
  refine ⟨rfl, by simp, fun _ => ⟨_, rfl, fun j p hj => ?_⟩⟩
  match j, hj with
  | 0, hj =>
    simp only [List.getElem?_cons_zero, Option.some.injEq] at hj
    subst hj
    refine ⟨[.int .i64 x.f0, .int .i64 x.f1], rfl, k50_mk _ _, fun i u hu => ?_⟩
    match i, hu with
    | 0, hu => simp only [List.getElem?_cons_zero, Option.some.injEq] at hu; subst hu; exact World.cell?_alloc_at _ _ _ _ rfl
    | 1, hu => simp only [List.getElem?_cons_succ, List.getElem?_cons_zero, Option.some.injEq] at hu; subst hu; exact World.cell?_alloc_at _ _ _ _ rfl
    | i + 2, hu => simp at hu
  | j + 1, hj => simp at hj
set_option maxHeartbeats 400000 in
theorem HeadwayExamples_walk (w : World) : Calls Try.prog 7 #[] w fun e w' => e = .returned (.bool true) ∧ Below w.heap.size w w' := by
  have B1 := (Below.refl w.heap.size w).alloc (Nat.le_refl _) (.cells #[.int .i64 1, .int .i64 0, .int .i64 5] 41)
  have B2 := B1.alloc (by simp) (.cells #[.int .i64 1, .int .i64 (-2), .int .i64 3] 41)
  have Va0 : VA (w.alloc (.cells #[.int .i64 1, .int .i64 0, .int .i64 5] 41)) (.slice (some ⟨w.heap.size, 0, none⟩) ([⟨1, 0, 5⟩] : List S41).length 1) [⟨1, 0, 5⟩] := VA_new w ⟨1, 0, 5⟩
  have B3 : Below (w.alloc (.cells #[.int .i64 1, .int .i64 0, .int .i64 5] 41)).heap.size (w.alloc (.cells #[.int .i64 1, .int .i64 0, .int .i64 5] 41)) ((w.alloc (.cells #[.int .i64 1, .int .i64 0, .int .i64 5] 41)).alloc (.cells #[.int .i64 1, .int .i64 (-2), .int .i64 3] 41)) := (Below.refl _ _).alloc (Nat.le_refl _) _
  have Va := Aside0.mk (VA_below Va0 B3)
  have Vb0 : VA ((w.alloc (.cells #[.int .i64 1, .int .i64 0, .int .i64 5] 41)).alloc (.cells #[.int .i64 1, .int .i64 (-2), .int .i64 3] 41)) (.slice (some ⟨w.heap.size + 1, 0, none⟩) ([⟨1, -2, 3⟩] : List S41).length 1) [⟨1, -2, 3⟩] := by
    rw [show w.heap.size + 1 = (w.alloc (.cells #[.int .i64 1, .int .i64 0, .int .i64 5] 41)).heap.size by simp]
    exact VA_new _ ⟨1, -2, 3⟩
  have Vb := Aside0.mk Vb0
  have HB := Aside0.mk B2
  clear B1 B2 B3 Va0 Vb0
  go_enter Try.func7, Try.ntmps7
  go_wp2_with fail
  refine (Least_c _ _ _ 1 1 [⟨1, 0, 5⟩] [⟨1, -2, 3⟩] Va.out Vb.out (fit_le (by simp)) (fit_le (by simp))).mono ?_
  rw [lst_ex]
  rintro _ w1 ⟨rfl, hb⟩
  replace Va := Aside0.mk (VA_below Va.out hb)
  replace Vb := Aside0.mk (VA_below Vb.out hb)
  replace HB := Aside0.mk (below_step HB.out hb)
  clear hb
  go_wp2_with fail
  refine (Forbidden_c _ _ _ 1 1 [⟨1, 0, 5⟩] [⟨1, -2, 3⟩] 20 Va.out (fit_le (by simp)) Vb.out (fit_le (by simp))).mono ?_
  rw [frb_ex]
  rintro _ w2 ⟨⟨A, c, rfl, hv⟩, hb⟩
  have Vf := Aside0.mk hv
  replace Va := Aside0.mk (VA_below Va.out hb)
  replace Vb := Aside0.mk (VA_below Vb.out hb)
  replace HB := Aside0.mk (below_step HB.out hb)
  clear hb hv
  go_wp2_with fail
  refine (Windows_c _ _ _ 1 1 [⟨1, 0, 5⟩] [⟨1, -2, 3⟩] 20 Va.out (fit_le (by simp)) Vb.out (fit_le (by simp))).mono ?_
  rw [win_ex]
  rintro _ w3 ⟨⟨Aw, cw, rfl, hv⟩, hb⟩
  have Vw := Aside0.mk hv
  replace Vf := Aside0.mk (VS_below Vf.out hb)
  replace HB := Aside0.mk (below_step HB.out hb)
  clear hb hv Va Vb
  go_wp2_with fail
  have BA : Below w3.heap.size w3 (w3.alloc (.cells #[.int .i64 0, .int .i64 7, .int .i64 18, .int .i64 20] 47)) := (Below.refl _ _).alloc (Nat.le_refl _) _
  have C2 : Kd.C k47 (w3.alloc (.cells #[.int .i64 0, .int .i64 7, .int .i64 18, .int .i64 20] 47)) (some ⟨w3.heap.size, 0, none⟩) ([⟨0, 7⟩, ⟨18, 20⟩] : List S47).length [⟨0, 7⟩, ⟨18, 20⟩] := C_two w3 ⟨0, 7⟩ ⟨18, 20⟩
  have Vf2 := VS_below Vf.out BA
  refine (api_Span.calls 5 A c [⟨0, 7⟩, ⟨18, 20⟩] (some ⟨w3.heap.size, 0, none⟩) 2 [⟨0, 7⟩, ⟨18, 20⟩] true _ (VS_C Vf2) (VS_le Vf2) C2 (by simp) (by kernel_rfl)).mono ?_
  rintro _ w4 ⟨rfl, hd⟩
  have Vw2 := Aside0.mk (VW_below (VW_below Vw.out BA) hd.below)
  replace HB := Aside0.mk (below_step (below_step HB.out BA) hd.below)
  clear hd BA C2 Vf2 Vf Vw
  go_wp2_with fail
  have BA : Below w4.heap.size w4 (w4.alloc (.cells #[.int .i64 27, .int .i64 37] 50)) := (Below.refl _ _).alloc (Nat.le_refl _) _
  have C2 : Kd.C k50 (w4.alloc (.cells #[.int .i64 27, .int .i64 37] 50)) (some ⟨w4.heap.size, 0, none⟩) ([⟨27, 37⟩] : List S50).length [⟨27, 37⟩] := C_one w4 ⟨27, 37⟩
  have Vw3 := VW_below Vw2.out BA
  refine (api_Window.calls 5 Aw cw [⟨27, 37⟩] (some ⟨w4.heap.size, 0, none⟩) 1 [⟨27, 37⟩] true _ (VW_C Vw3) (VW_le Vw3) C2 (by simp) (by kernel_rfl)).mono ?_
  rintro _ w5 ⟨rfl, hd⟩
  replace HB := Aside0.mk (below_step (below_step HB.out BA) hd.below)
  clear hd BA C2 Vw2 Vw3
  go_wp2_with fail
  go_ret
  exact ⟨rfl, HB.out⟩
end Go.Proofs.Ytcdldldknfpkjaa.Pure
