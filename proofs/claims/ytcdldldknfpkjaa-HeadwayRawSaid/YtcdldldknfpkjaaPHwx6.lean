-- (printed by the kit's print.py, called by printmany.sh)
import Derived.Test.YtcdldldknfpkjaaPHwx0
import Derived.Test.YtcdldldknfpkjaaPHwx4
import Derived.Test.YtcdldldknfpkjaaPHwx5
namespace Go.Proofs.Ytcdldldknfpkjaa.PHw
open Go.RowKit Go.Proofs.YtcdldldknfpkjaaW.PrintWords Go.Proofs.YtcdldldknfpkjaaW.PrintLast Go.Proofs.YtcdldldknfpkjaaW.PrintMore
attribute [local go_sem] max2_int min2_int max_two min_two max_three min_three max_four min_four   -- for this text's walks alone
set_option linter.unusedVariables false
set_option linter.unusedSimpArgs false

/-! ### railplanref9_forbidden: function 43 -/
mutual
def railplanref9_forbidden.j0 : Nat → Int → List (S41) → List (S41) → Bool → Option (List Bool × Int)
  | 0, _, _, _, _ => none
  | k + 1, x0, x1, x2, x24 => if x24 = true then (some (([] : List Bool), 1)) else (if 0 ≤ x0 then (if (x0 : Int).toNat ≤ 281474976710656 then (railplanref9_forbidden.l0 k x0 x1 x2 (List.replicate (x0 : Int).toNat false) 0) else (none)) else (none))
def railplanref9_forbidden.l0 : Nat → Int → List (S41) → List (S41) → List Bool → Int → Option (List Bool × Int)
  | 0, _, _, _, _, _ => none
  | k + 1, x0, x1, x2, x8, x9 => if x9 < (x1.length : Int) then (if 0 ≤ x9 then ((railplanref9_find.f k x2 ((rd_T41 x1 x9).f0)).bind fun bt154 => (if bt154.2.2.2 = true then (railplanref9_forbidden.l1 k x0 x1 x2 x8 x9 (wrap64 ((wrap64 ((wrap64 ((wrap64 (((rd_T41 x1 x9).f2) - ((rd_T41 x1 x9).f1))) + bt154.2.2.1)) - bt154.2.1)) - 1)) 0 bt154.1 bt154.2.1 bt154.2.2.1) else (railplanref9_forbidden.l0 k x0 x1 x2 x8 (wrap64 (x9 + 1))))) else (none)) else (some (x8, 0))
def railplanref9_forbidden.l1 : Nat → Int → List (S41) → List (S41) → List Bool → Int → Int → Int → Int → Int → Int → Option (List Bool × Int)
  | 0, _, _, _, _, _, _, _, _, _, _ => none
  | k + 1, x0, x1, x2, x8, x9, x12, x13, x159000, x159001, x159002 => if x13 < x12 then (if x13 < x0 then (if 0 ≤ x9 then (if x9 < (x1.length : Int) then ((railplanref1_Mod.f (wrap64 ((wrap64 ((wrap64 (((rd_T41 x1 x9).f1) - x159002)) + 1)) + x13)) x0).bind fun t162 => (if 0 ≤ t162 then (if t162 < (x8.length : Int) then (railplanref9_forbidden.l1 k x0 x1 x2 (x8.set (t162 : Int).toNat true) x9 x12 (wrap64 (x13 + 1)) x159000 x159001 x159002) else (none)) else (none))) else (none)) else (none)) else (railplanref9_forbidden.l0 k x0 x1 x2 x8 (wrap64 (x9 + 1)))) else (railplanref9_forbidden.l0 k x0 x1 x2 x8 (wrap64 (x9 + 1)))
end
def railplanref9_forbidden.f (k : Nat) (a0 : Int) (l1 : List (S41)) (l2 : List (S41)) : Option (List Bool × Int) := (railplanref9_in.f a0 1 7200).bind fun t147 => (if t147 = true then ((railplanref9_ValidList.f k l1).bind fun t148 => (if t148 = true then ((railplanref9_ValidList.f k l2).bind fun t149 => (railplanref9_forbidden.j0 k a0 l1 l2 (!t149))) else (railplanref9_forbidden.j0 k a0 l1 l2 true))) else (some (([] : List Bool), 4)))
theorem railplanref9_forbidden.mono_l : ∀ k, (∀ y0 y1 y2 y3, LeO (railplanref9_forbidden.j0 k y0 y1 y2 y3) (railplanref9_forbidden.j0 (k + 1) y0 y1 y2 y3)) ∧ (∀ y0 y1 y2 y3 y4, LeO (railplanref9_forbidden.l0 k y0 y1 y2 y3 y4) (railplanref9_forbidden.l0 (k + 1) y0 y1 y2 y3 y4)) ∧ (∀ y0 y1 y2 y3 y4 y5 y6 y7 y8 y9, LeO (railplanref9_forbidden.l1 k y0 y1 y2 y3 y4 y5 y6 y7 y8 y9) (railplanref9_forbidden.l1 (k + 1) y0 y1 y2 y3 y4 y5 y6 y7 y8 y9))
  | 0 => ⟨fun _ _ _ _ r h => by simp [railplanref9_forbidden.j0] at h, fun _ _ _ _ _ r h => by simp [railplanref9_forbidden.l0] at h, fun _ _ _ _ _ _ _ _ _ _ r h => by simp [railplanref9_forbidden.l1] at h⟩
  | k + 1 => by
    obtain ⟨ih0, ih1, ih2⟩ := railplanref9_forbidden.mono_l k
    refine ⟨?_, ?_, ?_⟩
    · intro y0 y1 y2 y3
      unfold railplanref9_forbidden.j0
      repeat' first
      | (with_reducible exact ih0 _ _ _ _)
      | (with_reducible exact ih1 _ _ _ _ _)
      | (with_reducible exact ih2 _ _ _ _ _ _ _ _ _ _)
      | (with_reducible exact railplanref9_ValidList.mono _ _)
      | (with_reducible exact railplanref9_find.mono _ _ _)
      | (with_reducible exact LeO.refl _)
      | (with_reducible exact LeO.none _)
      | (with_reducible refine LeO.ite ?_ ?_)
      | (with_reducible refine LeO.bind ?_ (fun _ => ?_))
      | exact ih0 _ _ _ _
      | exact ih1 _ _ _ _ _
      | exact ih2 _ _ _ _ _ _ _ _ _ _
      | exact railplanref9_ValidList.mono _ _
      | exact railplanref9_find.mono _ _ _
      | exact LeO.none _
      | refine LeO.ite ?_ ?_
      | refine LeO.bind ?_ (fun _ => ?_)
    · intro y0 y1 y2 y3 y4
      unfold railplanref9_forbidden.l0
      repeat' first
      | (with_reducible exact ih0 _ _ _ _)
      | (with_reducible exact ih1 _ _ _ _ _)
      | (with_reducible exact ih2 _ _ _ _ _ _ _ _ _ _)
      | (with_reducible exact railplanref9_ValidList.mono _ _)
      | (with_reducible exact railplanref9_find.mono _ _ _)
      | (with_reducible exact LeO.refl _)
      | (with_reducible exact LeO.none _)
      | (with_reducible refine LeO.ite ?_ ?_)
      | (with_reducible refine LeO.bind ?_ (fun _ => ?_))
      | exact ih0 _ _ _ _
      | exact ih1 _ _ _ _ _
      | exact ih2 _ _ _ _ _ _ _ _ _ _
      | exact railplanref9_ValidList.mono _ _
      | exact railplanref9_find.mono _ _ _
      | exact LeO.none _
      | refine LeO.ite ?_ ?_
      | refine LeO.bind ?_ (fun _ => ?_)
    · intro y0 y1 y2 y3 y4 y5 y6 y7 y8 y9
      unfold railplanref9_forbidden.l1
      repeat' first
      | (with_reducible exact ih0 _ _ _ _)
      | (with_reducible exact ih1 _ _ _ _ _)
      | (with_reducible exact ih2 _ _ _ _ _ _ _ _ _ _)
      | (with_reducible exact railplanref9_ValidList.mono _ _)
      | (with_reducible exact railplanref9_find.mono _ _ _)
      | (with_reducible exact LeO.refl _)
      | (with_reducible exact LeO.none _)
      | (with_reducible refine LeO.ite ?_ ?_)
      | (with_reducible refine LeO.bind ?_ (fun _ => ?_))
      | exact ih0 _ _ _ _
      | exact ih1 _ _ _ _ _
      | exact ih2 _ _ _ _ _ _ _ _ _ _
      | exact railplanref9_ValidList.mono _ _
      | exact railplanref9_find.mono _ _ _
      | exact LeO.none _
      | refine LeO.ite ?_ ?_
      | refine LeO.bind ?_ (fun _ => ?_)
theorem railplanref9_forbidden.mono : ∀ a0 a1 a2 k, LeO (railplanref9_forbidden.f k a0 a1 a2) (railplanref9_forbidden.f (k + 1) a0 a1 a2) := by
  intro a0 a1 a2 k
  obtain ⟨ih0, ih1, ih2⟩ := railplanref9_forbidden.mono_l k
  unfold railplanref9_forbidden.f
  repeat' first
      | (with_reducible exact ih0 _ _ _ _)
      | (with_reducible exact ih1 _ _ _ _ _)
      | (with_reducible exact ih2 _ _ _ _ _ _ _ _ _ _)
      | (with_reducible exact railplanref9_ValidList.mono _ _)
      | (with_reducible exact railplanref9_find.mono _ _ _)
      | (with_reducible exact LeO.refl _)
      | (with_reducible exact LeO.none _)
      | (with_reducible refine LeO.ite ?_ ?_)
      | (with_reducible refine LeO.bind ?_ (fun _ => ?_))
      | exact ih0 _ _ _ _
      | exact ih1 _ _ _ _ _
      | exact ih2 _ _ _ _ _ _ _ _ _ _
      | exact railplanref9_ValidList.mono _ _
      | exact railplanref9_find.mono _ _ _
      | exact LeO.none _
      | refine LeO.ite ?_ ?_
      | refine LeO.bind ?_ (fun _ => ?_)
def railplanref9_forbidden.T11 : Bool × List (List Nat × List Nat) := (true, [([], []), ([], []), ([0, 1], [0, 1]), ([2], [2]), ([3], [3]), ([], []), ([], []), ([5, 6], [5, 6]), ([7], [7]), ([8], [8]), ([4, 9], [4, 9]), ([], []), ([11], [11]), ([10, 12], [10, 12]), ([], []), ([14], [14]), ([13, 15], [13, 15]), ([16], [16]), ([17, 0, 1, 2, 3, 4, 5, 6, 7, 8, 9, 10, 11, 12, 13, 14, 15, 16, 17], [17])])
def railplanref9_forbidden.B11 : List Nat := [0, 0, 3, 7, 15, 0, 0, 96, 224, 480, 1023, 0, 2048, 8191, 0, 16384, 65535, 131071, 262143]
theorem railplanref9_forbidden.tab11 : rtab .any (opsOf Try.f43 11) = railplanref9_forbidden.T11 := by kernel_rfl
theorem railplanref9_forbidden.bits11 : waitsOk railplanref9_forbidden.T11.2 railplanref9_forbidden.B11 = true := by kernel_rfl
def railplanref9_forbidden.T15 : Bool × List (List Nat × List Nat) := (true, [([], []), ([], []), ([], []), ([1, 2], [1, 2]), ([3], [3]), ([4], [4]), ([], []), ([6], [6]), ([5, 7], [5, 7]), ([8], [8]), ([], []), ([9, 10], [9, 10]), ([], []), ([11, 12], [11, 12]), ([0, 13, 0, 1, 2, 3, 4, 5, 6, 7, 8, 9, 10, 11, 12, 13], [0, 13]), ([14, 13, 0, 1, 2, 3, 4, 5, 6, 7, 8, 9, 10, 11, 12, 13], [14])])
def railplanref9_forbidden.B15 : List Nat := [0, 0, 0, 6, 14, 30, 0, 64, 254, 510, 0, 2046, 0, 8190, 16383, 32767]
theorem railplanref9_forbidden.tab15 : rtab .any (opsOf Try.f43 15) = railplanref9_forbidden.T15 := by kernel_rfl
theorem railplanref9_forbidden.bits15 : waitsOk railplanref9_forbidden.T15.2 railplanref9_forbidden.B15 = true := by kernel_rfl
set_option maxHeartbeats 8000000 in
set_option maxRecDepth 100000 in
theorem railplanref9_forbidden.calls (k : Nat) (a0 : Int) (A1 : Option Addr) (c1 : Nat) (l1 : List (S41)) (A2 : Option Addr) (c2 : Nat) (l2 : List (S41)) (r1 : List Bool) (r2 : Int) (w : World) (hr1 : Kd.C k41 w A1 l1.length l1) (hc1 : l1.length ≤ c1) (hr2 : Kd.C k41 w A2 l2.length l2) (hc2 : l2.length ≤ c2) (h : railplanref9_forbidden.f k a0 l1 l2 = some (r1, r2)) :
    Calls Try.prog 43 #[.int .i64 a0, .slice A1 l1.length c1, .slice A2 l2.length c2] w fun e w' => ∃ v0_ : Value, e = .returned (.tuple #[v0_, .int .i64 r2]) ∧ Kd.R Kd.bool 4 w' w.heap.size (fun _ => True) v0_ r1 ∧ Below w.heap.size w w' := by
  have hu41 := Try.underlying41
  have HR1 := Aside0.mk hr1
  have HC1 := Aside0.mk hc1
  clear hr1 hc1
  have HR2 := Aside0.mk hr2
  have HC2 := Aside0.mk hc2
  clear hr2 hc2
  have HB := Aside0.mk (Below.refl w.heap.size w)
  have H : ((railplanref9_in.f a0 1 7200).bind fun t147 => (if t147 = true then ((railplanref9_ValidList.f k l1).bind fun t148 => (if t148 = true then ((railplanref9_ValidList.f k l2).bind fun t149 => (railplanref9_forbidden.j0 k a0 l1 l2 (!t149))) else (railplanref9_forbidden.j0 k a0 l1 l2 true))) else (some (([] : List Bool), 4)))) = some (r1, r2) := h
  clear h
  replace H := Option.bind_eq_some_iff.mp H
  obtain ⟨t147, A40, H⟩ := H
  replace H : (if t147 = true then ((railplanref9_ValidList.f k l1).bind fun t148 => (if t148 = true then ((railplanref9_ValidList.f k l2).bind fun t149 => (railplanref9_forbidden.j0 k a0 l1 l2 (!t149))) else (railplanref9_forbidden.j0 k a0 l1 l2 true))) else (some (([] : List Bool), 4))) = some (r1, r2) := H
  have A4 := Aside0.mk A40
  clear A40
  by_cases c5 : t147 = true
  · subst c5
    have H1 : ((railplanref9_ValidList.f k l1).bind fun t148 => (if t148 = true then ((railplanref9_ValidList.f k l2).bind fun t149 => (railplanref9_forbidden.j0 k a0 l1 l2 (!t149))) else (railplanref9_forbidden.j0 k a0 l1 l2 true))) = some (r1, r2) := by rw [if_pos rfl] at H; exact H
    clear H
    have H := H1
    clear H1
    have HC6 := Aside0.mk H
    clear H
    go_enter Try.func43, Try.ntmps43
    go_upto_region 3 with (first | ((with_reducible refine gate_callee (f := 51) rfl ?_); refine goesL_ (some 15) rfl rfl Try.func51 (by kernel_rfl) rfl #[.int .i64 a0, .int .i64 1, .int .i64 7200] rfl (by (try simp only [List.map_toArray, List.map_cons, List.map_nil]); first | done | rfl | (simp only [List.length_drop, List.length_take]; rfl)) ?_; (with_reducible refine (railplanref9_in.calls a0 1 7200 true _ A4.out).mono ?_); rintro e w' ⟨rfl, ⟨nd, rfl⟩⟩; refine ⟨_, rfl, ?_⟩))
    (try simp only [Act.put, List.setIfInBounds_toArray, List.set_cons_zero, List.set_cons_succ])
    go_cut [24] (fun v24 wc => ∃ (kq : Nat) (x24_5 : Bool), v24 = .bool x24_5 ∧ Aside0 (railplanref9_forbidden.j0 kq a0 l1 l2 x24_5 = some (r1, r2)) ∧ Aside0 (kq ≤ k) ∧ Aside0 (Below w.heap.size w wc))
    case first =>
      have H := HC6.out
      clear HC6
      replace H := Option.bind_eq_some_iff.mp H
      obtain ⟨t148, A70, H⟩ := H
      replace H : (if t148 = true then ((railplanref9_ValidList.f k l2).bind fun t149 => (railplanref9_forbidden.j0 k a0 l1 l2 (!t149))) else (railplanref9_forbidden.j0 k a0 l1 l2 true)) = some (r1, r2) := H
      have A7 := Aside0.mk A70
      clear A70
      by_cases c8 : t148 = true
      · subst c8
        have H1 : ((railplanref9_ValidList.f k l2).bind fun t149 => (railplanref9_forbidden.j0 k a0 l1 l2 (!t149))) = some (r1, r2) := by rw [if_pos rfl] at H; exact H
        clear H
        have H := H1
        clear H1
        replace H := Option.bind_eq_some_iff.mp H
        obtain ⟨t149, A90, H⟩ := H
        replace H : (railplanref9_forbidden.j0 k a0 l1 l2 (!t149)) = some (r1, r2) := H
        have A9 := Aside0.mk A90
        clear A90
        have H' := Aside0.mk H
        clear H
        go_wp2_with (first | ((with_reducible refine gate_callee (f := 41) rfl ?_); refine goesL_ (some 18) rfl rfl Try.func41 (by kernel_rfl) rfl #[.slice A1 l1.length c1] rfl (by (try simp only [List.map_toArray, List.map_cons, List.map_nil]); first | done | rfl | (simp only [List.length_drop, List.length_take]; rfl)) ?_; (with_reducible refine (railplanref9_ValidList.calls k _ _ l1 true _ ?side1 ?side2 A7.out).mono ?_); (case side1 => repeat (first | exact (Kd.C_below HR1.out HB.out) | (with_reducible refine Kd.C_alloc ?_ _) | (with_reducible refine Kd.C_drewN ?_ _) | (with_reducible refine Kd.C_drew ?_))); (case side2 => exact HC1.out); rintro e w' ⟨rfl, ⟨nd, rfl⟩⟩; refine ⟨_, rfl, ?_⟩) | (go_at_call 41; (with_reducible refine (railplanref9_ValidList.calls k _ _ l2 t149 _ ?side1 ?side2 A9.out).mono ?_); (case side1 => repeat (first | exact (Kd.C_below HR2.out (by repeat (first | (with_reducible first | exact HB.out | apply below_alloc | apply pw_below_drewN | apply below_drew1) | exact HB.out))) | (with_reducible refine Kd.C_alloc ?_ _) | (with_reducible refine Kd.C_drewN ?_ _) | (with_reducible refine Kd.C_drew ?_))); (case side2 => exact HC2.out); rintro e w' ⟨rfl, ⟨nd, rfl⟩⟩))
        go_meet
        case rel => exact ⟨_, (!t149), (by first | rfl | (simp; done) | (simp [*]; done)), H', ⟨by first | omega | exact Nat.le_refl _⟩, ⟨by repeat (first | (with_reducible first | exact HB.out | apply below_alloc | apply pw_below_drewN | apply below_drew1) | exact HB.out)⟩⟩
      · replace c8 := Bool.eq_false_iff.mpr c8
        subst c8
        have H1 : (railplanref9_forbidden.j0 k a0 l1 l2 true) = some (r1, r2) := by rw [if_neg (show ¬ (false = true) by decide)] at H; exact H
        clear H
        have H := H1
        clear H1
        have H' := Aside0.mk H
        clear H
        go_wp2_with (first | ((with_reducible refine gate_callee (f := 41) rfl ?_); refine goesL_ (some 18) rfl rfl Try.func41 (by kernel_rfl) rfl #[.slice A1 l1.length c1] rfl (by (try simp only [List.map_toArray, List.map_cons, List.map_nil]); first | done | rfl | (simp only [List.length_drop, List.length_take]; rfl)) ?_; (with_reducible refine (railplanref9_ValidList.calls k _ _ l1 false _ ?side1 ?side2 A7.out).mono ?_); (case side1 => repeat (first | exact (Kd.C_below HR1.out HB.out) | (with_reducible refine Kd.C_alloc ?_ _) | (with_reducible refine Kd.C_drewN ?_ _) | (with_reducible refine Kd.C_drew ?_))); (case side2 => exact HC1.out); rintro e w' ⟨rfl, ⟨nd, rfl⟩⟩; refine ⟨_, rfl, ?_⟩))
        go_meet
        case rel => exact ⟨_, (true), (by first | rfl | (simp; done) | (simp [*]; done)), H', ⟨by first | omega | exact Nat.le_refl _⟩, ⟨by repeat (first | (with_reducible first | exact HB.out | apply below_alloc | apply pw_below_drewN | apply below_drew1) | exact HB.out)⟩⟩
    case rest =>
      clear HC6
      try clear c1
      try clear c2
      try clear p2
      try clear c4
      try clear c5
      try clear c8
      obtain ⟨kq, x24_5, rfl, HA, HJ5, HB⟩ := hcut
      cases kq with
      | zero => exact absurd HA.out (by simp [railplanref9_forbidden.j0])
      | succ kj5 =>
        have H := HA.out
        clear HA
        simp only [railplanref9_forbidden.j0] at H
        by_cases c10 : x24_5 = true
        · subst c10
          have H1 : (some (([] : List Bool), 1)) = some (r1, r2) := by rw [if_pos rfl] at H; exact H
          clear H
          have H := H1
          clear H1
          simp only [Option.some.injEq, Prod.mk.injEq] at H
          obtain ⟨rfl, rfl⟩ := H
          go_wp2
          go_ret2
          exact ⟨_, by first | rfl | (simp [errW_none, errW_some] <;> rfl) | (simp [*, errW_none, errW_some] <;> rfl), by first | exact Kd.R_nil _ _ _ _ _ | exact Kd.N_nil _ _ _ _ _ | exact Kd.V_nil _ _ _ _ _ | exact Kd.Q_nil _ _ _ _ _ | exact Kd.S_nil _ _ _ _ _, by repeat (first | (with_reducible first | exact HB.out | apply below_alloc | apply pw_below_drewN | apply below_drew1) | exact HB.out)⟩
        · replace c10 := Bool.eq_false_iff.mpr c10
          subst c10
          have H1 : (if 0 ≤ a0 then (if (a0 : Int).toNat ≤ 281474976710656 then (railplanref9_forbidden.l0 kj5 a0 l1 l2 (List.replicate (a0 : Int).toNat false) 0) else (none)) else (none)) = some (r1, r2) := by rw [if_neg (show ¬ (false = true) by decide)] at H; exact H
          clear H
          have H := H1
          clear H1
          by_cases c11 : 0 ≤ a0
          · rw [if_pos c11] at H
            have c11b0 := eq_true c11
            have c11b1 : decide (0 ≤ a0) = true := decide_eq_true c11
            clear c11
            by_cases c12 : (a0 : Int).toNat ≤ 281474976710656
            · rw [if_pos c12] at H
              have c12b0 := eq_true c12
              have c12b1 : decide ((a0 : Int).toNat ≤ 281474976710656) = true := decide_eq_true c12
              clear c12
              obtain ⟨y150, hy150⟩ : ∃ y_ : List Bool, y_ = (List.replicate (a0 : Int).toNat false) := ⟨_, rfl⟩
              replace H : (railplanref9_forbidden.l0 kj5 a0 l1 l2 y150 0) = some (r1, r2) := by first | (rw [hy150]; with_reducible exact H) | (have H2_ := (Option.bind_some _ _).symm.trans H; rw [hy150]; with_reducible exact H2_) | (have H2_ := (Option.bind_some _ _).symm.trans H; with_reducible exact H2_) | with_reducible exact H | (rw [hy150]; exact H) | exact H
              have Ny150 := Aside0.mk hy150
              clear hy150
              have H' := Aside0.mk H
              clear H
              go_wp2_with (first | ((with_reducible refine gate_dst (N := 26) rfl ?_); refine Kd.R_make Kd.bool _ 4 rfl (N := 26) rfl 66 _ _ rfl a0 rfl rfl Try.underlying66 (.bool false) 1 info4 rfl (by decide) (by omega) false (ok := fun _ => True) (okp := fun _ => True) rfl (fun _ hk => hk) trivial (of_decide_eq_true (by first | (with_reducible assumption) | assumption)) (Nat.le_trans (Nat.mul_le_mul_right _ (of_decide_eq_true (by first | (with_reducible assumption) | assumption) : a0.toNat ≤ 281474976710656)) (by omega)) (Below.refl _ _) (Nat.le_refl _) ?_; intro v151 w13 ho14 hb hg_ hnew_; clear hg_ hnew_; (first | rw [← Ny150.out] at ho14 | (simp only [Int.reduceToNat] at ho14; rw [← Ny150.out] at ho14)); have n0_ := Aside0.mk (Kd.R_lower ho14 (below_size (by repeat (first | (with_reducible first | exact HB.out | apply below_alloc | apply pw_below_drewN | apply below_drew1) | exact HB.out)))); have n1_ := Aside0.mk (below_step (by repeat (first | (with_reducible first | exact HB.out | apply below_alloc | apply pw_below_drewN | apply below_drew1) | exact HB.out)) hb); clear HB; have HO152 := n0_; have HB := n1_; clear n0_ n1_; clear hb ho14))
              go_loopg [9] kj5 (fun kq v9 w' => ∃ (x8_2 : List Bool) (x9_2 : Int), v9 = .int .i64 x9_2 ∧ Aside0 (railplanref9_forbidden.l0 kq a0 l1 l2 x8_2 x9_2 = some (r1, r2)) ∧ Aside0 (kq ≤ kj5) ∧ Aside0 (Kd.R Kd.bool 4 w' w.heap.size (fun _ => True) v151 x8_2) ∧ Aside0 (Below w.heap.size w w'))
              case atStart => exact ⟨(y150), (0), (by first | rfl | (simp; done) | (simp [*]; done)), H', ⟨Nat.le_refl _⟩, ⟨by (with_reducible repeat (first | apply Kd.R_alloc | apply Kd.R_drewN | apply Kd.R_drew)); exact HO152.out⟩, ⟨by repeat (first | (with_reducible first | exact HB.out | apply below_alloc | apply pw_below_drewN | apply below_drew1) | exact HB.out)⟩⟩
              case round =>
                clear H'
                try clear c1
                try clear c2
                try clear p2
                try clear c4
                try clear c5
                try clear c8
                try clear c10
                try clear c11
                try clear c11b0
                try clear c11b1
                try clear c12
                try clear c12b0
                try clear c12b1
                try clear p2
                obtain ⟨x8_2, x9_2, rfl, HA, HK2, HO_8, HB⟩ := hrel
                cases gk with
                | zero => exact absurd HA.out (by simp [railplanref9_forbidden.l0])
                | succ k2 =>
                  have H := HA.out
                  clear HA
                  simp only [railplanref9_forbidden.l0] at H
                  by_cases c15 : x9_2 < (l1.length : Int)
                  · rw [if_pos c15] at H
                    have c15b0 : decide (x9_2 < (l1.length : Int)) = true := decide_eq_true c15
                    clear c15
                    by_cases c16 : 0 ≤ x9_2
                    · rw [if_pos c16] at H
                      have c16b0 : decide (0 ≤ x9_2) = true := decide_eq_true c16
                      clear c16
                      replace H := Option.bind_eq_some_iff.mp H
                      obtain ⟨⟨t154, t155, t156, t157⟩, A170, H⟩ := H
                      replace H : (if t157 = true then (railplanref9_forbidden.l1 k2 a0 l1 l2 x8_2 x9_2 (wrap64 ((wrap64 ((wrap64 ((wrap64 (((rd_T41 l1 x9_2).f2) - ((rd_T41 l1 x9_2).f1))) + t156)) - t155)) - 1)) 0 t154 t155 t156) else (railplanref9_forbidden.l0 k2 a0 l1 l2 x8_2 (wrap64 (x9_2 + 1)))) = some (r1, r2) := H
                      have A17 := Aside0.mk A170
                      clear A170
                      by_cases c18 : t157 = true
                      · subst c18
                        have H1 : (railplanref9_forbidden.l1 k2 a0 l1 l2 x8_2 x9_2 (wrap64 ((wrap64 ((wrap64 ((wrap64 (((rd_T41 l1 x9_2).f2) - ((rd_T41 l1 x9_2).f1))) + t156)) - t155)) - 1)) 0 t154 t155 t156) = some (r1, r2) := by rw [if_pos rfl] at H; exact H
                        clear H
                        have H := H1
                        clear H1
                        have H' := Aside0.mk H
                        clear H
                        have p153 : 0 ≤ (x9_2 : Int) := of_decide_eq_true (by first | (with_reducible assumption) | assumption)
                        have q153 : x9_2 < (l1.length : Int) := of_decide_eq_true (by first | (with_reducible assumption) | assumption)
                        obtain ⟨ad153, e153, hx153_0, hx153_1, hx153_2⟩ := at_T41 HR1.out x9_2 p153 q153
                        cases e153
                        replace hx153_0 := (HB.out.cell (World.block_lt_of_cell? w _ hx153_0)).trans hx153_0
                        replace hx153_1 := (HB.out.cell (World.block_lt_of_cell? w _ hx153_1)).trans hx153_1
                        replace hx153_2 := (HB.out.cell (World.block_lt_of_cell? w _ hx153_2)).trans hx153_2
                        replace p153 := eq_true p153
                        replace q153 := eq_true q153
                        try go_wp2_with (first | ((with_reducible refine gate_callee (f := 50) rfl ?_); refine goesL_ (some 40) rfl rfl Try.func50 (by kernel_rfl) rfl #[.slice A2 l2.length c2, .int .i64 ((rd_T41 l1 x9_2).f0)] rfl (by (try simp only [List.map_toArray, List.map_cons, List.map_nil]); first | done | rfl | (simp only [List.length_drop, List.length_take]; rfl)) ?_; (with_reducible refine (railplanref9_find.calls k2 _ _ l2 ((rd_T41 l1 x9_2).f0) t154 t155 t156 true _ ?side1 ?side2 A17.out).mono ?_); (case side1 => repeat (first | exact (Kd.C_below HR2.out HB.out) | (with_reducible refine Kd.C_alloc ?_ _) | (with_reducible refine Kd.C_drewN ?_ _) | (with_reducible refine Kd.C_drew ?_))); (case side2 => exact HC2.out); rintro e w19 ⟨rfl, hb⟩; refine ⟨_, rfl, ?_⟩; have n0_ := Aside0.mk (Kd.R_below (by (with_reducible repeat (first | apply Kd.R_alloc | apply Kd.R_drewN | apply Kd.R_drew)); exact HO_8.out) hb); have n1_ := Aside0.mk (below_step (by repeat (first | (with_reducible first | exact HB.out | apply below_alloc | apply pw_below_drewN | apply below_drew1) | exact HB.out)) hb); clear HO_8; clear HB; have HO_8 := n0_; have HB := n1_; clear n0_ n1_; (try clear hb); (try clear hb2); (try clear hk); (try clear hi)) | ((with_reducible refine gate_dst (N := 10) rfl ?_); refine box_event ?hg (N := 10) ?hd (cs := #[.int .i64 0, .int .i64 0, .int .i64 0]) (t := 41) ?hr ?_; (case hd => rfl); (case hg => rfl); (case hr => first | (go_simp; done) | (go_simp; rfl)); intro gb158 hg w20 hbox hb; have n0_ := Aside0.mk (Kd.R_below (by (with_reducible repeat (first | apply Kd.R_alloc | apply Kd.R_drewN | apply Kd.R_drew)); exact HO_8.out) hb); have n1_ := Aside0.mk (below_step (by repeat (first | (with_reducible first | exact HB.out | apply below_alloc | apply pw_below_drewN | apply below_drew1) | exact HB.out)) hb); have n2_ := Aside0.mk (hbox); have n3_ := Aside0.mk ((by rw [hg]; exact (below_size (by repeat (first | (with_reducible first | exact HB.out | apply below_alloc | apply pw_below_drewN | apply below_drew1) | exact HB.out))) : w.heap.size ≤ gb158)); have n4_ := Aside0.mk ((by rw [hg]; exact (below_size (by repeat (first | (with_reducible first | exact HB.out | apply below_alloc | apply pw_below_drewN | apply below_drew1) | exact HB.out))) : w.heap.size ≤ gb158)); clear HO_8; clear HB; have HO_8 := n0_; have HB := n1_; have BK158 := n2_; have GW158 := n3_; have GE158 := n4_; clear n0_ n1_ n2_ n3_ n4_; clear hb hbox hg; have hcz21_0 : w20.cell? ⟨gb158, 0, none⟩ = some (.int .i64 0) := (blk_cell BK158.out 0).trans rfl; have hcz21_1 : w20.cell? ⟨gb158, 1, none⟩ = some (.int .i64 0) := (blk_cell BK158.out 1).trans rfl; have hcz21_2 : w20.cell? ⟨gb158, 2, none⟩ = some (.int .i64 0) := (blk_cell BK158.out 2).trans rfl; have hfz21_0 := blk_frozen BK158.out 0; have hfz21_1 := blk_frozen BK158.out 1; have hfz21_2 := blk_frozen BK158.out 2))
                        have n0_ : Aside0 (Kd.R Kd.bool 4 (((w20.setCell ⟨gb158, 0, none⟩ (.int .i64 t154)).setCell ⟨gb158, 1, none⟩ (.int .i64 t155)).setCell ⟨gb158, 2, none⟩ (.int .i64 t156)) w.heap.size (fun _ => True) v151 x8_2) := ⟨by (with_reducible repeat (first | apply Kd.R_alloc | apply Kd.R_drewN | apply Kd.R_drew)); exact Kd.R_mono (Kd.R_far (p := ⟨gb158, 2, none⟩) (Kd.R_far (p := ⟨gb158, 1, none⟩) (Kd.R_far (p := ⟨gb158, 0, none⟩) (Kd.R_types HO_8.out BK158.out (by decide)) (fun _ hk => hk.2) (.int .i64 t154)) (fun _ hk => hk.2) (.int .i64 t155)) (fun _ hk => hk.2) (.int .i64 t156)) (fun _ hk => trivial)⟩
                        have n1_ : Aside0 ((((w20.setCell ⟨gb158, 0, none⟩ (.int .i64 t154)).setCell ⟨gb158, 1, none⟩ (.int .i64 t155)).setCell ⟨gb158, 2, none⟩ (.int .i64 t156)).heap[gb158]? = some (.cells #[.int .i64 t154, .int .i64 t155, .int .i64 t156] 41 (0, 0))) := ⟨by (with_reducible repeat (first | refine blk_drewN ?_ _ | refine blk_drew ?_ | refine blk_alloc ?_ _)); refine blk_put (cs := #[.int .i64 t154, .int .i64 t155, .int .i64 0]) ?_ 2 _ rfl; (with_reducible repeat (first | refine blk_drewN ?_ _ | refine blk_drew ?_ | refine blk_alloc ?_ _)); refine blk_put (cs := #[.int .i64 t154, .int .i64 0, .int .i64 0]) ?_ 1 _ rfl; (with_reducible repeat (first | refine blk_drewN ?_ _ | refine blk_drew ?_ | refine blk_alloc ?_ _)); refine blk_put (cs := #[.int .i64 0, .int .i64 0, .int .i64 0]) ?_ 0 _ rfl; (with_reducible repeat (first | refine blk_drewN ?_ _ | refine blk_drew ?_ | refine blk_alloc ?_ _)); exact BK158.out⟩
                        have n2_ : Aside0 (Below w.heap.size w (((w20.setCell ⟨gb158, 0, none⟩ (.int .i64 t154)).setCell ⟨gb158, 1, none⟩ (.int .i64 t155)).setCell ⟨gb158, 2, none⟩ (.int .i64 t156))) := ⟨by repeat (first | (with_reducible first | exact HB.out | apply below_alloc | apply pw_below_drewN | apply below_drew1 | refine below_set ?_ GE158.out) | exact HB.out)⟩
                        (try clear HO_8)
                        (try clear BK158)
                        (try clear HB)
                        generalize (((w20.setCell ⟨gb158, 0, none⟩ (.int .i64 t154)).setCell ⟨gb158, 1, none⟩ (.int .i64 t155)).setCell ⟨gb158, 2, none⟩ (.int .i64 t156)) = w22 at n0_ n1_ n2_ ⊢
                        have HO_8 := n0_
                        have BK158 := n1_
                        have HB := n2_
                        clear n0_ n1_ n2_
                        have n0_ := Aside0.mk (Kd.R_drew HO_8.out)
                        have n1_ := Aside0.mk (blk_drew BK158.out)
                        have n2_ := Aside0.mk (below_drew1 HB.out)
                        clear HO_8
                        clear BK158
                        clear HB
                        have HO_8 := n0_
                        have BK158 := n1_
                        have HB := n2_
                        clear n0_ n1_ n2_
                        have p159 : 0 ≤ (x9_2 : Int) := of_decide_eq_true (by first | (with_reducible assumption) | assumption)
                        have q159 : x9_2 < (l1.length : Int) := of_decide_eq_true (by first | (with_reducible assumption) | assumption)
                        obtain ⟨ad159, e159, hx159_0, hx159_1, hx159_2⟩ := at_T41 HR1.out x9_2 p159 q159
                        have hw159_2 := hx159_2
                        have hw159_1 := hx159_1
                        have hw159_0 := hx159_0
                        obtain rfl : ad153 = ad159 := (by injection e159)
                        replace hx159_0 := (HB.out.cell (World.block_lt_of_cell? w _ hx159_0)).trans hx159_0
                        replace hx159_1 := (HB.out.cell (World.block_lt_of_cell? w _ hx159_1)).trans hx159_1
                        replace hx159_2 := (HB.out.cell (World.block_lt_of_cell? w _ hx159_2)).trans hx159_2
                        replace p159 := eq_true p159
                        replace q159 := eq_true q159
                        have p160 : 0 ≤ (x9_2 : Int) := of_decide_eq_true (by first | (with_reducible assumption) | assumption)
                        have q160 : x9_2 < (l1.length : Int) := of_decide_eq_true (by first | (with_reducible assumption) | assumption)
                        obtain ⟨ad160, e160, hx160_0, hx160_1, hx160_2⟩ := at_T41 HR1.out x9_2 p160 q160
                        have hw160_2 := hx160_2
                        have hw160_1 := hx160_1
                        have hw160_0 := hx160_0
                        obtain rfl : ad153 = ad160 := (by injection e160)
                        replace hx160_0 := (HB.out.cell (World.block_lt_of_cell? w _ hx160_0)).trans hx160_0
                        replace hx160_1 := (HB.out.cell (World.block_lt_of_cell? w _ hx160_1)).trans hx160_1
                        replace hx160_2 := (HB.out.cell (World.block_lt_of_cell? w _ hx160_2)).trans hx160_2
                        replace p160 := eq_true p160
                        replace q160 := eq_true q160
                        refine start_ (n := 19) (S := fun w' => w'.cell? ⟨gb158, 0, none⟩ = some (.int .i64 t154) ∧ w'.cell? ⟨gb158, 1, none⟩ = some (.int .i64 t155) ∧ w'.cell? ⟨gb158, 2, none⟩ = some (.int .i64 t156) ∧ w'.cell? (ad153.add ((x9_2).toNat * 3)) = some (.int .i64 ((rd_T41 l1 x9_2).f0)) ∧ w'.cell? ⟨(ad153.add ((x9_2).toNat * 3)).block, (ad153.add ((x9_2).toNat * 3)).off + 1, none⟩ = some (.int .i64 ((rd_T41 l1 x9_2).f1)) ∧ w'.cell? ⟨(ad153.add ((x9_2).toNat * 3)).block, (ad153.add ((x9_2).toNat * 3)).off + 2, none⟩ = some (.int .i64 ((rd_T41 l1 x9_2).f2)) ∧ w'.cell? (ad153.add ((x9_2).toNat * 3)) = some (.int .i64 ((rd_T41 l1 x9_2).f0)) ∧ w'.cell? ⟨(ad153.add ((x9_2).toNat * 3)).block, (ad153.add ((x9_2).toNat * 3)).off + 1, none⟩ = some (.int .i64 ((rd_T41 l1 x9_2).f1)) ∧ w'.cell? ⟨(ad153.add ((x9_2).toNat * 3)).block, (ad153.add ((x9_2).toNat * 3)).off + 2, none⟩ = some (.int .i64 ((rd_T41 l1 x9_2).f2))) (ds := []) #[false, false, false, false, false, false, false, false, false, false, false, false, false, false, false, false, false, false, false] (by kernel_rfl) rfl rfl ⟨(blk_cell BK158.out 0).trans rfl, (blk_cell BK158.out 1).trans rfl, (blk_cell BK158.out 2).trans rfl, ((HB.out.cell (World.block_lt_of_cell? w _ hw159_0)).trans hw159_0), ((HB.out.cell (World.block_lt_of_cell? w _ hw159_1)).trans hw159_1), ((HB.out.cell (World.block_lt_of_cell? w _ hw159_2)).trans hw159_2), ((HB.out.cell (World.block_lt_of_cell? w _ hw160_0)).trans hw160_0), ((HB.out.cell (World.block_lt_of_cell? w _ hw160_1)).trans hw160_1), ((HB.out.cell (World.block_lt_of_cell? w _ hw160_2)).trans hw160_2)⟩ (fun hHeld => ?_); refine with_tabW railplanref9_forbidden.tab11 railplanref9_forbidden.bits11 (fun HT_ HW_ => ?_)
                        generalize w22.drew = w23 at HO_8 BK158 HB hx159_0 hx159_1 hx159_2 hx160_0 hx160_1 hx160_2 hHeld ⊢
                        refine pure_ (i := 0) (N := some 45) (v := ?_) (a' := ?_) #[true, false, false, false, false, false, false, false, false, false, false, false, false, false, false, false, false, false, false] rfl rfl (any_of HT_.out (by kernel_rfl)) (fun _ _ _ h => h) (Or.inl ⟨by rfl, ?_⟩) ?_ ?_
                        rotate_left
                        · intro w'
                          go_simp
                          with_reducible rfl
                        rotate_left
                        · simp only [Act.put, List.setIfInBounds_toArray, List.set_cons_zero, List.set_cons_succ, i64_w, i32_w]
                          rfl
                        refine pure_ (i := 1) (N := some 46) (v := ?_) (a' := ?_) #[true, true, false, false, false, false, false, false, false, false, false, false, false, false, false, false, false, false, false] rfl rfl (any_of HT_.out (by kernel_rfl)) (fun _ _ _ h => h) (Or.inl ⟨by rfl, ?_⟩) ?_ ?_
                        rotate_left
                        · intro w'
                          go_simp
                          with_reducible rfl
                        rotate_left
                        · simp only [Act.put, List.setIfInBounds_toArray, List.set_cons_zero, List.set_cons_succ, i64_w, i32_w]
                          rfl
                        refine pure_ (i := 2) (N := some 47) (v := ?_) (a' := ?_) #[true, true, true, false, false, false, false, false, false, false, false, false, false, false, false, false, false, false, false] rfl rfl (any_of HT_.out (by kernel_rfl)) (fun _ _ _ h => h) (Or.inl ⟨by rfl, ?_⟩) ?_ ?_
                        rotate_left
                        · intro w'
                          go_simp
                          with_reducible rfl
                        rotate_left
                        · simp only [Act.put, List.setIfInBounds_toArray, List.set_cons_zero, List.set_cons_succ, i64_w, i32_w]
                          rfl
                        refine pure_ (i := 3) (N := some 48) (v := ?_) (a' := ?_) #[true, true, true, true, false, false, false, false, false, false, false, false, false, false, false, false, false, false, false] rfl rfl (any_of HT_.out (by kernel_rfl)) (fun _ _ _ h => h) (Or.inl ⟨by rfl, ?_⟩) ?_ ?_
                        rotate_left
                        · intro w'
                          go_simp
                          with_reducible rfl
                        rotate_left
                        · simp only [Act.put, List.setIfInBounds_toArray, List.set_cons_zero, List.set_cons_succ, i64_w, i32_w]
                          rfl
                        refine pure_ (i := 5) (N := some 50) (v := ?_) (a' := ?_) #[true, true, true, true, false, true, false, false, false, false, false, false, false, false, false, false, false, false, false] rfl rfl (any_of HT_.out (by kernel_rfl)) (fun _ _ _ h => h) (Or.inl ⟨by rfl, ?_⟩) ?_ ?_
                        rotate_left
                        · intro w'
                          go_simp
                          with_reducible rfl
                        rotate_left
                        · simp only [Act.put, List.setIfInBounds_toArray, List.set_cons_zero, List.set_cons_succ, i64_w, i32_w]
                          rfl
                        refine pure_ (i := 6) (N := some 51) (v := ?_) (a' := ?_) #[true, true, true, true, false, true, true, false, false, false, false, false, false, false, false, false, false, false, false] rfl rfl (any_of HT_.out (by kernel_rfl)) (fun _ _ _ h => h) (Or.inl ⟨by rfl, ?_⟩) ?_ ?_
                        rotate_left
                        · intro w'
                          go_simp
                          with_reducible rfl
                        rotate_left
                        · simp only [Act.put, List.setIfInBounds_toArray, List.set_cons_zero, List.set_cons_succ, i64_w, i32_w]
                          rfl
                        refine pure_ (i := 7) (N := some 52) (v := ?_) (a' := ?_) #[true, true, true, true, false, true, true, true, false, false, false, false, false, false, false, false, false, false, false] rfl rfl (any_of HT_.out (by kernel_rfl)) (fun _ _ _ h => h) (Or.inl ⟨by rfl, ?_⟩) ?_ ?_
                        rotate_left
                        · intro w'
                          go_simp
                          with_reducible rfl
                        rotate_left
                        · simp only [Act.put, List.setIfInBounds_toArray, List.set_cons_zero, List.set_cons_succ, i64_w, i32_w]
                          rfl
                        refine pure_ (i := 8) (N := some 53) (v := ?_) (a' := ?_) #[true, true, true, true, false, true, true, true, true, false, false, false, false, false, false, false, false, false, false] rfl rfl (any_of HT_.out (by kernel_rfl)) (fun _ _ _ h => h) (Or.inl ⟨by rfl, ?_⟩) ?_ ?_
                        rotate_left
                        · intro w'
                          go_simp
                          with_reducible rfl
                        rotate_left
                        · simp only [Act.put, List.setIfInBounds_toArray, List.set_cons_zero, List.set_cons_succ, i64_w, i32_w]
                          rfl
                        refine pure_ (i := 11) (N := some 56) (v := ?_) (a' := ?_) #[true, true, true, true, false, true, true, true, true, false, false, true, false, false, false, false, false, false, false] rfl rfl (any_of HT_.out (by kernel_rfl)) (fun _ _ _ h => h) (Or.inl ⟨by rfl, ?_⟩) ?_ ?_
                        rotate_left
                        · intro w'
                          go_simp
                          with_reducible rfl
                        rotate_left
                        · simp only [Act.put, List.setIfInBounds_toArray, List.set_cons_zero, List.set_cons_succ, i64_w, i32_w]
                          rfl
                        refine pure_ (i := 14) (N := some 59) (v := ?_) (a' := ?_) #[true, true, true, true, false, true, true, true, true, false, false, true, false, false, true, false, false, false, false] rfl rfl (any_of HT_.out (by kernel_rfl)) (fun _ _ _ h => h) (Or.inl ⟨by rfl, ?_⟩) ?_ ?_
                        rotate_left
                        · intro w'
                          go_simp
                          with_reducible rfl
                        rotate_left
                        · simp only [Act.put, List.setIfInBounds_toArray, List.set_cons_zero, List.set_cons_succ, i64_w, i32_w]
                          rfl
                        refine take_ (i := 4) (N := some 49) (v := ?_) (a' := ?_) #[true, true, true, true, true, true, true, true, true, false, false, true, false, false, true, false, false, false, false] rfl rfl (take_ofW HT_.out HW_.out (by kernel_rfl)) (fun _ _ _ h => h) (Or.inl ⟨by rfl, ?_⟩) hHeld ?_ ?_
                        rotate_left
                        · rintro w' ⟨s0, s1, s2, s3, s4, s5, s6, s7, s8⟩
                          go_simp
                          with_reducible rfl
                        rotate_left
                        · simp only [Act.put, List.setIfInBounds_toArray, List.set_cons_zero, List.set_cons_succ, i64_w, i32_w]
                          rfl
                        refine take_ (i := 9) (N := some 54) (v := ?_) (a' := ?_) #[true, true, true, true, true, true, true, true, true, true, false, true, false, false, true, false, false, false, false] rfl rfl (take_ofW HT_.out HW_.out (by kernel_rfl)) (fun _ _ _ h => h) (Or.inl ⟨by rfl, ?_⟩) hHeld ?_ ?_
                        rotate_left
                        · rintro w' ⟨s0, s1, s2, s3, s4, s5, s6, s7, s8⟩
                          go_simp
                          with_reducible rfl
                        rotate_left
                        · simp only [Act.put, List.setIfInBounds_toArray, List.set_cons_zero, List.set_cons_succ, i64_w, i32_w]
                          rfl
                        refine pure_ (i := 10) (N := some 55) (v := ?_) (a' := ?_) #[true, true, true, true, true, true, true, true, true, true, true, true, false, false, true, false, false, false, false] rfl rfl (any_of HT_.out (by kernel_rfl)) (fun _ _ _ h => h) (Or.inl ⟨by rfl, ?_⟩) ?_ ?_
                        rotate_left
                        · intro w'
                          go_simp
                          with_reducible rfl
                        rotate_left
                        · simp only [Act.put, List.setIfInBounds_toArray, List.set_cons_zero, List.set_cons_succ, i64_w, i32_w]
                          rfl
                        refine take_ (i := 12) (N := some 57) (v := ?_) (a' := ?_) #[true, true, true, true, true, true, true, true, true, true, true, true, true, false, true, false, false, false, false] rfl rfl (take_ofW HT_.out HW_.out (by kernel_rfl)) (fun _ _ _ h => h) (Or.inl ⟨by rfl, ?_⟩) hHeld ?_ ?_
                        rotate_left
                        · rintro w' ⟨s0, s1, s2, s3, s4, s5, s6, s7, s8⟩
                          go_simp
                          with_reducible rfl
                        rotate_left
                        · simp only [Act.put, List.setIfInBounds_toArray, List.set_cons_zero, List.set_cons_succ, i64_w, i32_w]
                          rfl
                        refine pure_ (i := 13) (N := some 58) (v := ?_) (a' := ?_) #[true, true, true, true, true, true, true, true, true, true, true, true, true, true, true, false, false, false, false] rfl rfl (any_of HT_.out (by kernel_rfl)) (fun _ _ _ h => h) (Or.inl ⟨by rfl, ?_⟩) ?_ ?_
                        rotate_left
                        · intro w'
                          go_simp
                          with_reducible rfl
                        rotate_left
                        · simp only [Act.put, List.setIfInBounds_toArray, List.set_cons_zero, List.set_cons_succ, i64_w, i32_w]
                          rfl
                        refine take_ (i := 15) (N := some 60) (v := ?_) (a' := ?_) #[true, true, true, true, true, true, true, true, true, true, true, true, true, true, true, true, false, false, false] rfl rfl (take_ofW HT_.out HW_.out (by kernel_rfl)) (fun _ _ _ h => h) (Or.inl ⟨by rfl, ?_⟩) hHeld ?_ ?_
                        rotate_left
                        · rintro w' ⟨s0, s1, s2, s3, s4, s5, s6, s7, s8⟩
                          go_simp
                          with_reducible rfl
                        rotate_left
                        · simp only [Act.put, List.setIfInBounds_toArray, List.set_cons_zero, List.set_cons_succ, i64_w, i32_w]
                          rfl
                        refine pure_ (i := 16) (N := some 61) (v := ?_) (a' := ?_) #[true, true, true, true, true, true, true, true, true, true, true, true, true, true, true, true, true, false, false] rfl rfl (any_of HT_.out (by kernel_rfl)) (fun _ _ _ h => h) (Or.inl ⟨by rfl, ?_⟩) ?_ ?_
                        rotate_left
                        · intro w'
                          go_simp
                          with_reducible rfl
                        rotate_left
                        · simp only [Act.put, List.setIfInBounds_toArray, List.set_cons_zero, List.set_cons_succ, i64_w, i32_w]
                          rfl
                        refine pure_ (i := 17) (N := some 62) (v := ?_) (a' := ?_) #[true, true, true, true, true, true, true, true, true, true, true, true, true, true, true, true, true, true, false] rfl rfl (any_of HT_.out (by kernel_rfl)) (fun _ _ _ h => h) (Or.inl ⟨by rfl, ?_⟩) ?_ ?_
                        rotate_left
                        · intro w'
                          go_simp
                          with_reducible rfl
                        rotate_left
                        · simp only [Act.put, List.setIfInBounds_toArray, List.set_cons_zero, List.set_cons_succ, i64_w, i32_w]
                          rfl
                        refine pure_ (i := 18) (N := some 12) (v := ?_) (a' := ?_) #[true, true, true, true, true, true, true, true, true, true, true, true, true, true, true, true, true, true, true] rfl rfl (any_of HT_.out (by kernel_rfl)) (fun _ _ _ h => h) (Or.inl ⟨by rfl, ?_⟩) ?_ ?_
                        rotate_left
                        · intro w'
                          go_simp
                          with_reducible rfl
                        rotate_left
                        · simp only [Act.put, List.setIfInBounds_toArray, List.set_cons_zero, List.set_cons_succ, i64_w, i32_w]
                          rfl
                        refine done_ (done_of HT_.out (by kernel_rfl)) ?_
                        try go_wp2
                        go_loopg [13] k2 (fun kq v13 w' => ∃ (x8_3 : List Bool) (x13_3 : Int), v13 = .int .i64 x13_3 ∧ Aside0 (railplanref9_forbidden.l1 kq a0 l1 l2 x8_3 x9_2 (wrap64 ((wrap64 ((wrap64 ((wrap64 (((rd_T41 l1 x9_2).f2) - ((rd_T41 l1 x9_2).f1))) + t156)) - t155)) - 1)) x13_3 t154 t155 t156 = some (r1, r2)) ∧ Aside0 (kq ≤ k2) ∧ Aside0 (Kd.R Kd.bool 4 w' w.heap.size (fun _ => True) v151 x8_3) ∧ Aside0 (w'.heap[gb158]? = some (.cells #[.int .i64 t154, .int .i64 t155, .int .i64 t156] 41 (0, 0))) ∧ Aside0 (Below w.heap.size w w'))
                        case atStart => exact ⟨(x8_2), (0), (by first | rfl | (simp; done) | (simp [*]; done)), H', ⟨Nat.le_refl _⟩, ⟨by (with_reducible repeat (first | apply Kd.R_alloc | apply Kd.R_drewN | apply Kd.R_drew)); exact HO_8.out⟩, ⟨by (with_reducible repeat (first | refine blk_drewN ?_ _ | refine blk_drew ?_ | refine blk_alloc ?_ _)); exact BK158.out⟩, ⟨by repeat (first | (with_reducible first | exact HB.out | apply below_alloc | apply pw_below_drewN | apply below_drew1 | refine below_set ?_ GE158.out) | exact HB.out)⟩⟩
                        case round =>
                          clear H'
                          try clear c1
                          try clear p1
                          try clear q1
                          try clear hx1
                          try clear c2
                          try clear p2
                          try clear c4
                          try clear c5
                          try clear p6
                          try clear c8
                          try clear c10
                          try clear c11
                          try clear c11b0
                          try clear c11b1
                          try clear c12
                          try clear c12b0
                          try clear c12b1
                          try clear c15
                          try clear c15b0
                          try clear p15
                          try clear q15
                          try clear hx15
                          try clear c16
                          try clear c16b0
                          try clear p16
                          try clear q16
                          try clear hx16
                          try clear c18
                          try clear hcz21_0
                          try clear hcz21_1
                          try clear hcz21_2
                          try clear hfz21_0
                          try clear hfz21_1
                          try clear hfz21_2
                          try clear hx153_0
                          try clear hx153_1
                          try clear hx153_2
                          try clear hx159_0
                          try clear hx159_1
                          try clear hx159_2
                          try clear hx160_0
                          try clear hx160_1
                          try clear hx160_2
                          try clear p153
                          try clear p159
                          try clear p160
                          try clear p2
                          try clear q153
                          try clear q159
                          try clear q160
                          obtain ⟨x8_3, x13_3, rfl, HA, HK3, HO_8, BK158, HB⟩ := hrel
                          cases gk with
                          | zero => exact absurd HA.out (by simp [railplanref9_forbidden.l1])
                          | succ k3 =>
                            have H := HA.out
                            clear HA
                            simp only [railplanref9_forbidden.l1] at H
                            by_cases c24 : x13_3 < (wrap64 ((wrap64 ((wrap64 ((wrap64 (((rd_T41 l1 x9_2).f2) - ((rd_T41 l1 x9_2).f1))) + t156)) - t155)) - 1))
                            · rw [if_pos c24] at H
                              have c24b0 : decide (x13_3 < (wrap64 ((wrap64 ((wrap64 ((wrap64 (((rd_T41 l1 x9_2).f2) - ((rd_T41 l1 x9_2).f1))) + t156)) - t155)) - 1))) = true := decide_eq_true c24
                              clear c24
                              by_cases c25 : x13_3 < a0
                              · rw [if_pos c25] at H
                                have c25b0 : decide (x13_3 < a0) = true := decide_eq_true c25
                                clear c25
                                by_cases c26 : 0 ≤ x9_2
                                · rw [if_pos c26] at H
                                  have c26b0 : decide (0 ≤ x9_2) = true := decide_eq_true c26
                                  clear c26
                                  by_cases c27 : x9_2 < (l1.length : Int)
                                  · rw [if_pos c27] at H
                                    have c27b0 : decide (x9_2 < (l1.length : Int)) = true := decide_eq_true c27
                                    clear c27
                                    replace H := Option.bind_eq_some_iff.mp H
                                    obtain ⟨t162, A280, H⟩ := H
                                    replace H : (if 0 ≤ t162 then (if t162 < (x8_3.length : Int) then (railplanref9_forbidden.l1 k3 a0 l1 l2 (x8_3.set (t162 : Int).toNat true) x9_2 (wrap64 ((wrap64 ((wrap64 ((wrap64 (((rd_T41 l1 x9_2).f2) - ((rd_T41 l1 x9_2).f1))) + t156)) - t155)) - 1)) (wrap64 (x13_3 + 1)) t154 t155 t156) else (none)) else (none)) = some (r1, r2) := H
                                    have A28 := Aside0.mk A280
                                    clear A280
                                    by_cases c29 : 0 ≤ t162
                                    · rw [if_pos c29] at H
                                      have c29b0 : decide (0 ≤ t162) = true := decide_eq_true c29
                                      clear c29
                                      by_cases c30 : t162 < (x8_3.length : Int)
                                      · rw [if_pos c30] at H
                                        have c30b0 : decide (t162 < (x8_3.length : Int)) = true := decide_eq_true c30
                                        clear c30
                                        obtain ⟨y163, hy163⟩ : ∃ y_ : List Bool, y_ = (x8_3.set (t162 : Int).toNat true) := ⟨_, rfl⟩
                                        replace H : (railplanref9_forbidden.l1 k3 a0 l1 l2 y163 x9_2 (wrap64 ((wrap64 ((wrap64 ((wrap64 (((rd_T41 l1 x9_2).f2) - ((rd_T41 l1 x9_2).f1))) + t156)) - t155)) - 1)) (wrap64 (x13_3 + 1)) t154 t155 t156) = some (r1, r2) := by first | (rw [hy163]; with_reducible exact H) | (have H2_ := (Option.bind_some _ _).symm.trans H; rw [hy163]; with_reducible exact H2_) | (have H2_ := (Option.bind_some _ _).symm.trans H; with_reducible exact H2_) | with_reducible exact H | (rw [hy163]; exact H) | exact H
                                        have Ny163 := Aside0.mk hy163
                                        clear hy163
                                        have H' := Aside0.mk H
                                        clear H
                                        try go_wp2
                                        have n0_ := Aside0.mk (Kd.R_drew HO_8.out)
                                        have n1_ := Aside0.mk (blk_drew BK158.out)
                                        have n2_ := Aside0.mk (below_drew1 HB.out)
                                        clear HO_8
                                        clear BK158
                                        clear HB
                                        have HO_8 := n0_
                                        have BK158 := n1_
                                        have HB := n2_
                                        clear n0_ n1_ n2_
                                        have p161 : 0 ≤ (x9_2 : Int) := of_decide_eq_true (by first | (with_reducible assumption) | assumption)
                                        have q161 : x9_2 < (l1.length : Int) := of_decide_eq_true (by first | (with_reducible assumption) | assumption)
                                        obtain ⟨ad161, e161, hx161_0, hx161_1, hx161_2⟩ := at_T41 HR1.out x9_2 p161 q161
                                        have hw161_2 := hx161_2
                                        have hw161_1 := hx161_1
                                        have hw161_0 := hx161_0
                                        obtain rfl : ad153 = ad161 := (by injection e161)
                                        replace hx161_0 := (HB.out.cell (World.block_lt_of_cell? w _ hx161_0)).trans hx161_0
                                        replace hx161_1 := (HB.out.cell (World.block_lt_of_cell? w _ hx161_1)).trans hx161_1
                                        replace hx161_2 := (HB.out.cell (World.block_lt_of_cell? w _ hx161_2)).trans hx161_2
                                        replace p161 := eq_true p161
                                        replace q161 := eq_true q161
                                        refine start_ (n := 16) (S := fun w' => w'.cell? ⟨gb158, 0, none⟩ = some (.int .i64 t154) ∧ w'.cell? ⟨gb158, 1, none⟩ = some (.int .i64 t155) ∧ w'.cell? ⟨gb158, 2, none⟩ = some (.int .i64 t156) ∧ w'.cell? (ad153.add ((x9_2).toNat * 3)) = some (.int .i64 ((rd_T41 l1 x9_2).f0)) ∧ w'.cell? ⟨(ad153.add ((x9_2).toNat * 3)).block, (ad153.add ((x9_2).toNat * 3)).off + 1, none⟩ = some (.int .i64 ((rd_T41 l1 x9_2).f1)) ∧ w'.cell? ⟨(ad153.add ((x9_2).toNat * 3)).block, (ad153.add ((x9_2).toNat * 3)).off + 2, none⟩ = some (.int .i64 ((rd_T41 l1 x9_2).f2))) (ds := [15]) #[false, false, false, false, false, false, false, false, false, false, false, false, false, false, false, false] (by kernel_rfl) rfl rfl ⟨(blk_cell BK158.out 0).trans rfl, (blk_cell BK158.out 1).trans rfl, (blk_cell BK158.out 2).trans rfl, ((HB.out.cell (World.block_lt_of_cell? w _ hw161_0)).trans hw161_0), ((HB.out.cell (World.block_lt_of_cell? w _ hw161_1)).trans hw161_1), ((HB.out.cell (World.block_lt_of_cell? w _ hw161_2)).trans hw161_2)⟩ (fun hHeld => ?_); refine with_tabW railplanref9_forbidden.tab15 railplanref9_forbidden.bits15 (fun HT_ HW_ => ?_)
                                        generalize wr.drew = w32 at HO_8 BK158 HB hx161_0 hx161_1 hx161_2 hHeld ⊢
                                        refine pure_ (i := 0) (N := some 73) (v := ?_) (a' := ?_) #[true, false, false, false, false, false, false, false, false, false, false, false, false, false, false, false] rfl rfl (any_of HT_.out (by kernel_rfl)) (fun _ _ _ h => h) (Or.inl ⟨by rfl, ?_⟩) ?_ ?_
                                        rotate_left
                                        · intro w'
                                          go_simp
                                          with_reducible rfl
                                        rotate_left
                                        · simp only [Act.put, List.setIfInBounds_toArray, List.set_cons_zero, List.set_cons_succ, i64_w, i32_w]
                                          rfl
                                        refine pure_ (i := 1) (N := some 74) (v := ?_) (a' := ?_) #[true, true, false, false, false, false, false, false, false, false, false, false, false, false, false, false] rfl rfl (any_of HT_.out (by kernel_rfl)) (fun _ _ _ h => h) (Or.inl ⟨by rfl, ?_⟩) ?_ ?_
                                        rotate_left
                                        · intro w'
                                          go_simp
                                          with_reducible rfl
                                        rotate_left
                                        · simp only [Act.put, List.setIfInBounds_toArray, List.set_cons_zero, List.set_cons_succ, i64_w, i32_w]
                                          rfl
                                        refine pure_ (i := 2) (N := some 75) (v := ?_) (a' := ?_) #[true, true, true, false, false, false, false, false, false, false, false, false, false, false, false, false] rfl rfl (any_of HT_.out (by kernel_rfl)) (fun _ _ _ h => h) (Or.inl ⟨by rfl, ?_⟩) ?_ ?_
                                        rotate_left
                                        · intro w'
                                          go_simp
                                          with_reducible rfl
                                        rotate_left
                                        · simp only [Act.put, List.setIfInBounds_toArray, List.set_cons_zero, List.set_cons_succ, i64_w, i32_w]
                                          rfl
                                        refine pure_ (i := 3) (N := some 76) (v := ?_) (a' := ?_) #[true, true, true, true, false, false, false, false, false, false, false, false, false, false, false, false] rfl rfl (any_of HT_.out (by kernel_rfl)) (fun _ _ _ h => h) (Or.inl ⟨by rfl, ?_⟩) ?_ ?_
                                        rotate_left
                                        · intro w'
                                          go_simp
                                          with_reducible rfl
                                        rotate_left
                                        · simp only [Act.put, List.setIfInBounds_toArray, List.set_cons_zero, List.set_cons_succ, i64_w, i32_w]
                                          rfl
                                        refine pure_ (i := 4) (N := some 77) (v := ?_) (a' := ?_) #[true, true, true, true, true, false, false, false, false, false, false, false, false, false, false, false] rfl rfl (any_of HT_.out (by kernel_rfl)) (fun _ _ _ h => h) (Or.inl ⟨by rfl, ?_⟩) ?_ ?_
                                        rotate_left
                                        · intro w'
                                          go_simp
                                          with_reducible rfl
                                        rotate_left
                                        · simp only [Act.put, List.setIfInBounds_toArray, List.set_cons_zero, List.set_cons_succ, i64_w, i32_w]
                                          rfl
                                        refine pure_ (i := 6) (N := some 79) (v := ?_) (a' := ?_) #[true, true, true, true, true, false, true, false, false, false, false, false, false, false, false, false] rfl rfl (any_of HT_.out (by kernel_rfl)) (fun _ _ _ h => h) (Or.inl ⟨by rfl, ?_⟩) ?_ ?_
                                        rotate_left
                                        · intro w'
                                          go_simp
                                          with_reducible rfl
                                        rotate_left
                                        · simp only [Act.put, List.setIfInBounds_toArray, List.set_cons_zero, List.set_cons_succ, i64_w, i32_w]
                                          rfl
                                        refine pure_ (i := 10) (N := some 83) (v := ?_) (a' := ?_) #[true, true, true, true, true, false, true, false, false, false, true, false, false, false, false, false] rfl rfl (any_of HT_.out (by kernel_rfl)) (fun _ _ _ h => h) (Or.inl ⟨by rfl, ?_⟩) ?_ ?_
                                        rotate_left
                                        · intro w'
                                          go_simp
                                          with_reducible rfl
                                        rotate_left
                                        · simp only [Act.put, List.setIfInBounds_toArray, List.set_cons_zero, List.set_cons_succ, i64_w, i32_w]
                                          rfl
                                        refine pure_ (i := 12) (N := some 85) (v := ?_) (a' := ?_) #[true, true, true, true, true, false, true, false, false, false, true, false, true, false, false, false] rfl rfl (any_of HT_.out (by kernel_rfl)) (fun _ _ _ h => h) (Or.inl ⟨by rfl, ?_⟩) ?_ ?_
                                        rotate_left
                                        · intro w'
                                          go_simp
                                          with_reducible rfl
                                        rotate_left
                                        · simp only [Act.put, List.setIfInBounds_toArray, List.set_cons_zero, List.set_cons_succ, i64_w, i32_w]
                                          rfl
                                        refine take_ (i := 5) (N := some 78) (v := ?_) (a' := ?_) #[true, true, true, true, true, true, true, false, false, false, true, false, true, false, false, false] rfl rfl (take_ofW HT_.out HW_.out (by kernel_rfl)) (fun _ _ _ h => h) (Or.inl ⟨by rfl, ?_⟩) hHeld ?_ ?_
                                        rotate_left
                                        · rintro w' ⟨s0, s1, s2, s3, s4, s5⟩
                                          go_simp
                                          with_reducible rfl
                                        rotate_left
                                        · simp only [Act.put, List.setIfInBounds_toArray, List.set_cons_zero, List.set_cons_succ, i64_w, i32_w]
                                          rfl
                                        refine take_ (i := 7) (N := some 80) (v := ?_) (a' := ?_) #[true, true, true, true, true, true, true, true, false, false, true, false, true, false, false, false] rfl rfl (take_ofW HT_.out HW_.out (by kernel_rfl)) (fun _ _ _ h => h) (Or.inl ⟨by rfl, ?_⟩) hHeld ?_ ?_
                                        rotate_left
                                        · rintro w' ⟨s0, s1, s2, s3, s4, s5⟩
                                          go_simp
                                          with_reducible rfl
                                        rotate_left
                                        · simp only [Act.put, List.setIfInBounds_toArray, List.set_cons_zero, List.set_cons_succ, i64_w, i32_w]
                                          rfl
                                        refine pure_ (i := 8) (N := some 81) (v := ?_) (a' := ?_) #[true, true, true, true, true, true, true, true, true, false, true, false, true, false, false, false] rfl rfl (any_of HT_.out (by kernel_rfl)) (fun _ _ _ h => h) (Or.inl ⟨by rfl, ?_⟩) ?_ ?_
                                        rotate_left
                                        · intro w'
                                          go_simp
                                          with_reducible rfl
                                        rotate_left
                                        · simp only [Act.put, List.setIfInBounds_toArray, List.set_cons_zero, List.set_cons_succ, i64_w, i32_w]
                                          rfl
                                        refine pure_ (i := 9) (N := some 82) (v := ?_) (a' := ?_) #[true, true, true, true, true, true, true, true, true, true, true, false, true, false, false, false] rfl rfl (any_of HT_.out (by kernel_rfl)) (fun _ _ _ h => h) (Or.inl ⟨by rfl, ?_⟩) ?_ ?_
                                        rotate_left
                                        · intro w'
                                          go_simp
                                          with_reducible rfl
                                        rotate_left
                                        · simp only [Act.put, List.setIfInBounds_toArray, List.set_cons_zero, List.set_cons_succ, i64_w, i32_w]
                                          rfl
                                        refine pure_ (i := 11) (N := some 84) (v := ?_) (a' := ?_) #[true, true, true, true, true, true, true, true, true, true, true, true, true, false, false, false] rfl rfl (any_of HT_.out (by kernel_rfl)) (fun _ _ _ h => h) (Or.inl ⟨by rfl, ?_⟩) ?_ ?_
                                        rotate_left
                                        · intro w'
                                          go_simp
                                          with_reducible rfl
                                        rotate_left
                                        · simp only [Act.put, List.setIfInBounds_toArray, List.set_cons_zero, List.set_cons_succ, i64_w, i32_w]
                                          rfl
                                        refine one_ (i := 13) (N := some 86) #[true, true, true, true, true, true, true, true, true, true, true, true, true, true, false, false] rfl rfl (one_of HT_.out (by kernel_rfl)) (by decide) (fun K hK => ?_)
                                        refine goes_ Try.func26 (by kernel_rfl) rfl #[.int .i64 (wrap64 ((wrap64 ((wrap64 (((rd_T41 l1 x9_2).f1) - t156)) + 1)) + x13_3)), .int .i64 a0] (by rfl) rfl rfl (by (try simp only [List.map_toArray, List.map_cons, List.map_nil]); first | done | rfl | (simp only [List.length_drop, List.length_take]; rfl)) ?_
                                        with_reducible refine (railplanref1_Mod.calls (wrap64 ((wrap64 ((wrap64 (((rd_T41 l1 x9_2).f1) - t156)) + 1)) + x13_3)) a0 t162 _ A28.out).mono ?_
                                        rintro e w' ⟨rfl, ⟨nd, rfl⟩⟩
                                        refine ⟨_, rfl, ?_⟩
                                        have p31 : 0 ≤ (t162 : Int) := of_decide_eq_true (by first | (with_reducible assumption) | assumption)
                                        have q31 : (t162 : Int) < ((x8_3.length : Int) : Int) := of_decide_eq_true (by first | (with_reducible assumption) | assumption)
                                        obtain ⟨go31, co31, eo31, gb31, gl31, cl31, HG31⟩ := Kd.R_form HO_8.out (by omega)
                                        (first | cases eo31 | (injection eo31 with ea_ en_ ec_; (first | subst ea_ | (injection ea_ with ea_; subst ea_)); subst ec_; clear en_))
                                        have GB31 := Aside0.mk gb31
                                        have GG31 := Aside0.mk HG31
                                        clear gb31 gl31 HG31
                                        obtain ⟨hx31_0, hf31_0⟩ := Kd.R_celln false HO_8.out (t162 : Int) p31 q31
                                        replace p31 := eq_true p31
                                        replace q31 := eq_true q31
                                        have HP33 := Kd.R_putn HO_8.out (t162 : Int) true
                                        rw [← Ny163.out] at HP33
                                        have HQ33 := Aside0.mk HP33
                                        clear HP33
                                        refine hK.out _ _ ⟨(blk_cell BK158.out 0).trans rfl, (blk_cell BK158.out 1).trans rfl, (blk_cell BK158.out 2).trans rfl, ((HB.out.cell (World.block_lt_of_cell? w _ hw161_0)).trans hw161_0), ((HB.out.cell (World.block_lt_of_cell? w _ hw161_1)).trans hw161_1), ((HB.out.cell (World.block_lt_of_cell? w _ hw161_2)).trans hw161_2)⟩ (fun hHeld => ?_)
                                        clear hK K
                                        refine norm_ (a' := ?_) ?_ ?_
                                        rotate_left
                                        · show Act.put _ (some 86) _ = _
                                          simp only [Act.put, List.setIfInBounds_toArray, List.set_cons_zero, List.set_cons_succ, i64_w, i32_w]
                                          rfl
                                        refine pure_ (i := 14) (N := some 87) (v := ?_) (a' := ?_) #[true, true, true, true, true, true, true, true, true, true, true, true, true, true, true, false] rfl rfl (any_of HT_.out (by kernel_rfl)) (fun _ _ _ h => h) (Or.inl ⟨by rfl, ?_⟩) ?_ ?_
                                        rotate_left
                                        · intro w'
                                          go_simp
                                          with_reducible rfl
                                        rotate_left
                                        · simp only [Act.put, List.setIfInBounds_toArray, List.set_cons_zero, List.set_cons_succ, i64_w, i32_w]
                                          rfl
                                        refine last_ (i := 15) (N := none) #[true, true, true, true, true, true, true, true, true, true, true, true, true, true, true, true] rfl rfl (one_of HT_.out (by kernel_rfl)) (by decide) (fun K hK => ?_)
                                        refine skip_ (w1 := ?_) (by rfl) rfl ?_ ?_
                                        rotate_left
                                        · go_simp
                                          rfl
                                        refine hK.out _ _ ?_
                                        clear hK K
                                        refine done_ (done_of HT_.out (by kernel_rfl)) ?_
                                        try go_wp2
                                        go_roundg k3
                                        case measure => have := HJ5.out; have := HK2.out; have := HK3.out; omega
                                        case rel => exact ⟨(y163), (wrap64 (x13_3 + 1)), (by first | rfl | (simp; done) | (simp [*]; done)), H', ⟨by have := HJ5.out; have := HK2.out; have := HK3.out; omega⟩, ⟨by (with_reducible repeat (first | apply Kd.R_alloc | apply Kd.R_drewN | apply Kd.R_drew)); exact HQ33.out⟩, ⟨by (with_reducible repeat (first | refine blk_drewN ?_ _ | refine blk_drew ?_ | refine blk_alloc ?_ _)); refine blk_far ?_ (by have h_ := Kd.R_ne HO_8.out BK158.out (by decide); intro e_; exact h_ (by rw [e_]; rfl)) _; (with_reducible repeat (first | refine blk_drewN ?_ _ | refine blk_drew ?_ | refine blk_alloc ?_ _)); exact BK158.out⟩, ⟨by repeat (first | (with_reducible first | exact HB.out | apply below_alloc | apply pw_below_drewN | apply below_drew1 | refine below_set ?_ GB31.out | refine below_set ?_ GE158.out) | exact HB.out)⟩⟩
                                      · rw [if_neg c30] at H
                                        exact absurd H (by simp)
                                    · rw [if_neg c29] at H
                                      exact absurd H (by simp)
                                  · rw [if_neg c27] at H
                                    exact absurd H (by simp)
                                · rw [if_neg c26] at H
                                  exact absurd H (by simp)
                              · rw [if_neg c25] at H
                                have c25b0 : decide (x13_3 < a0) = false := decide_eq_false c25
                                clear c25
                                have H' := Aside0.mk H
                                clear H
                                go_wp2
                                go_roundg k3
                                case measure => have := HJ5.out; have := HK2.out; have := HK3.out; omega
                                case rel => exact ⟨(x8_3), (wrap64 (x9_2 + 1)), (by first | rfl | (simp; done) | (simp [*]; done)), H', ⟨by have := HJ5.out; have := HK2.out; have := HK3.out; omega⟩, ⟨by (with_reducible repeat (first | apply Kd.R_alloc | apply Kd.R_drewN | apply Kd.R_drew)); exact HO_8.out⟩, ⟨by repeat (first | (with_reducible first | exact HB.out | apply below_alloc | apply pw_below_drewN | apply below_drew1 | refine below_set ?_ GE158.out) | exact HB.out)⟩⟩
                            · rw [if_neg c24] at H
                              have c24b0 : decide (x13_3 < (wrap64 ((wrap64 ((wrap64 ((wrap64 (((rd_T41 l1 x9_2).f2) - ((rd_T41 l1 x9_2).f1))) + t156)) - t155)) - 1))) = false := decide_eq_false c24
                              clear c24
                              have H' := Aside0.mk H
                              clear H
                              go_wp2
                              go_roundg k3
                              case measure => have := HJ5.out; have := HK2.out; have := HK3.out; omega
                              case rel => exact ⟨(x8_3), (wrap64 (x9_2 + 1)), (by first | rfl | (simp; done) | (simp [*]; done)), H', ⟨by have := HJ5.out; have := HK2.out; have := HK3.out; omega⟩, ⟨by (with_reducible repeat (first | apply Kd.R_alloc | apply Kd.R_drewN | apply Kd.R_drew)); exact HO_8.out⟩, ⟨by repeat (first | (with_reducible first | exact HB.out | apply below_alloc | apply pw_below_drewN | apply below_drew1 | refine below_set ?_ GE158.out) | exact HB.out)⟩⟩
                      · replace c18 := Bool.eq_false_iff.mpr c18
                        subst c18
                        have H1 : (railplanref9_forbidden.l0 k2 a0 l1 l2 x8_2 (wrap64 (x9_2 + 1))) = some (r1, r2) := by rw [if_neg (show ¬ (false = true) by decide)] at H; exact H
                        clear H
                        have H := H1
                        clear H1
                        have H' := Aside0.mk H
                        clear H
                        have p153 : 0 ≤ (x9_2 : Int) := of_decide_eq_true (by first | (with_reducible assumption) | assumption)
                        have q153 : x9_2 < (l1.length : Int) := of_decide_eq_true (by first | (with_reducible assumption) | assumption)
                        obtain ⟨ad153, e153, hx153_0, hx153_1, hx153_2⟩ := at_T41 HR1.out x9_2 p153 q153
                        cases e153
                        replace hx153_0 := (HB.out.cell (World.block_lt_of_cell? w _ hx153_0)).trans hx153_0
                        replace hx153_1 := (HB.out.cell (World.block_lt_of_cell? w _ hx153_1)).trans hx153_1
                        replace hx153_2 := (HB.out.cell (World.block_lt_of_cell? w _ hx153_2)).trans hx153_2
                        replace p153 := eq_true p153
                        replace q153 := eq_true q153
                        go_wp2_with (first | ((with_reducible refine gate_callee (f := 50) rfl ?_); refine goesL_ (some 40) rfl rfl Try.func50 (by kernel_rfl) rfl #[.slice A2 l2.length c2, .int .i64 ((rd_T41 l1 x9_2).f0)] rfl (by (try simp only [List.map_toArray, List.map_cons, List.map_nil]); first | done | rfl | (simp only [List.length_drop, List.length_take]; rfl)) ?_; (with_reducible refine (railplanref9_find.calls k2 _ _ l2 ((rd_T41 l1 x9_2).f0) t154 t155 t156 false _ ?side1 ?side2 A17.out).mono ?_); (case side1 => repeat (first | exact (Kd.C_below HR2.out HB.out) | (with_reducible refine Kd.C_alloc ?_ _) | (with_reducible refine Kd.C_drewN ?_ _) | (with_reducible refine Kd.C_drew ?_))); (case side2 => exact HC2.out); rintro e w34 ⟨rfl, hb⟩; refine ⟨_, rfl, ?_⟩; have n0_ := Aside0.mk (Kd.R_below (by (with_reducible repeat (first | apply Kd.R_alloc | apply Kd.R_drewN | apply Kd.R_drew)); exact HO_8.out) hb); have n1_ := Aside0.mk (below_step (by repeat (first | (with_reducible first | exact HB.out | apply below_alloc | apply pw_below_drewN | apply below_drew1) | exact HB.out)) hb); clear HO_8; clear HB; have HO_8 := n0_; have HB := n1_; clear n0_ n1_; (try clear hb); (try clear hb2); (try clear hk); (try clear hi)) | ((with_reducible refine gate_dst (N := 10) rfl ?_); refine box_event ?hg (N := 10) ?hd (cs := #[.int .i64 0, .int .i64 0, .int .i64 0]) (t := 41) ?hr ?_; (case hd => rfl); (case hg => rfl); (case hr => first | (go_simp; done) | (go_simp; rfl)); intro gb158 hg w35 hbox hb; have n0_ := Aside0.mk (Kd.R_below (by (with_reducible repeat (first | apply Kd.R_alloc | apply Kd.R_drewN | apply Kd.R_drew)); exact HO_8.out) hb); have n1_ := Aside0.mk (below_step (by repeat (first | (with_reducible first | exact HB.out | apply below_alloc | apply pw_below_drewN | apply below_drew1) | exact HB.out)) hb); have n2_ := Aside0.mk (hbox); have n3_ := Aside0.mk ((by rw [hg]; exact (below_size (by repeat (first | (with_reducible first | exact HB.out | apply below_alloc | apply pw_below_drewN | apply below_drew1) | exact HB.out))) : w.heap.size ≤ gb158)); have n4_ := Aside0.mk ((by rw [hg]; exact (below_size (by repeat (first | (with_reducible first | exact HB.out | apply below_alloc | apply pw_below_drewN | apply below_drew1) | exact HB.out))) : w.heap.size ≤ gb158)); clear HO_8; clear HB; have HO_8 := n0_; have HB := n1_; have BK158 := n2_; have GW158 := n3_; have GE158 := n4_; clear n0_ n1_ n2_ n3_ n4_; clear hb hbox hg; have hcz36_0 : w35.cell? ⟨gb158, 0, none⟩ = some (.int .i64 0) := (blk_cell BK158.out 0).trans rfl; have hcz36_1 : w35.cell? ⟨gb158, 1, none⟩ = some (.int .i64 0) := (blk_cell BK158.out 1).trans rfl; have hcz36_2 : w35.cell? ⟨gb158, 2, none⟩ = some (.int .i64 0) := (blk_cell BK158.out 2).trans rfl; have hfz36_0 := blk_frozen BK158.out 0; have hfz36_1 := blk_frozen BK158.out 1; have hfz36_2 := blk_frozen BK158.out 2))
                        go_roundg k2
                        case measure => have := HJ5.out; have := HK2.out; omega
                        case rel => exact ⟨(x8_2), (wrap64 (x9_2 + 1)), (by first | rfl | (simp; done) | (simp [*]; done)), H', ⟨by have := HJ5.out; have := HK2.out; omega⟩, ⟨by (with_reducible repeat (first | apply Kd.R_alloc | apply Kd.R_drewN | apply Kd.R_drew)); exact Kd.R_mono (Kd.R_far (p := ⟨gb158, 2, none⟩) (Kd.R_far (p := ⟨gb158, 1, none⟩) (Kd.R_far (p := ⟨gb158, 0, none⟩) (Kd.R_types HO_8.out BK158.out (by decide)) (fun _ hk => hk.2) (.int .i64 t154)) (fun _ hk => hk.2) (.int .i64 t155)) (fun _ hk => hk.2) (.int .i64 t156)) (fun _ hk => trivial)⟩, ⟨by repeat (first | (with_reducible first | exact HB.out | apply below_alloc | apply pw_below_drewN | apply below_drew1 | refine below_set ?_ GE158.out) | exact HB.out)⟩⟩
                    · rw [if_neg c16] at H
                      exact absurd H (by simp)
                  · rw [if_neg c15] at H
                    have c15b0 : decide (x9_2 < (l1.length : Int)) = false := decide_eq_false c15
                    clear c15
                    simp only [Option.some.injEq, Prod.mk.injEq] at H
                    obtain ⟨rfl, rfl⟩ := H
                    go_wp2
                    go_ret2
                    exact ⟨_, by first | rfl | (simp [errW_none, errW_some] <;> rfl) | (simp [*, errW_none, errW_some] <;> rfl), by (with_reducible repeat (first | apply Kd.R_alloc | apply Kd.R_drewN | apply Kd.R_drew)); exact HO_8.out, by repeat (first | (with_reducible first | exact HB.out | apply below_alloc | apply pw_below_drewN | apply below_drew1) | exact HB.out)⟩
            · rw [if_neg c12] at H
              exact absurd H (by simp)
          · rw [if_neg c11] at H
            exact absurd H (by simp)
  · replace c5 := Bool.eq_false_iff.mpr c5
    subst c5
    have H1 : (some (([] : List Bool), 4)) = some (r1, r2) := by rw [if_neg (show ¬ (false = true) by decide)] at H; exact H
    clear H
    have H := H1
    clear H1
    simp only [Option.some.injEq, Prod.mk.injEq] at H
    obtain ⟨rfl, rfl⟩ := H
    go_enter Try.func43, Try.ntmps43
    go_wp2_with (first | ((with_reducible refine gate_callee (f := 51) rfl ?_); refine goesL_ (some 15) rfl rfl Try.func51 (by kernel_rfl) rfl #[.int .i64 a0, .int .i64 1, .int .i64 7200] rfl (by (try simp only [List.map_toArray, List.map_cons, List.map_nil]); first | done | rfl | (simp only [List.length_drop, List.length_take]; rfl)) ?_; (with_reducible refine (railplanref9_in.calls a0 1 7200 false _ A4.out).mono ?_); rintro e w' ⟨rfl, ⟨nd, rfl⟩⟩; refine ⟨_, rfl, ?_⟩))
    go_ret2
    exact ⟨_, by first | rfl | (simp [errW_none, errW_some] <;> rfl) | (simp [*, errW_none, errW_some] <;> rfl), by first | exact Kd.R_nil _ _ _ _ _ | exact Kd.N_nil _ _ _ _ _ | exact Kd.V_nil _ _ _ _ _ | exact Kd.Q_nil _ _ _ _ _ | exact Kd.S_nil _ _ _ _ _, by repeat (first | (with_reducible first | exact HB.out | apply below_alloc | apply pw_below_drewN | apply below_drew1) | exact HB.out)⟩

end Go.Proofs.Ytcdldldknfpkjaa.PHw
