-- PRINTED BY print.sh 35421559b90ae4d0a3588c463048766b98c2df88dd9212a6774a882060cdf62d: not written by this session
import Derived.Test.YtdnileakboefgaaPResidueKeepsArgumentsx0
import Derived.Test.YtdnileakboefgaaPResidueKeepsArgumentsx2
import Derived.Test.YtdnileakboefgaaPResidueKeepsArgumentsx4
namespace Go.Proofs.Ytdnileakboefgaa.PResidueKeepsArguments
open Go.RowKit Go.Proofs.YtdnileakboefgaaW.PrintWords Go.Proofs.YtdnileakboefgaaW.PrintLast Go.Proofs.YtdnileakboefgaaW.PrintMore
attribute [local go_sem] max2_int min2_int max_two min_two max_three min_three max_four min_four   -- for this text's walks alone
set_option linter.unusedVariables false
set_option linter.unusedSimpArgs false

/-! ### railplanref1_Make: function 21 -/
def railplanref1_Make.l0 : Nat → Int → Int → List Bool → Int → Int → Option ((List (S35)) × Int)
  | 0, _, _, _, _, _ => none
  | k + 1, x0, x2, x9, x10, x11 => if x11 < x2 then (if x11 < x0 then (if 0 ≤ x10 then (if x10 < (x9.length : Int) then (if x0 = 0 then (none) else (railplanref1_Make.l0 k x0 x2 (x9.set (x10 : Int).toNat true) (Int.tmod (wrap64 (x10 + 1)) x0) (wrap64 (x11 + 1)))) else (none)) else (none)) else ((railplanref1_spans.f k x9).bind fun t162 => (some (t162, 0)))) else ((railplanref1_spans.f k x9).bind fun t165 => (some (t165, 0)))
def railplanref1_Make.f (k : Nat) (a0 : Int) (a1 : Int) (a2 : Int) : Option ((List (S35)) × Int) := (railplanref1_bad.f k a0 ([] : List (S35)) ([] : List (S35))).bind fun t156 => (if t156 = 0 then (if 0 ≤ a0 then (if (a0 : Int).toNat ≤ 281474976710656 then ((railplanref1_Mod.f a1 a0).bind fun t160 => (railplanref1_Make.l0 k a0 a2 (List.replicate (a0 : Int).toNat false) t160 0)) else (none)) else (none)) else (some (([] : List (S35)), t156)))
theorem railplanref1_Make.mono_l : ∀ k, (∀ y0 y1 y2 y3 y4, LeO (railplanref1_Make.l0 k y0 y1 y2 y3 y4) (railplanref1_Make.l0 (k + 1) y0 y1 y2 y3 y4))
  | 0 => fun _ _ _ _ _ r h => by simp [railplanref1_Make.l0] at h
  | k + 1 => by
    have ih0 := railplanref1_Make.mono_l k
    · intro y0 y1 y2 y3 y4
      unfold railplanref1_Make.l0
      repeat' first
      | (with_reducible exact ih0 _ _ _ _ _)
      | (with_reducible exact railplanref1_bad.mono _ _ _ _)
      | (with_reducible exact railplanref1_spans.mono _ _)
      | (with_reducible exact LeO.refl _)
      | (with_reducible exact LeO.none _)
      | (with_reducible refine LeO.ite ?_ ?_)
      | (with_reducible refine LeO.bind ?_ (fun _ => ?_))
      | exact ih0 _ _ _ _ _
      | exact railplanref1_bad.mono _ _ _ _
      | exact railplanref1_spans.mono _ _
      | exact LeO.none _
      | refine LeO.ite ?_ ?_
      | refine LeO.bind ?_ (fun _ => ?_)
theorem railplanref1_Make.mono : ∀ a0 a1 a2 k, LeO (railplanref1_Make.f k a0 a1 a2) (railplanref1_Make.f (k + 1) a0 a1 a2) := by
  intro a0 a1 a2 k
  have ih0 := railplanref1_Make.mono_l k
  unfold railplanref1_Make.f
  repeat' first
      | (with_reducible exact ih0 _ _ _ _ _)
      | (with_reducible exact railplanref1_bad.mono _ _ _ _)
      | (with_reducible exact railplanref1_spans.mono _ _)
      | (with_reducible exact LeO.refl _)
      | (with_reducible exact LeO.none _)
      | (with_reducible refine LeO.ite ?_ ?_)
      | (with_reducible refine LeO.bind ?_ (fun _ => ?_))
      | exact ih0 _ _ _ _ _
      | exact railplanref1_bad.mono _ _ _ _
      | exact railplanref1_spans.mono _ _
      | exact LeO.none _
      | refine LeO.ite ?_ ?_
      | refine LeO.bind ?_ (fun _ => ?_)
set_option maxHeartbeats 8000000 in
set_option maxRecDepth 100000 in
theorem railplanref1_Make.calls (k : Nat) (a0 : Int) (a1 : Int) (a2 : Int) (r1 : List (S35)) (r2 : Int) (w : World) (h : railplanref1_Make.f k a0 a1 a2 = some (r1, r2)) :
    Calls Try.prog 21 #[.int .i64 a0, .int .i64 a1, .int .i64 a2] w fun e w' => ∃ v0_ : Value, e = .returned (.tuple #[v0_, .int .i64 r2]) ∧ Kd.R k35 35 w' w.heap.size (fun _ => True) v0_ r1 ∧ Below w.heap.size w w' := by
  have HB := Aside0.mk (Below.refl w.heap.size w)
  have H : ((railplanref1_bad.f k a0 ([] : List (S35)) ([] : List (S35))).bind fun t156 => (if t156 = 0 then (if 0 ≤ a0 then (if (a0 : Int).toNat ≤ 281474976710656 then ((railplanref1_Mod.f a1 a0).bind fun t160 => (railplanref1_Make.l0 k a0 a2 (List.replicate (a0 : Int).toNat false) t160 0)) else (none)) else (none)) else (some (([] : List (S35)), t156)))) = some (r1, r2) := h
  clear h
  replace H := Option.bind_eq_some_iff.mp H
  obtain ⟨t156, A40, H⟩ := H
  replace H : (if t156 = 0 then (if 0 ≤ a0 then (if (a0 : Int).toNat ≤ 281474976710656 then ((railplanref1_Mod.f a1 a0).bind fun t160 => (railplanref1_Make.l0 k a0 a2 (List.replicate (a0 : Int).toNat false) t160 0)) else (none)) else (none)) else (some (([] : List (S35)), t156))) = some (r1, r2) := H
  have A4 := Aside0.mk A40
  clear A40
  by_cases c5 : t156 = 0
  · rw [if_pos c5] at H
    have c5b0 : (t156 == 0) = true := beq_iff_eq.mpr c5
    have c5b1 : (t156 != 0) = false := bne_eq_false_iff_eq.mpr c5
    clear c5
    by_cases c6 : 0 ≤ a0
    · rw [if_pos c6] at H
      have c6b0 := eq_true c6
      have c6b1 : decide (0 ≤ a0) = true := decide_eq_true c6
      clear c6
      by_cases c7 : (a0 : Int).toNat ≤ 281474976710656
      · rw [if_pos c7] at H
        have c7b0 := eq_true c7
        have c7b1 : decide ((a0 : Int).toNat ≤ 281474976710656) = true := decide_eq_true c7
        clear c7
        obtain ⟨y157, hy157⟩ : ∃ y_ : List Bool, y_ = (List.replicate (a0 : Int).toNat false) := ⟨_, rfl⟩
        replace H : ((railplanref1_Mod.f a1 a0).bind fun t160 => (railplanref1_Make.l0 k a0 a2 y157 t160 0)) = some (r1, r2) := by first | (rw [hy157]; with_reducible exact H) | (have H2_ := (Option.bind_some _ _).symm.trans H; rw [hy157]; with_reducible exact H2_) | (have H2_ := (Option.bind_some _ _).symm.trans H; with_reducible exact H2_) | with_reducible exact H | (rw [hy157]; exact H) | exact H
        have Ny157 := Aside0.mk hy157
        clear hy157
        replace H := Option.bind_eq_some_iff.mp H
        obtain ⟨t160, A80, H⟩ := H
        replace H : (railplanref1_Make.l0 k a0 a2 y157 t160 0) = some (r1, r2) := H
        have A8 := Aside0.mk A80
        clear A80
        have H' := Aside0.mk H
        clear H
        go_enter Try.func21, Try.ntmps21
        go_wp2_with (first | ((with_reducible refine gate_callee (f := 48) rfl ?_); refine goesL_ (some 13) rfl rfl Try.func48 (by kernel_rfl) rfl #[.int .i64 a0, .slice none 0 0, .slice none 0 0] rfl (by (try simp only [List.map_toArray, List.map_cons, List.map_nil]); first | done | rfl | (simp only [List.length_drop, List.length_take]; rfl)) ?_; (refine (railplanref1_bad.calls k a0 _ _ ([] : List (S35)) _ _ ([] : List (S35)) t156 _ ?side1 ?side2 ?side3 ?side4 A4.out).mono ?_); (case side1 => exact Kd.C_nil _ _); (case side2 => exact Nat.le_refl _); (case side3 => exact Kd.C_nil _ _); (case side4 => exact Nat.le_refl _); rintro e w' ⟨rfl, ⟨nd, rfl⟩⟩; refine ⟨_, rfl, ?_⟩) | ((with_reducible refine gate_dst (N := 18) rfl ?_); refine Kd.R_make Kd.bool _ 4 rfl (N := 18) rfl 58 _ _ rfl a0 rfl rfl Try.underlying58 (.bool false) 1 info4 rfl (by decide) (by omega) false (ok := fun _ => True) (okp := fun _ => True) rfl (fun _ hk => hk) trivial (of_decide_eq_true (by first | (with_reducible assumption) | assumption)) (Nat.le_trans (Nat.mul_le_mul_right _ (of_decide_eq_true (by first | (with_reducible assumption) | assumption) : a0.toNat ≤ 281474976710656)) (by omega)) (Below.refl _ _) (Nat.le_refl _) ?_; intro v158 w9 ho10 hb hg_ hnew_; clear hg_ hnew_; (first | rw [← Ny157.out] at ho10 | (simp only [Int.reduceToNat] at ho10; rw [← Ny157.out] at ho10)); have n0_ := Aside0.mk (Kd.R_lower ho10 (below_size (by repeat (first | (with_reducible first | exact HB.out | apply below_alloc | apply pw_below_drewN | apply below_drew1) | exact HB.out)))); have n1_ := Aside0.mk (below_step (by repeat (first | (with_reducible first | exact HB.out | apply below_alloc | apply pw_below_drewN | apply below_drew1) | exact HB.out)) hb); clear HB; have HO159 := n0_; have HB := n1_; clear n0_ n1_; clear hb ho10) | ((with_reducible refine gate_callee (f := 49) rfl ?_); refine goesL_ (some 21) rfl rfl Try.func49 (by kernel_rfl) rfl #[.int .i64 a1, .int .i64 a0] rfl (by (try simp only [List.map_toArray, List.map_cons, List.map_nil]); first | done | rfl | (simp only [List.length_drop, List.length_take]; rfl)) ?_; (with_reducible refine (railplanref1_Mod.calls a1 a0 t160 _ A8.out).mono ?_); rintro e w' ⟨rfl, ⟨nd, rfl⟩⟩; refine ⟨_, rfl, ?_⟩))
        go_loopg [10, 11] k (fun kq v10 v11 w' => ∃ (x9_1 : List Bool) (x10_1 : Int) (x11_1 : Int), v10 = .int .i64 x10_1 ∧ v11 = .int .i64 x11_1 ∧ Aside0 (railplanref1_Make.l0 kq a0 a2 x9_1 x10_1 x11_1 = some (r1, r2)) ∧ Aside0 (kq ≤ k) ∧ Aside0 (Kd.R Kd.bool 4 w' w.heap.size (fun _ => True) v158 x9_1) ∧ Aside0 (Below w.heap.size w w'))
        case atStart => exact ⟨(y157), (t160), (0), (by first | rfl | (simp; done) | (simp [*]; done)), (by first | rfl | (simp; done) | (simp [*]; done)), H', ⟨Nat.le_refl _⟩, ⟨by (with_reducible repeat (first | apply Kd.R_alloc | apply Kd.R_drewN | apply Kd.R_drew)); exact HO159.out⟩, ⟨by repeat (first | (with_reducible first | exact HB.out | apply below_alloc | apply pw_below_drewN | apply below_drew1) | exact HB.out)⟩⟩
        case round =>
          clear H'
          try clear c2
          try clear p2
          try clear c4
          try clear c5
          try clear c5b0
          try clear c5b1
          try clear c6
          try clear c6b0
          try clear c6b1
          try clear c7
          try clear c7b0
          try clear c7b1
          obtain ⟨x9_1, x10_1, x11_1, rfl, rfl, HA, HK1, HO_9, HB⟩ := hrel
          cases gk with
          | zero => exact absurd HA.out (by simp [railplanref1_Make.l0])
          | succ k1 =>
            have H := HA.out
            clear HA
            simp only [railplanref1_Make.l0] at H
            by_cases c11 : x11_1 < a2
            · rw [if_pos c11] at H
              have c11b0 : decide (x11_1 < a2) = true := decide_eq_true c11
              clear c11
              by_cases c12 : x11_1 < a0
              · rw [if_pos c12] at H
                have c12b0 : decide (x11_1 < a0) = true := decide_eq_true c12
                clear c12
                by_cases c13 : 0 ≤ x10_1
                · rw [if_pos c13] at H
                  have c13b0 : decide (0 ≤ x10_1) = true := decide_eq_true c13
                  clear c13
                  by_cases c14 : x10_1 < (x9_1.length : Int)
                  · rw [if_pos c14] at H
                    have c14b0 : decide (x10_1 < (x9_1.length : Int)) = true := decide_eq_true c14
                    clear c14
                    obtain ⟨y161, hy161⟩ : ∃ y_ : List Bool, y_ = (x9_1.set (x10_1 : Int).toNat true) := ⟨_, rfl⟩
                    replace H : (if a0 = 0 then (none) else (railplanref1_Make.l0 k1 a0 a2 y161 (Int.tmod (wrap64 (x10_1 + 1)) a0) (wrap64 (x11_1 + 1)))) = some (r1, r2) := by first | (rw [hy161]; with_reducible exact H) | (have H2_ := (Option.bind_some _ _).symm.trans H; rw [hy161]; with_reducible exact H2_) | (have H2_ := (Option.bind_some _ _).symm.trans H; with_reducible exact H2_) | with_reducible exact H | (rw [hy161]; exact H) | exact H
                    have Ny161 := Aside0.mk hy161
                    clear hy161
                    by_cases c16 : a0 = 0
                    · rw [if_pos c16] at H
                      exact absurd H (by simp)
                    · rw [if_neg c16] at H
                      have c16b0 : (a0 == 0) = false := beq_eq_false_iff_ne.mpr c16
                      have c16b1 : (a0 != 0) = true := bne_iff_ne.mpr c16
                      have H' := Aside0.mk H
                      clear H
                      have p15 : 0 ≤ (x10_1 : Int) := of_decide_eq_true (by first | (with_reducible assumption) | assumption)
                      have q15 : (x10_1 : Int) < ((x9_1.length : Int) : Int) := of_decide_eq_true (by first | (with_reducible assumption) | assumption)
                      obtain ⟨go15, co15, eo15, gb15, gl15, cl15, HG15⟩ := Kd.R_form HO_9.out (by omega)
                      (first | cases eo15 | (injection eo15 with ea_ en_ ec_; (first | subst ea_ | (injection ea_ with ea_; subst ea_)); subst ec_; clear en_))
                      have GB15 := Aside0.mk gb15
                      have GG15 := Aside0.mk HG15
                      clear gb15 gl15 HG15
                      obtain ⟨hx15_0, hf15_0⟩ := Kd.R_celln false HO_9.out (x10_1 : Int) p15 q15
                      replace p15 := eq_true p15
                      replace q15 := eq_true q15
                      have HP17 := Kd.R_putg HO_9.out (x10_1 : Int) true
                      go_wp2_with (first | ((with_reducible refine gate_store (t := 4) (p := 34) rfl ?_); refine store_event (t := 4) (p := 34) (v := ?vo_w18) (w1 := (wr.setCell ⟨go15, (x10_1 : Int).toNat, none⟩ (.bool true))) ?hg ?ho ?hn ?hr ?_; (case ho => rfl); (case hg => rfl); (case hn => rfl); (case hr => first | (go_simp; done) | (go_simp; rfl)); intro w18 hw; have hg : wr.grownBy w18 (some go15) := (by rw [hw]; exact HP17.2); have hp_ : Kd.R Kd.bool 4 w18 w.heap.size (fun _ => True) (.slice (some ⟨go15, 0, none⟩) x9_1.length co15) y161 := (by rw [hw, Ny161.out]; exact HP17.1); clear HP17; have n0_ := Aside0.mk (hp_); have n1_ := Aside0.mk ((by rw [hw]; exact below_set (HB.out) GB15.out : Below w.heap.size w w18)); clear HO_9; clear HB; have HO_9 := n0_; have HB := n1_; clear n0_ n1_; clear hg hw hp_))
                      go_roundg k1
                      case measure => have := HK1.out; omega
                      case rel => exact ⟨(y161), (Int.tmod (wrap64 (x10_1 + 1)) a0), (wrap64 (x11_1 + 1)), (by first | rfl | (simp; done) | (simp [*]; done)), (by first | rfl | (simp; done) | (simp [*]; done)), H', ⟨by have := HK1.out; omega⟩, ⟨by (with_reducible repeat (first | apply Kd.R_alloc | apply Kd.R_drewN | apply Kd.R_drew)); exact HO_9.out⟩, ⟨by repeat (first | (with_reducible first | exact HB.out | apply below_alloc | apply pw_below_drewN | apply below_drew1) | exact HB.out)⟩⟩
                  · rw [if_neg c14] at H
                    exact absurd H (by simp)
                · rw [if_neg c13] at H
                  exact absurd H (by simp)
              · rw [if_neg c12] at H
                have c12b0 : decide (x11_1 < a0) = false := decide_eq_false c12
                clear c12
                replace H := Option.bind_eq_some_iff.mp H
                obtain ⟨t162, A190, H⟩ := H
                replace H : (some (t162, 0)) = some (r1, r2) := H
                have A19 := Aside0.mk A190
                clear A190
                simp only [Option.some.injEq, Prod.mk.injEq] at H
                obtain ⟨rfl, rfl⟩ := H
                obtain ⟨Ao20, co20, eo20⟩ := Kd.R_slice HO_9.out
                subst eo20
                go_wp2_with (first | ((with_reducible refine gate_callee (f := 50) rfl ?_); refine goesL_ (some 40) rfl rfl Try.func50 (by kernel_rfl) rfl #[.slice Ao20 x9_1.length co20] rfl (by (try simp only [List.map_toArray, List.map_cons, List.map_nil]); first | done | rfl | (simp only [List.length_drop, List.length_take]; rfl)) ?_; (with_reducible refine (railplanref1_spans.calls k1 _ _ x9_1 t162 _ ?side1 ?side2 A19.out).mono ?_); (case side1 => repeat (first | exact (Kd.R_reads' HO_9.out).2.2 | (with_reducible refine Kd.C_alloc ?_ _) | (with_reducible refine Kd.C_drewN ?_ _) | (with_reducible refine Kd.C_drew ?_))); (case side2 => exact (Kd.R_reads' HO_9.out).2.1); rintro e w21 ⟨v163, rfl, ho0, hb⟩; refine ⟨_, rfl, ?_⟩; have n0_ := Aside0.mk (Kd.R_below (by (with_reducible repeat (first | apply Kd.R_alloc | apply Kd.R_drewN | apply Kd.R_drew)); exact HO_9.out) hb); have n1_ := Aside0.mk (Kd.R_lower ho0 (below_size (by repeat (first | (with_reducible first | exact HB.out | apply below_alloc | apply pw_below_drewN | apply below_drew1) | exact HB.out)))); have n2_ := Aside0.mk (below_step (by repeat (first | (with_reducible first | exact HB.out | apply below_alloc | apply pw_below_drewN | apply below_drew1) | exact HB.out)) hb); clear HO_9; clear HB; have HO_9 := n0_; have HO164 := n1_; have HB := n2_; clear n0_ n1_ n2_; (try clear hb); (try clear hb2); (try clear hk); (try clear hi); (try clear ho0)))
                go_ret2
                exact ⟨_, by first | rfl | (simp [errW_none, errW_some] <;> rfl) | (simp [*, errW_none, errW_some] <;> rfl), by (with_reducible repeat (first | apply Kd.R_alloc | apply Kd.R_drewN | apply Kd.R_drew)); exact HO164.out, by repeat (first | (with_reducible first | exact HB.out | apply below_alloc | apply pw_below_drewN | apply below_drew1) | exact HB.out)⟩
            · rw [if_neg c11] at H
              have c11b0 : decide (x11_1 < a2) = false := decide_eq_false c11
              clear c11
              replace H := Option.bind_eq_some_iff.mp H
              obtain ⟨t165, A220, H⟩ := H
              replace H : (some (t165, 0)) = some (r1, r2) := H
              have A22 := Aside0.mk A220
              clear A220
              simp only [Option.some.injEq, Prod.mk.injEq] at H
              obtain ⟨rfl, rfl⟩ := H
              obtain ⟨Ao23, co23, eo23⟩ := Kd.R_slice HO_9.out
              subst eo23
              go_wp2_with (first | ((with_reducible refine gate_callee (f := 50) rfl ?_); refine goesL_ (some 40) rfl rfl Try.func50 (by kernel_rfl) rfl #[.slice Ao23 x9_1.length co23] rfl (by (try simp only [List.map_toArray, List.map_cons, List.map_nil]); first | done | rfl | (simp only [List.length_drop, List.length_take]; rfl)) ?_; (with_reducible refine (railplanref1_spans.calls k1 _ _ x9_1 t165 _ ?side1 ?side2 A22.out).mono ?_); (case side1 => repeat (first | exact (Kd.R_reads' HO_9.out).2.2 | (with_reducible refine Kd.C_alloc ?_ _) | (with_reducible refine Kd.C_drewN ?_ _) | (with_reducible refine Kd.C_drew ?_))); (case side2 => exact (Kd.R_reads' HO_9.out).2.1); rintro e w24 ⟨v166, rfl, ho0, hb⟩; refine ⟨_, rfl, ?_⟩; have n0_ := Aside0.mk (Kd.R_below (by (with_reducible repeat (first | apply Kd.R_alloc | apply Kd.R_drewN | apply Kd.R_drew)); exact HO_9.out) hb); have n1_ := Aside0.mk (Kd.R_lower ho0 (below_size (by repeat (first | (with_reducible first | exact HB.out | apply below_alloc | apply pw_below_drewN | apply below_drew1) | exact HB.out)))); have n2_ := Aside0.mk (below_step (by repeat (first | (with_reducible first | exact HB.out | apply below_alloc | apply pw_below_drewN | apply below_drew1) | exact HB.out)) hb); clear HO_9; clear HB; have HO_9 := n0_; have HO167 := n1_; have HB := n2_; clear n0_ n1_ n2_; (try clear hb); (try clear hb2); (try clear hk); (try clear hi); (try clear ho0)))
              go_ret2
              exact ⟨_, by first | rfl | (simp [errW_none, errW_some] <;> rfl) | (simp [*, errW_none, errW_some] <;> rfl), by (with_reducible repeat (first | apply Kd.R_alloc | apply Kd.R_drewN | apply Kd.R_drew)); exact HO167.out, by repeat (first | (with_reducible first | exact HB.out | apply below_alloc | apply pw_below_drewN | apply below_drew1) | exact HB.out)⟩
      · rw [if_neg c7] at H
        exact absurd H (by simp)
    · rw [if_neg c6] at H
      exact absurd H (by simp)
  · rw [if_neg c5] at H
    have c5b0 : (t156 == 0) = false := beq_eq_false_iff_ne.mpr c5
    have c5b1 : (t156 != 0) = true := bne_iff_ne.mpr c5
    simp only [Option.some.injEq, Prod.mk.injEq] at H
    obtain ⟨rfl, rfl⟩ := H
    go_enter Try.func21, Try.ntmps21
    go_wp2_with (first | ((with_reducible refine gate_callee (f := 48) rfl ?_); refine goesL_ (some 13) rfl rfl Try.func48 (by kernel_rfl) rfl #[.int .i64 a0, .slice none 0 0, .slice none 0 0] rfl (by (try simp only [List.map_toArray, List.map_cons, List.map_nil]); first | done | rfl | (simp only [List.length_drop, List.length_take]; rfl)) ?_; (refine (railplanref1_bad.calls k a0 _ _ ([] : List (S35)) _ _ ([] : List (S35)) t156 _ ?side1 ?side2 ?side3 ?side4 A4.out).mono ?_); (case side1 => exact Kd.C_nil _ _); (case side2 => exact Nat.le_refl _); (case side3 => exact Kd.C_nil _ _); (case side4 => exact Nat.le_refl _); rintro e w' ⟨rfl, ⟨nd, rfl⟩⟩; refine ⟨_, rfl, ?_⟩))
    go_ret2
    exact ⟨_, by first | rfl | (simp [errW_none, errW_some] <;> rfl) | (simp [*, errW_none, errW_some] <;> rfl), by first | exact Kd.R_nil _ _ _ _ _ | exact Kd.N_nil _ _ _ _ _ | exact Kd.V_nil _ _ _ _ _ | exact Kd.Q_nil _ _ _ _ _ | exact Kd.S_nil _ _ _ _ _, by repeat (first | (with_reducible first | exact HB.out | apply below_alloc | apply pw_below_drewN | apply below_drew1) | exact HB.out)⟩

/-! ### railplanref1_marks: function 52 -/
mutual
def railplanref1_marks.l0 : Nat → List (S35) → List Bool → Int → Option (List Bool)
  | 0, _, _, _ => none
  | k + 1, x1, x5, x6 => if x6 < (x1.length : Int) then (if 0 ≤ x6 then (railplanref1_marks.l1 k x1 x5 x6 ((rd_T35 x1 x6).f0)) else (none)) else (some x5)
def railplanref1_marks.l1 : Nat → List (S35) → List Bool → Int → Int → Option (List Bool)
  | 0, _, _, _, _ => none
  | k + 1, x1, x5, x6, x7 => if 0 ≤ x6 then (if x6 < (x1.length : Int) then (if x7 < ((rd_T35 x1 x6).f1) then (if 0 ≤ x7 then (if x7 < (x5.length : Int) then (railplanref1_marks.l1 k x1 (x5.set (x7 : Int).toNat true) x6 (wrap64 (x7 + 1))) else (none)) else (none)) else (railplanref1_marks.l0 k x1 x5 (wrap64 (x6 + 1)))) else (none)) else (none)
end
def railplanref1_marks.f (k : Nat) (a0 : Int) (l1 : List (S35)) : Option (List Bool) := if 0 ≤ a0 then (if (a0 : Int).toNat ≤ 281474976710656 then (railplanref1_marks.l0 k l1 (List.replicate (a0 : Int).toNat false) 0) else (none)) else (none)
theorem railplanref1_marks.mono_l : ∀ k, (∀ y0 y1 y2, LeO (railplanref1_marks.l0 k y0 y1 y2) (railplanref1_marks.l0 (k + 1) y0 y1 y2)) ∧ (∀ y0 y1 y2 y3, LeO (railplanref1_marks.l1 k y0 y1 y2 y3) (railplanref1_marks.l1 (k + 1) y0 y1 y2 y3))
  | 0 => ⟨fun _ _ _ r h => by simp [railplanref1_marks.l0] at h, fun _ _ _ _ r h => by simp [railplanref1_marks.l1] at h⟩
  | k + 1 => by
    obtain ⟨ih0, ih1⟩ := railplanref1_marks.mono_l k
    refine ⟨?_, ?_⟩
    · intro y0 y1 y2
      unfold railplanref1_marks.l0
      repeat' first
      | (with_reducible exact ih0 _ _ _)
      | (with_reducible exact ih1 _ _ _ _)
      | (with_reducible exact LeO.refl _)
      | (with_reducible exact LeO.none _)
      | (with_reducible refine LeO.ite ?_ ?_)
      | (with_reducible refine LeO.bind ?_ (fun _ => ?_))
      | exact ih0 _ _ _
      | exact ih1 _ _ _ _
      | exact LeO.none _
      | refine LeO.ite ?_ ?_
      | refine LeO.bind ?_ (fun _ => ?_)
    · intro y0 y1 y2 y3
      unfold railplanref1_marks.l1
      repeat' first
      | (with_reducible exact ih0 _ _ _)
      | (with_reducible exact ih1 _ _ _ _)
      | (with_reducible exact LeO.refl _)
      | (with_reducible exact LeO.none _)
      | (with_reducible refine LeO.ite ?_ ?_)
      | (with_reducible refine LeO.bind ?_ (fun _ => ?_))
      | exact ih0 _ _ _
      | exact ih1 _ _ _ _
      | exact LeO.none _
      | refine LeO.ite ?_ ?_
      | refine LeO.bind ?_ (fun _ => ?_)
theorem railplanref1_marks.mono : ∀ a0 a1 k, LeO (railplanref1_marks.f k a0 a1) (railplanref1_marks.f (k + 1) a0 a1) := by
  intro a0 a1 k
  obtain ⟨ih0, ih1⟩ := railplanref1_marks.mono_l k
  unfold railplanref1_marks.f
  repeat' first
      | (with_reducible exact ih0 _ _ _)
      | (with_reducible exact ih1 _ _ _ _)
      | (with_reducible exact LeO.refl _)
      | (with_reducible exact LeO.none _)
      | (with_reducible refine LeO.ite ?_ ?_)
      | (with_reducible refine LeO.bind ?_ (fun _ => ?_))
      | exact ih0 _ _ _
      | exact ih1 _ _ _ _
      | exact LeO.none _
      | refine LeO.ite ?_ ?_
      | refine LeO.bind ?_ (fun _ => ?_)
set_option maxHeartbeats 8000000 in
set_option maxRecDepth 100000 in
theorem railplanref1_marks.calls (k : Nat) (a0 : Int) (A1 : Option Addr) (c1 : Nat) (l1 : List (S35)) (r : List Bool) (w : World) (hr1 : Kd.C k35 w A1 l1.length l1) (hc1 : l1.length ≤ c1) (h : railplanref1_marks.f k a0 l1 = some r) :
    Calls Try.prog 52 #[.int .i64 a0, .slice A1 l1.length c1] w fun e w' => ∃ v0_ : Value, e = .returned (v0_) ∧ Kd.R Kd.bool 4 w' w.heap.size (fun _ => True) v0_ r ∧ Below w.heap.size w w' := by
  have HR1 := Aside0.mk hr1
  have HC1 := Aside0.mk hc1
  clear hr1 hc1
  have HB := Aside0.mk (Below.refl w.heap.size w)
  have H : (if 0 ≤ a0 then (if (a0 : Int).toNat ≤ 281474976710656 then (railplanref1_marks.l0 k l1 (List.replicate (a0 : Int).toNat false) 0) else (none)) else (none)) = some r := h
  clear h
  by_cases c3 : 0 ≤ a0
  · rw [if_pos c3] at H
    have c3b0 := eq_true c3
    have c3b1 : decide (0 ≤ a0) = true := decide_eq_true c3
    clear c3
    by_cases c4 : (a0 : Int).toNat ≤ 281474976710656
    · rw [if_pos c4] at H
      have c4b0 := eq_true c4
      have c4b1 : decide ((a0 : Int).toNat ≤ 281474976710656) = true := decide_eq_true c4
      clear c4
      obtain ⟨y168, hy168⟩ : ∃ y_ : List Bool, y_ = (List.replicate (a0 : Int).toNat false) := ⟨_, rfl⟩
      replace H : (railplanref1_marks.l0 k l1 y168 0) = some r := by first | (rw [hy168]; with_reducible exact H) | (have H2_ := (Option.bind_some _ _).symm.trans H; rw [hy168]; with_reducible exact H2_) | (have H2_ := (Option.bind_some _ _).symm.trans H; with_reducible exact H2_) | with_reducible exact H | (rw [hy168]; exact H) | exact H
      have Ny168 := Aside0.mk hy168
      clear hy168
      have H' := Aside0.mk H
      clear H
      go_enter Try.func52, Try.ntmps52
      go_wp2_with (first | ((with_reducible refine gate_dst (N := 9) rfl ?_); refine Kd.R_make Kd.bool _ 4 rfl (N := 9) rfl 58 _ _ rfl a0 rfl rfl Try.underlying58 (.bool false) 1 info4 rfl (by decide) (by omega) false (ok := fun _ => True) (okp := fun _ => True) rfl (fun _ hk => hk) trivial (of_decide_eq_true (by first | (with_reducible assumption) | assumption)) (Nat.le_trans (Nat.mul_le_mul_right _ (of_decide_eq_true (by first | (with_reducible assumption) | assumption) : a0.toNat ≤ 281474976710656)) (by omega)) (Below.refl _ _) (Nat.le_refl _) ?_; intro v169 w5 ho6 hb hg_ hnew_; clear hg_ hnew_; (first | rw [← Ny168.out] at ho6 | (simp only [Int.reduceToNat] at ho6; rw [← Ny168.out] at ho6)); have n0_ := Aside0.mk (Kd.R_lower ho6 (below_size (by repeat (first | (with_reducible first | exact HB.out | apply below_alloc | apply pw_below_drewN | apply below_drew1) | exact HB.out)))); have n1_ := Aside0.mk (below_step (by repeat (first | (with_reducible first | exact HB.out | apply below_alloc | apply pw_below_drewN | apply below_drew1) | exact HB.out)) hb); clear HB; have HO170 := n0_; have HB := n1_; clear n0_ n1_; clear hb ho6))
      go_loopg [6] k (fun kq v6 w' => ∃ (x5_1 : List Bool) (x6_1 : Int), v6 = .int .i64 x6_1 ∧ Aside0 (railplanref1_marks.l0 kq l1 x5_1 x6_1 = some r) ∧ Aside0 (kq ≤ k) ∧ Aside0 (Kd.R Kd.bool 4 w' w.heap.size (fun _ => True) v169 x5_1) ∧ Aside0 (Below w.heap.size w w'))
      case atStart => exact ⟨(y168), (0), (by first | rfl | (simp; done) | (simp [*]; done)), H', ⟨Nat.le_refl _⟩, ⟨by (with_reducible repeat (first | apply Kd.R_alloc | apply Kd.R_drewN | apply Kd.R_drew)); exact HO170.out⟩, ⟨by repeat (first | (with_reducible first | exact HB.out | apply below_alloc | apply pw_below_drewN | apply below_drew1) | exact HB.out)⟩⟩
      case round =>
        clear H'
        try clear c1
        try clear p2
        try clear c3
        try clear c3b0
        try clear c3b1
        try clear c4
        try clear c4b0
        try clear c4b1
        try clear c5
        obtain ⟨x5_1, x6_1, rfl, HA, HK1, HO_5, HB⟩ := hrel
        cases gk with
        | zero => exact absurd HA.out (by simp [railplanref1_marks.l0])
        | succ k1 =>
          have H := HA.out
          clear HA
          simp only [railplanref1_marks.l0] at H
          by_cases c7 : x6_1 < (l1.length : Int)
          · rw [if_pos c7] at H
            have c7b0 : decide (x6_1 < (l1.length : Int)) = true := decide_eq_true c7
            clear c7
            by_cases c8 : 0 ≤ x6_1
            · rw [if_pos c8] at H
              have c8b0 : decide (0 ≤ x6_1) = true := decide_eq_true c8
              clear c8
              have H' := Aside0.mk H
              clear H
              have p171 : 0 ≤ (x6_1 : Int) := of_decide_eq_true (by first | (with_reducible assumption) | assumption)
              have q171 : x6_1 < (l1.length : Int) := of_decide_eq_true (by first | (with_reducible assumption) | assumption)
              obtain ⟨ad171, e171, hx171_0, hx171_1⟩ := at_T35 HR1.out x6_1 p171 q171
              cases e171
              replace hx171_0 := (HB.out.cell (World.block_lt_of_cell? w _ hx171_0)).trans hx171_0
              replace hx171_1 := (HB.out.cell (World.block_lt_of_cell? w _ hx171_1)).trans hx171_1
              replace p171 := eq_true p171
              replace q171 := eq_true q171
              go_wp2
              go_loopg [7] k1 (fun kq v7 w' => ∃ (x5_2 : List Bool) (x7_2 : Int), v7 = .int .i64 x7_2 ∧ Aside0 (railplanref1_marks.l1 kq l1 x5_2 x6_1 x7_2 = some r) ∧ Aside0 (kq ≤ k1) ∧ Aside0 (Kd.R Kd.bool 4 w' w.heap.size (fun _ => True) v169 x5_2) ∧ Aside0 (Below w.heap.size w w'))
              case atStart => exact ⟨(x5_1), ((rd_T35 l1 x6_1).f0), (by first | rfl | (simp; done) | (simp [*]; done)), H', ⟨Nat.le_refl _⟩, ⟨by (with_reducible repeat (first | apply Kd.R_alloc | apply Kd.R_drewN | apply Kd.R_drew)); exact HO_5.out⟩, ⟨by repeat (first | (with_reducible first | exact HB.out | apply below_alloc | apply pw_below_drewN | apply below_drew1) | exact HB.out)⟩⟩
              case round =>
                clear H'
                try clear c1
                try clear p1
                try clear q1
                try clear hx1
                try clear p2
                try clear c3
                try clear c3b0
                try clear c3b1
                try clear c4
                try clear c4b0
                try clear c4b1
                try clear c5
                try clear c7
                try clear c7b0
                try clear c8
                try clear c8b0
                try clear hx171_0
                try clear hx171_1
                try clear p171
                try clear p2
                try clear q171
                obtain ⟨x5_2, x7_2, rfl, HA, HK2, HO_5, HB⟩ := hrel
                cases gk with
                | zero => exact absurd HA.out (by simp [railplanref1_marks.l1])
                | succ k2 =>
                  have H := HA.out
                  clear HA
                  simp only [railplanref1_marks.l1] at H
                  by_cases c9 : 0 ≤ x6_1
                  · rw [if_pos c9] at H
                    have c9b0 : decide (0 ≤ x6_1) = true := decide_eq_true c9
                    clear c9
                    by_cases c10 : x6_1 < (l1.length : Int)
                    · rw [if_pos c10] at H
                      have c10b0 : decide (x6_1 < (l1.length : Int)) = true := decide_eq_true c10
                      clear c10
                      by_cases c11 : x7_2 < ((rd_T35 l1 x6_1).f1)
                      · rw [if_pos c11] at H
                        have c11b0 : decide (x7_2 < ((rd_T35 l1 x6_1).f1)) = true := decide_eq_true c11
                        clear c11
                        by_cases c12 : 0 ≤ x7_2
                        · rw [if_pos c12] at H
                          have c12b0 : decide (0 ≤ x7_2) = true := decide_eq_true c12
                          clear c12
                          by_cases c13 : x7_2 < (x5_2.length : Int)
                          · rw [if_pos c13] at H
                            have c13b0 : decide (x7_2 < (x5_2.length : Int)) = true := decide_eq_true c13
                            clear c13
                            obtain ⟨y173, hy173⟩ : ∃ y_ : List Bool, y_ = (x5_2.set (x7_2 : Int).toNat true) := ⟨_, rfl⟩
                            replace H : (railplanref1_marks.l1 k2 l1 y173 x6_1 (wrap64 (x7_2 + 1))) = some r := by first | (rw [hy173]; with_reducible exact H) | (have H2_ := (Option.bind_some _ _).symm.trans H; rw [hy173]; with_reducible exact H2_) | (have H2_ := (Option.bind_some _ _).symm.trans H; with_reducible exact H2_) | with_reducible exact H | (rw [hy173]; exact H) | exact H
                            have Ny173 := Aside0.mk hy173
                            clear hy173
                            have H' := Aside0.mk H
                            clear H
                            have p172 : 0 ≤ (x6_1 : Int) := of_decide_eq_true (by first | (with_reducible assumption) | assumption)
                            have q172 : x6_1 < (l1.length : Int) := of_decide_eq_true (by first | (with_reducible assumption) | assumption)
                            obtain ⟨ad172, e172, hx172_0, hx172_1⟩ := at_T35 HR1.out x6_1 p172 q172
                            obtain rfl : ad171 = ad172 := (by injection e172)
                            replace hx172_0 := (HB.out.cell (World.block_lt_of_cell? w _ hx172_0)).trans hx172_0
                            replace hx172_1 := (HB.out.cell (World.block_lt_of_cell? w _ hx172_1)).trans hx172_1
                            replace p172 := eq_true p172
                            replace q172 := eq_true q172
                            have p14 : 0 ≤ (x7_2 : Int) := of_decide_eq_true (by first | (with_reducible assumption) | assumption)
                            have q14 : (x7_2 : Int) < ((x5_2.length : Int) : Int) := of_decide_eq_true (by first | (with_reducible assumption) | assumption)
                            obtain ⟨go14, co14, eo14, gb14, gl14, cl14, HG14⟩ := Kd.R_form HO_5.out (by omega)
                            (first | cases eo14 | (injection eo14 with ea_ en_ ec_; (first | subst ea_ | (injection ea_ with ea_; subst ea_)); subst ec_; clear en_))
                            have GB14 := Aside0.mk gb14
                            have GG14 := Aside0.mk HG14
                            clear gb14 gl14 HG14
                            obtain ⟨hx14_0, hf14_0⟩ := Kd.R_celln false HO_5.out (x7_2 : Int) p14 q14
                            replace p14 := eq_true p14
                            replace q14 := eq_true q14
                            have HP15 := Kd.R_putg HO_5.out (x7_2 : Int) true
                            go_wp2_with (first | ((with_reducible refine gate_store (t := 4) (p := 32) rfl ?_); refine store_event (t := 4) (p := 32) (v := ?vo_w16) (w1 := (wr.setCell ⟨go14, (x7_2 : Int).toNat, none⟩ (.bool true))) ?hg ?ho ?hn ?hr ?_; (case ho => rfl); (case hg => rfl); (case hn => rfl); (case hr => first | (go_simp; done) | (go_simp; rfl)); intro w16 hw; have hg : wr.grownBy w16 (some go14) := (by rw [hw]; exact HP15.2); have hp_ : Kd.R Kd.bool 4 w16 w.heap.size (fun _ => True) (.slice (some ⟨go14, 0, none⟩) x5_2.length co14) y173 := (by rw [hw, Ny173.out]; exact HP15.1); clear HP15; have n0_ := Aside0.mk (hp_); have n1_ := Aside0.mk ((by rw [hw]; exact below_set (HB.out) GB14.out : Below w.heap.size w w16)); clear HO_5; clear HB; have HO_5 := n0_; have HB := n1_; clear n0_ n1_; clear hg hw hp_))
                            go_roundg k2
                            case measure => have := HK1.out; have := HK2.out; omega
                            case rel => exact ⟨(y173), (wrap64 (x7_2 + 1)), (by first | rfl | (simp; done) | (simp [*]; done)), H', ⟨by have := HK1.out; have := HK2.out; omega⟩, ⟨by (with_reducible repeat (first | apply Kd.R_alloc | apply Kd.R_drewN | apply Kd.R_drew)); exact HO_5.out⟩, ⟨by repeat (first | (with_reducible first | exact HB.out | apply below_alloc | apply pw_below_drewN | apply below_drew1) | exact HB.out)⟩⟩
                          · rw [if_neg c13] at H
                            exact absurd H (by simp)
                        · rw [if_neg c12] at H
                          exact absurd H (by simp)
                      · rw [if_neg c11] at H
                        have c11b0 : decide (x7_2 < ((rd_T35 l1 x6_1).f1)) = false := decide_eq_false c11
                        clear c11
                        have H' := Aside0.mk H
                        clear H
                        have p172 : 0 ≤ (x6_1 : Int) := of_decide_eq_true (by first | (with_reducible assumption) | assumption)
                        have q172 : x6_1 < (l1.length : Int) := of_decide_eq_true (by first | (with_reducible assumption) | assumption)
                        obtain ⟨ad172, e172, hx172_0, hx172_1⟩ := at_T35 HR1.out x6_1 p172 q172
                        obtain rfl : ad171 = ad172 := (by injection e172)
                        replace hx172_0 := (HB.out.cell (World.block_lt_of_cell? w _ hx172_0)).trans hx172_0
                        replace hx172_1 := (HB.out.cell (World.block_lt_of_cell? w _ hx172_1)).trans hx172_1
                        replace p172 := eq_true p172
                        replace q172 := eq_true q172
                        go_wp2
                        go_roundg k2
                        case measure => have := HK1.out; have := HK2.out; omega
                        case rel => exact ⟨(x5_2), (wrap64 (x6_1 + 1)), (by first | rfl | (simp; done) | (simp [*]; done)), H', ⟨by have := HK1.out; have := HK2.out; omega⟩, ⟨by (with_reducible repeat (first | apply Kd.R_alloc | apply Kd.R_drewN | apply Kd.R_drew)); exact HO_5.out⟩, ⟨by repeat (first | (with_reducible first | exact HB.out | apply below_alloc | apply pw_below_drewN | apply below_drew1) | exact HB.out)⟩⟩
                    · rw [if_neg c10] at H
                      exact absurd H (by simp)
                  · rw [if_neg c9] at H
                    exact absurd H (by simp)
            · rw [if_neg c8] at H
              exact absurd H (by simp)
          · rw [if_neg c7] at H
            have c7b0 : decide (x6_1 < (l1.length : Int)) = false := decide_eq_false c7
            clear c7
            obtain rfl := Option.some.inj H
            go_wp2
            go_ret
            exact ⟨_, by first | rfl | (simp [errW_none, errW_some] <;> rfl) | (simp [*, errW_none, errW_some] <;> rfl), by (with_reducible repeat (first | apply Kd.R_alloc | apply Kd.R_drewN | apply Kd.R_drew)); exact HO_5.out, by repeat (first | (with_reducible first | exact HB.out | apply below_alloc | apply pw_below_drewN | apply below_drew1) | exact HB.out)⟩
    · rw [if_neg c4] at H
      exact absurd H (by simp)
  · rw [if_neg c3] at H
    exact absurd H (by simp)

/-! ### railplanref1_Union: function 36 -/
def railplanref1_Union.l0 : Nat → Int → List Bool → List Bool → Int → Option ((List (S35)) × Int)
  | 0, _, _, _, _ => none
  | k + 1, x0, x9, x10, x11 => if x11 < x0 then (if 0 ≤ x11 then (if x11 < (x9.length : Int) then (if rdOf false x9 x11 = true then (railplanref1_Union.l0 k x0 (x9.set (x11 : Int).toNat true) x10 (wrap64 (x11 + 1))) else (if x11 < (x10.length : Int) then (railplanref1_Union.l0 k x0 (x9.set (x11 : Int).toNat (rdOf false x10 x11)) x10 (wrap64 (x11 + 1))) else (none))) else (none)) else (none)) else ((railplanref1_spans.f k x9).bind fun t185 => (some (t185, 0)))
def railplanref1_Union.f (k : Nat) (a0 : Int) (l1 : List (S35)) (l2 : List (S35)) : Option ((List (S35)) × Int) := (railplanref1_bad.f k a0 l1 l2).bind fun t174 => (if t174 = 0 then ((railplanref1_marks.f k a0 l1).bind fun t175 => ((railplanref1_marks.f k a0 l2).bind fun t178 => (railplanref1_Union.l0 k a0 t175 t178 0))) else (some (([] : List (S35)), t174)))
theorem railplanref1_Union.mono_l : ∀ k, (∀ y0 y1 y2 y3, LeO (railplanref1_Union.l0 k y0 y1 y2 y3) (railplanref1_Union.l0 (k + 1) y0 y1 y2 y3))
  | 0 => fun _ _ _ _ r h => by simp [railplanref1_Union.l0] at h
  | k + 1 => by
    have ih0 := railplanref1_Union.mono_l k
    · intro y0 y1 y2 y3
      unfold railplanref1_Union.l0
      repeat' first
      | (with_reducible exact ih0 _ _ _ _)
      | (with_reducible exact railplanref1_bad.mono _ _ _ _)
      | (with_reducible exact railplanref1_marks.mono _ _ _)
      | (with_reducible exact railplanref1_spans.mono _ _)
      | (with_reducible exact LeO.refl _)
      | (with_reducible exact LeO.none _)
      | (with_reducible refine LeO.ite ?_ ?_)
      | (with_reducible refine LeO.bind ?_ (fun _ => ?_))
      | exact ih0 _ _ _ _
      | exact railplanref1_bad.mono _ _ _ _
      | exact railplanref1_marks.mono _ _ _
      | exact railplanref1_spans.mono _ _
      | exact LeO.none _
      | refine LeO.ite ?_ ?_
      | refine LeO.bind ?_ (fun _ => ?_)
theorem railplanref1_Union.mono : ∀ a0 a1 a2 k, LeO (railplanref1_Union.f k a0 a1 a2) (railplanref1_Union.f (k + 1) a0 a1 a2) := by
  intro a0 a1 a2 k
  have ih0 := railplanref1_Union.mono_l k
  unfold railplanref1_Union.f
  repeat' first
      | (with_reducible exact ih0 _ _ _ _)
      | (with_reducible exact railplanref1_bad.mono _ _ _ _)
      | (with_reducible exact railplanref1_marks.mono _ _ _)
      | (with_reducible exact railplanref1_spans.mono _ _)
      | (with_reducible exact LeO.refl _)
      | (with_reducible exact LeO.none _)
      | (with_reducible refine LeO.ite ?_ ?_)
      | (with_reducible refine LeO.bind ?_ (fun _ => ?_))
      | exact ih0 _ _ _ _
      | exact railplanref1_bad.mono _ _ _ _
      | exact railplanref1_marks.mono _ _ _
      | exact railplanref1_spans.mono _ _
      | exact LeO.none _
      | refine LeO.ite ?_ ?_
      | refine LeO.bind ?_ (fun _ => ?_)
set_option maxHeartbeats 8000000 in
set_option maxRecDepth 100000 in
theorem railplanref1_Union.calls (k : Nat) (a0 : Int) (A1 : Option Addr) (c1 : Nat) (l1 : List (S35)) (A2 : Option Addr) (c2 : Nat) (l2 : List (S35)) (r1 : List (S35)) (r2 : Int) (w : World) (hr1 : Kd.C k35 w A1 l1.length l1) (hc1 : l1.length ≤ c1) (hr2 : Kd.C k35 w A2 l2.length l2) (hc2 : l2.length ≤ c2) (h : railplanref1_Union.f k a0 l1 l2 = some (r1, r2)) :
    Calls Try.prog 36 #[.int .i64 a0, .slice A1 l1.length c1, .slice A2 l2.length c2] w fun e w' => ∃ v0_ : Value, e = .returned (.tuple #[v0_, .int .i64 r2]) ∧ Kd.R k35 35 w' w.heap.size (fun _ => True) v0_ r1 ∧ Below w.heap.size w w' := by
  have HR1 := Aside0.mk hr1
  have HC1 := Aside0.mk hc1
  clear hr1 hc1
  have HR2 := Aside0.mk hr2
  have HC2 := Aside0.mk hc2
  clear hr2 hc2
  have HB := Aside0.mk (Below.refl w.heap.size w)
  have H : ((railplanref1_bad.f k a0 l1 l2).bind fun t174 => (if t174 = 0 then ((railplanref1_marks.f k a0 l1).bind fun t175 => ((railplanref1_marks.f k a0 l2).bind fun t178 => (railplanref1_Union.l0 k a0 t175 t178 0))) else (some (([] : List (S35)), t174)))) = some (r1, r2) := h
  clear h
  replace H := Option.bind_eq_some_iff.mp H
  obtain ⟨t174, A40, H⟩ := H
  replace H : (if t174 = 0 then ((railplanref1_marks.f k a0 l1).bind fun t175 => ((railplanref1_marks.f k a0 l2).bind fun t178 => (railplanref1_Union.l0 k a0 t175 t178 0))) else (some (([] : List (S35)), t174))) = some (r1, r2) := H
  have A4 := Aside0.mk A40
  clear A40
  by_cases c5 : t174 = 0
  · rw [if_pos c5] at H
    have c5b0 : (t174 == 0) = true := beq_iff_eq.mpr c5
    have c5b1 : (t174 != 0) = false := bne_eq_false_iff_eq.mpr c5
    clear c5
    replace H := Option.bind_eq_some_iff.mp H
    obtain ⟨t175, A60, H⟩ := H
    replace H : ((railplanref1_marks.f k a0 l2).bind fun t178 => (railplanref1_Union.l0 k a0 t175 t178 0)) = some (r1, r2) := H
    have A6 := Aside0.mk A60
    clear A60
    replace H := Option.bind_eq_some_iff.mp H
    obtain ⟨t178, A70, H⟩ := H
    replace H : (railplanref1_Union.l0 k a0 t175 t178 0) = some (r1, r2) := H
    have A7 := Aside0.mk A70
    clear A70
    have H' := Aside0.mk H
    clear H
    go_enter Try.func36, Try.ntmps36
    go_wp2_with (first | ((with_reducible refine gate_callee (f := 48) rfl ?_); refine goesL_ (some 15) rfl rfl Try.func48 (by kernel_rfl) rfl #[.int .i64 a0, .slice A1 l1.length c1, .slice A2 l2.length c2] rfl (by (try simp only [List.map_toArray, List.map_cons, List.map_nil]); first | done | rfl | (simp only [List.length_drop, List.length_take]; rfl)) ?_; (with_reducible refine (railplanref1_bad.calls k a0 _ _ l1 _ _ l2 t174 _ ?side1 ?side2 ?side3 ?side4 A4.out).mono ?_); (case side1 => repeat (first | exact HR1.out | (with_reducible refine Kd.C_alloc ?_ _) | (with_reducible refine Kd.C_drewN ?_ _) | (with_reducible refine Kd.C_drew ?_))); (case side2 => exact HC1.out); (case side3 => repeat (first | exact HR2.out | (with_reducible refine Kd.C_alloc ?_ _) | (with_reducible refine Kd.C_drewN ?_ _) | (with_reducible refine Kd.C_drew ?_))); (case side4 => exact HC2.out); rintro e w' ⟨rfl, ⟨nd, rfl⟩⟩; refine ⟨_, rfl, ?_⟩) | ((with_reducible refine gate_callee (f := 52) rfl ?_); refine goesL_ (some 21) rfl rfl Try.func52 (by kernel_rfl) rfl #[.int .i64 a0, .slice A1 l1.length c1] rfl (by (try simp only [List.map_toArray, List.map_cons, List.map_nil]); first | done | rfl | (simp only [List.length_drop, List.length_take]; rfl)) ?_; (with_reducible refine (railplanref1_marks.calls k a0 _ _ l1 t175 _ ?side1 ?side2 A6.out).mono ?_); (case side1 => repeat (first | exact HR1.out | (with_reducible refine Kd.C_alloc ?_ _) | (with_reducible refine Kd.C_drewN ?_ _) | (with_reducible refine Kd.C_drew ?_))); (case side2 => exact HC1.out); rintro e w8 ⟨v176, rfl, ho0, hb⟩; refine ⟨_, rfl, ?_⟩; have n0_ := Aside0.mk (Kd.R_lower ho0 (below_size (by repeat (first | (with_reducible first | exact HB.out | apply below_alloc | apply pw_below_drewN | apply below_drew1) | exact HB.out)))); have n1_ := Aside0.mk (below_step (by repeat (first | (with_reducible first | exact HB.out | apply below_alloc | apply pw_below_drewN | apply below_drew1) | exact HB.out)) hb); clear HB; have HO177 := n0_; have HB := n1_; clear n0_ n1_; (try clear hb); (try clear hb2); (try clear hk); (try clear hi); (try clear ho0)) | ((with_reducible refine gate_callee (f := 52) rfl ?_); refine goesL_ (some 24) rfl rfl Try.func52 (by kernel_rfl) rfl #[.int .i64 a0, .slice A2 l2.length c2] rfl (by (try simp only [List.map_toArray, List.map_cons, List.map_nil]); first | done | rfl | (simp only [List.length_drop, List.length_take]; rfl)) ?_; (with_reducible refine (railplanref1_marks.calls k a0 _ _ l2 t178 _ ?side1 ?side2 A7.out).mono ?_); (case side1 => repeat (first | exact (Kd.C_below HR2.out HB.out) | (with_reducible refine Kd.C_alloc ?_ _) | (with_reducible refine Kd.C_drewN ?_ _) | (with_reducible refine Kd.C_drew ?_))); (case side2 => exact HC2.out); rintro e w9 ⟨v179, rfl, ho0, hb⟩; refine ⟨_, rfl, ?_⟩; have n0_ := Aside0.mk (Kd.R_elder' (by (with_reducible repeat (first | apply Kd.R_alloc | apply Kd.R_drewN | apply Kd.R_drew)); exact HO177.out) (Kd.R_base ho0) hb); have n1_ := Aside0.mk (Kd.R_lower (Kd.R_new' ho0 (Kd.R_lt (by (with_reducible repeat (first | apply Kd.R_alloc | apply Kd.R_drewN | apply Kd.R_drew)); exact HO177.out))) (below_size (by repeat (first | (with_reducible first | exact HB.out | apply below_alloc | apply pw_below_drewN | apply below_drew1) | exact HB.out)))); have n2_ := Aside0.mk (below_step (by repeat (first | (with_reducible first | exact HB.out | apply below_alloc | apply pw_below_drewN | apply below_drew1) | exact HB.out)) hb); clear HO177; clear HB; have HO177 := n0_; have HO180 := n1_; have HB := n2_; clear n0_ n1_ n2_; (try clear hb); (try clear hb2); (try clear hk); (try clear hi); (try clear ho0)))
    go_loopg [11] k (fun kq v11 w' => ∃ (x9_1 : List Bool) (x11_1 : Int), v11 = .int .i64 x11_1 ∧ Aside0 (railplanref1_Union.l0 kq a0 x9_1 t178 x11_1 = some (r1, r2)) ∧ Aside0 (kq ≤ k) ∧ Aside0 (Kd.R Kd.bool 4 w' w.heap.size (fun k_ => some k_ ≠ (v179 : Value).ownBlock) v176 x9_1) ∧ Aside0 (Kd.R Kd.bool 4 w' w.heap.size (fun k_ => some k_ ≠ (v176 : Value).ownBlock) v179 t178) ∧ Aside0 (Below w.heap.size w w'))
    case atStart => exact ⟨(t175), (0), (by first | rfl | (simp; done) | (simp [*]; done)), H', ⟨Nat.le_refl _⟩, ⟨by (with_reducible repeat (first | apply Kd.R_alloc | apply Kd.R_drewN | apply Kd.R_drew)); exact Kd.R_mono HO177.out (fun _ hk => hk.2)⟩, ⟨by (with_reducible repeat (first | apply Kd.R_alloc | apply Kd.R_drewN | apply Kd.R_drew)); exact Kd.R_mono HO180.out (fun _ hk => hk.2)⟩, ⟨by repeat (first | (with_reducible first | exact HB.out | apply below_alloc | apply pw_below_drewN | apply below_drew1) | exact HB.out)⟩⟩
    case round =>
      clear H'
      try clear c1
      try clear c2
      try clear p2
      try clear c3
      try clear c4
      try clear c5
      try clear c5b0
      try clear c5b1
      obtain ⟨x9_1, x11_1, rfl, HA, HK1, HO_9, HO_10, HB⟩ := hrel
      cases gk with
      | zero => exact absurd HA.out (by simp [railplanref1_Union.l0])
      | succ k1 =>
        have H := HA.out
        clear HA
        simp only [railplanref1_Union.l0] at H
        by_cases c10 : x11_1 < a0
        · rw [if_pos c10] at H
          have c10b0 : decide (x11_1 < a0) = true := decide_eq_true c10
          clear c10
          by_cases c11 : 0 ≤ x11_1
          · rw [if_pos c11] at H
            have c11b0 : decide (0 ≤ x11_1) = true := decide_eq_true c11
            clear c11
            by_cases c12 : x11_1 < (x9_1.length : Int)
            · rw [if_pos c12] at H
              have c12b0 : decide (x11_1 < (x9_1.length : Int)) = true := decide_eq_true c12
              clear c12
              obtain ⟨bq13, hbq13⟩ : ∃ b_ : Bool, b_ = (rdOf false x9_1 x11_1) := ⟨_, rfl⟩
              replace H : (if bq13 = true then (railplanref1_Union.l0 k1 a0 (x9_1.set (x11_1 : Int).toNat true) t178 (wrap64 (x11_1 + 1))) else (if x11_1 < (t178.length : Int) then (railplanref1_Union.l0 k1 a0 (x9_1.set (x11_1 : Int).toNat (rdOf false t178 x11_1)) t178 (wrap64 (x11_1 + 1))) else (none))) = some (r1, r2) := by rw [← hbq13] at H; exact H
              have Nbq13 := Aside0.mk hbq13
              clear hbq13
              by_cases c14 : bq13 = true
              · subst c14
                have H1 : (railplanref1_Union.l0 k1 a0 (x9_1.set (x11_1 : Int).toNat true) t178 (wrap64 (x11_1 + 1))) = some (r1, r2) := by rw [if_pos rfl] at H; exact H
                clear H
                have H := H1
                clear H1
                obtain ⟨y182, hy182⟩ : ∃ y_ : List Bool, y_ = (x9_1.set (x11_1 : Int).toNat true) := ⟨_, rfl⟩
                replace H : (railplanref1_Union.l0 k1 a0 y182 t178 (wrap64 (x11_1 + 1))) = some (r1, r2) := by first | (rw [hy182]; with_reducible exact H) | (have H2_ := (Option.bind_some _ _).symm.trans H; rw [hy182]; with_reducible exact H2_) | (have H2_ := (Option.bind_some _ _).symm.trans H; with_reducible exact H2_) | with_reducible exact H | (rw [hy182]; exact H) | exact H
                have Ny182 := Aside0.mk hy182
                clear hy182
                have H' := Aside0.mk H
                clear H
                obtain ⟨Ao16, co16, eo16⟩ := Kd.R_slice HO_9.out
                subst eo16
                have p181 : 0 ≤ (x11_1 : Int) := of_decide_eq_true (by first | (with_reducible assumption) | assumption)
                have q181 : x11_1 < (x9_1.length : Int) := of_decide_eq_true (by first | (with_reducible assumption) | assumption)
                obtain ⟨ad181, e181, hx181_0⟩ := Kd.at_bool (Kd.R_reads' HO_9.out).2.2 x11_1 p181 q181
                (try rw [← Nbq13.out] at hx181_0)
                cases e181
                replace p181 := eq_true p181
                replace q181 := eq_true q181
                have p15 : 0 ≤ (x11_1 : Int) := of_decide_eq_true (by first | (with_reducible assumption) | assumption)
                have q15 : (x11_1 : Int) < ((x9_1.length : Int) : Int) := of_decide_eq_true (by first | (with_reducible assumption) | assumption)
                obtain ⟨go15, co15, eo15, gb15, gl15, cl15, HG15⟩ := Kd.R_form HO_9.out (by omega)
                (first | cases eo15 | (injection eo15 with ea_ en_ ec_; (first | subst ea_ | (injection ea_ with ea_; subst ea_)); subst ec_; clear en_))
                have GB15 := Aside0.mk gb15
                have GG15 := Aside0.mk HG15
                clear gb15 gl15 HG15
                (first | simp only [add_plain] at hx181_0 | skip)
                obtain ⟨hx15_0, hf15_0⟩ := Kd.R_celln false HO_9.out (x11_1 : Int) p15 q15
                replace p15 := eq_true p15
                replace q15 := eq_true q15
                have HP17 := Kd.R_putg HO_9.out (x11_1 : Int) true
                go_wp2_with (first | ((with_reducible refine gate_store (t := 4) (p := 42) rfl ?_); refine store_event (t := 4) (p := 42) (v := ?vo_w18) (w1 := (wr.setCell ⟨go15, (x11_1 : Int).toNat, none⟩ (.bool true))) ?hg ?ho ?hn ?hr ?_; (case ho => rfl); (case hg => rfl); (case hn => rfl); (case hr => first | (go_simp; done) | (go_simp; rfl)); intro w18 hw; have hg : wr.grownBy w18 (some go15) := (by rw [hw]; exact HP17.2); have hp_ : Kd.R Kd.bool 4 w18 w.heap.size (fun k_ => some k_ ≠ (v179 : Value).ownBlock) (.slice (some ⟨go15, 0, none⟩) x9_1.length co16) y182 := (by rw [hw, Ny182.out]; exact HP17.1); clear HP17; have n0_ := Aside0.mk (hp_); have n1_ := Aside0.mk (Kd.R_after (v := (.slice (some ⟨go15, 0, none⟩) x9_1.length co16)) (v1 := (.slice (some ⟨go15, 0, none⟩) x9_1.length co16)) (ok := (fun _ => True)) (by (with_reducible repeat (first | apply Kd.R_alloc | apply Kd.R_drewN | apply Kd.R_drew)); exact Kd.R_mono HO_10.out (fun _ hk => ⟨trivial, hk⟩)) hg (.inl rfl)); have n2_ := Aside0.mk ((by rw [hw]; exact below_set (HB.out) GB15.out : Below w.heap.size w w18)); clear HO_9; clear HO_10; clear HB; have HO_9 := n0_; have HO_10 := n1_; have HB := n2_; clear n0_ n1_ n2_; clear hg hw hp_))
                go_roundg k1
                case measure => have := HK1.out; omega
                case rel => exact ⟨(y182), (wrap64 (x11_1 + 1)), (by first | rfl | (simp; done) | (simp [*]; done)), H', ⟨by have := HK1.out; omega⟩, ⟨by (with_reducible repeat (first | apply Kd.R_alloc | apply Kd.R_drewN | apply Kd.R_drew)); exact HO_9.out⟩, ⟨by (with_reducible repeat (first | apply Kd.R_alloc | apply Kd.R_drewN | apply Kd.R_drew)); exact Kd.R_mono HO_10.out (fun _ hk => hk.2)⟩, ⟨by repeat (first | (with_reducible first | exact HB.out | apply below_alloc | apply pw_below_drewN | apply below_drew1) | exact HB.out)⟩⟩
              · replace c14 := Bool.eq_false_iff.mpr c14
                subst c14
                have H1 : (if x11_1 < (t178.length : Int) then (railplanref1_Union.l0 k1 a0 (x9_1.set (x11_1 : Int).toNat (rdOf false t178 x11_1)) t178 (wrap64 (x11_1 + 1))) else (none)) = some (r1, r2) := by rw [if_neg (show ¬ (false = true) by decide)] at H; exact H
                clear H
                have H := H1
                clear H1
                by_cases c19 : x11_1 < (t178.length : Int)
                · rw [if_pos c19] at H
                  have c19b0 : decide (x11_1 < (t178.length : Int)) = true := decide_eq_true c19
                  clear c19
                  obtain ⟨y184, hy184⟩ : ∃ y_ : List Bool, y_ = (x9_1.set (x11_1 : Int).toNat (rdOf false t178 x11_1)) := ⟨_, rfl⟩
                  replace H : (railplanref1_Union.l0 k1 a0 y184 t178 (wrap64 (x11_1 + 1))) = some (r1, r2) := by first | (rw [hy184]; with_reducible exact H) | (have H2_ := (Option.bind_some _ _).symm.trans H; rw [hy184]; with_reducible exact H2_) | (have H2_ := (Option.bind_some _ _).symm.trans H; with_reducible exact H2_) | with_reducible exact H | (rw [hy184]; exact H) | exact H
                  have Ny184 := Aside0.mk hy184
                  clear hy184
                  have H' := Aside0.mk H
                  clear H
                  obtain ⟨Ao21, co21, eo21⟩ := Kd.R_slice HO_9.out
                  subst eo21
                  have p181 : 0 ≤ (x11_1 : Int) := of_decide_eq_true (by first | (with_reducible assumption) | assumption)
                  have q181 : x11_1 < (x9_1.length : Int) := of_decide_eq_true (by first | (with_reducible assumption) | assumption)
                  obtain ⟨ad181, e181, hx181_0⟩ := Kd.at_bool (Kd.R_reads' HO_9.out).2.2 x11_1 p181 q181
                  (try rw [← Nbq13.out] at hx181_0)
                  cases e181
                  replace p181 := eq_true p181
                  replace q181 := eq_true q181
                  obtain ⟨Ao22, co22, eo22⟩ := Kd.R_slice HO_10.out
                  subst eo22
                  have p183 : 0 ≤ (x11_1 : Int) := of_decide_eq_true (by first | (with_reducible assumption) | assumption)
                  have q183 : x11_1 < (t178.length : Int) := of_decide_eq_true (by first | (with_reducible assumption) | assumption)
                  obtain ⟨ad183, e183, hx183_0⟩ := Kd.at_bool (Kd.R_reads' HO_10.out).2.2 x11_1 p183 q183
                  (try rw [← Nbq13.out] at hx183_0)
                  cases e183
                  replace p183 := eq_true p183
                  replace q183 := eq_true q183
                  have p20 : 0 ≤ (x11_1 : Int) := of_decide_eq_true (by first | (with_reducible assumption) | assumption)
                  have q20 : (x11_1 : Int) < ((x9_1.length : Int) : Int) := of_decide_eq_true (by first | (with_reducible assumption) | assumption)
                  obtain ⟨go20, co20, eo20, gb20, gl20, cl20, HG20⟩ := Kd.R_form HO_9.out (by omega)
                  (first | cases eo20 | (injection eo20 with ea_ en_ ec_; (first | subst ea_ | (injection ea_ with ea_; subst ea_)); subst ec_; clear en_))
                  have GB20 := Aside0.mk gb20
                  have GG20 := Aside0.mk HG20
                  clear gb20 gl20 HG20
                  (first | simp only [add_plain] at hx181_0 | skip)
                  obtain ⟨hx20_0, hf20_0⟩ := Kd.R_celln false HO_9.out (x11_1 : Int) p20 q20
                  replace p20 := eq_true p20
                  replace q20 := eq_true q20
                  have HP23 := Kd.R_putg HO_9.out (x11_1 : Int) (rdOf false t178 x11_1)
                  go_wp2_with (first | ((with_reducible refine gate_store (t := 4) (p := 42) rfl ?_); refine store_event (t := 4) (p := 42) (v := ?vo_w24) (w1 := (wr.setCell ⟨go20, (x11_1 : Int).toNat, none⟩ (.bool (rdOf false t178 x11_1)))) ?hg ?ho ?hn ?hr ?_; (case ho => rfl); (case hg => rfl); (case hn => rfl); (case hr => first | (go_simp; done) | (go_simp; rfl)); intro w24 hw; have hg : wr.grownBy w24 (some go20) := (by rw [hw]; exact HP23.2); have hp_ : Kd.R Kd.bool 4 w24 w.heap.size (fun k_ => some k_ ≠ (.slice (some ad183) t178.length co22 : Value).ownBlock) (.slice (some ⟨go20, 0, none⟩) x9_1.length co21) y184 := (by rw [hw, Ny184.out]; exact HP23.1); clear HP23; have n0_ := Aside0.mk (hp_); have n1_ := Aside0.mk (Kd.R_after (v := (.slice (some ⟨go20, 0, none⟩) x9_1.length co21)) (v1 := (.slice (some ⟨go20, 0, none⟩) x9_1.length co21)) (ok := (fun _ => True)) (by (with_reducible repeat (first | apply Kd.R_alloc | apply Kd.R_drewN | apply Kd.R_drew)); exact Kd.R_mono HO_10.out (fun _ hk => ⟨trivial, hk⟩)) hg (.inl rfl)); have n2_ := Aside0.mk ((by rw [hw]; exact below_set (HB.out) GB20.out : Below w.heap.size w w24)); clear HO_9; clear HO_10; clear HB; have HO_9 := n0_; have HO_10 := n1_; have HB := n2_; clear n0_ n1_ n2_; clear hg hw hp_))
                  go_roundg k1
                  case measure => have := HK1.out; omega
                  case rel => exact ⟨(y184), (wrap64 (x11_1 + 1)), (by first | rfl | (simp; done) | (simp [*]; done)), H', ⟨by have := HK1.out; omega⟩, ⟨by (with_reducible repeat (first | apply Kd.R_alloc | apply Kd.R_drewN | apply Kd.R_drew)); exact HO_9.out⟩, ⟨by (with_reducible repeat (first | apply Kd.R_alloc | apply Kd.R_drewN | apply Kd.R_drew)); exact Kd.R_mono HO_10.out (fun _ hk => hk.2)⟩, ⟨by repeat (first | (with_reducible first | exact HB.out | apply below_alloc | apply pw_below_drewN | apply below_drew1) | exact HB.out)⟩⟩
                · rw [if_neg c19] at H
                  exact absurd H (by simp)
            · rw [if_neg c12] at H
              exact absurd H (by simp)
          · rw [if_neg c11] at H
            exact absurd H (by simp)
        · rw [if_neg c10] at H
          have c10b0 : decide (x11_1 < a0) = false := decide_eq_false c10
          clear c10
          replace H := Option.bind_eq_some_iff.mp H
          obtain ⟨t185, A250, H⟩ := H
          replace H : (some (t185, 0)) = some (r1, r2) := H
          have A25 := Aside0.mk A250
          clear A250
          simp only [Option.some.injEq, Prod.mk.injEq] at H
          obtain ⟨rfl, rfl⟩ := H
          obtain ⟨Ao26, co26, eo26⟩ := Kd.R_slice HO_9.out
          subst eo26
          go_wp2_with (first | ((with_reducible refine gate_callee (f := 50) rfl ?_); refine goesL_ (some 44) rfl rfl Try.func50 (by kernel_rfl) rfl #[.slice Ao26 x9_1.length co26] rfl (by (try simp only [List.map_toArray, List.map_cons, List.map_nil]); first | done | rfl | (simp only [List.length_drop, List.length_take]; rfl)) ?_; (with_reducible refine (railplanref1_spans.calls k1 _ _ x9_1 t185 _ ?side1 ?side2 A25.out).mono ?_); (case side1 => repeat (first | exact (Kd.R_reads' HO_9.out).2.2 | (with_reducible refine Kd.C_alloc ?_ _) | (with_reducible refine Kd.C_drewN ?_ _) | (with_reducible refine Kd.C_drew ?_))); (case side2 => exact (Kd.R_reads' HO_9.out).2.1); rintro e w27 ⟨v186, rfl, ho0, hb⟩; refine ⟨_, rfl, ?_⟩; have n0_ := Aside0.mk (Kd.R_below (by (with_reducible repeat (first | apply Kd.R_alloc | apply Kd.R_drewN | apply Kd.R_drew)); exact HO_9.out) hb); have n1_ := Aside0.mk (Kd.R_below (by (with_reducible repeat (first | apply Kd.R_alloc | apply Kd.R_drewN | apply Kd.R_drew)); exact HO_10.out) hb); have n2_ := Aside0.mk (Kd.R_lower ho0 (below_size (by repeat (first | (with_reducible first | exact HB.out | apply below_alloc | apply pw_below_drewN | apply below_drew1) | exact HB.out)))); have n3_ := Aside0.mk (below_step (by repeat (first | (with_reducible first | exact HB.out | apply below_alloc | apply pw_below_drewN | apply below_drew1) | exact HB.out)) hb); clear HO_9; clear HO_10; clear HB; have HO_9 := n0_; have HO_10 := n1_; have HO187 := n2_; have HB := n3_; clear n0_ n1_ n2_ n3_; (try clear hb); (try clear hb2); (try clear hk); (try clear hi); (try clear ho0)))
          go_ret2
          exact ⟨_, by first | rfl | (simp [errW_none, errW_some] <;> rfl) | (simp [*, errW_none, errW_some] <;> rfl), by (with_reducible repeat (first | apply Kd.R_alloc | apply Kd.R_drewN | apply Kd.R_drew)); exact HO187.out, by repeat (first | (with_reducible first | exact HB.out | apply below_alloc | apply pw_below_drewN | apply below_drew1) | exact HB.out)⟩
  · rw [if_neg c5] at H
    have c5b0 : (t174 == 0) = false := beq_eq_false_iff_ne.mpr c5
    have c5b1 : (t174 != 0) = true := bne_iff_ne.mpr c5
    simp only [Option.some.injEq, Prod.mk.injEq] at H
    obtain ⟨rfl, rfl⟩ := H
    go_enter Try.func36, Try.ntmps36
    go_wp2_with (first | ((with_reducible refine gate_callee (f := 48) rfl ?_); refine goesL_ (some 15) rfl rfl Try.func48 (by kernel_rfl) rfl #[.int .i64 a0, .slice A1 l1.length c1, .slice A2 l2.length c2] rfl (by (try simp only [List.map_toArray, List.map_cons, List.map_nil]); first | done | rfl | (simp only [List.length_drop, List.length_take]; rfl)) ?_; (with_reducible refine (railplanref1_bad.calls k a0 _ _ l1 _ _ l2 t174 _ ?side1 ?side2 ?side3 ?side4 A4.out).mono ?_); (case side1 => repeat (first | exact HR1.out | (with_reducible refine Kd.C_alloc ?_ _) | (with_reducible refine Kd.C_drewN ?_ _) | (with_reducible refine Kd.C_drew ?_))); (case side2 => exact HC1.out); (case side3 => repeat (first | exact HR2.out | (with_reducible refine Kd.C_alloc ?_ _) | (with_reducible refine Kd.C_drewN ?_ _) | (with_reducible refine Kd.C_drew ?_))); (case side4 => exact HC2.out); rintro e w' ⟨rfl, ⟨nd, rfl⟩⟩; refine ⟨_, rfl, ?_⟩))
    go_ret2
    exact ⟨_, by first | rfl | (simp [errW_none, errW_some] <;> rfl) | (simp [*, errW_none, errW_some] <;> rfl), by first | exact Kd.R_nil _ _ _ _ _ | exact Kd.N_nil _ _ _ _ _ | exact Kd.V_nil _ _ _ _ _ | exact Kd.Q_nil _ _ _ _ _ | exact Kd.S_nil _ _ _ _ _, by repeat (first | (with_reducible first | exact HB.out | apply below_alloc | apply pw_below_drewN | apply below_drew1) | exact HB.out)⟩

/-- A state of type 68 at block g of W; what its slices lead to came in by w0. -/
def IsS68 (w0 W : World) (g : Nat) (f0 : List Int) (f1 : Int) : Prop := ∃ A0 c0, W.heap[g]? = some (.cells #[.slice A0 f0.length c0, .int .i64 f1] 68 (0, 0)) ∧ w0.heap.size ≤ g ∧ Kd.C (Kd.int .i64) w0 A0 f0.length f0
theorem IsS68.grown {w0 W : World} {g : Nat} {f0 : List Int} {f1 : Int} {W1 : World} {row : Option Nat} (h : IsS68 w0 W g f0 f1) (hw : W.grownBy W1 row) (hne : some g ≠ row) : IsS68 w0 W1 g f0 f1 := by
  obtain ⟨A0, c0, hb, hg, hr0⟩ := h
  exact ⟨A0, c0, blk_grown hb hw hne, hg, hr0⟩
theorem IsS68.own_neN {w0 W : World} {g : Nat} {f0 : List Int} {f1 : Int} {α : Type} {d : Kd α} {e : Nat} {base : Nat} {ok : Nat → Prop} {v : Value} {xs : List α} (h : IsS68 w0 W g f0 f1) (ho : Kd.N d e W base ok v xs) (ht : e ≠ 68) : some g ≠ v.ownBlock := by
  obtain ⟨A0, c0, hb, hg, hr0⟩ := h
  exact Kd.N_ne ho hb ht
theorem IsS68.fresh {w0 W : World} {g : Nat} {f0 : List Int} {f1 : Int} (h : IsS68 w0 W g f0 f1) : ∀ k, W.heap.size ≤ k → k ≠ g := by
  obtain ⟨A0, c0, hb, hg, hr0⟩ := h
  exact Kd.freshB hb
theorem IsS68.kept {w0 W : World} {g : Nat} {f0 : List Int} {f1 : Int} {W1 : World} {S : Nat → Prop} (h : IsS68 w0 W g f0 f1) (hk : Kept W W1 S) (hne : ¬ S g) : IsS68 w0 W1 g f0 f1 := by
  obtain ⟨A0, c0, hb, hg, hr0⟩ := h
  exact ⟨A0, c0, blk_kept hb hk hne, hg, hr0⟩
theorem IsS68.below {w0 W : World} {g : Nat} {f0 : List Int} {f1 : Int} {W1 : World} (h : IsS68 w0 W g f0 f1) (hw : Below W.heap.size W W1) : IsS68 w0 W1 g f0 f1 := h.grown (grown_of_below hw none) (by simp)
theorem IsS68.alloc {w0 W : World} {g : Nat} {f0 : List Int} {f1 : Int} (h : IsS68 w0 W g f0 f1) (o : Obj) : IsS68 w0 (W.alloc o) g f0 f1 := h.below (below_alloc (Below.refl _ _) o)
theorem IsS68.drewN {w0 W : World} {g : Nat} {f0 : List Int} {f1 : Int} (h : IsS68 w0 W g f0 f1) (m : Nat) : IsS68 w0 (W.drewN m) g f0 f1 := h
theorem IsS68.drew {w0 W : World} {g : Nat} {f0 : List Int} {f1 : Int} (h : IsS68 w0 W g f0 f1) : IsS68 w0 W.drew g f0 f1 := h
theorem IsS68.at_ {w0 W : World} {g : Nat} {f0 : List Int} {f1 : Int} {w' : World} {m : Nat} (hq : W.drewN m = w') (h : IsS68 w0 W g f0 f1) : IsS68 w0 w' g f0 f1 := by subst hq; exact IsS68.drewN h m
theorem IsS68.apart {w0 W : World} {g : Nat} {f0 : List Int} {f1 : Int} {α : Type} {d : Kd α} {e : Nat} {base : Nat} {ok : Nat → Prop} {v : Value} {xs : List α} (h : IsS68 w0 W g f0 f1) (ho : d.R e W base ok v xs) (ht : ∀ q, q ∈ e :: d.E → q ≠ 68) : d.R e W base (fun k => ok k ∧ k ≠ g) v xs := by
  obtain ⟨A0, c0, hb, hg, hr0⟩ := h
  exact Kd.R_types ho hb ht
theorem IsS68.own_ne {w0 W : World} {g : Nat} {f0 : List Int} {f1 : Int} {α : Type} {d : Kd α} {e : Nat} {base : Nat} {ok : Nat → Prop} {v : Value} {xs : List α} (h : IsS68 w0 W g f0 f1) (ho : d.R e W base ok v xs) (ht : e ≠ 68) : some g ≠ v.ownBlock := by
  obtain ⟨A0, c0, hb, hg, hr0⟩ := h
  exact Kd.R_ne ho hb ht
theorem IsS68.apartQ {w0 W : World} {g : Nat} {f0 : List Int} {f1 : Int} {α : Type} {d : Kd α} {e : Nat} {base : Nat} {ok : Nat → Prop} {v : Value} {xs : List α} (h : IsS68 w0 W g f0 f1) (ho : d.Q e W base ok v xs) (ht : ∀ q, q ∈ e :: d.E → q ≠ 68) : d.Q e W base (fun k => ok k ∧ k ≠ g) v xs := by
  obtain ⟨A0, c0, hb, hg, hr0⟩ := h
  exact Kd.Q_types ho hb ht
theorem IsS68.own_neQ {w0 W : World} {g : Nat} {f0 : List Int} {f1 : Int} {α : Type} {d : Kd α} {e : Nat} {base : Nat} {ok : Nat → Prop} {v : Value} {xs : List α} (h : IsS68 w0 W g f0 f1) (ho : d.Q e W base ok v xs) (ht : e ≠ 68) : some g ≠ v.ownBlock := by
  obtain ⟨A0, c0, hb, hg, hr0⟩ := h
  exact Kd.Q_ne ho hb ht
theorem IsS68.apartS {w0 W : World} {g : Nat} {f0 : List Int} {f1 : Int} {α : Type} {d : Kd α} {e : Nat} {base : Nat} {ok : Nat → Prop} {v : Value} {xs : List α} (h : IsS68 w0 W g f0 f1) (ho : d.S e W base ok v xs) (ht : ∀ q, q ∈ e :: d.E → q ≠ 68) : d.S e W base (fun k => ok k ∧ k ≠ g) v xs := by
  obtain ⟨A0, c0, hb, hg, hr0⟩ := h
  exact Kd.S_types ho hb ht
theorem IsS68.own_neS {w0 W : World} {g : Nat} {f0 : List Int} {f1 : Int} {α : Type} {d : Kd α} {e : Nat} {base : Nat} {ok : Nat → Prop} {v : Value} {xs : List α} (h : IsS68 w0 W g f0 f1) (ho : d.S e W base ok v xs) (ht : e ≠ 68) : some g ≠ v.ownBlock := by
  obtain ⟨A0, c0, hb, hg, hr0⟩ := h
  exact Kd.S_ne ho hb ht
theorem IsS68.lt {w0 W : World} {g : Nat} {f0 : List Int} {f1 : Int} (h : IsS68 w0 W g f0 f1) : g < W.heap.size := by
  obtain ⟨A0, c0, hb, hg, hr0⟩ := h
  exact blk_lt hb
theorem IsS68.ge {w0 W : World} {g : Nat} {f0 : List Int} {f1 : Int} (h : IsS68 w0 W g f0 f1) : w0.heap.size ≤ g := by
  obtain ⟨A0, c0, hb, hg, hr0⟩ := h
  exact hg
theorem IsS68.ne_blk {w0 W : World} {g : Nat} {f0 : List Int} {f1 : Int} {a : Nat} {cs : Array Value} {t : TypeId} {fr : Nat × Nat} (h : IsS68 w0 W g f0 f1) (hb2 : W.heap[a]? = some (.cells cs t fr)) (ht : t ≠ 68) : g ≠ a := by
  obtain ⟨A0, c0, hb, hg, hr0⟩ := h
  rintro rfl
  rw [hb] at hb2
  injection hb2 with hb2
  injection hb2 with _ ht2
  exact ht ht2.symm
theorem IsS68.far {w0 W : World} {g : Nat} {f0 : List Int} {f1 : Int} {p : Addr} (h : IsS68 w0 W g f0 f1) (hne : g ≠ p.block) (u : Value) : IsS68 w0 (W.setCell p u) g f0 f1 := by
  obtain ⟨A0, c0, hb, hg, hr0⟩ := h
  exact ⟨A0, c0, blk_far hb hne u, hg, hr0⟩
theorem cellS68_0 {W : World} {g : Nat} {A0 : Option Addr} {c0 : Nat} {f0 : List Int} {f1 : Int} (h : W.heap[g]? = some (.cells #[.slice A0 f0.length c0, .int .i64 f1] 68 (0, 0))) : W.cell? ⟨g, 0, none⟩ = some (.slice A0 f0.length c0) := (blk_cell h 0).trans rfl
theorem cellS68_1 {W : World} {g : Nat} {A0 : Option Addr} {c0 : Nat} {f0 : List Int} {f1 : Int} (h : W.heap[g]? = some (.cells #[.slice A0 f0.length c0, .int .i64 f1] 68 (0, 0))) : W.cell? ⟨g, 1, none⟩ = some (.int .i64 f1) := (blk_cell h 1).trans rfl
theorem IsS68.set_1 {w0 W : World} {g : Nat} {f0 : List Int} {f1 : Int} (h : IsS68 w0 W g f0 f1) (x : Int) : IsS68 w0 (W.setCell ⟨g, 1, none⟩ (.int .i64 x)) g f0 x := by
  obtain ⟨A0, c0, hb, hg, hr0⟩ := h
  exact ⟨A0, c0, by simpa using blk_set hb 1 (.int .i64 x), hg, hr0⟩
theorem IsS68.new (w0 W : World) (A0 : Option Addr) (c0 : Nat) (f0 : List Int) (f1 : Int) (hB : Below w0.heap.size w0 W) (hr0 : Kd.C (Kd.int .i64) w0 A0 f0.length f0) : IsS68 w0 (W.alloc (.cells #[.slice A0 f0.length c0, .int .i64 f1] 68)) W.heap.size f0 f1 := ⟨A0, c0, by simpa using heap_alloc_new W _, hB.size, hr0⟩

/-! ### railplankeep_From: function 43 -/
def railplankeep_From.f (l0 : List Int) : Option (List Int × Int) := some (l0, 0)
set_option maxHeartbeats 8000000 in
set_option maxRecDepth 100000 in
theorem railplankeep_From.calls (A0 : Option Addr) (c0 : Nat) (l0 : List Int) (r1 : List Int) (r2 : Int) (w0 w : World) (hB : Below w0.heap.size w0 w) (hr0 : Kd.C (Kd.int .i64) w0 A0 l0.length l0) (hc0 : l0.length ≤ c0) (h : railplankeep_From.f l0 = some (r1, r2)) :
    Calls Try.prog 43 #[.slice A0 l0.length c0] w fun e w' => ∃ g_ : Nat, e = .returned (.pointer (some ⟨g_, 0, none⟩)) ∧ IsS68 w0 w' g_ r1 r2 ∧ Below w0.heap.size w0 w' ∧ Below w.heap.size w w' := by
  have hu68 := Try.underlying68
  have HR0 := Aside0.mk hr0
  have HC0 := Aside0.mk hc0
  clear hr0 hc0
  have HBW := Aside0.mk (Below.refl w.heap.size w)
  have HW0 := Aside0.mk hB.size
  have HB := Aside0.mk hB
  clear hB
  have H : (some (l0, 0)) = some (r1, r2) := h
  clear h
  simp only [Option.some.injEq, Prod.mk.injEq] at H
  obtain ⟨rfl, rfl⟩ := H
  go_enter Try.func43, Try.ntmps43
  go_wp2_with (first | ((with_reducible refine gate_dst (N := 5) rfl ?_); refine box_event ?hg (N := 5) ?hd (cs := #[.slice A0 l0.length c0, .int .i64 0]) (t := 68) ?hr ?_; (case hd => rfl); (case hg => rfl); (case hr => first | (go_simp; done) | (go_simp; rfl)); intro gb188 hg w2 hbox hb; have n0_ := Aside0.mk (below_step HBW.out hb); have n1_ := Aside0.mk (below_step (by repeat (first | (with_reducible first | exact HB.out | apply below_alloc | apply pw_below_drewN | apply below_drew1) | exact HB.out)) hb); have n2_ := Aside0.mk (hbox); have n3_ := Aside0.mk ((by rw [hg]; exact (below_size (by repeat (first | (with_reducible first | exact HBW.out | apply below_alloc | apply pw_below_drewN | apply below_drew1) | exact HBW.out))) : w.heap.size ≤ gb188)); have n4_ := Aside0.mk ((Nat.le_trans HW0.out (by rw [hg]; exact (below_size (by repeat (first | (with_reducible first | exact HBW.out | apply below_alloc | apply pw_below_drewN | apply below_drew1) | exact HBW.out))) : w.heap.size ≤ gb188) : w0.heap.size ≤ gb188)); clear HBW; clear HB; have HBW := n0_; have HB := n1_; have BK188 := n2_; have GW188 := n3_; have GE188 := n4_; clear n0_ n1_ n2_ n3_ n4_; clear hb hbox hg))
  go_ret
  exact ⟨_, rfl, (show IsS68 w0 _ gb188 l0 0 from ⟨_, _, by (with_reducible repeat (first | refine blk_drewN ?_ _ | refine blk_drew ?_ | refine blk_alloc ?_ _)); exact BK188.out, GE188.out, HR0.out⟩), by repeat (first | (with_reducible first | exact HB.out | apply below_alloc | apply pw_below_drewN | apply below_drew1 | refine below_set ?_ GE188.out) | exact HB.out), by repeat (first | (with_reducible first | exact HBW.out | apply below_alloc | apply pw_below_drewN | apply below_drew1 | refine below_set ?_ GW188.out) | exact HBW.out)⟩

/-! ### railplankeep_Source_Next: function 44 -/
def railplankeep_Source_Next.f (s0_0 : List Int) (s0_1 : Int) (a1 : Int) : Option (Int × Int) := if s0_1 ≥ (s0_0.length : Int) then (some (0, s0_1)) else (if 0 ≤ (wrap64 ((wrap64 (s0_1 + 1)) - 1)) then (if (wrap64 ((wrap64 (s0_1 + 1)) - 1)) < (s0_0.length : Int) then ((railplankeep_Pick.f (rd s0_0 (wrap64 ((wrap64 (s0_1 + 1)) - 1))) a1).bind fun t190 => (some (t190, wrap64 (s0_1 + 1)))) else (none)) else (none))
set_option maxHeartbeats 8000000 in
set_option maxRecDepth 100000 in
theorem railplankeep_Source_Next.calls (g : Nat) (s0_0 : List Int) (s0_1 : Int) (a1 : Int) (r1 : Int) (r2 : Int) (w0 w : World) (hI : IsS68 w0 w g s0_0 s0_1) (hB : Below w0.heap.size w0 w) (h : railplankeep_Source_Next.f s0_0 s0_1 a1 = some (r1, r2)) :
    Calls Try.prog 44 #[.pointer (some ⟨g, 0, none⟩), .int .i64 a1] w fun e w' => e = .returned (.int .i64 r1) ∧ IsS68 w0 w' g s0_0 r2 ∧ Below w0.heap.size w0 w' ∧ KeepBut w w' g none := by
  have HI0 := Aside0.mk hI
  have HK := Aside0.mk (KeepBut.refl w g none)
  have HL := Aside0.mk hB.size
  clear hI
  have HW0 := Aside0.mk hB.size
  have HB := Aside0.mk hB
  clear hB
  have H : (if s0_1 ≥ (s0_0.length : Int) then (some (0, s0_1)) else (if 0 ≤ (wrap64 ((wrap64 (s0_1 + 1)) - 1)) then (if (wrap64 ((wrap64 (s0_1 + 1)) - 1)) < (s0_0.length : Int) then ((railplankeep_Pick.f (rd s0_0 (wrap64 ((wrap64 (s0_1 + 1)) - 1))) a1).bind fun t190 => (some (t190, wrap64 (s0_1 + 1)))) else (none)) else (none))) = some (r1, r2) := h
  clear h
  by_cases c3 : s0_1 ≥ (s0_0.length : Int)
  · rw [if_pos c3] at H
    have c3b0 : decide ((s0_0.length : Int) ≤ s0_1) = true := decide_eq_true c3
    clear c3
    simp only [Option.some.injEq, Prod.mk.injEq] at H
    obtain ⟨rfl, rfl⟩ := H
    obtain ⟨ASz4_0, cSz4_0, HGz4, hgz4, HSz4_0⟩ := HI0.out
    have hcz4_0 := cellS68_0 HGz4
    have hcz4_1 := cellS68_1 HGz4
    have hfz4_1 := blk_frozen HGz4 1
    clear HGz4 hgz4
    go_enter Try.func44, Try.ntmps44
    go_wp2
    repeat (go_quiet (fail); try go_wp2)
    go_ret
    exact ⟨by first | rfl | (simp [errW_none, errW_some] <;> rfl) | (simp [*, errW_none, errW_some] <;> rfl), by repeat (first | (with_reducible first | exact HI0.out | apply IsS68.alloc | apply IsS68.drewN | apply IsS68.drew | apply IsS68.set_1) | exact HI0.out), by repeat (first | (with_reducible first | exact HB.out | apply below_alloc | apply pw_below_drewN | apply below_drew1 | refine below_set ?_ (IsS68.ge HI0.out)) | exact HB.out), by repeat (first | (with_reducible first | exact HK.out | apply KeepBut.set_ | apply keep_drewN | apply keep_drew | apply keep_alloc) | exact HK.out)⟩
  · rw [if_neg c3] at H
    have c3b0 : decide ((s0_0.length : Int) ≤ s0_1) = false := decide_eq_false c3
    clear c3
    obtain ⟨ji5, hji5⟩ : ∃ j_ : Int, (wrap64 ((wrap64 (s0_1 + 1)) - 1)) = j_ := ⟨_, rfl⟩
    replace H : (if 0 ≤ (ji5) then (if (ji5) < (s0_0.length : Int) then ((railplankeep_Pick.f (rd s0_0 (ji5)) a1).bind fun t190 => (some (t190, wrap64 (s0_1 + 1)))) else (none)) else (none)) = some (r1, r2) := by first | (rw [hji5] at H; exact H) | (simp only [hji5] at H ⊢; exact H)
    have hji5w : (IntKind.i64.wrap ((wrap64 (s0_1 + 1)) - 1)) = ji5 := (i64_w _).trans hji5
    by_cases c6 : 0 ≤ (ji5)
    · rw [if_pos c6] at H
      have c6b0 : decide (0 ≤ (ji5)) = true := decide_eq_true c6
      clear c6
      by_cases c7 : (ji5) < (s0_0.length : Int)
      · rw [if_pos c7] at H
        have c7b0 : decide ((ji5) < (s0_0.length : Int)) = true := decide_eq_true c7
        clear c7
        replace H := Option.bind_eq_some_iff.mp H
        obtain ⟨t190, A80, H⟩ := H
        replace H : (some (t190, wrap64 (s0_1 + 1))) = some (r1, r2) := H
        have A8 := Aside0.mk A80
        clear A80
        simp only [Option.some.injEq, Prod.mk.injEq] at H
        obtain ⟨rfl, rfl⟩ := H
        obtain ⟨ASz9_0, cSz9_0, HGz9, hgz9, HSz9_0⟩ := HI0.out
        have hcz9_0 := cellS68_0 HGz9
        have hcz9_1 := cellS68_1 HGz9
        have hfz9_1 := blk_frozen HGz9 1
        clear HGz9 hgz9
        have p189 : 0 ≤ ((ji5) : Int) := of_decide_eq_true (by first | (with_reducible assumption) | assumption)
        have q189 : (ji5) < (s0_0.length : Int) := of_decide_eq_true (by first | (with_reducible assumption) | assumption)
        obtain ⟨ad189, e189, hx189_0⟩ := Kd.at_int HSz9_0 (ji5) p189 q189
        cases e189
        have hn189_0 : ad189.block ≠ g := Nat.ne_of_lt (Nat.lt_of_lt_of_le (by have := World.block_lt_of_cell? _ _ hx189_0; first | rwa [add_block] at this | exact this) (IsS68.ge HI0.out))
        replace hx189_0 := pw_cell_below HB.out hx189_0
        replace hx189_0 := (cell_far (p := ⟨g, 1, none⟩) (by first | (rw [add_block]; exact hn189_0) | (show (Addr.add _ _).block ≠ _; rw [add_block]; exact hn189_0) | exact hn189_0) (.int .i64 (wrap64 (s0_1 + 1)))).trans hx189_0
        (try have hy189_0 := fun (n_ : Nat) => (show (((w.drewN n_).setCell ⟨g, 1, none⟩ (.int .i64 (wrap64 (s0_1 + 1))))).cell? _ = some _ from hx189_0))
        clear hn189_0
        replace p189 := eq_true p189
        replace q189 := eq_true q189
        go_enter Try.func44, Try.ntmps44
        go_wp2_with (first | (go_at_call 22; (with_reducible refine (railplankeep_Pick.calls (rd s0_0 (ji5)) a1 t190 _ A8.out).mono ?_); rintro e w' ⟨rfl, ⟨nd, rfl⟩⟩; (try first | exact ⟨rfl, _, World.drewN_drewN _ _ _⟩ | exact ⟨rfl, _, Eq.trans (World.drewN_drewN _ _ _) (congrArg (World.drewN _) (Nat.add_assoc _ _ _))⟩)))
        repeat (go_quiet (first | (go_at_call 22; (with_reducible refine (railplankeep_Pick.calls (rd s0_0 (ji5)) a1 t190 _ A8.out).mono ?_); rintro e w' ⟨rfl, ⟨nd, rfl⟩⟩; (try first | exact ⟨rfl, _, World.drewN_drewN _ _ _⟩ | exact ⟨rfl, _, Eq.trans (World.drewN_drewN _ _ _) (congrArg (World.drewN _) (Nat.add_assoc _ _ _))⟩))); try go_wp2_with (first | (go_at_call 22; (with_reducible refine (railplankeep_Pick.calls (rd s0_0 (ji5)) a1 t190 _ A8.out).mono ?_); rintro e w' ⟨rfl, ⟨nd, rfl⟩⟩; (try first | exact ⟨rfl, _, World.drewN_drewN _ _ _⟩ | exact ⟨rfl, _, Eq.trans (World.drewN_drewN _ _ _) (congrArg (World.drewN _) (Nat.add_assoc _ _ _))⟩))))
        go_ret
        exact ⟨by first | rfl | (simp [errW_none, errW_some] <;> rfl) | (simp only [← hji5]; first | rfl | (simp [errW_none, errW_some] <;> rfl)) | (simp [*, errW_none, errW_some] <;> rfl), by repeat (first | (with_reducible first | exact HI0.out | apply IsS68.alloc | apply IsS68.drewN | apply IsS68.drew | apply IsS68.set_1) | exact HI0.out), by repeat (first | (with_reducible first | exact HB.out | apply below_alloc | apply pw_below_drewN | apply below_drew1 | refine below_set ?_ (IsS68.ge HI0.out)) | exact HB.out), by repeat (first | (with_reducible first | exact HK.out | apply KeepBut.set_ | apply keep_drewN | apply keep_drew | apply keep_alloc) | exact HK.out)⟩
      · rw [if_neg c7] at H
        exact absurd H (by simp)
    · rw [if_neg c6] at H
      exact absurd H (by simp)

end Go.Proofs.Ytdnileakboefgaa.PResidueKeepsArguments
