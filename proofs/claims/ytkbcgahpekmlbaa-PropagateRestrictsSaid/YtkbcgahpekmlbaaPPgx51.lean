-- (printed by the kit's print.py, called by printmany.sh)
import Derived.Test.YtkbcgahpekmlbaaPPgx0
import Derived.Test.YtkbcgahpekmlbaaPPgx26
import Derived.Test.YtkbcgahpekmlbaaPPgx35
namespace Go.Proofs.Ytkbcgahpekmlbaa.PPg
open Go.RowKit Go.Proofs.YtkbcgahpekmlbaaW.PrintWords Go.Proofs.YtkbcgahpekmlbaaW.PrintLast Go.Proofs.YtkbcgahpekmlbaaW.PrintMore
attribute [local go_sem] max2_int min2_int max_two min_two max_three min_three max_four min_four   -- for this text's walks alone
set_option linter.unusedVariables false
set_option linter.unusedSimpArgs false

/-! ### railplanref1_Has: function 23 -/
def railplanref1_Has.l0 : Nat → List (S41) → Int → Int → Option (Bool)
  | 0, _, _, _ => none
  | k + 1, x1, x7, x8 => if x8 < (x1.length : Int) then (if 0 ≤ x8 then (if x7 ≥ ((rd_T41 x1 x8).f0) then (if x7 < ((rd_T41 x1 x8).f1) then (some true) else (railplanref1_Has.l0 k x1 x7 (wrap64 (x8 + 1)))) else (railplanref1_Has.l0 k x1 x7 (wrap64 (x8 + 1)))) else (none)) else (some false)
def railplanref1_Has.f (k : Nat) (a0 : Int) (l1 : List (S41)) (a2 : Int) : Option (Bool) := (railplanref1_ValidSpans.f k a0 l1).bind fun t433 => (if t433 = true then ((railplanref1_Mod.f a2 a0).bind fun t434 => (railplanref1_Has.l0 k l1 t434 0)) else (some false))
theorem railplanref1_Has.mono_l : ∀ k, (∀ y0 y1 y2, LeO (railplanref1_Has.l0 k y0 y1 y2) (railplanref1_Has.l0 (k + 1) y0 y1 y2))
  | 0 => fun _ _ _ r h => by simp [railplanref1_Has.l0] at h
  | k + 1 => by
    have ih0 := railplanref1_Has.mono_l k
    · intro y0 y1 y2
      unfold railplanref1_Has.l0
      repeat' first
      | (with_reducible exact ih0 _ _ _)
      | (with_reducible exact railplanref1_ValidSpans.mono _ _ _)
      | (with_reducible exact LeO.refl _)
      | (with_reducible exact LeO.none _)
      | (with_reducible refine LeO.ite ?_ ?_)
      | (with_reducible refine LeO.bind ?_ (fun _ => ?_))
      | exact ih0 _ _ _
      | exact railplanref1_ValidSpans.mono _ _ _
      | exact LeO.none _
      | refine LeO.ite ?_ ?_
      | refine LeO.bind ?_ (fun _ => ?_)
theorem railplanref1_Has.mono : ∀ a0 a1 a2 k, LeO (railplanref1_Has.f k a0 a1 a2) (railplanref1_Has.f (k + 1) a0 a1 a2) := by
  intro a0 a1 a2 k
  have ih0 := railplanref1_Has.mono_l k
  unfold railplanref1_Has.f
  repeat' first
      | (with_reducible exact ih0 _ _ _)
      | (with_reducible exact railplanref1_ValidSpans.mono _ _ _)
      | (with_reducible exact LeO.refl _)
      | (with_reducible exact LeO.none _)
      | (with_reducible refine LeO.ite ?_ ?_)
      | (with_reducible refine LeO.bind ?_ (fun _ => ?_))
      | exact ih0 _ _ _
      | exact railplanref1_ValidSpans.mono _ _ _
      | exact LeO.none _
      | refine LeO.ite ?_ ?_
      | refine LeO.bind ?_ (fun _ => ?_)
set_option maxHeartbeats 8000000 in
set_option maxRecDepth 100000 in
theorem railplanref1_Has.calls (k : Nat) (a0 : Int) (A1 : Option Addr) (c1 : Nat) (l1 : List (S41)) (a2 : Int) (r : Bool) (w : World) (hr1 : Kd.C k41 w A1 l1.length l1) (hc1 : l1.length ≤ c1) (h : railplanref1_Has.f k a0 l1 a2 = some r) :
    Calls Try.prog 23 #[.int .i64 a0, .slice A1 l1.length c1, .int .i64 a2] w fun e w' => e = .returned (.bool r) ∧ Drawn0 w w' := by
  have HR1 := Aside0.mk hr1
  have HC1 := Aside0.mk hc1
  clear hr1 hc1
  have H : ((railplanref1_ValidSpans.f k a0 l1).bind fun t433 => (if t433 = true then ((railplanref1_Mod.f a2 a0).bind fun t434 => (railplanref1_Has.l0 k l1 t434 0)) else (some false))) = some r := h
  clear h
  replace H := Option.bind_eq_some_iff.mp H
  obtain ⟨t433, A40, H⟩ := H
  replace H : (if t433 = true then ((railplanref1_Mod.f a2 a0).bind fun t434 => (railplanref1_Has.l0 k l1 t434 0)) else (some false)) = some r := H
  have A4 := Aside0.mk A40
  clear A40
  by_cases c5 : t433 = true
  · subst c5
    have H1 : ((railplanref1_Mod.f a2 a0).bind fun t434 => (railplanref1_Has.l0 k l1 t434 0)) = some r := by rw [if_pos rfl] at H; exact H
    clear H
    have H := H1
    clear H1
    replace H := Option.bind_eq_some_iff.mp H
    obtain ⟨t434, A60, H⟩ := H
    replace H : (railplanref1_Has.l0 k l1 t434 0) = some r := H
    have A6 := Aside0.mk A60
    clear A60
    have H' := Aside0.mk H
    clear H
    go_enter Try.func23, Try.ntmps23
    go_wp2_with (first | ((with_reducible refine gate_callee (f := 43) rfl ?_); refine goesL_ (some 11) rfl rfl Try.func43 (by kernel_rfl) rfl #[.int .i64 a0, .slice A1 l1.length c1] rfl (by (try simp only [List.map_toArray, List.map_cons, List.map_nil]); first | done | rfl | (simp only [List.length_drop, List.length_take]; rfl)) ?_; (with_reducible refine (railplanref1_ValidSpans.calls k a0 _ _ l1 true _ ?side1 ?side2 A4.out).mono ?_); (case side1 => repeat (first | exact HR1.out | (with_reducible refine Kd.C_alloc ?_ _) | (with_reducible refine Kd.C_drewN ?_ _) | (with_reducible refine Kd.C_drew ?_))); (case side2 => exact HC1.out); rintro e w' ⟨rfl, ⟨nd, rfl⟩⟩; refine ⟨_, rfl, ?_⟩) | ((with_reducible refine gate_callee (f := 44) rfl ?_); refine goesL_ (some 15) rfl rfl Try.func44 (by kernel_rfl) rfl #[.int .i64 a2, .int .i64 a0] rfl (by (try simp only [List.map_toArray, List.map_cons, List.map_nil]); first | done | rfl | (simp only [List.length_drop, List.length_take]; rfl)) ?_; (with_reducible refine (railplanref1_Mod.calls a2 a0 t434 _ A6.out).mono ?_); rintro e w' ⟨rfl, ⟨nd, rfl⟩⟩; refine ⟨_, rfl, ?_⟩))
    go_loopg [8] k (fun kq v8 w' => ∃ (x8_1 : Int), v8 = .int .i64 x8_1 ∧ Aside0 (railplanref1_Has.l0 kq l1 t434 x8_1 = some r) ∧ Aside0 (kq ≤ k) ∧ Drawn0 w w')
    case atStart => exact ⟨(0), (by first | rfl | (simp; done) | (simp [*]; done)), H', ⟨Nat.le_refl _⟩, by repeat (first | exact Drawn0.refl _ | apply Drawn0.step)⟩
    case round =>
      clear H'
      try clear c1
      try clear c2
      try clear p2
      try clear c4
      try clear c5
      obtain ⟨x8_1, rfl, HA, HK1, ⟨m1, rfl⟩⟩ := hrel
      cases gk with
      | zero => exact absurd HA.out (by simp [railplanref1_Has.l0])
      | succ k1 =>
        have H := HA.out
        clear HA
        simp only [railplanref1_Has.l0] at H
        by_cases c7 : x8_1 < (l1.length : Int)
        · rw [if_pos c7] at H
          have c7b0 : decide (x8_1 < (l1.length : Int)) = true := decide_eq_true c7
          clear c7
          by_cases c8 : 0 ≤ x8_1
          · rw [if_pos c8] at H
            have c8b0 : decide (0 ≤ x8_1) = true := decide_eq_true c8
            clear c8
            by_cases c9 : t434 ≥ ((rd_T41 l1 x8_1).f0)
            · rw [if_pos c9] at H
              have c9b0 : decide (((rd_T41 l1 x8_1).f0) ≤ t434) = true := decide_eq_true c9
              clear c9
              by_cases c10 : t434 < ((rd_T41 l1 x8_1).f1)
              · rw [if_pos c10] at H
                have c10b0 : decide (t434 < ((rd_T41 l1 x8_1).f1)) = true := decide_eq_true c10
                clear c10
                obtain rfl := Option.some.inj H
                have p435 : 0 ≤ (x8_1 : Int) := of_decide_eq_true (by first | (with_reducible assumption) | assumption)
                have q435 : x8_1 < (l1.length : Int) := of_decide_eq_true (by first | (with_reducible assumption) | assumption)
                obtain ⟨ad435, e435, hx435_0, hx435_1⟩ := at_T41 HR1.out x8_1 p435 q435
                cases e435
                replace p435 := eq_true p435
                replace q435 := eq_true q435
                have p436 : 0 ≤ (x8_1 : Int) := of_decide_eq_true (by first | (with_reducible assumption) | assumption)
                have q436 : x8_1 < (l1.length : Int) := of_decide_eq_true (by first | (with_reducible assumption) | assumption)
                obtain ⟨ad436, e436, hx436_0, hx436_1⟩ := at_T41 HR1.out x8_1 p436 q436
                obtain rfl : ad435 = ad436 := (by injection e436)
                replace p436 := eq_true p436
                replace q436 := eq_true q436
                go_wp2
                go_ret
                exact ⟨by first | rfl | (simp; done) | (simp [*]; done), by repeat (first | exact Drawn0.refl _ | apply Drawn0.step)⟩
              · rw [if_neg c10] at H
                have c10b0 : decide (t434 < ((rd_T41 l1 x8_1).f1)) = false := decide_eq_false c10
                clear c10
                have H' := Aside0.mk H
                clear H
                have p435 : 0 ≤ (x8_1 : Int) := of_decide_eq_true (by first | (with_reducible assumption) | assumption)
                have q435 : x8_1 < (l1.length : Int) := of_decide_eq_true (by first | (with_reducible assumption) | assumption)
                obtain ⟨ad435, e435, hx435_0, hx435_1⟩ := at_T41 HR1.out x8_1 p435 q435
                cases e435
                replace p435 := eq_true p435
                replace q435 := eq_true q435
                have p436 : 0 ≤ (x8_1 : Int) := of_decide_eq_true (by first | (with_reducible assumption) | assumption)
                have q436 : x8_1 < (l1.length : Int) := of_decide_eq_true (by first | (with_reducible assumption) | assumption)
                obtain ⟨ad436, e436, hx436_0, hx436_1⟩ := at_T41 HR1.out x8_1 p436 q436
                obtain rfl : ad435 = ad436 := (by injection e436)
                replace p436 := eq_true p436
                replace q436 := eq_true q436
                go_wp2
                go_roundg k1
                case measure => have := HK1.out; omega
                case rel => exact ⟨(wrap64 (x8_1 + 1)), (by first | rfl | (simp; done) | (simp [*]; done)), H', ⟨by have := HK1.out; omega⟩, by repeat (first | exact Drawn0.refl _ | apply Drawn0.step)⟩
            · rw [if_neg c9] at H
              have c9b0 : decide (((rd_T41 l1 x8_1).f0) ≤ t434) = false := decide_eq_false c9
              clear c9
              have H' := Aside0.mk H
              clear H
              have p435 : 0 ≤ (x8_1 : Int) := of_decide_eq_true (by first | (with_reducible assumption) | assumption)
              have q435 : x8_1 < (l1.length : Int) := of_decide_eq_true (by first | (with_reducible assumption) | assumption)
              obtain ⟨ad435, e435, hx435_0, hx435_1⟩ := at_T41 HR1.out x8_1 p435 q435
              cases e435
              replace p435 := eq_true p435
              replace q435 := eq_true q435
              go_wp2
              go_roundg k1
              case measure => have := HK1.out; omega
              case rel => exact ⟨(wrap64 (x8_1 + 1)), (by first | rfl | (simp; done) | (simp [*]; done)), H', ⟨by have := HK1.out; omega⟩, by repeat (first | exact Drawn0.refl _ | apply Drawn0.step)⟩
          · rw [if_neg c8] at H
            exact absurd H (by simp)
        · rw [if_neg c7] at H
          have c7b0 : decide (x8_1 < (l1.length : Int)) = false := decide_eq_false c7
          clear c7
          obtain rfl := Option.some.inj H
          go_wp2
          go_ret
          exact ⟨by first | rfl | (simp; done) | (simp [*]; done), by repeat (first | exact Drawn0.refl _ | apply Drawn0.step)⟩
  · replace c5 := Bool.eq_false_iff.mpr c5
    subst c5
    have H1 : (some false) = some r := by rw [if_neg (show ¬ (false = true) by decide)] at H; exact H
    clear H
    have H := H1
    clear H1
    obtain rfl := Option.some.inj H
    go_enter Try.func23, Try.ntmps23
    go_wp2_with (first | ((with_reducible refine gate_callee (f := 43) rfl ?_); refine goesL_ (some 11) rfl rfl Try.func43 (by kernel_rfl) rfl #[.int .i64 a0, .slice A1 l1.length c1] rfl (by (try simp only [List.map_toArray, List.map_cons, List.map_nil]); first | done | rfl | (simp only [List.length_drop, List.length_take]; rfl)) ?_; (with_reducible refine (railplanref1_ValidSpans.calls k a0 _ _ l1 false _ ?side1 ?side2 A4.out).mono ?_); (case side1 => repeat (first | exact HR1.out | (with_reducible refine Kd.C_alloc ?_ _) | (with_reducible refine Kd.C_drewN ?_ _) | (with_reducible refine Kd.C_drew ?_))); (case side2 => exact HC1.out); rintro e w' ⟨rfl, ⟨nd, rfl⟩⟩; refine ⟨_, rfl, ?_⟩))
    go_ret
    exact ⟨by first | rfl | (simp; done) | (simp [*]; done), by repeat (first | exact Drawn0.refl _ | apply Drawn0.step)⟩

end Go.Proofs.Ytkbcgahpekmlbaa.PPg
