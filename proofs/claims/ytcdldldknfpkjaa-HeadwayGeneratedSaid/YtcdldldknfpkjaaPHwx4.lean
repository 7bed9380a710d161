-- (printed by the kit's print.py, called by printmany.sh)
import Derived.Test.YtcdldldknfpkjaaPHwx0
import Derived.Test.YtcdldldknfpkjaaPHwx1
import Derived.Test.YtcdldldknfpkjaaPHwx2
namespace Go.Proofs.Ytcdldldknfpkjaa.PHw
open Go.RowKit Go.Proofs.YtcdldldknfpkjaaW.PrintWords Go.Proofs.YtcdldldknfpkjaaW.PrintLast Go.Proofs.YtcdldldknfpkjaaW.PrintMore
attribute [local go_sem] max2_int min2_int max_two min_two max_three min_three max_four min_four   -- for this text's walks alone
set_option linter.unusedVariables false
set_option linter.unusedSimpArgs false

attribute [local go_sem high] eqA47 eqA50
/-! ### api_Span: function 22 -/
def api_Span.l0 : Nat → List (S47) → List (S47) → Int → Int → Option (Bool)
  | 0, _, _, _, _ => none
  | k + 1, x0, x1, x12, x13 => if x13 < x12 then (if 0 ≤ x13 then (if x13 < (x0.length : Int) then (if x13 < (x1.length : Int) then (if (!(((rd_T47 x0 x13).f0) == ((rd_T47 x1 x13).f0)) || (!(((rd_T47 x0 x13).f1) == ((rd_T47 x1 x13).f1)))) = true then (some false) else (api_Span.l0 k x0 x1 x12 (wrap64 (x13 + 1)))) else (none)) else (none)) else (none)) else (some true)
def api_Span.f (k : Nat) (l0 : List (S47)) (l1 : List (S47)) : Option (Bool) := if (l0.length : Int) = (l1.length : Int) then (api_Span.l0 k l0 l1 (l0.length : Int) 0) else (some false)
theorem api_Span.mono_l : ∀ k, (∀ y0 y1 y2 y3, LeO (api_Span.l0 k y0 y1 y2 y3) (api_Span.l0 (k + 1) y0 y1 y2 y3))
  | 0 => fun _ _ _ _ r h => by simp [api_Span.l0] at h
  | k + 1 => by
    have ih0 := api_Span.mono_l k
    · intro y0 y1 y2 y3
      unfold api_Span.l0
      repeat' first
      | (with_reducible exact ih0 _ _ _ _)
      | (with_reducible exact LeO.refl _)
      | (with_reducible exact LeO.none _)
      | (with_reducible refine LeO.ite ?_ ?_)
      | (with_reducible refine LeO.bind ?_ (fun _ => ?_))
      | exact ih0 _ _ _ _
      | exact LeO.none _
      | refine LeO.ite ?_ ?_
      | refine LeO.bind ?_ (fun _ => ?_)
theorem api_Span.mono : ∀ a0 a1 k, LeO (api_Span.f k a0 a1) (api_Span.f (k + 1) a0 a1) := by
  intro a0 a1 k
  have ih0 := api_Span.mono_l k
  unfold api_Span.f
  repeat' first
      | (with_reducible exact ih0 _ _ _ _)
      | (with_reducible exact LeO.refl _)
      | (with_reducible exact LeO.none _)
      | (with_reducible refine LeO.ite ?_ ?_)
      | (with_reducible refine LeO.bind ?_ (fun _ => ?_))
      | exact ih0 _ _ _ _
      | exact LeO.none _
      | refine LeO.ite ?_ ?_
      | refine LeO.bind ?_ (fun _ => ?_)
set_option maxHeartbeats 8000000 in
set_option maxRecDepth 100000 in
theorem api_Span.calls (k : Nat) (A0 : Option Addr) (c0 : Nat) (l0 : List (S47)) (A1 : Option Addr) (c1 : Nat) (l1 : List (S47)) (r : Bool) (w : World) (hr0 : Kd.C k47 w A0 l0.length l0) (hc0 : l0.length ≤ c0) (hr1 : Kd.C k47 w A1 l1.length l1) (hc1 : l1.length ≤ c1) (h : api_Span.f k l0 l1 = some r) :
    Calls Try.prog 22 #[.slice A0 l0.length c0, .slice A1 l1.length c1] w fun e w' => e = .returned (.bool r) ∧ Drawn0 w w' := by
  have hu47 := Try.underlying47
  have HR0 := Aside0.mk hr0
  have HC0 := Aside0.mk hc0
  clear hr0 hc0
  have HR1 := Aside0.mk hr1
  have HC1 := Aside0.mk hc1
  clear hr1 hc1
  have H : (if (l0.length : Int) = (l1.length : Int) then (api_Span.l0 k l0 l1 (l0.length : Int) 0) else (some false)) = some r := h
  clear h
  by_cases c3 : (l0.length : Int) = (l1.length : Int)
  · rw [if_pos c3] at H
    have c3b0 : ((l0.length : Int) == (l1.length : Int)) = true := beq_iff_eq.mpr c3
    have c3b1 : ((l0.length : Int) != (l1.length : Int)) = false := bne_eq_false_iff_eq.mpr c3
    have c3b2 : (l0.length == l1.length) = true := by first | simpa using c3 | (simp at c3 ⊢; omega)
    clear c3
    have H' := Aside0.mk H
    clear H
    go_enter Try.func22, Try.ntmps22
    go_wp2
    repeat (go_quiet (fail); try go_wp2)
    go_loopg [13] k (fun kq v13 w' => ∃ (x13_1 : Int), v13 = .int .i64 x13_1 ∧ Aside0 (api_Span.l0 kq l0 l1 (l0.length : Int) x13_1 = some r) ∧ Aside0 (kq ≤ k) ∧ Drawn0 w w')
    case atStart => exact ⟨(0), (by first | rfl | (simp; done) | (simp [*]; done)), H', ⟨Nat.le_refl _⟩, by repeat (first | exact Drawn0.refl _ | apply Drawn0.step)⟩
    case round =>
      clear H'
      try clear c1
      try clear c2
      try clear p2
      try clear c3
      try clear c3b0
      try clear c3b1
      try clear c3b2
      obtain ⟨x13_1, rfl, HA, HK1, ⟨m1, rfl⟩⟩ := hrel
      cases gk with
      | zero => exact absurd HA.out (by simp [api_Span.l0])
      | succ k1 =>
        have H := HA.out
        clear HA
        simp only [api_Span.l0] at H
        by_cases c4 : x13_1 < (l0.length : Int)
        · rw [if_pos c4] at H
          have c4b0 : decide (x13_1 < (l0.length : Int)) = true := decide_eq_true c4
          clear c4
          by_cases c5 : 0 ≤ x13_1
          · rw [if_pos c5] at H
            have c5b0 : decide (0 ≤ x13_1) = true := decide_eq_true c5
            clear c5
            by_cases c6 : x13_1 < (l0.length : Int)
            · rw [if_pos c6] at H
              have c6b0 : decide (x13_1 < (l0.length : Int)) = true := decide_eq_true c6
              clear c6
              by_cases c7 : x13_1 < (l1.length : Int)
              · rw [if_pos c7] at H
                have c7b0 : decide (x13_1 < (l1.length : Int)) = true := decide_eq_true c7
                clear c7
                by_cases c8 : (!(((rd_T47 l0 x13_1).f0) == ((rd_T47 l1 x13_1).f0)) || (!(((rd_T47 l0 x13_1).f1) == ((rd_T47 l1 x13_1).f1)))) = true
                · rw [if_pos c8] at H
                  have c8b0 : (!(((rd_T47 l0 x13_1).f0) == ((rd_T47 l1 x13_1).f0)) || (!(((rd_T47 l0 x13_1).f1) == ((rd_T47 l1 x13_1).f1)))) = true := c8
                  clear c8
                  obtain rfl := Option.some.inj H
                  have p129 : 0 ≤ (x13_1 : Int) := of_decide_eq_true (by first | (with_reducible assumption) | assumption)
                  have q129 : x13_1 < (l0.length : Int) := of_decide_eq_true (by first | (with_reducible assumption) | assumption)
                  obtain ⟨ad129, e129, hx129_0, hx129_1⟩ := at_T47 HR0.out x13_1 p129 q129
                  cases e129
                  replace p129 := eq_true p129
                  replace q129 := eq_true q129
                  have p130 : 0 ≤ (x13_1 : Int) := of_decide_eq_true (by first | (with_reducible assumption) | assumption)
                  have q130 : x13_1 < (l1.length : Int) := of_decide_eq_true (by first | (with_reducible assumption) | assumption)
                  obtain ⟨ad130, e130, hx130_0, hx130_1⟩ := at_T47 HR1.out x13_1 p130 q130
                  cases e130
                  replace p130 := eq_true p130
                  replace q130 := eq_true q130
                  go_wp2
                  repeat (go_quiet (fail); try go_wp2)
                  go_ret
                  exact ⟨by first | rfl | (simp; done) | (simp [*]; done), by repeat (first | exact Drawn0.refl _ | apply Drawn0.step)⟩
                · rw [if_neg c8] at H
                  have c8b0 : (!(((rd_T47 l0 x13_1).f0) == ((rd_T47 l1 x13_1).f0)) || (!(((rd_T47 l0 x13_1).f1) == ((rd_T47 l1 x13_1).f1)))) = false := by simpa using c8
                  clear c8
                  have H' := Aside0.mk H
                  clear H
                  have p129 : 0 ≤ (x13_1 : Int) := of_decide_eq_true (by first | (with_reducible assumption) | assumption)
                  have q129 : x13_1 < (l0.length : Int) := of_decide_eq_true (by first | (with_reducible assumption) | assumption)
                  obtain ⟨ad129, e129, hx129_0, hx129_1⟩ := at_T47 HR0.out x13_1 p129 q129
                  cases e129
                  replace p129 := eq_true p129
                  replace q129 := eq_true q129
                  have p130 : 0 ≤ (x13_1 : Int) := of_decide_eq_true (by first | (with_reducible assumption) | assumption)
                  have q130 : x13_1 < (l1.length : Int) := of_decide_eq_true (by first | (with_reducible assumption) | assumption)
                  obtain ⟨ad130, e130, hx130_0, hx130_1⟩ := at_T47 HR1.out x13_1 p130 q130
                  cases e130
                  replace p130 := eq_true p130
                  replace q130 := eq_true q130
                  go_wp2
                  repeat (go_quiet (fail); try go_wp2)
                  go_roundg k1
                  case measure => have := HK1.out; omega
                  case rel => exact ⟨(wrap64 (x13_1 + 1)), (by first | rfl | (simp; done) | (simp [*]; done)), H', ⟨by have := HK1.out; omega⟩, by repeat (first | exact Drawn0.refl _ | apply Drawn0.step)⟩
              · rw [if_neg c7] at H
                exact absurd H (by simp)
            · rw [if_neg c6] at H
              exact absurd H (by simp)
          · rw [if_neg c5] at H
            exact absurd H (by simp)
        · rw [if_neg c4] at H
          have c4b0 : decide (x13_1 < (l0.length : Int)) = false := decide_eq_false c4
          clear c4
          obtain rfl := Option.some.inj H
          go_wp2
          repeat (go_quiet (fail); try go_wp2)
          go_ret
          exact ⟨by first | rfl | (simp; done) | (simp [*]; done), by repeat (first | exact Drawn0.refl _ | apply Drawn0.step)⟩
  · rw [if_neg c3] at H
    have c3b0 : ((l0.length : Int) == (l1.length : Int)) = false := beq_eq_false_iff_ne.mpr c3
    have c3b1 : ((l0.length : Int) != (l1.length : Int)) = true := bne_iff_ne.mpr c3
    have c3b2 : (l0.length == l1.length) = false := by first | simpa using c3 | (simp at c3 ⊢; omega)
    obtain rfl := Option.some.inj H
    go_enter Try.func22, Try.ntmps22
    go_wp2
    repeat (go_quiet (fail); try go_wp2)
    go_ret
    exact ⟨by first | rfl | (simp; done) | (simp [*]; done), by repeat (first | exact Drawn0.refl _ | apply Drawn0.step)⟩

/-! ### api_Window: function 23 -/
def api_Window.l0 : Nat → List (S50) → List (S50) → Int → Int → Option (Bool)
  | 0, _, _, _, _ => none
  | k + 1, x0, x1, x12, x13 => if x13 < x12 then (if 0 ≤ x13 then (if x13 < (x0.length : Int) then (if x13 < (x1.length : Int) then (if (!(((rd_T50 x0 x13).f0) == ((rd_T50 x1 x13).f0)) || (!(((rd_T50 x0 x13).f1) == ((rd_T50 x1 x13).f1)))) = true then (some false) else (api_Window.l0 k x0 x1 x12 (wrap64 (x13 + 1)))) else (none)) else (none)) else (none)) else (some true)
def api_Window.f (k : Nat) (l0 : List (S50)) (l1 : List (S50)) : Option (Bool) := if (l0.length : Int) = (l1.length : Int) then (api_Window.l0 k l0 l1 (l0.length : Int) 0) else (some false)
theorem api_Window.mono_l : ∀ k, (∀ y0 y1 y2 y3, LeO (api_Window.l0 k y0 y1 y2 y3) (api_Window.l0 (k + 1) y0 y1 y2 y3))
  | 0 => fun _ _ _ _ r h => by simp [api_Window.l0] at h
  | k + 1 => by
    have ih0 := api_Window.mono_l k
    · intro y0 y1 y2 y3
      unfold api_Window.l0
      repeat' first
      | (with_reducible exact ih0 _ _ _ _)
      | (with_reducible exact LeO.refl _)
      | (with_reducible exact LeO.none _)
      | (with_reducible refine LeO.ite ?_ ?_)
      | (with_reducible refine LeO.bind ?_ (fun _ => ?_))
      | exact ih0 _ _ _ _
      | exact LeO.none _
      | refine LeO.ite ?_ ?_
      | refine LeO.bind ?_ (fun _ => ?_)
theorem api_Window.mono : ∀ a0 a1 k, LeO (api_Window.f k a0 a1) (api_Window.f (k + 1) a0 a1) := by
  intro a0 a1 k
  have ih0 := api_Window.mono_l k
  unfold api_Window.f
  repeat' first
      | (with_reducible exact ih0 _ _ _ _)
      | (with_reducible exact LeO.refl _)
      | (with_reducible exact LeO.none _)
      | (with_reducible refine LeO.ite ?_ ?_)
      | (with_reducible refine LeO.bind ?_ (fun _ => ?_))
      | exact ih0 _ _ _ _
      | exact LeO.none _
      | refine LeO.ite ?_ ?_
      | refine LeO.bind ?_ (fun _ => ?_)
set_option maxHeartbeats 8000000 in
set_option maxRecDepth 100000 in
theorem api_Window.calls (k : Nat) (A0 : Option Addr) (c0 : Nat) (l0 : List (S50)) (A1 : Option Addr) (c1 : Nat) (l1 : List (S50)) (r : Bool) (w : World) (hr0 : Kd.C k50 w A0 l0.length l0) (hc0 : l0.length ≤ c0) (hr1 : Kd.C k50 w A1 l1.length l1) (hc1 : l1.length ≤ c1) (h : api_Window.f k l0 l1 = some r) :
    Calls Try.prog 23 #[.slice A0 l0.length c0, .slice A1 l1.length c1] w fun e w' => e = .returned (.bool r) ∧ Drawn0 w w' := by
  have hu50 := Try.underlying50
  have HR0 := Aside0.mk hr0
  have HC0 := Aside0.mk hc0
  clear hr0 hc0
  have HR1 := Aside0.mk hr1
  have HC1 := Aside0.mk hc1
  clear hr1 hc1
  have H : (if (l0.length : Int) = (l1.length : Int) then (api_Window.l0 k l0 l1 (l0.length : Int) 0) else (some false)) = some r := h
  clear h
  by_cases c3 : (l0.length : Int) = (l1.length : Int)
  · rw [if_pos c3] at H
    have c3b0 : ((l0.length : Int) == (l1.length : Int)) = true := beq_iff_eq.mpr c3
    have c3b1 : ((l0.length : Int) != (l1.length : Int)) = false := bne_eq_false_iff_eq.mpr c3
    have c3b2 : (l0.length == l1.length) = true := by first | simpa using c3 | (simp at c3 ⊢; omega)
    clear c3
    have H' := Aside0.mk H
    clear H
    go_enter Try.func23, Try.ntmps23
    go_wp2
    repeat (go_quiet (fail); try go_wp2)
    go_loopg [13] k (fun kq v13 w' => ∃ (x13_1 : Int), v13 = .int .i64 x13_1 ∧ Aside0 (api_Window.l0 kq l0 l1 (l0.length : Int) x13_1 = some r) ∧ Aside0 (kq ≤ k) ∧ Drawn0 w w')
    case atStart => exact ⟨(0), (by first | rfl | (simp; done) | (simp [*]; done)), H', ⟨Nat.le_refl _⟩, by repeat (first | exact Drawn0.refl _ | apply Drawn0.step)⟩
    case round =>
      clear H'
      try clear c1
      try clear c2
      try clear p2
      try clear c3
      try clear c3b0
      try clear c3b1
      try clear c3b2
      obtain ⟨x13_1, rfl, HA, HK1, ⟨m1, rfl⟩⟩ := hrel
      cases gk with
      | zero => exact absurd HA.out (by simp [api_Window.l0])
      | succ k1 =>
        have H := HA.out
        clear HA
        simp only [api_Window.l0] at H
        by_cases c4 : x13_1 < (l0.length : Int)
        · rw [if_pos c4] at H
          have c4b0 : decide (x13_1 < (l0.length : Int)) = true := decide_eq_true c4
          clear c4
          by_cases c5 : 0 ≤ x13_1
          · rw [if_pos c5] at H
            have c5b0 : decide (0 ≤ x13_1) = true := decide_eq_true c5
            clear c5
            by_cases c6 : x13_1 < (l0.length : Int)
            · rw [if_pos c6] at H
              have c6b0 : decide (x13_1 < (l0.length : Int)) = true := decide_eq_true c6
              clear c6
              by_cases c7 : x13_1 < (l1.length : Int)
              · rw [if_pos c7] at H
                have c7b0 : decide (x13_1 < (l1.length : Int)) = true := decide_eq_true c7
                clear c7
                by_cases c8 : (!(((rd_T50 l0 x13_1).f0) == ((rd_T50 l1 x13_1).f0)) || (!(((rd_T50 l0 x13_1).f1) == ((rd_T50 l1 x13_1).f1)))) = true
                · rw [if_pos c8] at H
                  have c8b0 : (!(((rd_T50 l0 x13_1).f0) == ((rd_T50 l1 x13_1).f0)) || (!(((rd_T50 l0 x13_1).f1) == ((rd_T50 l1 x13_1).f1)))) = true := c8
                  clear c8
                  obtain rfl := Option.some.inj H
                  have p131 : 0 ≤ (x13_1 : Int) := of_decide_eq_true (by first | (with_reducible assumption) | assumption)
                  have q131 : x13_1 < (l0.length : Int) := of_decide_eq_true (by first | (with_reducible assumption) | assumption)
                  obtain ⟨ad131, e131, hx131_0, hx131_1⟩ := at_T50 HR0.out x13_1 p131 q131
                  cases e131
                  replace p131 := eq_true p131
                  replace q131 := eq_true q131
                  have p132 : 0 ≤ (x13_1 : Int) := of_decide_eq_true (by first | (with_reducible assumption) | assumption)
                  have q132 : x13_1 < (l1.length : Int) := of_decide_eq_true (by first | (with_reducible assumption) | assumption)
                  obtain ⟨ad132, e132, hx132_0, hx132_1⟩ := at_T50 HR1.out x13_1 p132 q132
                  cases e132
                  replace p132 := eq_true p132
                  replace q132 := eq_true q132
                  go_wp2
                  repeat (go_quiet (fail); try go_wp2)
                  go_ret
                  exact ⟨by first | rfl | (simp; done) | (simp [*]; done), by repeat (first | exact Drawn0.refl _ | apply Drawn0.step)⟩
                · rw [if_neg c8] at H
                  have c8b0 : (!(((rd_T50 l0 x13_1).f0) == ((rd_T50 l1 x13_1).f0)) || (!(((rd_T50 l0 x13_1).f1) == ((rd_T50 l1 x13_1).f1)))) = false := by simpa using c8
                  clear c8
                  have H' := Aside0.mk H
                  clear H
                  have p131 : 0 ≤ (x13_1 : Int) := of_decide_eq_true (by first | (with_reducible assumption) | assumption)
                  have q131 : x13_1 < (l0.length : Int) := of_decide_eq_true (by first | (with_reducible assumption) | assumption)
                  obtain ⟨ad131, e131, hx131_0, hx131_1⟩ := at_T50 HR0.out x13_1 p131 q131
                  cases e131
                  replace p131 := eq_true p131
                  replace q131 := eq_true q131
                  have p132 : 0 ≤ (x13_1 : Int) := of_decide_eq_true (by first | (with_reducible assumption) | assumption)
                  have q132 : x13_1 < (l1.length : Int) := of_decide_eq_true (by first | (with_reducible assumption) | assumption)
                  obtain ⟨ad132, e132, hx132_0, hx132_1⟩ := at_T50 HR1.out x13_1 p132 q132
                  cases e132
                  replace p132 := eq_true p132
                  replace q132 := eq_true q132
                  go_wp2
                  repeat (go_quiet (fail); try go_wp2)
                  go_roundg k1
                  case measure => have := HK1.out; omega
                  case rel => exact ⟨(wrap64 (x13_1 + 1)), (by first | rfl | (simp; done) | (simp [*]; done)), H', ⟨by have := HK1.out; omega⟩, by repeat (first | exact Drawn0.refl _ | apply Drawn0.step)⟩
              · rw [if_neg c7] at H
                exact absurd H (by simp)
            · rw [if_neg c6] at H
              exact absurd H (by simp)
          · rw [if_neg c5] at H
            exact absurd H (by simp)
        · rw [if_neg c4] at H
          have c4b0 : decide (x13_1 < (l0.length : Int)) = false := decide_eq_false c4
          clear c4
          obtain rfl := Option.some.inj H
          go_wp2
          repeat (go_quiet (fail); try go_wp2)
          go_ret
          exact ⟨by first | rfl | (simp; done) | (simp [*]; done), by repeat (first | exact Drawn0.refl _ | apply Drawn0.step)⟩
  · rw [if_neg c3] at H
    have c3b0 : ((l0.length : Int) == (l1.length : Int)) = false := beq_eq_false_iff_ne.mpr c3
    have c3b1 : ((l0.length : Int) != (l1.length : Int)) = true := bne_iff_ne.mpr c3
    have c3b2 : (l0.length == l1.length) = false := by first | simpa using c3 | (simp at c3 ⊢; omega)
    obtain rfl := Option.some.inj H
    go_enter Try.func23, Try.ntmps23
    go_wp2
    repeat (go_quiet (fail); try go_wp2)
    go_ret
    exact ⟨by first | rfl | (simp; done) | (simp [*]; done), by repeat (first | exact Drawn0.refl _ | apply Drawn0.step)⟩

/-! ### railplanref1_Mod: function 26 -/
def railplanref1_Mod.f (a0 : Int) (a1 : Int) : Option (Int) := if a1 < 1 then (some 0) else (if a1 = 0 then (none) else (if (Int.tmod a0 a1) < 0 then (some (wrap64 ((Int.tmod a0 a1) + a1))) else (some (Int.tmod a0 a1))))
set_option maxHeartbeats 8000000 in
set_option maxRecDepth 100000 in
theorem railplanref1_Mod.calls (a0 : Int) (a1 : Int) (r : Int) (w : World) (h : railplanref1_Mod.f a0 a1 = some r) :
    Calls Try.prog 26 #[.int .i64 a0, .int .i64 a1] w fun e w' => e = .returned (.int .i64 r) ∧ Drawn0 w w' := by
  have H : (if a1 < 1 then (some 0) else (if a1 = 0 then (none) else (if (Int.tmod a0 a1) < 0 then (some (wrap64 ((Int.tmod a0 a1) + a1))) else (some (Int.tmod a0 a1))))) = some r := h
  clear h
  by_cases c3 : a1 < 1
  · rw [if_pos c3] at H
    have c3b0 : decide (a1 < 1) = true := decide_eq_true c3
    clear c3
    obtain rfl := Option.some.inj H
    go_enter Try.func26, Try.ntmps26
    go_wp2
    go_ret
    exact ⟨by first | rfl | (simp; done) | (simp [*]; done), by repeat (first | exact Drawn0.refl _ | apply Drawn0.step)⟩
  · rw [if_neg c3] at H
    have c3b0 : decide (a1 < 1) = false := decide_eq_false c3
    clear c3
    by_cases c4 : a1 = 0
    · rw [if_pos c4] at H
      exact absurd H (by simp)
    · rw [if_neg c4] at H
      have c4b0 : (a1 == 0) = false := beq_eq_false_iff_ne.mpr c4
      have c4b1 : (a1 != 0) = true := bne_iff_ne.mpr c4
      by_cases c5 : (Int.tmod a0 a1) < 0
      · rw [if_pos c5] at H
        have c5b0 : decide ((Int.tmod a0 a1) < 0) = true := decide_eq_true c5
        clear c5
        obtain rfl := Option.some.inj H
        go_enter Try.func26, Try.ntmps26
        go_wp2
        go_ret
        exact ⟨by first | rfl | (simp; done) | (simp [*]; done), by repeat (first | exact Drawn0.refl _ | apply Drawn0.step)⟩
      · rw [if_neg c5] at H
        have c5b0 : decide ((Int.tmod a0 a1) < 0) = false := decide_eq_false c5
        clear c5
        obtain rfl := Option.some.inj H
        go_enter Try.func26, Try.ntmps26
        go_wp2
        go_ret
        exact ⟨by first | rfl | (simp; done) | (simp [*]; done), by repeat (first | exact Drawn0.refl _ | apply Drawn0.step)⟩

/-! ### railplanref9_ValidList: function 41 -/
def railplanref9_ValidList.l0 : Nat → List (S41) → Int → Option (Bool)
  | 0, _, _ => none
  | k + 1, x0, x3 => if x3 < (x0.length : Int) then (if 0 ≤ x3 then (if ((rd_T41 x0 x3).f0) < 0 then (some false) else (if x3 > 0 then (if 0 ≤ (wrap64 (x3 - 1)) then (if (wrap64 (x3 - 1)) < (x0.length : Int) then (if ((rd_T41 x0 x3).f0) ≤ ((rd_T41 x0 (wrap64 (x3 - 1))).f0) then (some false) else (if ((rd_T41 x0 x3).f1) < (-65536) then (some false) else (if ((rd_T41 x0 x3).f2) > 65536 then (some false) else (if ((rd_T41 x0 x3).f1) ≥ ((rd_T41 x0 x3).f2) then (some false) else (railplanref9_ValidList.l0 k x0 (wrap64 (x3 + 1))))))) else (none)) else (none)) else (if ((rd_T41 x0 x3).f1) < (-65536) then (some false) else (if ((rd_T41 x0 x3).f2) > 65536 then (some false) else (if ((rd_T41 x0 x3).f1) ≥ ((rd_T41 x0 x3).f2) then (some false) else (railplanref9_ValidList.l0 k x0 (wrap64 (x3 + 1)))))))) else (none)) else (some true)
def railplanref9_ValidList.f (k : Nat) (l0 : List (S41)) : Option (Bool) := railplanref9_ValidList.l0 k l0 0
theorem railplanref9_ValidList.mono_l : ∀ k, (∀ y0 y1, LeO (railplanref9_ValidList.l0 k y0 y1) (railplanref9_ValidList.l0 (k + 1) y0 y1))
  | 0 => fun _ _ r h => by simp [railplanref9_ValidList.l0] at h
  | k + 1 => by
    have ih0 := railplanref9_ValidList.mono_l k
    · intro y0 y1
      unfold railplanref9_ValidList.l0
      repeat' first
      | (with_reducible exact ih0 _ _)
      | (with_reducible exact LeO.refl _)
      | (with_reducible exact LeO.none _)
      | (with_reducible refine LeO.ite ?_ ?_)
      | (with_reducible refine LeO.bind ?_ (fun _ => ?_))
      | exact ih0 _ _
      | exact LeO.none _
      | refine LeO.ite ?_ ?_
      | refine LeO.bind ?_ (fun _ => ?_)
theorem railplanref9_ValidList.mono : ∀ a0 k, LeO (railplanref9_ValidList.f k a0) (railplanref9_ValidList.f (k + 1) a0) := by
  intro a0 k
  have ih0 := railplanref9_ValidList.mono_l k
  unfold railplanref9_ValidList.f
  repeat' first
      | (with_reducible exact ih0 _ _)
      | (with_reducible exact LeO.refl _)
      | (with_reducible exact LeO.none _)
      | (with_reducible refine LeO.ite ?_ ?_)
      | (with_reducible refine LeO.bind ?_ (fun _ => ?_))
      | exact ih0 _ _
      | exact LeO.none _
      | refine LeO.ite ?_ ?_
      | refine LeO.bind ?_ (fun _ => ?_)
set_option maxHeartbeats 8000000 in
set_option maxRecDepth 100000 in
theorem railplanref9_ValidList.calls (k : Nat) (A0 : Option Addr) (c0 : Nat) (l0 : List (S41)) (r : Bool) (w : World) (hr0 : Kd.C k41 w A0 l0.length l0) (hc0 : l0.length ≤ c0) (h : railplanref9_ValidList.f k l0 = some r) :
    Calls Try.prog 41 #[.slice A0 l0.length c0] w fun e w' => e = .returned (.bool r) ∧ Drawn0 w w' := by
  have HR0 := Aside0.mk hr0
  have HC0 := Aside0.mk hc0
  clear hr0 hc0
  have H : (railplanref9_ValidList.l0 k l0 0) = some r := h
  clear h
  have H' := Aside0.mk H
  clear H
  go_enter Try.func41, Try.ntmps41
  go_wp2
  repeat (go_quiet (fail); try go_wp2)
  go_loopg [3] k (fun kq v3 w' => ∃ (x3_1 : Int), v3 = .int .i64 x3_1 ∧ Aside0 (railplanref9_ValidList.l0 kq l0 x3_1 = some r) ∧ Aside0 (kq ≤ k) ∧ Drawn0 w w')
  case atStart => exact ⟨(0), (by first | rfl | (simp; done) | (simp [*]; done)), H', ⟨Nat.le_refl _⟩, by repeat (first | exact Drawn0.refl _ | apply Drawn0.step)⟩
  case round =>
    clear H'
    obtain ⟨x3_1, rfl, HA, HK1, ⟨m1, rfl⟩⟩ := hrel
    cases gk with
    | zero => exact absurd HA.out (by simp [railplanref9_ValidList.l0])
    | succ k1 =>
      have H := HA.out
      clear HA
      simp only [railplanref9_ValidList.l0] at H
      by_cases c2 : x3_1 < (l0.length : Int)
      · rw [if_pos c2] at H
        have c2b0 : decide (x3_1 < (l0.length : Int)) = true := decide_eq_true c2
        clear c2
        by_cases c3 : 0 ≤ x3_1
        · rw [if_pos c3] at H
          have c3b0 : decide (0 ≤ x3_1) = true := decide_eq_true c3
          clear c3
          by_cases c4 : ((rd_T41 l0 x3_1).f0) < 0
          · rw [if_pos c4] at H
            have c4b0 : decide (((rd_T41 l0 x3_1).f0) < 0) = true := decide_eq_true c4
            clear c4
            obtain rfl := Option.some.inj H
            have p133 : 0 ≤ (x3_1 : Int) := of_decide_eq_true (by first | (with_reducible assumption) | assumption)
            have q133 : x3_1 < (l0.length : Int) := of_decide_eq_true (by first | (with_reducible assumption) | assumption)
            obtain ⟨ad133, e133, hx133_0, hx133_1, hx133_2⟩ := at_T41 HR0.out x3_1 p133 q133
            cases e133
            replace p133 := eq_true p133
            replace q133 := eq_true q133
            go_wp2
            repeat (go_quiet (fail); try go_wp2)
            go_ret
            exact ⟨by first | rfl | (simp; done) | (simp [*]; done), by repeat (first | exact Drawn0.refl _ | apply Drawn0.step)⟩
          · rw [if_neg c4] at H
            have c4b0 : decide (((rd_T41 l0 x3_1).f0) < 0) = false := decide_eq_false c4
            clear c4
            by_cases c5 : x3_1 > 0
            · rw [if_pos c5] at H
              have c5b0 : decide (0 < x3_1) = true := decide_eq_true c5
              clear c5
              obtain ⟨ji6, hji6⟩ : ∃ j_ : Int, (wrap64 (x3_1 - 1)) = j_ := ⟨_, rfl⟩
              replace H : (if 0 ≤ (ji6) then (if (ji6) < (l0.length : Int) then (if ((rd_T41 l0 x3_1).f0) ≤ ((rd_T41 l0 (ji6)).f0) then (some false) else (if ((rd_T41 l0 x3_1).f1) < (-65536) then (some false) else (if ((rd_T41 l0 x3_1).f2) > 65536 then (some false) else (if ((rd_T41 l0 x3_1).f1) ≥ ((rd_T41 l0 x3_1).f2) then (some false) else (railplanref9_ValidList.l0 k1 l0 (wrap64 (x3_1 + 1))))))) else (none)) else (none)) = some r := by first | (rw [hji6] at H; exact H) | (simp only [hji6] at H ⊢; exact H)
              have hji6w : (IntKind.i64.wrap (x3_1 - 1)) = ji6 := (i64_w _).trans hji6
              by_cases c7 : 0 ≤ (ji6)
              · rw [if_pos c7] at H
                have c7b0 : decide (0 ≤ (ji6)) = true := decide_eq_true c7
                clear c7
                by_cases c8 : (ji6) < (l0.length : Int)
                · rw [if_pos c8] at H
                  have c8b0 : decide ((ji6) < (l0.length : Int)) = true := decide_eq_true c8
                  clear c8
                  by_cases c9 : ((rd_T41 l0 x3_1).f0) ≤ ((rd_T41 l0 (ji6)).f0)
                  · rw [if_pos c9] at H
                    have c9b0 : decide (((rd_T41 l0 x3_1).f0) ≤ ((rd_T41 l0 (ji6)).f0)) = true := decide_eq_true c9
                    clear c9
                    obtain rfl := Option.some.inj H
                    have p133 : 0 ≤ (x3_1 : Int) := of_decide_eq_true (by first | (with_reducible assumption) | assumption)
                    have q133 : x3_1 < (l0.length : Int) := of_decide_eq_true (by first | (with_reducible assumption) | assumption)
                    obtain ⟨ad133, e133, hx133_0, hx133_1, hx133_2⟩ := at_T41 HR0.out x3_1 p133 q133
                    cases e133
                    replace p133 := eq_true p133
                    replace q133 := eq_true q133
                    have p134 : 0 ≤ (x3_1 : Int) := of_decide_eq_true (by first | (with_reducible assumption) | assumption)
                    have q134 : x3_1 < (l0.length : Int) := of_decide_eq_true (by first | (with_reducible assumption) | assumption)
                    obtain ⟨ad134, e134, hx134_0, hx134_1, hx134_2⟩ := at_T41 HR0.out x3_1 p134 q134
                    obtain rfl : ad133 = ad134 := (by injection e134)
                    replace p134 := eq_true p134
                    replace q134 := eq_true q134
                    have p135 : 0 ≤ ((ji6) : Int) := of_decide_eq_true (by first | (with_reducible assumption) | assumption)
                    have q135 : (ji6) < (l0.length : Int) := of_decide_eq_true (by first | (with_reducible assumption) | assumption)
                    obtain ⟨ad135, e135, hx135_0, hx135_1, hx135_2⟩ := at_T41 HR0.out (ji6) p135 q135
                    obtain rfl : ad133 = ad135 := (by injection e135)
                    replace p135 := eq_true p135
                    replace q135 := eq_true q135
                    go_wp2
                    repeat (go_quiet (fail); try go_wp2)
                    go_ret
                    exact ⟨by first | rfl | (simp; done) | (simp only [← hji6] <;> (first | rfl | simp)) | (simp [*]; done), by repeat (first | exact Drawn0.refl _ | apply Drawn0.step)⟩
                  · rw [if_neg c9] at H
                    have c9b0 : decide (((rd_T41 l0 x3_1).f0) ≤ ((rd_T41 l0 (ji6)).f0)) = false := decide_eq_false c9
                    clear c9
                    by_cases c10 : ((rd_T41 l0 x3_1).f1) < (-65536)
                    · rw [if_pos c10] at H
                      have c10b0 : decide (((rd_T41 l0 x3_1).f1) < (-65536)) = true := decide_eq_true c10
                      clear c10
                      obtain rfl := Option.some.inj H
                      have p133 : 0 ≤ (x3_1 : Int) := of_decide_eq_true (by first | (with_reducible assumption) | assumption)
                      have q133 : x3_1 < (l0.length : Int) := of_decide_eq_true (by first | (with_reducible assumption) | assumption)
                      obtain ⟨ad133, e133, hx133_0, hx133_1, hx133_2⟩ := at_T41 HR0.out x3_1 p133 q133
                      cases e133
                      replace p133 := eq_true p133
                      replace q133 := eq_true q133
                      have p134 : 0 ≤ (x3_1 : Int) := of_decide_eq_true (by first | (with_reducible assumption) | assumption)
                      have q134 : x3_1 < (l0.length : Int) := of_decide_eq_true (by first | (with_reducible assumption) | assumption)
                      obtain ⟨ad134, e134, hx134_0, hx134_1, hx134_2⟩ := at_T41 HR0.out x3_1 p134 q134
                      obtain rfl : ad133 = ad134 := (by injection e134)
                      replace p134 := eq_true p134
                      replace q134 := eq_true q134
                      have p135 : 0 ≤ ((ji6) : Int) := of_decide_eq_true (by first | (with_reducible assumption) | assumption)
                      have q135 : (ji6) < (l0.length : Int) := of_decide_eq_true (by first | (with_reducible assumption) | assumption)
                      obtain ⟨ad135, e135, hx135_0, hx135_1, hx135_2⟩ := at_T41 HR0.out (ji6) p135 q135
                      obtain rfl : ad133 = ad135 := (by injection e135)
                      replace p135 := eq_true p135
                      replace q135 := eq_true q135
                      have p136 : 0 ≤ (x3_1 : Int) := of_decide_eq_true (by first | (with_reducible assumption) | assumption)
                      have q136 : x3_1 < (l0.length : Int) := of_decide_eq_true (by first | (with_reducible assumption) | assumption)
                      obtain ⟨ad136, e136, hx136_0, hx136_1, hx136_2⟩ := at_T41 HR0.out x3_1 p136 q136
                      obtain rfl : ad133 = ad136 := (by injection e136)
                      replace p136 := eq_true p136
                      replace q136 := eq_true q136
                      go_wp2
                      repeat (go_quiet (fail); try go_wp2)
                      go_ret
                      exact ⟨by first | rfl | (simp; done) | (simp only [← hji6] <;> (first | rfl | simp)) | (simp [*]; done), by repeat (first | exact Drawn0.refl _ | apply Drawn0.step)⟩
                    · rw [if_neg c10] at H
                      have c10b0 : decide (((rd_T41 l0 x3_1).f1) < (-65536)) = false := decide_eq_false c10
                      clear c10
                      by_cases c11 : ((rd_T41 l0 x3_1).f2) > 65536
                      · rw [if_pos c11] at H
                        have c11b0 : decide (65536 < ((rd_T41 l0 x3_1).f2)) = true := decide_eq_true c11
                        clear c11
                        obtain rfl := Option.some.inj H
                        have p133 : 0 ≤ (x3_1 : Int) := of_decide_eq_true (by first | (with_reducible assumption) | assumption)
                        have q133 : x3_1 < (l0.length : Int) := of_decide_eq_true (by first | (with_reducible assumption) | assumption)
                        obtain ⟨ad133, e133, hx133_0, hx133_1, hx133_2⟩ := at_T41 HR0.out x3_1 p133 q133
                        cases e133
                        replace p133 := eq_true p133
                        replace q133 := eq_true q133
                        have p134 : 0 ≤ (x3_1 : Int) := of_decide_eq_true (by first | (with_reducible assumption) | assumption)
                        have q134 : x3_1 < (l0.length : Int) := of_decide_eq_true (by first | (with_reducible assumption) | assumption)
                        obtain ⟨ad134, e134, hx134_0, hx134_1, hx134_2⟩ := at_T41 HR0.out x3_1 p134 q134
                        obtain rfl : ad133 = ad134 := (by injection e134)
                        replace p134 := eq_true p134
                        replace q134 := eq_true q134
                        have p135 : 0 ≤ ((ji6) : Int) := of_decide_eq_true (by first | (with_reducible assumption) | assumption)
                        have q135 : (ji6) < (l0.length : Int) := of_decide_eq_true (by first | (with_reducible assumption) | assumption)
                        obtain ⟨ad135, e135, hx135_0, hx135_1, hx135_2⟩ := at_T41 HR0.out (ji6) p135 q135
                        obtain rfl : ad133 = ad135 := (by injection e135)
                        replace p135 := eq_true p135
                        replace q135 := eq_true q135
                        have p136 : 0 ≤ (x3_1 : Int) := of_decide_eq_true (by first | (with_reducible assumption) | assumption)
                        have q136 : x3_1 < (l0.length : Int) := of_decide_eq_true (by first | (with_reducible assumption) | assumption)
                        obtain ⟨ad136, e136, hx136_0, hx136_1, hx136_2⟩ := at_T41 HR0.out x3_1 p136 q136
                        obtain rfl : ad133 = ad136 := (by injection e136)
                        replace p136 := eq_true p136
                        replace q136 := eq_true q136
                        have p137 : 0 ≤ (x3_1 : Int) := of_decide_eq_true (by first | (with_reducible assumption) | assumption)
                        have q137 : x3_1 < (l0.length : Int) := of_decide_eq_true (by first | (with_reducible assumption) | assumption)
                        obtain ⟨ad137, e137, hx137_0, hx137_1, hx137_2⟩ := at_T41 HR0.out x3_1 p137 q137
                        obtain rfl : ad133 = ad137 := (by injection e137)
                        replace p137 := eq_true p137
                        replace q137 := eq_true q137
                        go_wp2
                        repeat (go_quiet (fail); try go_wp2)
                        go_ret
                        exact ⟨by first | rfl | (simp; done) | (simp only [← hji6] <;> (first | rfl | simp)) | (simp [*]; done), by repeat (first | exact Drawn0.refl _ | apply Drawn0.step)⟩
                      · rw [if_neg c11] at H
                        have c11b0 : decide (65536 < ((rd_T41 l0 x3_1).f2)) = false := decide_eq_false c11
                        clear c11
                        by_cases c12 : ((rd_T41 l0 x3_1).f1) ≥ ((rd_T41 l0 x3_1).f2)
                        · rw [if_pos c12] at H
                          have c12b0 : decide (((rd_T41 l0 x3_1).f2) ≤ ((rd_T41 l0 x3_1).f1)) = true := decide_eq_true c12
                          clear c12
                          obtain rfl := Option.some.inj H
                          have p133 : 0 ≤ (x3_1 : Int) := of_decide_eq_true (by first | (with_reducible assumption) | assumption)
                          have q133 : x3_1 < (l0.length : Int) := of_decide_eq_true (by first | (with_reducible assumption) | assumption)
                          obtain ⟨ad133, e133, hx133_0, hx133_1, hx133_2⟩ := at_T41 HR0.out x3_1 p133 q133
                          cases e133
                          replace p133 := eq_true p133
                          replace q133 := eq_true q133
                          have p134 : 0 ≤ (x3_1 : Int) := of_decide_eq_true (by first | (with_reducible assumption) | assumption)
                          have q134 : x3_1 < (l0.length : Int) := of_decide_eq_true (by first | (with_reducible assumption) | assumption)
                          obtain ⟨ad134, e134, hx134_0, hx134_1, hx134_2⟩ := at_T41 HR0.out x3_1 p134 q134
                          obtain rfl : ad133 = ad134 := (by injection e134)
                          replace p134 := eq_true p134
                          replace q134 := eq_true q134
                          have p135 : 0 ≤ ((ji6) : Int) := of_decide_eq_true (by first | (with_reducible assumption) | assumption)
                          have q135 : (ji6) < (l0.length : Int) := of_decide_eq_true (by first | (with_reducible assumption) | assumption)
                          obtain ⟨ad135, e135, hx135_0, hx135_1, hx135_2⟩ := at_T41 HR0.out (ji6) p135 q135
                          obtain rfl : ad133 = ad135 := (by injection e135)
                          replace p135 := eq_true p135
                          replace q135 := eq_true q135
                          have p136 : 0 ≤ (x3_1 : Int) := of_decide_eq_true (by first | (with_reducible assumption) | assumption)
                          have q136 : x3_1 < (l0.length : Int) := of_decide_eq_true (by first | (with_reducible assumption) | assumption)
                          obtain ⟨ad136, e136, hx136_0, hx136_1, hx136_2⟩ := at_T41 HR0.out x3_1 p136 q136
                          obtain rfl : ad133 = ad136 := (by injection e136)
                          replace p136 := eq_true p136
                          replace q136 := eq_true q136
                          have p137 : 0 ≤ (x3_1 : Int) := of_decide_eq_true (by first | (with_reducible assumption) | assumption)
                          have q137 : x3_1 < (l0.length : Int) := of_decide_eq_true (by first | (with_reducible assumption) | assumption)
                          obtain ⟨ad137, e137, hx137_0, hx137_1, hx137_2⟩ := at_T41 HR0.out x3_1 p137 q137
                          obtain rfl : ad133 = ad137 := (by injection e137)
                          replace p137 := eq_true p137
                          replace q137 := eq_true q137
                          have p138 : 0 ≤ (x3_1 : Int) := of_decide_eq_true (by first | (with_reducible assumption) | assumption)
                          have q138 : x3_1 < (l0.length : Int) := of_decide_eq_true (by first | (with_reducible assumption) | assumption)
                          obtain ⟨ad138, e138, hx138_0, hx138_1, hx138_2⟩ := at_T41 HR0.out x3_1 p138 q138
                          obtain rfl : ad133 = ad138 := (by injection e138)
                          replace p138 := eq_true p138
                          replace q138 := eq_true q138
                          have p139 : 0 ≤ (x3_1 : Int) := of_decide_eq_true (by first | (with_reducible assumption) | assumption)
                          have q139 : x3_1 < (l0.length : Int) := of_decide_eq_true (by first | (with_reducible assumption) | assumption)
                          obtain ⟨ad139, e139, hx139_0, hx139_1, hx139_2⟩ := at_T41 HR0.out x3_1 p139 q139
                          obtain rfl : ad133 = ad139 := (by injection e139)
                          replace p139 := eq_true p139
                          replace q139 := eq_true q139
                          go_wp2
                          repeat (go_quiet (fail); try go_wp2)
                          go_ret
                          exact ⟨by first | rfl | (simp; done) | (simp only [← hji6] <;> (first | rfl | simp)) | (simp [*]; done), by repeat (first | exact Drawn0.refl _ | apply Drawn0.step)⟩
                        · rw [if_neg c12] at H
                          have c12b0 : decide (((rd_T41 l0 x3_1).f2) ≤ ((rd_T41 l0 x3_1).f1)) = false := decide_eq_false c12
                          clear c12
                          have H' := Aside0.mk H
                          clear H
                          have p133 : 0 ≤ (x3_1 : Int) := of_decide_eq_true (by first | (with_reducible assumption) | assumption)
                          have q133 : x3_1 < (l0.length : Int) := of_decide_eq_true (by first | (with_reducible assumption) | assumption)
                          obtain ⟨ad133, e133, hx133_0, hx133_1, hx133_2⟩ := at_T41 HR0.out x3_1 p133 q133
                          cases e133
                          replace p133 := eq_true p133
                          replace q133 := eq_true q133
                          have p134 : 0 ≤ (x3_1 : Int) := of_decide_eq_true (by first | (with_reducible assumption) | assumption)
                          have q134 : x3_1 < (l0.length : Int) := of_decide_eq_true (by first | (with_reducible assumption) | assumption)
                          obtain ⟨ad134, e134, hx134_0, hx134_1, hx134_2⟩ := at_T41 HR0.out x3_1 p134 q134
                          obtain rfl : ad133 = ad134 := (by injection e134)
                          replace p134 := eq_true p134
                          replace q134 := eq_true q134
                          have p135 : 0 ≤ ((ji6) : Int) := of_decide_eq_true (by first | (with_reducible assumption) | assumption)
                          have q135 : (ji6) < (l0.length : Int) := of_decide_eq_true (by first | (with_reducible assumption) | assumption)
                          obtain ⟨ad135, e135, hx135_0, hx135_1, hx135_2⟩ := at_T41 HR0.out (ji6) p135 q135
                          obtain rfl : ad133 = ad135 := (by injection e135)
                          replace p135 := eq_true p135
                          replace q135 := eq_true q135
                          have p136 : 0 ≤ (x3_1 : Int) := of_decide_eq_true (by first | (with_reducible assumption) | assumption)
                          have q136 : x3_1 < (l0.length : Int) := of_decide_eq_true (by first | (with_reducible assumption) | assumption)
                          obtain ⟨ad136, e136, hx136_0, hx136_1, hx136_2⟩ := at_T41 HR0.out x3_1 p136 q136
                          obtain rfl : ad133 = ad136 := (by injection e136)
                          replace p136 := eq_true p136
                          replace q136 := eq_true q136
                          have p137 : 0 ≤ (x3_1 : Int) := of_decide_eq_true (by first | (with_reducible assumption) | assumption)
                          have q137 : x3_1 < (l0.length : Int) := of_decide_eq_true (by first | (with_reducible assumption) | assumption)
                          obtain ⟨ad137, e137, hx137_0, hx137_1, hx137_2⟩ := at_T41 HR0.out x3_1 p137 q137
                          obtain rfl : ad133 = ad137 := (by injection e137)
                          replace p137 := eq_true p137
                          replace q137 := eq_true q137
                          have p138 : 0 ≤ (x3_1 : Int) := of_decide_eq_true (by first | (with_reducible assumption) | assumption)
                          have q138 : x3_1 < (l0.length : Int) := of_decide_eq_true (by first | (with_reducible assumption) | assumption)
                          obtain ⟨ad138, e138, hx138_0, hx138_1, hx138_2⟩ := at_T41 HR0.out x3_1 p138 q138
                          obtain rfl : ad133 = ad138 := (by injection e138)
                          replace p138 := eq_true p138
                          replace q138 := eq_true q138
                          have p139 : 0 ≤ (x3_1 : Int) := of_decide_eq_true (by first | (with_reducible assumption) | assumption)
                          have q139 : x3_1 < (l0.length : Int) := of_decide_eq_true (by first | (with_reducible assumption) | assumption)
                          obtain ⟨ad139, e139, hx139_0, hx139_1, hx139_2⟩ := at_T41 HR0.out x3_1 p139 q139
                          obtain rfl : ad133 = ad139 := (by injection e139)
                          replace p139 := eq_true p139
                          replace q139 := eq_true q139
                          go_wp2
                          repeat (go_quiet (fail); try go_wp2)
                          go_roundg k1
                          case measure => have := HK1.out; omega
                          case rel => exact ⟨(wrap64 (x3_1 + 1)), (by first | rfl | (simp; done) | (simp [*]; done)), H', ⟨by have := HK1.out; omega⟩, by repeat (first | exact Drawn0.refl _ | apply Drawn0.step)⟩
                · rw [if_neg c8] at H
                  exact absurd H (by simp)
              · rw [if_neg c7] at H
                exact absurd H (by simp)
            · rw [if_neg c5] at H
              have c5b0 : decide (0 < x3_1) = false := decide_eq_false c5
              clear c5
              by_cases c13 : ((rd_T41 l0 x3_1).f1) < (-65536)
              · rw [if_pos c13] at H
                have c13b0 : decide (((rd_T41 l0 x3_1).f1) < (-65536)) = true := decide_eq_true c13
                clear c13
                obtain rfl := Option.some.inj H
                have p133 : 0 ≤ (x3_1 : Int) := of_decide_eq_true (by first | (with_reducible assumption) | assumption)
                have q133 : x3_1 < (l0.length : Int) := of_decide_eq_true (by first | (with_reducible assumption) | assumption)
                obtain ⟨ad133, e133, hx133_0, hx133_1, hx133_2⟩ := at_T41 HR0.out x3_1 p133 q133
                cases e133
                replace p133 := eq_true p133
                replace q133 := eq_true q133
                have p140 : 0 ≤ (x3_1 : Int) := of_decide_eq_true (by first | (with_reducible assumption) | assumption)
                have q140 : x3_1 < (l0.length : Int) := of_decide_eq_true (by first | (with_reducible assumption) | assumption)
                obtain ⟨ad140, e140, hx140_0, hx140_1, hx140_2⟩ := at_T41 HR0.out x3_1 p140 q140
                obtain rfl : ad133 = ad140 := (by injection e140)
                replace p140 := eq_true p140
                replace q140 := eq_true q140
                go_wp2
                repeat (go_quiet (fail); try go_wp2)
                go_ret
                exact ⟨by first | rfl | (simp; done) | (simp [*]; done), by repeat (first | exact Drawn0.refl _ | apply Drawn0.step)⟩
              · rw [if_neg c13] at H
                have c13b0 : decide (((rd_T41 l0 x3_1).f1) < (-65536)) = false := decide_eq_false c13
                clear c13
                by_cases c14 : ((rd_T41 l0 x3_1).f2) > 65536
                · rw [if_pos c14] at H
                  have c14b0 : decide (65536 < ((rd_T41 l0 x3_1).f2)) = true := decide_eq_true c14
                  clear c14
                  obtain rfl := Option.some.inj H
                  have p133 : 0 ≤ (x3_1 : Int) := of_decide_eq_true (by first | (with_reducible assumption) | assumption)
                  have q133 : x3_1 < (l0.length : Int) := of_decide_eq_true (by first | (with_reducible assumption) | assumption)
                  obtain ⟨ad133, e133, hx133_0, hx133_1, hx133_2⟩ := at_T41 HR0.out x3_1 p133 q133
                  cases e133
                  replace p133 := eq_true p133
                  replace q133 := eq_true q133
                  have p140 : 0 ≤ (x3_1 : Int) := of_decide_eq_true (by first | (with_reducible assumption) | assumption)
                  have q140 : x3_1 < (l0.length : Int) := of_decide_eq_true (by first | (with_reducible assumption) | assumption)
                  obtain ⟨ad140, e140, hx140_0, hx140_1, hx140_2⟩ := at_T41 HR0.out x3_1 p140 q140
                  obtain rfl : ad133 = ad140 := (by injection e140)
                  replace p140 := eq_true p140
                  replace q140 := eq_true q140
                  have p141 : 0 ≤ (x3_1 : Int) := of_decide_eq_true (by first | (with_reducible assumption) | assumption)
                  have q141 : x3_1 < (l0.length : Int) := of_decide_eq_true (by first | (with_reducible assumption) | assumption)
                  obtain ⟨ad141, e141, hx141_0, hx141_1, hx141_2⟩ := at_T41 HR0.out x3_1 p141 q141
                  obtain rfl : ad133 = ad141 := (by injection e141)
                  replace p141 := eq_true p141
                  replace q141 := eq_true q141
                  go_wp2
                  repeat (go_quiet (fail); try go_wp2)
                  go_ret
                  exact ⟨by first | rfl | (simp; done) | (simp [*]; done), by repeat (first | exact Drawn0.refl _ | apply Drawn0.step)⟩
                · rw [if_neg c14] at H
                  have c14b0 : decide (65536 < ((rd_T41 l0 x3_1).f2)) = false := decide_eq_false c14
                  clear c14
                  by_cases c15 : ((rd_T41 l0 x3_1).f1) ≥ ((rd_T41 l0 x3_1).f2)
                  · rw [if_pos c15] at H
                    have c15b0 : decide (((rd_T41 l0 x3_1).f2) ≤ ((rd_T41 l0 x3_1).f1)) = true := decide_eq_true c15
                    clear c15
                    obtain rfl := Option.some.inj H
                    have p133 : 0 ≤ (x3_1 : Int) := of_decide_eq_true (by first | (with_reducible assumption) | assumption)
                    have q133 : x3_1 < (l0.length : Int) := of_decide_eq_true (by first | (with_reducible assumption) | assumption)
                    obtain ⟨ad133, e133, hx133_0, hx133_1, hx133_2⟩ := at_T41 HR0.out x3_1 p133 q133
                    cases e133
                    replace p133 := eq_true p133
                    replace q133 := eq_true q133
                    have p140 : 0 ≤ (x3_1 : Int) := of_decide_eq_true (by first | (with_reducible assumption) | assumption)
                    have q140 : x3_1 < (l0.length : Int) := of_decide_eq_true (by first | (with_reducible assumption) | assumption)
                    obtain ⟨ad140, e140, hx140_0, hx140_1, hx140_2⟩ := at_T41 HR0.out x3_1 p140 q140
                    obtain rfl : ad133 = ad140 := (by injection e140)
                    replace p140 := eq_true p140
                    replace q140 := eq_true q140
                    have p141 : 0 ≤ (x3_1 : Int) := of_decide_eq_true (by first | (with_reducible assumption) | assumption)
                    have q141 : x3_1 < (l0.length : Int) := of_decide_eq_true (by first | (with_reducible assumption) | assumption)
                    obtain ⟨ad141, e141, hx141_0, hx141_1, hx141_2⟩ := at_T41 HR0.out x3_1 p141 q141
                    obtain rfl : ad133 = ad141 := (by injection e141)
                    replace p141 := eq_true p141
                    replace q141 := eq_true q141
                    have p142 : 0 ≤ (x3_1 : Int) := of_decide_eq_true (by first | (with_reducible assumption) | assumption)
                    have q142 : x3_1 < (l0.length : Int) := of_decide_eq_true (by first | (with_reducible assumption) | assumption)
                    obtain ⟨ad142, e142, hx142_0, hx142_1, hx142_2⟩ := at_T41 HR0.out x3_1 p142 q142
                    obtain rfl : ad133 = ad142 := (by injection e142)
                    replace p142 := eq_true p142
                    replace q142 := eq_true q142
                    have p143 : 0 ≤ (x3_1 : Int) := of_decide_eq_true (by first | (with_reducible assumption) | assumption)
                    have q143 : x3_1 < (l0.length : Int) := of_decide_eq_true (by first | (with_reducible assumption) | assumption)
                    obtain ⟨ad143, e143, hx143_0, hx143_1, hx143_2⟩ := at_T41 HR0.out x3_1 p143 q143
                    obtain rfl : ad133 = ad143 := (by injection e143)
                    replace p143 := eq_true p143
                    replace q143 := eq_true q143
                    go_wp2
                    repeat (go_quiet (fail); try go_wp2)
                    go_ret
                    exact ⟨by first | rfl | (simp; done) | (simp [*]; done), by repeat (first | exact Drawn0.refl _ | apply Drawn0.step)⟩
                  · rw [if_neg c15] at H
                    have c15b0 : decide (((rd_T41 l0 x3_1).f2) ≤ ((rd_T41 l0 x3_1).f1)) = false := decide_eq_false c15
                    clear c15
                    have H' := Aside0.mk H
                    clear H
                    have p133 : 0 ≤ (x3_1 : Int) := of_decide_eq_true (by first | (with_reducible assumption) | assumption)
                    have q133 : x3_1 < (l0.length : Int) := of_decide_eq_true (by first | (with_reducible assumption) | assumption)
                    obtain ⟨ad133, e133, hx133_0, hx133_1, hx133_2⟩ := at_T41 HR0.out x3_1 p133 q133
                    cases e133
                    replace p133 := eq_true p133
                    replace q133 := eq_true q133
                    have p140 : 0 ≤ (x3_1 : Int) := of_decide_eq_true (by first | (with_reducible assumption) | assumption)
                    have q140 : x3_1 < (l0.length : Int) := of_decide_eq_true (by first | (with_reducible assumption) | assumption)
                    obtain ⟨ad140, e140, hx140_0, hx140_1, hx140_2⟩ := at_T41 HR0.out x3_1 p140 q140
                    obtain rfl : ad133 = ad140 := (by injection e140)
                    replace p140 := eq_true p140
                    replace q140 := eq_true q140
                    have p141 : 0 ≤ (x3_1 : Int) := of_decide_eq_true (by first | (with_reducible assumption) | assumption)
                    have q141 : x3_1 < (l0.length : Int) := of_decide_eq_true (by first | (with_reducible assumption) | assumption)
                    obtain ⟨ad141, e141, hx141_0, hx141_1, hx141_2⟩ := at_T41 HR0.out x3_1 p141 q141
                    obtain rfl : ad133 = ad141 := (by injection e141)
                    replace p141 := eq_true p141
                    replace q141 := eq_true q141
                    have p142 : 0 ≤ (x3_1 : Int) := of_decide_eq_true (by first | (with_reducible assumption) | assumption)
                    have q142 : x3_1 < (l0.length : Int) := of_decide_eq_true (by first | (with_reducible assumption) | assumption)
                    obtain ⟨ad142, e142, hx142_0, hx142_1, hx142_2⟩ := at_T41 HR0.out x3_1 p142 q142
                    obtain rfl : ad133 = ad142 := (by injection e142)
                    replace p142 := eq_true p142
                    replace q142 := eq_true q142
                    have p143 : 0 ≤ (x3_1 : Int) := of_decide_eq_true (by first | (with_reducible assumption) | assumption)
                    have q143 : x3_1 < (l0.length : Int) := of_decide_eq_true (by first | (with_reducible assumption) | assumption)
                    obtain ⟨ad143, e143, hx143_0, hx143_1, hx143_2⟩ := at_T41 HR0.out x3_1 p143 q143
                    obtain rfl : ad133 = ad143 := (by injection e143)
                    replace p143 := eq_true p143
                    replace q143 := eq_true q143
                    go_wp2
                    repeat (go_quiet (fail); try go_wp2)
                    go_roundg k1
                    case measure => have := HK1.out; omega
                    case rel => exact ⟨(wrap64 (x3_1 + 1)), (by first | rfl | (simp; done) | (simp [*]; done)), H', ⟨by have := HK1.out; omega⟩, by repeat (first | exact Drawn0.refl _ | apply Drawn0.step)⟩
        · rw [if_neg c3] at H
          exact absurd H (by simp)
      · rw [if_neg c2] at H
        have c2b0 : decide (x3_1 < (l0.length : Int)) = false := decide_eq_false c2
        clear c2
        obtain rfl := Option.some.inj H
        go_wp2
        repeat (go_quiet (fail); try go_wp2)
        go_ret
        exact ⟨by first | rfl | (simp; done) | (simp [*]; done), by repeat (first | exact Drawn0.refl _ | apply Drawn0.step)⟩

end Go.Proofs.Ytcdldldknfpkjaa.PHw
