-- (printed by the kit's print.py, called by printmany.sh)
import Derived.Test.YtcdldldknfpkjaaPHwx0
import Derived.Test.YtcdldldknfpkjaaPHwx4
import Derived.Test.YtcdldldknfpkjaaPHwx5
import Derived.Test.YtcdldldknfpkjaaPHwx6
namespace Go.Proofs.Ytcdldldknfpkjaa.PHw
open Go.RowKit Go.Proofs.YtcdldldknfpkjaaW.PrintWords Go.Proofs.YtcdldldknfpkjaaW.PrintLast Go.Proofs.YtcdldldknfpkjaaW.PrintMore
attribute [local go_sem] max2_int min2_int max_two min_two max_three min_three max_four min_four   -- for this text's walks alone
set_option linter.unusedVariables false
set_option linter.unusedSimpArgs false

/-! ### railplanref9_Windows: function 40 -/
mutual
def railplanref9_Windows.l0 : Nat → Int → List Bool → Int → Int → Option ((List (S50)) × Int)
  | 0, _, _, _, _ => none
  | k + 1, x0, x8, x10, x11 => if x11 < x0 then (if 0 ≤ x11 then (if x11 < (x8.length : Int) then (if rdOf false x8 x11 = true then (railplanref9_Windows.l0 k x0 x8 (wrap64 (x10 + 1)) (wrap64 (x11 + 1))) else (railplanref9_Windows.l0 k x0 x8 x10 (wrap64 (x11 + 1)))) else (none)) else (none)) else (if x10 = x0 then (some (([] : List (S50)), 13)) else (railplanref9_Windows.l1 k x0 x8 ([] : List (S50)) 0))
def railplanref9_Windows.l1 : Nat → Int → List Bool → List (S50) → Int → Option ((List (S50)) × Int)
  | 0, _, _, _, _ => none
  | k + 1, x0, x8, x12, x13 => if x13 < x0 then (if 0 ≤ x13 then (if x13 < (x8.length : Int) then (if rdOf false x8 x13 = true then ((railplanref1_Mod.f (wrap64 (x13 - 1)) x0).bind fun t192 => (if 0 ≤ t192 then (if t192 < (x8.length : Int) then (railplanref9_Windows.j2 k x0 x8 x12 x13 (rdOf false x8 t192)) else (none)) else (none))) else (railplanref9_Windows.j2 k x0 x8 x12 x13 true)) else (none)) else (none)) else (some (x12, 0))
def railplanref9_Windows.j2 : Nat → Int → List Bool → List (S50) → Int → Bool → Option ((List (S50)) × Int)
  | 0, _, _, _, _, _ => none
  | k + 1, x0, x8, x12, x13, x57 => if x57 = true then (railplanref9_Windows.l1 k x0 x8 x12 (wrap64 (x13 + 1))) else (railplanref9_Windows.l2 k x0 x8 x12 x13 0)
def railplanref9_Windows.l2 : Nat → Int → List Bool → List (S50) → Int → Int → Option ((List (S50)) × Int)
  | 0, _, _, _, _, _ => none
  | k + 1, x0, x8, x12, x13, x14 => if x0 = 0 then (none) else (if 0 ≤ (Int.tmod (wrap64 (x13 + x14)) x0) then (if (Int.tmod (wrap64 (x13 + x14)) x0) < (x8.length : Int) then (if rdOf false x8 (Int.tmod (wrap64 (x13 + x14)) x0) = true then (railplanref9_Windows.l2 k x0 x8 x12 x13 (wrap64 (x14 + 1))) else (if x12.length < 8796093022208 then (railplanref9_Windows.l1 k x0 x8 (x12 ++ [(⟨wrap64 (x13 + x14), wrap64 ((wrap64 (x13 + x0)) - 1)⟩ : S50)]) (wrap64 (x13 + 1))) else (none))) else (none)) else (none))
end
def railplanref9_Windows.f (k : Nat) (a0 : Int) (l1 : List (S41)) (l2 : List (S41)) : Option ((List (S50)) × Int) := (railplanref9_forbidden.f k a0 l1 l2).bind fun bt186 => (if bt186.2 = 0 then (railplanref9_Windows.l0 k a0 bt186.1 0 0) else (some (([] : List (S50)), bt186.2)))
theorem railplanref9_Windows.mono_l : ∀ k, (∀ y0 y1 y2 y3, LeO (railplanref9_Windows.l0 k y0 y1 y2 y3) (railplanref9_Windows.l0 (k + 1) y0 y1 y2 y3)) ∧ (∀ y0 y1 y2 y3, LeO (railplanref9_Windows.l1 k y0 y1 y2 y3) (railplanref9_Windows.l1 (k + 1) y0 y1 y2 y3)) ∧ (∀ y0 y1 y2 y3 y4, LeO (railplanref9_Windows.j2 k y0 y1 y2 y3 y4) (railplanref9_Windows.j2 (k + 1) y0 y1 y2 y3 y4)) ∧ (∀ y0 y1 y2 y3 y4, LeO (railplanref9_Windows.l2 k y0 y1 y2 y3 y4) (railplanref9_Windows.l2 (k + 1) y0 y1 y2 y3 y4))
  | 0 => ⟨fun _ _ _ _ r h => by simp [railplanref9_Windows.l0] at h, fun _ _ _ _ r h => by simp [railplanref9_Windows.l1] at h, fun _ _ _ _ _ r h => by simp [railplanref9_Windows.j2] at h, fun _ _ _ _ _ r h => by simp [railplanref9_Windows.l2] at h⟩
  | k + 1 => by
    obtain ⟨ih0, ih1, ih2, ih3⟩ := railplanref9_Windows.mono_l k
    refine ⟨?_, ?_, ?_, ?_⟩
    · intro y0 y1 y2 y3
      unfold railplanref9_Windows.l0
      repeat' first
      | (with_reducible exact ih0 _ _ _ _)
      | (with_reducible exact ih1 _ _ _ _)
      | (with_reducible exact ih2 _ _ _ _ _)
      | (with_reducible exact ih3 _ _ _ _ _)
      | (with_reducible exact railplanref9_forbidden.mono _ _ _ _)
      | (with_reducible exact LeO.refl _)
      | (with_reducible exact LeO.none _)
      | (with_reducible refine LeO.ite ?_ ?_)
      | (with_reducible refine LeO.bind ?_ (fun _ => ?_))
      | exact ih0 _ _ _ _
      | exact ih1 _ _ _ _
      | exact ih2 _ _ _ _ _
      | exact ih3 _ _ _ _ _
      | exact railplanref9_forbidden.mono _ _ _ _
      | exact LeO.none _
      | refine LeO.ite ?_ ?_
      | refine LeO.bind ?_ (fun _ => ?_)
    · intro y0 y1 y2 y3
      unfold railplanref9_Windows.l1
      repeat' first
      | (with_reducible exact ih0 _ _ _ _)
      | (with_reducible exact ih1 _ _ _ _)
      | (with_reducible exact ih2 _ _ _ _ _)
      | (with_reducible exact ih3 _ _ _ _ _)
      | (with_reducible exact railplanref9_forbidden.mono _ _ _ _)
      | (with_reducible exact LeO.refl _)
      | (with_reducible exact LeO.none _)
      | (with_reducible refine LeO.ite ?_ ?_)
      | (with_reducible refine LeO.bind ?_ (fun _ => ?_))
      | exact ih0 _ _ _ _
      | exact ih1 _ _ _ _
      | exact ih2 _ _ _ _ _
      | exact ih3 _ _ _ _ _
      | exact railplanref9_forbidden.mono _ _ _ _
      | exact LeO.none _
      | refine LeO.ite ?_ ?_
      | refine LeO.bind ?_ (fun _ => ?_)
    · intro y0 y1 y2 y3 y4
      unfold railplanref9_Windows.j2
      repeat' first
      | (with_reducible exact ih0 _ _ _ _)
      | (with_reducible exact ih1 _ _ _ _)
      | (with_reducible exact ih2 _ _ _ _ _)
      | (with_reducible exact ih3 _ _ _ _ _)
      | (with_reducible exact railplanref9_forbidden.mono _ _ _ _)
      | (with_reducible exact LeO.refl _)
      | (with_reducible exact LeO.none _)
      | (with_reducible refine LeO.ite ?_ ?_)
      | (with_reducible refine LeO.bind ?_ (fun _ => ?_))
      | exact ih0 _ _ _ _
      | exact ih1 _ _ _ _
      | exact ih2 _ _ _ _ _
      | exact ih3 _ _ _ _ _
      | exact railplanref9_forbidden.mono _ _ _ _
      | exact LeO.none _
      | refine LeO.ite ?_ ?_
      | refine LeO.bind ?_ (fun _ => ?_)
    · intro y0 y1 y2 y3 y4
      unfold railplanref9_Windows.l2
      repeat' first
      | (with_reducible exact ih0 _ _ _ _)
      | (with_reducible exact ih1 _ _ _ _)
      | (with_reducible exact ih2 _ _ _ _ _)
      | (with_reducible exact ih3 _ _ _ _ _)
      | (with_reducible exact railplanref9_forbidden.mono _ _ _ _)
      | (with_reducible exact LeO.refl _)
      | (with_reducible exact LeO.none _)
      | (with_reducible refine LeO.ite ?_ ?_)
      | (with_reducible refine LeO.bind ?_ (fun _ => ?_))
      | exact ih0 _ _ _ _
      | exact ih1 _ _ _ _
      | exact ih2 _ _ _ _ _
      | exact ih3 _ _ _ _ _
      | exact railplanref9_forbidden.mono _ _ _ _
      | exact LeO.none _
      | refine LeO.ite ?_ ?_
      | refine LeO.bind ?_ (fun _ => ?_)
theorem railplanref9_Windows.mono : ∀ a0 a1 a2 k, LeO (railplanref9_Windows.f k a0 a1 a2) (railplanref9_Windows.f (k + 1) a0 a1 a2) := by
  intro a0 a1 a2 k
  obtain ⟨ih0, ih1, ih2, ih3⟩ := railplanref9_Windows.mono_l k
  unfold railplanref9_Windows.f
  repeat' first
      | (with_reducible exact ih0 _ _ _ _)
      | (with_reducible exact ih1 _ _ _ _)
      | (with_reducible exact ih2 _ _ _ _ _)
      | (with_reducible exact ih3 _ _ _ _ _)
      | (with_reducible exact railplanref9_forbidden.mono _ _ _ _)
      | (with_reducible exact LeO.refl _)
      | (with_reducible exact LeO.none _)
      | (with_reducible refine LeO.ite ?_ ?_)
      | (with_reducible refine LeO.bind ?_ (fun _ => ?_))
      | exact ih0 _ _ _ _
      | exact ih1 _ _ _ _
      | exact ih2 _ _ _ _ _
      | exact ih3 _ _ _ _ _
      | exact railplanref9_forbidden.mono _ _ _ _
      | exact LeO.none _
      | refine LeO.ite ?_ ?_
      | refine LeO.bind ?_ (fun _ => ?_)
set_option maxHeartbeats 8000000 in
set_option maxRecDepth 100000 in
theorem railplanref9_Windows.calls (k : Nat) (a0 : Int) (A1 : Option Addr) (c1 : Nat) (l1 : List (S41)) (A2 : Option Addr) (c2 : Nat) (l2 : List (S41)) (r1 : List (S50)) (r2 : Int) (w : World) (hr1 : Kd.C k41 w A1 l1.length l1) (hc1 : l1.length ≤ c1) (hr2 : Kd.C k41 w A2 l2.length l2) (hc2 : l2.length ≤ c2) (h : railplanref9_Windows.f k a0 l1 l2 = some (r1, r2)) :
    Calls Try.prog 40 #[.int .i64 a0, .slice A1 l1.length c1, .slice A2 l2.length c2] w fun e w' => ∃ v0_ : Value, e = .returned (.tuple #[v0_, .int .i64 r2]) ∧ Kd.R k50 50 w' w.heap.size (fun _ => True) v0_ r1 ∧ Below w.heap.size w w' := by
  have hu50 := Try.underlying50
  have HR1 := Aside0.mk hr1
  have HC1 := Aside0.mk hc1
  clear hr1 hc1
  have HR2 := Aside0.mk hr2
  have HC2 := Aside0.mk hc2
  clear hr2 hc2
  have HB := Aside0.mk (Below.refl w.heap.size w)
  have H : ((railplanref9_forbidden.f k a0 l1 l2).bind fun bt186 => (if bt186.2 = 0 then (railplanref9_Windows.l0 k a0 bt186.1 0 0) else (some (([] : List (S50)), bt186.2)))) = some (r1, r2) := h
  clear h
  replace H := Option.bind_eq_some_iff.mp H
  obtain ⟨⟨t186, t187⟩, A40, H⟩ := H
  replace H : (if t187 = 0 then (railplanref9_Windows.l0 k a0 t186 0 0) else (some (([] : List (S50)), t187))) = some (r1, r2) := H
  have A4 := Aside0.mk A40
  clear A40
  by_cases c5 : t187 = 0
  · rw [if_pos c5] at H
    have c5b0 : (t187 == 0) = true := beq_iff_eq.mpr c5
    have c5b1 : (t187 != 0) = false := bne_eq_false_iff_eq.mpr c5
    clear c5
    have H' := Aside0.mk H
    clear H
    go_enter Try.func40, Try.ntmps40
    go_wp2_with (first | ((with_reducible refine gate_callee (f := 43) rfl ?_); refine goesL_ (some 19) rfl rfl Try.func43 (by kernel_rfl) rfl #[.int .i64 a0, .slice A1 l1.length c1, .slice A2 l2.length c2] rfl (by (try simp only [List.map_toArray, List.map_cons, List.map_nil]); first | done | rfl | (simp only [List.length_drop, List.length_take]; rfl)) ?_; (with_reducible refine (railplanref9_forbidden.calls k a0 _ _ l1 _ _ l2 t186 t187 _ ?side1 ?side2 ?side3 ?side4 A4.out).mono ?_); (case side1 => repeat (first | exact HR1.out | (with_reducible refine Kd.C_alloc ?_ _) | (with_reducible refine Kd.C_drewN ?_ _) | (with_reducible refine Kd.C_drew ?_))); (case side2 => exact HC1.out); (case side3 => repeat (first | exact HR2.out | (with_reducible refine Kd.C_alloc ?_ _) | (with_reducible refine Kd.C_drewN ?_ _) | (with_reducible refine Kd.C_drew ?_))); (case side4 => exact HC2.out); rintro e w6 ⟨v188, rfl, ho0, hb⟩; refine ⟨_, rfl, ?_⟩; have n0_ := Aside0.mk (Kd.R_lower ho0 (below_size (by repeat (first | (with_reducible first | exact HB.out | apply below_alloc | apply pw_below_drewN | apply below_drew1) | exact HB.out)))); have n1_ := Aside0.mk (below_step (by repeat (first | (with_reducible first | exact HB.out | apply below_alloc | apply pw_below_drewN | apply below_drew1) | exact HB.out)) hb); clear HB; have HO189 := n0_; have HB := n1_; clear n0_ n1_; (try clear hb); (try clear hb2); (try clear hk); (try clear hi); (try clear ho0)))
    go_loopg [10, 11] k (fun kq v10 v11 w' => ∃ (x10_1 : Int) (x11_1 : Int), v10 = .int .i64 x10_1 ∧ v11 = .int .i64 x11_1 ∧ Aside0 (railplanref9_Windows.l0 kq a0 t186 x10_1 x11_1 = some (r1, r2)) ∧ Aside0 (kq ≤ k) ∧ Aside0 (Kd.R Kd.bool 4 w' w.heap.size (fun _ => True) v188 t186) ∧ Aside0 (Below w.heap.size w w'))
    case atStart => exact ⟨(0), (0), (by first | rfl | (simp; done) | (simp [*]; done)), (by first | rfl | (simp; done) | (simp [*]; done)), H', ⟨Nat.le_refl _⟩, ⟨by (with_reducible repeat (first | apply Kd.R_alloc | apply Kd.R_drewN | apply Kd.R_drew)); exact HO189.out⟩, ⟨by repeat (first | (with_reducible first | exact HB.out | apply below_alloc | apply pw_below_drewN | apply below_drew1) | exact HB.out)⟩⟩
    case round =>
      clear H'
      try clear c1
      try clear c2
      try clear p2
      try clear c4
      try clear c5
      try clear c5b0
      try clear c5b1
      obtain ⟨x10_1, x11_1, rfl, rfl, HA, HK1, HO_8, HB⟩ := hrel
      cases gk with
      | zero => exact absurd HA.out (by simp [railplanref9_Windows.l0])
      | succ k1 =>
        have H := HA.out
        clear HA
        simp only [railplanref9_Windows.l0] at H
        by_cases c7 : x11_1 < a0
        · rw [if_pos c7] at H
          have c7b0 : decide (x11_1 < a0) = true := decide_eq_true c7
          clear c7
          by_cases c8 : 0 ≤ x11_1
          · rw [if_pos c8] at H
            have c8b0 : decide (0 ≤ x11_1) = true := decide_eq_true c8
            clear c8
            by_cases c9 : x11_1 < (t186.length : Int)
            · rw [if_pos c9] at H
              have c9b0 : decide (x11_1 < (t186.length : Int)) = true := decide_eq_true c9
              clear c9
              obtain ⟨bq10, hbq10⟩ : ∃ b_ : Bool, b_ = (rdOf false t186 x11_1) := ⟨_, rfl⟩
              replace H : (if bq10 = true then (railplanref9_Windows.l0 k1 a0 t186 (wrap64 (x10_1 + 1)) (wrap64 (x11_1 + 1))) else (railplanref9_Windows.l0 k1 a0 t186 x10_1 (wrap64 (x11_1 + 1)))) = some (r1, r2) := by rw [← hbq10] at H; exact H
              have Nbq10 := Aside0.mk hbq10
              clear hbq10
              by_cases c11 : bq10 = true
              · subst c11
                have H1 : (railplanref9_Windows.l0 k1 a0 t186 (wrap64 (x10_1 + 1)) (wrap64 (x11_1 + 1))) = some (r1, r2) := by rw [if_pos rfl] at H; exact H
                clear H
                have H := H1
                clear H1
                have H' := Aside0.mk H
                clear H
                obtain ⟨Ao12, co12, eo12⟩ := Kd.R_slice HO_8.out
                subst eo12
                have p190 : 0 ≤ (x11_1 : Int) := of_decide_eq_true (by first | (with_reducible assumption) | assumption)
                have q190 : x11_1 < (t186.length : Int) := of_decide_eq_true (by first | (with_reducible assumption) | assumption)
                obtain ⟨ad190, e190, hx190_0⟩ := Kd.at_bool (Kd.R_reads' HO_8.out).2.2 x11_1 p190 q190
                (try rw [← Nbq10.out] at hx190_0)
                cases e190
                replace p190 := eq_true p190
                replace q190 := eq_true q190
                go_wp2
                go_roundg k1
                case measure => have := HK1.out; omega
                case rel => exact ⟨(wrap64 (x10_1 + 1)), (wrap64 (x11_1 + 1)), (by first | rfl | (simp; done) | (simp [*]; done)), (by first | rfl | (simp; done) | (simp [*]; done)), H', ⟨by have := HK1.out; omega⟩, ⟨by (with_reducible repeat (first | apply Kd.R_alloc | apply Kd.R_drewN | apply Kd.R_drew)); exact HO_8.out⟩, ⟨by repeat (first | (with_reducible first | exact HB.out | apply below_alloc | apply pw_below_drewN | apply below_drew1) | exact HB.out)⟩⟩
              · replace c11 := Bool.eq_false_iff.mpr c11
                subst c11
                have H1 : (railplanref9_Windows.l0 k1 a0 t186 x10_1 (wrap64 (x11_1 + 1))) = some (r1, r2) := by rw [if_neg (show ¬ (false = true) by decide)] at H; exact H
                clear H
                have H := H1
                clear H1
                have H' := Aside0.mk H
                clear H
                obtain ⟨Ao13, co13, eo13⟩ := Kd.R_slice HO_8.out
                subst eo13
                have p190 : 0 ≤ (x11_1 : Int) := of_decide_eq_true (by first | (with_reducible assumption) | assumption)
                have q190 : x11_1 < (t186.length : Int) := of_decide_eq_true (by first | (with_reducible assumption) | assumption)
                obtain ⟨ad190, e190, hx190_0⟩ := Kd.at_bool (Kd.R_reads' HO_8.out).2.2 x11_1 p190 q190
                (try rw [← Nbq10.out] at hx190_0)
                cases e190
                replace p190 := eq_true p190
                replace q190 := eq_true q190
                go_wp2
                go_roundg k1
                case measure => have := HK1.out; omega
                case rel => exact ⟨(x10_1), (wrap64 (x11_1 + 1)), (by first | rfl | (simp; done) | (simp [*]; done)), (by first | rfl | (simp; done) | (simp [*]; done)), H', ⟨by have := HK1.out; omega⟩, ⟨by (with_reducible repeat (first | apply Kd.R_alloc | apply Kd.R_drewN | apply Kd.R_drew)); exact HO_8.out⟩, ⟨by repeat (first | (with_reducible first | exact HB.out | apply below_alloc | apply pw_below_drewN | apply below_drew1) | exact HB.out)⟩⟩
            · rw [if_neg c9] at H
              exact absurd H (by simp)
          · rw [if_neg c8] at H
            exact absurd H (by simp)
        · rw [if_neg c7] at H
          have c7b0 : decide (x11_1 < a0) = false := decide_eq_false c7
          clear c7
          by_cases c14 : x10_1 = a0
          · rw [if_pos c14] at H
            have c14b0 : (x10_1 == a0) = true := beq_iff_eq.mpr c14
            have c14b1 : (x10_1 != a0) = false := bne_eq_false_iff_eq.mpr c14
            clear c14
            simp only [Option.some.injEq, Prod.mk.injEq] at H
            obtain ⟨rfl, rfl⟩ := H
            go_wp2
            go_ret2
            exact ⟨_, by first | rfl | (simp [errW_none, errW_some] <;> rfl) | (simp [*, errW_none, errW_some] <;> rfl), by first | exact Kd.R_nil _ _ _ _ _ | exact Kd.N_nil _ _ _ _ _ | exact Kd.V_nil _ _ _ _ _ | exact Kd.Q_nil _ _ _ _ _ | exact Kd.S_nil _ _ _ _ _, by repeat (first | (with_reducible first | exact HB.out | apply below_alloc | apply pw_below_drewN | apply below_drew1) | exact HB.out)⟩
          · rw [if_neg c14] at H
            have c14b0 : (x10_1 == a0) = false := beq_eq_false_iff_ne.mpr c14
            have c14b1 : (x10_1 != a0) = true := bne_iff_ne.mpr c14
            have H' := Aside0.mk H
            clear H
            go_wp2
            go_loopg [12, 13] k1 (fun kq v12 v13 w' => ∃ (x12_2 : List (S50)) (x13_2 : Int), v13 = .int .i64 x13_2 ∧ Aside0 (railplanref9_Windows.l1 kq a0 t186 x12_2 x13_2 = some (r1, r2)) ∧ Aside0 (kq ≤ k1) ∧ Aside0 (Kd.R Kd.bool 4 w' w.heap.size (fun _ => True) v188 t186) ∧ Aside0 (Kd.R k50 50 w' w.heap.size (fun _ => True) v12 x12_2) ∧ Aside0 (Below w.heap.size w w'))
            case atStart => exact ⟨(([] : List (S50))), (0), (by first | rfl | (simp; done) | (simp [*]; done)), H', ⟨Nat.le_refl _⟩, ⟨by (with_reducible repeat (first | apply Kd.R_alloc | apply Kd.R_drewN | apply Kd.R_drew)); exact HO_8.out⟩, ⟨by first | exact Kd.R_nil _ _ _ _ _ | exact Kd.N_nil _ _ _ _ _ | exact Kd.V_nil _ _ _ _ _ | exact Kd.Q_nil _ _ _ _ _ | exact Kd.S_nil _ _ _ _ _⟩, ⟨by repeat (first | (with_reducible first | exact HB.out | apply below_alloc | apply pw_below_drewN | apply below_drew1) | exact HB.out)⟩⟩
            case round =>
              clear H'
              try clear c1
              try clear p1
              try clear q1
              try clear hx1
              try clear c2
              try clear p2
              try clear c4
              try clear c5
              try clear c5b0
              try clear c5b1
              try clear p6
              try clear c7
              try clear c7b0
              try clear c8
              try clear c8b0
              try clear c9
              try clear c9b0
              try clear q10
              try clear c11
              try clear c14
              try clear c14b0
              try clear c14b1
              try clear hx190_0
              try clear p190
              try clear p2
              try clear q190
              obtain ⟨x12_2, x13_2, rfl, HA, HK2, HO_8, HO_12, HB⟩ := hrel
              cases gk with
              | zero => exact absurd HA.out (by simp [railplanref9_Windows.l1])
              | succ k2 =>
                have H := HA.out
                clear HA
                simp only [railplanref9_Windows.l1] at H
                by_cases c15 : x13_2 < a0
                · rw [if_pos c15] at H
                  have c15b0 : decide (x13_2 < a0) = true := decide_eq_true c15
                  clear c15
                  have HC16 := Aside0.mk H
                  clear H
                  go_upto_region 16 with (fail)
                  go_cut [57] (fun v57 wc => ∃ (kq : Nat) (x57_15 : Bool), v57 = .bool x57_15 ∧ Aside0 (railplanref9_Windows.j2 kq a0 t186 x12_2 x13_2 x57_15 = some (r1, r2)) ∧ Aside0 (kq ≤ k2) ∧ Aside0 (Kd.R Kd.bool 4 wc w.heap.size (fun _ => True) v188 t186) ∧ Aside0 (Kd.R k50 50 wc w.heap.size (fun _ => True) u12 x12_2) ∧ Aside0 (Below w.heap.size w wc))
                  case first =>
                    have H := HC16.out
                    clear HC16
                    by_cases c17 : 0 ≤ x13_2
                    · rw [if_pos c17] at H
                      have c17b0 : decide (0 ≤ x13_2) = true := decide_eq_true c17
                      clear c17
                      (first | rw [c17b0] | (simp only [i64_w, i32_w]; rw [c17b0]) | skip)
                      by_cases c18 : x13_2 < (t186.length : Int)
                      · rw [if_pos c18] at H
                        have c18b0 : decide (x13_2 < (t186.length : Int)) = true := decide_eq_true c18
                        clear c18
                        obtain ⟨bq19, hbq19⟩ : ∃ b_ : Bool, b_ = (rdOf false t186 x13_2) := ⟨_, rfl⟩
                        replace H : (if bq19 = true then ((railplanref1_Mod.f (wrap64 (x13_2 - 1)) a0).bind fun t192 => (if 0 ≤ t192 then (if t192 < (t186.length : Int) then (railplanref9_Windows.j2 k2 a0 t186 x12_2 x13_2 (rdOf false t186 t192)) else (none)) else (none))) else (railplanref9_Windows.j2 k2 a0 t186 x12_2 x13_2 true)) = some (r1, r2) := by rw [← hbq19] at H; exact H
                        have Nbq19 := Aside0.mk hbq19
                        clear hbq19
                        by_cases c20 : bq19 = true
                        · subst c20
                          have H1 : ((railplanref1_Mod.f (wrap64 (x13_2 - 1)) a0).bind fun t192 => (if 0 ≤ t192 then (if t192 < (t186.length : Int) then (railplanref9_Windows.j2 k2 a0 t186 x12_2 x13_2 (rdOf false t186 t192)) else (none)) else (none))) = some (r1, r2) := by rw [if_pos rfl] at H; exact H
                          clear H
                          have H := H1
                          clear H1
                          replace H := Option.bind_eq_some_iff.mp H
                          obtain ⟨t192, A210, H⟩ := H
                          replace H : (if 0 ≤ t192 then (if t192 < (t186.length : Int) then (railplanref9_Windows.j2 k2 a0 t186 x12_2 x13_2 (rdOf false t186 t192)) else (none)) else (none)) = some (r1, r2) := H
                          have A21 := Aside0.mk A210
                          clear A210
                          by_cases c22 : 0 ≤ t192
                          · rw [if_pos c22] at H
                            have c22b0 : decide (0 ≤ t192) = true := decide_eq_true c22
                            clear c22
                            by_cases c23 : t192 < (t186.length : Int)
                            · rw [if_pos c23] at H
                              have c23b0 : decide (t192 < (t186.length : Int)) = true := decide_eq_true c23
                              clear c23
                              have H' := Aside0.mk H
                              clear H
                              obtain ⟨Ao24, co24, eo24⟩ := Kd.R_slice HO_8.out
                              subst eo24
                              have p191 : 0 ≤ (x13_2 : Int) := of_decide_eq_true (by first | (with_reducible assumption) | assumption)
                              have q191 : x13_2 < (t186.length : Int) := of_decide_eq_true (by first | (with_reducible assumption) | assumption)
                              obtain ⟨ad191, e191, hx191_0⟩ := Kd.at_bool (Kd.R_reads' HO_8.out).2.2 x13_2 p191 q191
                              (try rw [← Nbq19.out] at hx191_0)
                              cases e191
                              replace p191 := eq_true p191
                              replace q191 := eq_true q191
                              go_wp2_with (first | (go_at_call 26; (with_reducible refine (railplanref1_Mod.calls (wrap64 (x13_2 - 1)) a0 t192 _ A21.out).mono ?_); rintro e w' ⟨rfl, ⟨nd, rfl⟩⟩; have p193 : 0 ≤ (t192 : Int) := of_decide_eq_true (by first | (with_reducible assumption) | assumption); have q193 : t192 < (t186.length : Int) := of_decide_eq_true (by first | (with_reducible assumption) | assumption); obtain ⟨ad193, e193, hx193_0⟩ := Kd.at_bool (Kd.R_reads' HO_8.out).2.2 t192 p193 q193; (try rw [← Nbq19.out] at hx193_0); obtain rfl : ad191 = ad193 := (by injection e193); replace p193 := eq_true p193; replace q193 := eq_true q193))
                              go_meet
                              case rel => exact ⟨_, (rdOf false t186 t192), (by first | rfl | (simp; done) | (simp [*]; done)), H', ⟨by have := HK1.out; have := HK2.out; first | omega | exact Nat.le_refl _⟩, ⟨by (with_reducible repeat (first | apply Kd.R_alloc | apply Kd.R_drewN | apply Kd.R_drew)); exact HO_8.out⟩, ⟨by (with_reducible repeat (first | apply Kd.R_alloc | apply Kd.R_drewN | apply Kd.R_drew)); exact HO_12.out⟩, ⟨by repeat (first | (with_reducible first | exact HB.out | apply below_alloc | apply pw_below_drewN | apply below_drew1) | exact HB.out)⟩⟩
                            · rw [if_neg c23] at H
                              exact absurd H (by simp)
                          · rw [if_neg c22] at H
                            exact absurd H (by simp)
                        · replace c20 := Bool.eq_false_iff.mpr c20
                          subst c20
                          have H1 : (railplanref9_Windows.j2 k2 a0 t186 x12_2 x13_2 true) = some (r1, r2) := by rw [if_neg (show ¬ (false = true) by decide)] at H; exact H
                          clear H
                          have H := H1
                          clear H1
                          have H' := Aside0.mk H
                          clear H
                          obtain ⟨Ao25, co25, eo25⟩ := Kd.R_slice HO_8.out
                          subst eo25
                          have p191 : 0 ≤ (x13_2 : Int) := of_decide_eq_true (by first | (with_reducible assumption) | assumption)
                          have q191 : x13_2 < (t186.length : Int) := of_decide_eq_true (by first | (with_reducible assumption) | assumption)
                          obtain ⟨ad191, e191, hx191_0⟩ := Kd.at_bool (Kd.R_reads' HO_8.out).2.2 x13_2 p191 q191
                          (try rw [← Nbq19.out] at hx191_0)
                          cases e191
                          replace p191 := eq_true p191
                          replace q191 := eq_true q191
                          go_wp2
                          go_meet
                          case rel => exact ⟨_, (true), (by first | rfl | (simp; done) | (simp [*]; done)), H', ⟨by have := HK1.out; have := HK2.out; first | omega | exact Nat.le_refl _⟩, ⟨by (with_reducible repeat (first | apply Kd.R_alloc | apply Kd.R_drewN | apply Kd.R_drew)); exact HO_8.out⟩, ⟨by (with_reducible repeat (first | apply Kd.R_alloc | apply Kd.R_drewN | apply Kd.R_drew)); exact HO_12.out⟩, ⟨by repeat (first | (with_reducible first | exact HB.out | apply below_alloc | apply pw_below_drewN | apply below_drew1) | exact HB.out)⟩⟩
                      · rw [if_neg c18] at H
                        exact absurd H (by simp)
                    · rw [if_neg c17] at H
                      exact absurd H (by simp)
                  case rest =>
                    clear HC16
                    try clear c1
                    try clear p1
                    try clear q1
                    try clear hx1
                    try clear c2
                    try clear p2
                    try clear c4
                    try clear c5
                    try clear c5b0
                    try clear c5b1
                    try clear p6
                    try clear c7
                    try clear c7b0
                    try clear c8
                    try clear c8b0
                    try clear c9
                    try clear c9b0
                    try clear q10
                    try clear c11
                    try clear c14
                    try clear c14b0
                    try clear c14b1
                    try clear c15
                    try clear c15b0
                    try clear c17
                    try clear c17b0
                    try clear c18
                    try clear c18b0
                    try clear p19
                    try clear q19
                    try clear hx19
                    try clear c20
                    try clear c22
                    try clear c22b0
                    try clear c23
                    try clear c23b0
                    try clear hx190_0
                    try clear hx191_0
                    try clear hx193_0
                    try clear p1
                    try clear p190
                    try clear p191
                    try clear p193
                    try clear p2
                    try clear p6
                    try clear q1
                    try clear q10
                    try clear q190
                    try clear q191
                    try clear q193
                    obtain ⟨kq, x57_15, rfl, HA, HJ15, HO_8, HO_12, HB⟩ := hcut
                    cases kq with
                    | zero => exact absurd HA.out (by simp [railplanref9_Windows.j2])
                    | succ kj15 =>
                      have H := HA.out
                      clear HA
                      simp only [railplanref9_Windows.j2] at H
                      by_cases c26 : x57_15 = true
                      · subst c26
                        have H1 : (railplanref9_Windows.l1 kj15 a0 t186 x12_2 (wrap64 (x13_2 + 1))) = some (r1, r2) := by rw [if_pos rfl] at H; exact H
                        clear H
                        have H := H1
                        clear H1
                        have H' := Aside0.mk H
                        clear H
                        go_wp2
                        go_roundg kj15
                        case measure => have := HK1.out; have := HK2.out; have := HJ15.out; omega
                        case rel => exact ⟨(x12_2), (wrap64 (x13_2 + 1)), (by first | rfl | (simp; done) | (simp [*]; done)), H', ⟨by have := HK1.out; have := HK2.out; have := HJ15.out; omega⟩, ⟨by (with_reducible repeat (first | apply Kd.R_alloc | apply Kd.R_drewN | apply Kd.R_drew)); exact HO_8.out⟩, ⟨by (with_reducible repeat (first | apply Kd.R_alloc | apply Kd.R_drewN | apply Kd.R_drew)); exact HO_12.out⟩, ⟨by repeat (first | (with_reducible first | exact HB.out | apply below_alloc | apply pw_below_drewN | apply below_drew1) | exact HB.out)⟩⟩
                      · replace c26 := Bool.eq_false_iff.mpr c26
                        subst c26
                        have H1 : (railplanref9_Windows.l2 kj15 a0 t186 x12_2 x13_2 0) = some (r1, r2) := by rw [if_neg (show ¬ (false = true) by decide)] at H; exact H
                        clear H
                        have H := H1
                        clear H1
                        have H' := Aside0.mk H
                        clear H
                        go_wp2
                        go_loopg [14] kj15 (fun kq v14 w' => ∃ (x14_4 : Int), v14 = .int .i64 x14_4 ∧ Aside0 (railplanref9_Windows.l2 kq a0 t186 x12_2 x13_2 x14_4 = some (r1, r2)) ∧ Aside0 (kq ≤ kj15) ∧ Aside0 (Kd.R Kd.bool 4 w' w.heap.size (fun _ => True) v188 t186) ∧ Aside0 (Kd.R k50 50 w' w.heap.size (fun _ => True) u12 x12_2) ∧ Aside0 (Below w.heap.size w w'))
                        case atStart => exact ⟨(0), (by first | rfl | (simp; done) | (simp [*]; done)), H', ⟨Nat.le_refl _⟩, ⟨by (with_reducible repeat (first | apply Kd.R_alloc | apply Kd.R_drewN | apply Kd.R_drew)); exact HO_8.out⟩, ⟨by (with_reducible repeat (first | apply Kd.R_alloc | apply Kd.R_drewN | apply Kd.R_drew)); exact HO_12.out⟩, ⟨by repeat (first | (with_reducible first | exact HB.out | apply below_alloc | apply pw_below_drewN | apply below_drew1) | exact HB.out)⟩⟩
                        case round =>
                          clear H'
                          try clear c1
                          try clear p1
                          try clear q1
                          try clear hx1
                          try clear c2
                          try clear p2
                          try clear c4
                          try clear c5
                          try clear c5b0
                          try clear c5b1
                          try clear p6
                          try clear c7
                          try clear c7b0
                          try clear c8
                          try clear c8b0
                          try clear c9
                          try clear c9b0
                          try clear q10
                          try clear c11
                          try clear c14
                          try clear c14b0
                          try clear c14b1
                          try clear c15
                          try clear c15b0
                          try clear c17
                          try clear c17b0
                          try clear c18
                          try clear c18b0
                          try clear p19
                          try clear q19
                          try clear hx19
                          try clear c20
                          try clear c22
                          try clear c22b0
                          try clear c23
                          try clear c23b0
                          try clear c26
                          try clear hx190_0
                          try clear hx191_0
                          try clear hx193_0
                          try clear p1
                          try clear p19
                          try clear p190
                          try clear p191
                          try clear p193
                          try clear p2
                          try clear p6
                          try clear q1
                          try clear q10
                          try clear q19
                          try clear q190
                          try clear q191
                          try clear q193
                          obtain ⟨x14_4, rfl, HA, HK4, HO_8, HO_12, HB⟩ := hrel
                          cases gk with
                          | zero => exact absurd HA.out (by simp [railplanref9_Windows.l2])
                          | succ k4 =>
                            have H := HA.out
                            clear HA
                            simp only [railplanref9_Windows.l2] at H
                            by_cases c27 : a0 = 0
                            · rw [if_pos c27] at H
                              exact absurd H (by simp)
                            · rw [if_neg c27] at H
                              have c27b0 : (a0 == 0) = false := beq_eq_false_iff_ne.mpr c27
                              have c27b1 : (a0 != 0) = true := bne_iff_ne.mpr c27
                              obtain ⟨ji28, hji28⟩ : ∃ j_ : Int, (Int.tmod (wrap64 (x13_2 + x14_4)) a0) = j_ := ⟨_, rfl⟩
                              replace H : (if 0 ≤ (ji28) then (if (ji28) < (t186.length : Int) then (if rdOf false t186 (ji28) = true then (railplanref9_Windows.l2 k4 a0 t186 x12_2 x13_2 (wrap64 (x14_4 + 1))) else (if x12_2.length < 8796093022208 then (railplanref9_Windows.l1 k4 a0 t186 (x12_2 ++ [(⟨wrap64 (x13_2 + x14_4), wrap64 ((wrap64 (x13_2 + a0)) - 1)⟩ : S50)]) (wrap64 (x13_2 + 1))) else (none))) else (none)) else (none)) = some (r1, r2) := by first | (rw [hji28] at H; exact H) | (simp only [hji28] at H ⊢; exact H)
                              by_cases c29 : 0 ≤ (ji28)
                              · rw [if_pos c29] at H
                                have c29b0 : decide (0 ≤ (ji28)) = true := decide_eq_true c29
                                clear c29
                                by_cases c30 : (ji28) < (t186.length : Int)
                                · rw [if_pos c30] at H
                                  have c30b0 : decide ((ji28) < (t186.length : Int)) = true := decide_eq_true c30
                                  clear c30
                                  obtain ⟨bq31, hbq31⟩ : ∃ b_ : Bool, b_ = (rdOf false t186 (ji28)) := ⟨_, rfl⟩
                                  replace H : (if bq31 = true then (railplanref9_Windows.l2 k4 a0 t186 x12_2 x13_2 (wrap64 (x14_4 + 1))) else (if x12_2.length < 8796093022208 then (railplanref9_Windows.l1 k4 a0 t186 (x12_2 ++ [(⟨wrap64 (x13_2 + x14_4), wrap64 ((wrap64 (x13_2 + a0)) - 1)⟩ : S50)]) (wrap64 (x13_2 + 1))) else (none))) = some (r1, r2) := by rw [← hbq31] at H; exact H
                                  have Nbq31 := Aside0.mk hbq31
                                  clear hbq31
                                  by_cases c32 : bq31 = true
                                  · subst c32
                                    have H1 : (railplanref9_Windows.l2 k4 a0 t186 x12_2 x13_2 (wrap64 (x14_4 + 1))) = some (r1, r2) := by rw [if_pos rfl] at H; exact H
                                    clear H
                                    have H := H1
                                    clear H1
                                    have H' := Aside0.mk H
                                    clear H
                                    obtain ⟨Ao33, co33, eo33⟩ := Kd.R_slice HO_8.out
                                    subst eo33
                                    have p194 : 0 ≤ ((ji28) : Int) := of_decide_eq_true (by first | (with_reducible assumption) | assumption)
                                    have q194 : (ji28) < (t186.length : Int) := of_decide_eq_true (by first | (with_reducible assumption) | assumption)
                                    obtain ⟨ad194, e194, hx194_0⟩ := Kd.at_bool (Kd.R_reads' HO_8.out).2.2 (ji28) p194 q194
                                    (try rw [← Nbq31.out] at hx194_0)
                                    cases e194
                                    replace p194 := eq_true p194
                                    replace q194 := eq_true q194
                                    go_wp2
                                    go_roundg k4
                                    case measure => have := HK1.out; have := HK2.out; have := HJ15.out; have := HK4.out; omega
                                    case rel => exact ⟨(wrap64 (x14_4 + 1)), (by first | rfl | (simp; done) | (simp [*]; done)), H', ⟨by have := HK1.out; have := HK2.out; have := HJ15.out; have := HK4.out; omega⟩, ⟨by (with_reducible repeat (first | apply Kd.R_alloc | apply Kd.R_drewN | apply Kd.R_drew)); exact HO_8.out⟩, ⟨by (with_reducible repeat (first | apply Kd.R_alloc | apply Kd.R_drewN | apply Kd.R_drew)); exact HO_12.out⟩, ⟨by repeat (first | (with_reducible first | exact HB.out | apply below_alloc | apply pw_below_drewN | apply below_drew1) | exact HB.out)⟩⟩
                                  · replace c32 := Bool.eq_false_iff.mpr c32
                                    subst c32
                                    have H1 : (if x12_2.length < 8796093022208 then (railplanref9_Windows.l1 k4 a0 t186 (x12_2 ++ [(⟨wrap64 (x13_2 + x14_4), wrap64 ((wrap64 (x13_2 + a0)) - 1)⟩ : S50)]) (wrap64 (x13_2 + 1))) else (none)) = some (r1, r2) := by rw [if_neg (show ¬ (false = true) by decide)] at H; exact H
                                    clear H
                                    have H := H1
                                    clear H1
                                    by_cases c34 : x12_2.length < 8796093022208
                                    · rw [if_pos c34] at H
                                      have LMc34 := Aside0.mk c34
                                      clear c34
                                      obtain ⟨y195, hy195⟩ : ∃ y_ : List (S50), y_ = (x12_2 ++ [(⟨wrap64 (x13_2 + x14_4), wrap64 ((wrap64 (x13_2 + a0)) - 1)⟩ : S50)]) := ⟨_, rfl⟩
                                      replace H : (railplanref9_Windows.l1 k4 a0 t186 y195 (wrap64 (x13_2 + 1))) = some (r1, r2) := by first | (rw [hy195]; with_reducible exact H) | (have H2_ := (Option.bind_some _ _).symm.trans H; rw [hy195]; with_reducible exact H2_) | (have H2_ := (Option.bind_some _ _).symm.trans H; with_reducible exact H2_) | with_reducible exact H | (rw [hy195]; exact H) | exact H
                                      have Ny195 := Aside0.mk hy195
                                      clear hy195
                                      have H' := Aside0.mk H
                                      clear H
                                      obtain ⟨Ao35, co35, eo35⟩ := Kd.R_slice HO_8.out
                                      subst eo35
                                      have p194 : 0 ≤ ((ji28) : Int) := of_decide_eq_true (by first | (with_reducible assumption) | assumption)
                                      have q194 : (ji28) < (t186.length : Int) := of_decide_eq_true (by first | (with_reducible assumption) | assumption)
                                      obtain ⟨ad194, e194, hx194_0⟩ := Kd.at_bool (Kd.R_reads' HO_8.out).2.2 (ji28) p194 q194
                                      (try rw [← Nbq31.out] at hx194_0)
                                      cases e194
                                      replace p194 := eq_true p194
                                      replace q194 := eq_true q194
                                      go_wp2_with (first | ((with_reducible refine gate_builtin (b := .append) (xs := #[.tmp 68, .tmp 77]) rfl ?_); at_builtin; refine Kd.R_append k50 (w0 := w) w.heap.size rfl (.tmp 68) (.tmp 77) 42 50 (.agg #[(.int .i64 0), (.int .i64 0)]) 16 rfl Try.underlying42 info50 rfl (by decide) (by omega) u12 x12_2 (⟨wrap64 (x13_2 + x14_4), wrap64 ((wrap64 (x13_2 + a0)) - 1)⟩ : S50) [.int .i64 (wrap64 (x13_2 + x14_4)), .int .i64 (wrap64 ((wrap64 (x13_2 + a0)) - 1))] (fun _ => True) (fun _ => False) rfl rfl ?aP (fun _ hk => hk.elim) ?aF ?aO ?aB ?aS ?aL ?_; (case aP => exact k50_mkM _ _ _ (⟨wrap64 (x13_2 + x14_4), wrap64 ((wrap64 (x13_2 + a0)) - 1)⟩ : S50)); (case aB => exact (by repeat (first | (with_reducible first | exact HB.out | apply below_alloc | apply pw_below_drewN | apply below_drew1) | exact HB.out))); (case aF => exact (fun _ _ => trivial)); (case aO => exact (by (with_reducible repeat (first | apply Kd.R_alloc | apply Kd.R_drewN | apply Kd.R_drew)); exact HO_12.out)); (case aS => exact (below_size (by repeat (first | (with_reducible first | exact HB.out | apply below_alloc | apply pw_below_drewN | apply below_drew1) | exact HB.out)))); (case aL => have := LMc34.out; omega); intro v196 w36 ho hb hg hat; rw [← Ny195.out] at ho; have n0_ := Aside0.mk (Kd.R_over' (by (with_reducible repeat (first | apply Kd.R_alloc | apply Kd.R_drewN | apply Kd.R_drew)); exact HO_8.out) (Kd.R_typed (by (with_reducible repeat (first | apply Kd.R_alloc | apply Kd.R_drewN | apply Kd.R_drew)); exact HO_12.out)) (by decide) hg); have n1_ := Aside0.mk (hb); have n2_ := Aside0.mk (ho); clear HO_8; clear HB; clear HO_12; have HO_8 := n0_; have HB := n1_; have HO197 := n2_; clear n0_ n1_ n2_; clear ho hb hg hat))
                                      go_roundg k4
                                      case measure => have := HK1.out; have := HK2.out; have := HJ15.out; have := HK4.out; omega
                                      case rel => exact ⟨(y195), (wrap64 (x13_2 + 1)), (by first | rfl | (simp; done) | (simp [*]; done)), H', ⟨by have := HK1.out; have := HK2.out; have := HJ15.out; have := HK4.out; omega⟩, ⟨by (with_reducible repeat (first | apply Kd.R_alloc | apply Kd.R_drewN | apply Kd.R_drew)); exact HO_8.out⟩, ⟨by (with_reducible repeat (first | apply Kd.R_alloc | apply Kd.R_drewN | apply Kd.R_drew)); exact HO197.out⟩, ⟨by repeat (first | (with_reducible first | exact HB.out | apply below_alloc | apply pw_below_drewN | apply below_drew1) | exact HB.out)⟩⟩
                                    · rw [if_neg c34] at H
                                      exact absurd H (by simp)
                                · rw [if_neg c30] at H
                                  exact absurd H (by simp)
                              · rw [if_neg c29] at H
                                exact absurd H (by simp)
                · rw [if_neg c15] at H
                  have c15b0 : decide (x13_2 < a0) = false := decide_eq_false c15
                  clear c15
                  simp only [Option.some.injEq, Prod.mk.injEq] at H
                  obtain ⟨rfl, rfl⟩ := H
                  go_wp2
                  go_ret2
                  exact ⟨_, by first | rfl | (simp [errW_none, errW_some] <;> rfl) | (simp [*, errW_none, errW_some] <;> rfl), by (with_reducible repeat (first | apply Kd.R_alloc | apply Kd.R_drewN | apply Kd.R_drew)); exact HO_12.out, by repeat (first | (with_reducible first | exact HB.out | apply below_alloc | apply pw_below_drewN | apply below_drew1) | exact HB.out)⟩
  · rw [if_neg c5] at H
    have c5b0 : (t187 == 0) = false := beq_eq_false_iff_ne.mpr c5
    have c5b1 : (t187 != 0) = true := bne_iff_ne.mpr c5
    simp only [Option.some.injEq, Prod.mk.injEq] at H
    obtain ⟨rfl, rfl⟩ := H
    go_enter Try.func40, Try.ntmps40
    go_wp2_with (first | ((with_reducible refine gate_callee (f := 43) rfl ?_); refine goesL_ (some 19) rfl rfl Try.func43 (by kernel_rfl) rfl #[.int .i64 a0, .slice A1 l1.length c1, .slice A2 l2.length c2] rfl (by (try simp only [List.map_toArray, List.map_cons, List.map_nil]); first | done | rfl | (simp only [List.length_drop, List.length_take]; rfl)) ?_; (with_reducible refine (railplanref9_forbidden.calls k a0 _ _ l1 _ _ l2 t186 t187 _ ?side1 ?side2 ?side3 ?side4 A4.out).mono ?_); (case side1 => repeat (first | exact HR1.out | (with_reducible refine Kd.C_alloc ?_ _) | (with_reducible refine Kd.C_drewN ?_ _) | (with_reducible refine Kd.C_drew ?_))); (case side2 => exact HC1.out); (case side3 => repeat (first | exact HR2.out | (with_reducible refine Kd.C_alloc ?_ _) | (with_reducible refine Kd.C_drewN ?_ _) | (with_reducible refine Kd.C_drew ?_))); (case side4 => exact HC2.out); rintro e w37 ⟨v188, rfl, ho0, hb⟩; refine ⟨_, rfl, ?_⟩; have n0_ := Aside0.mk (Kd.R_lower ho0 (below_size (by repeat (first | (with_reducible first | exact HB.out | apply below_alloc | apply pw_below_drewN | apply below_drew1) | exact HB.out)))); have n1_ := Aside0.mk (below_step (by repeat (first | (with_reducible first | exact HB.out | apply below_alloc | apply pw_below_drewN | apply below_drew1) | exact HB.out)) hb); clear HB; have HO189 := n0_; have HB := n1_; clear n0_ n1_; (try clear hb); (try clear hb2); (try clear hk); (try clear hi); (try clear ho0)))
    go_ret2
    exact ⟨_, by first | rfl | (simp [errW_none, errW_some] <;> rfl) | (simp [*, errW_none, errW_some] <;> rfl), by first | exact Kd.R_nil _ _ _ _ _ | exact Kd.N_nil _ _ _ _ _ | exact Kd.V_nil _ _ _ _ _ | exact Kd.Q_nil _ _ _ _ _ | exact Kd.S_nil _ _ _ _ _, by repeat (first | (with_reducible first | exact HB.out | apply below_alloc | apply pw_below_drewN | apply below_drew1) | exact HB.out)⟩

/-! ### railplanref9_Alone: function 42 -/
mutual
def railplanref9_Alone.j0 : Nat → Int → List (S41) → Bool → Option (Bool)
  | 0, _, _, _ => none
  | k + 1, x0, x1, x13 => if x13 = true then (some false) else (railplanref9_Alone.l0 k x0 x1 0)
def railplanref9_Alone.l0 : Nat → Int → List (S41) → Int → Option (Bool)
  | 0, _, _, _ => none
  | k + 1, x0, x1, x5 => if x5 < (x1.length : Int) then (if 0 ≤ x5 then (if (wrap64 (((rd_T41 x1 x5).f2) - ((rd_T41 x1 x5).f1))) > x0 then (some false) else (railplanref9_Alone.l0 k x0 x1 (wrap64 (x5 + 1)))) else (none)) else (some true)
end
def railplanref9_Alone.f (k : Nat) (a0 : Int) (l1 : List (S41)) : Option (Bool) := (railplanref9_in.f a0 1 7200).bind fun t198 => (if t198 = true then ((railplanref9_ValidList.f k l1).bind fun t199 => (railplanref9_Alone.j0 k a0 l1 (!t199))) else (railplanref9_Alone.j0 k a0 l1 true))
theorem railplanref9_Alone.mono_l : ∀ k, (∀ y0 y1 y2, LeO (railplanref9_Alone.j0 k y0 y1 y2) (railplanref9_Alone.j0 (k + 1) y0 y1 y2)) ∧ (∀ y0 y1 y2, LeO (railplanref9_Alone.l0 k y0 y1 y2) (railplanref9_Alone.l0 (k + 1) y0 y1 y2))
  | 0 => ⟨fun _ _ _ r h => by simp [railplanref9_Alone.j0] at h, fun _ _ _ r h => by simp [railplanref9_Alone.l0] at h⟩
  | k + 1 => by
    obtain ⟨ih0, ih1⟩ := railplanref9_Alone.mono_l k
    refine ⟨?_, ?_⟩
    · intro y0 y1 y2
      unfold railplanref9_Alone.j0
      repeat' first
      | (with_reducible exact ih0 _ _ _)
      | (with_reducible exact ih1 _ _ _)
      | (with_reducible exact railplanref9_ValidList.mono _ _)
      | (with_reducible exact LeO.refl _)
      | (with_reducible exact LeO.none _)
      | (with_reducible refine LeO.ite ?_ ?_)
      | (with_reducible refine LeO.bind ?_ (fun _ => ?_))
      | exact ih0 _ _ _
      | exact ih1 _ _ _
      | exact railplanref9_ValidList.mono _ _
      | exact LeO.none _
      | refine LeO.ite ?_ ?_
      | refine LeO.bind ?_ (fun _ => ?_)
    · intro y0 y1 y2
      unfold railplanref9_Alone.l0
      repeat' first
      | (with_reducible exact ih0 _ _ _)
      | (with_reducible exact ih1 _ _ _)
      | (with_reducible exact railplanref9_ValidList.mono _ _)
      | (with_reducible exact LeO.refl _)
      | (with_reducible exact LeO.none _)
      | (with_reducible refine LeO.ite ?_ ?_)
      | (with_reducible refine LeO.bind ?_ (fun _ => ?_))
      | exact ih0 _ _ _
      | exact ih1 _ _ _
      | exact railplanref9_ValidList.mono _ _
      | exact LeO.none _
      | refine LeO.ite ?_ ?_
      | refine LeO.bind ?_ (fun _ => ?_)
theorem railplanref9_Alone.mono : ∀ a0 a1 k, LeO (railplanref9_Alone.f k a0 a1) (railplanref9_Alone.f (k + 1) a0 a1) := by
  intro a0 a1 k
  obtain ⟨ih0, ih1⟩ := railplanref9_Alone.mono_l k
  unfold railplanref9_Alone.f
  repeat' first
      | (with_reducible exact ih0 _ _ _)
      | (with_reducible exact ih1 _ _ _)
      | (with_reducible exact railplanref9_ValidList.mono _ _)
      | (with_reducible exact LeO.refl _)
      | (with_reducible exact LeO.none _)
      | (with_reducible refine LeO.ite ?_ ?_)
      | (with_reducible refine LeO.bind ?_ (fun _ => ?_))
      | exact ih0 _ _ _
      | exact ih1 _ _ _
      | exact railplanref9_ValidList.mono _ _
      | exact LeO.none _
      | refine LeO.ite ?_ ?_
      | refine LeO.bind ?_ (fun _ => ?_)
set_option maxHeartbeats 8000000 in
set_option maxRecDepth 100000 in
theorem railplanref9_Alone.calls (k : Nat) (a0 : Int) (A1 : Option Addr) (c1 : Nat) (l1 : List (S41)) (r : Bool) (w : World) (hr1 : Kd.C k41 w A1 l1.length l1) (hc1 : l1.length ≤ c1) (h : railplanref9_Alone.f k a0 l1 = some r) :
    Calls Try.prog 42 #[.int .i64 a0, .slice A1 l1.length c1] w fun e w' => e = .returned (.bool r) ∧ Drawn0 w w' := by
  have HR1 := Aside0.mk hr1
  have HC1 := Aside0.mk hc1
  clear hr1 hc1
  have H : ((railplanref9_in.f a0 1 7200).bind fun t198 => (if t198 = true then ((railplanref9_ValidList.f k l1).bind fun t199 => (railplanref9_Alone.j0 k a0 l1 (!t199))) else (railplanref9_Alone.j0 k a0 l1 true))) = some r := h
  clear h
  have HC3 := Aside0.mk H
  clear H
  go_enter Try.func42, Try.ntmps42
  go_upto_region 1 with (fail)
  repeat (go_quiet (fail); go_upto_region 1 with (fail))
  go_cut [13] (fun v13 wc => ∃ (kq : Nat) (x13_2 : Bool), v13 = .bool x13_2 ∧ Aside0 (railplanref9_Alone.j0 kq a0 l1 x13_2 = some r) ∧ Aside0 (kq ≤ k) ∧ Drawn0 w wc)
  case first =>
    have H := HC3.out
    clear HC3
    replace H := Option.bind_eq_some_iff.mp H
    obtain ⟨t198, A40, H⟩ := H
    replace H : (if t198 = true then ((railplanref9_ValidList.f k l1).bind fun t199 => (railplanref9_Alone.j0 k a0 l1 (!t199))) else (railplanref9_Alone.j0 k a0 l1 true)) = some r := H
    have A4 := Aside0.mk A40
    clear A40
    by_cases c5 : t198 = true
    · subst c5
      have H1 : ((railplanref9_ValidList.f k l1).bind fun t199 => (railplanref9_Alone.j0 k a0 l1 (!t199))) = some r := by rw [if_pos rfl] at H; exact H
      clear H
      have H := H1
      clear H1
      replace H := Option.bind_eq_some_iff.mp H
      obtain ⟨t199, A60, H⟩ := H
      replace H : (railplanref9_Alone.j0 k a0 l1 (!t199)) = some r := H
      have A6 := Aside0.mk A60
      clear A60
      have H' := Aside0.mk H
      clear H
      go_wp2_with (first | (go_at_call 51; (with_reducible refine (railplanref9_in.calls a0 1 7200 true _ A4.out).mono ?_); rintro e w' ⟨rfl, ⟨nd, rfl⟩⟩; (try first | exact ⟨rfl, _, World.drewN_drewN _ _ _⟩ | exact ⟨rfl, _, Eq.trans (World.drewN_drewN _ _ _) (congrArg (World.drewN _) (Nat.add_assoc _ _ _))⟩)) | (go_at_call 41; (with_reducible refine (railplanref9_ValidList.calls k _ _ l1 t199 _ ?side1 ?side2 A6.out).mono ?_); (case side1 => repeat (first | exact HR1.out | (with_reducible refine Kd.C_alloc ?_ _) | (with_reducible refine Kd.C_drewN ?_ _) | (with_reducible refine Kd.C_drew ?_))); (case side2 => exact HC1.out); rintro e w' ⟨rfl, ⟨nd, rfl⟩⟩; (try first | exact ⟨rfl, _, World.drewN_drewN _ _ _⟩ | exact ⟨rfl, _, Eq.trans (World.drewN_drewN _ _ _) (congrArg (World.drewN _) (Nat.add_assoc _ _ _))⟩)))
      repeat (go_quiet (first | (go_at_call 51; (with_reducible refine (railplanref9_in.calls a0 1 7200 true _ A4.out).mono ?_); rintro e w' ⟨rfl, ⟨nd, rfl⟩⟩; (try first | exact ⟨rfl, _, World.drewN_drewN _ _ _⟩ | exact ⟨rfl, _, Eq.trans (World.drewN_drewN _ _ _) (congrArg (World.drewN _) (Nat.add_assoc _ _ _))⟩)) | (go_at_call 41; (with_reducible refine (railplanref9_ValidList.calls k _ _ l1 t199 _ ?side1 ?side2 A6.out).mono ?_); (case side1 => repeat (first | exact HR1.out | (with_reducible refine Kd.C_alloc ?_ _) | (with_reducible refine Kd.C_drewN ?_ _) | (with_reducible refine Kd.C_drew ?_))); (case side2 => exact HC1.out); rintro e w' ⟨rfl, ⟨nd, rfl⟩⟩; (try first | exact ⟨rfl, _, World.drewN_drewN _ _ _⟩ | exact ⟨rfl, _, Eq.trans (World.drewN_drewN _ _ _) (congrArg (World.drewN _) (Nat.add_assoc _ _ _))⟩))); try go_wp2_with (first | (go_at_call 51; (with_reducible refine (railplanref9_in.calls a0 1 7200 true _ A4.out).mono ?_); rintro e w' ⟨rfl, ⟨nd, rfl⟩⟩; (try first | exact ⟨rfl, _, World.drewN_drewN _ _ _⟩ | exact ⟨rfl, _, Eq.trans (World.drewN_drewN _ _ _) (congrArg (World.drewN _) (Nat.add_assoc _ _ _))⟩)) | (go_at_call 41; (with_reducible refine (railplanref9_ValidList.calls k _ _ l1 t199 _ ?side1 ?side2 A6.out).mono ?_); (case side1 => repeat (first | exact HR1.out | (with_reducible refine Kd.C_alloc ?_ _) | (with_reducible refine Kd.C_drewN ?_ _) | (with_reducible refine Kd.C_drew ?_))); (case side2 => exact HC1.out); rintro e w' ⟨rfl, ⟨nd, rfl⟩⟩; (try first | exact ⟨rfl, _, World.drewN_drewN _ _ _⟩ | exact ⟨rfl, _, Eq.trans (World.drewN_drewN _ _ _) (congrArg (World.drewN _) (Nat.add_assoc _ _ _))⟩))))
      go_meet
      case rel => exact ⟨_, (!t199), (by first | rfl | (simp; done) | (simp [*]; done)), H', ⟨by first | omega | exact Nat.le_refl _⟩, by repeat (first | exact Drawn0.refl _ | apply Drawn0.step)⟩
    · replace c5 := Bool.eq_false_iff.mpr c5
      subst c5
      have H1 : (railplanref9_Alone.j0 k a0 l1 true) = some r := by rw [if_neg (show ¬ (false = true) by decide)] at H; exact H
      clear H
      have H := H1
      clear H1
      have H' := Aside0.mk H
      clear H
      go_wp2_with (first | (go_at_call 51; (with_reducible refine (railplanref9_in.calls a0 1 7200 false _ A4.out).mono ?_); rintro e w' ⟨rfl, ⟨nd, rfl⟩⟩; (try first | exact ⟨rfl, _, World.drewN_drewN _ _ _⟩ | exact ⟨rfl, _, Eq.trans (World.drewN_drewN _ _ _) (congrArg (World.drewN _) (Nat.add_assoc _ _ _))⟩)))
      repeat (go_quiet (first | (go_at_call 51; (with_reducible refine (railplanref9_in.calls a0 1 7200 false _ A4.out).mono ?_); rintro e w' ⟨rfl, ⟨nd, rfl⟩⟩; (try first | exact ⟨rfl, _, World.drewN_drewN _ _ _⟩ | exact ⟨rfl, _, Eq.trans (World.drewN_drewN _ _ _) (congrArg (World.drewN _) (Nat.add_assoc _ _ _))⟩))); try go_wp2_with (first | (go_at_call 51; (with_reducible refine (railplanref9_in.calls a0 1 7200 false _ A4.out).mono ?_); rintro e w' ⟨rfl, ⟨nd, rfl⟩⟩; (try first | exact ⟨rfl, _, World.drewN_drewN _ _ _⟩ | exact ⟨rfl, _, Eq.trans (World.drewN_drewN _ _ _) (congrArg (World.drewN _) (Nat.add_assoc _ _ _))⟩))))
      go_meet
      case rel => exact ⟨_, (true), (by first | rfl | (simp; done) | (simp [*]; done)), H', ⟨by first | omega | exact Nat.le_refl _⟩, by repeat (first | exact Drawn0.refl _ | apply Drawn0.step)⟩
  case rest =>
    clear HC3
    try clear c1
    try clear p2
    try clear c4
    try clear c5
    obtain ⟨kq, x13_2, rfl, HA, HJ2, ⟨mc2, rfl⟩⟩ := hcut
    cases kq with
    | zero => exact absurd HA.out (by simp [railplanref9_Alone.j0])
    | succ kj2 =>
      have H := HA.out
      clear HA
      simp only [railplanref9_Alone.j0] at H
      by_cases c7 : x13_2 = true
      · subst c7
        have H1 : (some false) = some r := by rw [if_pos rfl] at H; exact H
        clear H
        have H := H1
        clear H1
        obtain rfl := Option.some.inj H
        go_wp2
        repeat (go_quiet (fail); try go_wp2)
        go_ret
        exact ⟨by first | rfl | (simp; done) | (simp [*]; done), by repeat (first | exact Drawn0.refl _ | apply Drawn0.step)⟩
      · replace c7 := Bool.eq_false_iff.mpr c7
        subst c7
        have H1 : (railplanref9_Alone.l0 kj2 a0 l1 0) = some r := by rw [if_neg (show ¬ (false = true) by decide)] at H; exact H
        clear H
        have H := H1
        clear H1
        have H' := Aside0.mk H
        clear H
        go_wp2
        repeat (go_quiet (fail); try go_wp2)
        go_loopg [5] kj2 (fun kq v5 w' => ∃ (x5_2 : Int), v5 = .int .i64 x5_2 ∧ Aside0 (railplanref9_Alone.l0 kq a0 l1 x5_2 = some r) ∧ Aside0 (kq ≤ kj2) ∧ Drawn0 w w')
        case atStart => exact ⟨(0), (by first | rfl | (simp; done) | (simp [*]; done)), H', ⟨Nat.le_refl _⟩, by repeat (first | exact Drawn0.refl _ | apply Drawn0.step)⟩
        case round =>
          clear H'
          try clear c1
          try clear c2
          try clear p2
          try clear c4
          try clear c5
          try clear c7
          try clear p2
          obtain ⟨x5_2, rfl, HA, HK2, ⟨m2, rfl⟩⟩ := hrel
          cases gk with
          | zero => exact absurd HA.out (by simp [railplanref9_Alone.l0])
          | succ k2 =>
            have H := HA.out
            clear HA
            simp only [railplanref9_Alone.l0] at H
            by_cases c8 : x5_2 < (l1.length : Int)
            · rw [if_pos c8] at H
              have c8b0 : decide (x5_2 < (l1.length : Int)) = true := decide_eq_true c8
              clear c8
              by_cases c9 : 0 ≤ x5_2
              · rw [if_pos c9] at H
                have c9b0 : decide (0 ≤ x5_2) = true := decide_eq_true c9
                clear c9
                by_cases c10 : (wrap64 (((rd_T41 l1 x5_2).f2) - ((rd_T41 l1 x5_2).f1))) > a0
                · rw [if_pos c10] at H
                  have c10b0 : decide (a0 < (wrap64 (((rd_T41 l1 x5_2).f2) - ((rd_T41 l1 x5_2).f1)))) = true := decide_eq_true c10
                  clear c10
                  obtain rfl := Option.some.inj H
                  have p200 : 0 ≤ (x5_2 : Int) := of_decide_eq_true (by first | (with_reducible assumption) | assumption)
                  have q200 : x5_2 < (l1.length : Int) := of_decide_eq_true (by first | (with_reducible assumption) | assumption)
                  obtain ⟨ad200, e200, hx200_0, hx200_1, hx200_2⟩ := at_T41 HR1.out x5_2 p200 q200
                  cases e200
                  replace p200 := eq_true p200
                  replace q200 := eq_true q200
                  have p201 : 0 ≤ (x5_2 : Int) := of_decide_eq_true (by first | (with_reducible assumption) | assumption)
                  have q201 : x5_2 < (l1.length : Int) := of_decide_eq_true (by first | (with_reducible assumption) | assumption)
                  obtain ⟨ad201, e201, hx201_0, hx201_1, hx201_2⟩ := at_T41 HR1.out x5_2 p201 q201
                  obtain rfl : ad200 = ad201 := (by injection e201)
                  replace p201 := eq_true p201
                  replace q201 := eq_true q201
                  go_wp2
                  repeat (go_quiet (fail); try go_wp2)
                  go_ret
                  exact ⟨by first | rfl | (simp; done) | (simp [*]; done), by repeat (first | exact Drawn0.refl _ | apply Drawn0.step)⟩
                · rw [if_neg c10] at H
                  have c10b0 : decide (a0 < (wrap64 (((rd_T41 l1 x5_2).f2) - ((rd_T41 l1 x5_2).f1)))) = false := decide_eq_false c10
                  clear c10
                  have H' := Aside0.mk H
                  clear H
                  have p200 : 0 ≤ (x5_2 : Int) := of_decide_eq_true (by first | (with_reducible assumption) | assumption)
                  have q200 : x5_2 < (l1.length : Int) := of_decide_eq_true (by first | (with_reducible assumption) | assumption)
                  obtain ⟨ad200, e200, hx200_0, hx200_1, hx200_2⟩ := at_T41 HR1.out x5_2 p200 q200
                  cases e200
                  replace p200 := eq_true p200
                  replace q200 := eq_true q200
                  have p201 : 0 ≤ (x5_2 : Int) := of_decide_eq_true (by first | (with_reducible assumption) | assumption)
                  have q201 : x5_2 < (l1.length : Int) := of_decide_eq_true (by first | (with_reducible assumption) | assumption)
                  obtain ⟨ad201, e201, hx201_0, hx201_1, hx201_2⟩ := at_T41 HR1.out x5_2 p201 q201
                  obtain rfl : ad200 = ad201 := (by injection e201)
                  replace p201 := eq_true p201
                  replace q201 := eq_true q201
                  go_wp2
                  repeat (go_quiet (fail); try go_wp2)
                  go_roundg k2
                  case measure => have := HJ2.out; have := HK2.out; omega
                  case rel => exact ⟨(wrap64 (x5_2 + 1)), (by first | rfl | (simp; done) | (simp [*]; done)), H', ⟨by have := HJ2.out; have := HK2.out; omega⟩, by repeat (first | exact Drawn0.refl _ | apply Drawn0.step)⟩
              · rw [if_neg c9] at H
                exact absurd H (by simp)
            · rw [if_neg c8] at H
              have c8b0 : decide (x5_2 < (l1.length : Int)) = false := decide_eq_false c8
              clear c8
              obtain rfl := Option.some.inj H
              go_wp2
              repeat (go_quiet (fail); try go_wp2)
              go_ret
              exact ⟨by first | rfl | (simp; done) | (simp [*]; done), by repeat (first | exact Drawn0.refl _ | apply Drawn0.step)⟩

-- NOT PRINTED: function 24 (railplanlaw9_agrees)

-- NOT PRINTED: function 9 (railplanlaw9_HeadwayGenerated)

end Go.Proofs.Ytcdldldknfpkjaa.PHw
