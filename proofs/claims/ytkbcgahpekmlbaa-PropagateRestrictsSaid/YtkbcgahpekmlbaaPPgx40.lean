-- (printed by the kit's print.py, called by printmany.sh)
import Derived.Test.YtkbcgahpekmlbaaPPgx0
import Derived.Test.YtkbcgahpekmlbaaPPgx36
import Derived.Test.YtkbcgahpekmlbaaPPgx37
import Derived.Test.YtkbcgahpekmlbaaPPgx39
namespace Go.Proofs.Ytkbcgahpekmlbaa.PPg
open Go.RowKit Go.Proofs.YtkbcgahpekmlbaaW.PrintWords Go.Proofs.YtkbcgahpekmlbaaW.PrintLast Go.Proofs.YtkbcgahpekmlbaaW.PrintMore
attribute [local go_sem] max2_int min2_int max_two min_two max_three min_three max_four min_four   -- for this text's walks alone
set_option linter.unusedVariables false
set_option linter.unusedSimpArgs false

/-! ### railplanref1_Intersect: function 22 -/
def railplanref1_Intersect.l0 : Nat → Int → List Bool → List Bool → Int → Option ((List (S41)) × Int)
  | 0, _, _, _, _ => none
  | k + 1, x0, x9, x10, x11 => if x11 < x0 then (if 0 ≤ x11 then (if x11 < (x9.length : Int) then (if rdOf false x9 x11 = true then (if x11 < (x10.length : Int) then (railplanref1_Intersect.l0 k x0 (x9.set (x11 : Int).toNat (rdOf false x10 x11)) x10 (wrap64 (x11 + 1))) else (none)) else (railplanref1_Intersect.l0 k x0 (x9.set (x11 : Int).toNat false) x10 (wrap64 (x11 + 1)))) else (none)) else (none)) else ((railplanref1_spans.f k x9).bind fun t363 => (some (t363, 0)))
def railplanref1_Intersect.f (k : Nat) (a0 : Int) (l1 : List (S41)) (l2 : List (S41)) : Option ((List (S41)) × Int) := (railplanref1_bad.f k a0 l1 l2).bind fun t352 => (if t352 = 0 then ((railplanref1_marks.f k a0 l1).bind fun t353 => ((railplanref1_marks.f k a0 l2).bind fun t356 => (railplanref1_Intersect.l0 k a0 t353 t356 0))) else (some (([] : List (S41)), t352)))
theorem railplanref1_Intersect.mono_l : ∀ k, (∀ y0 y1 y2 y3, LeO (railplanref1_Intersect.l0 k y0 y1 y2 y3) (railplanref1_Intersect.l0 (k + 1) y0 y1 y2 y3))
  | 0 => fun _ _ _ _ r h => by simp [railplanref1_Intersect.l0] at h
  | k + 1 => by
    have ih0 := railplanref1_Intersect.mono_l k
    · intro y0 y1 y2 y3
      unfold railplanref1_Intersect.l0
      repeat' first
      | (with_reducible exact ih0 _ _ _ _)
      | (with_reducible exact railplanref1_bad.mono _ _ _ _)
      | (with_reducible exact railplanref1_marks.mono _ _ _)
      | (with_reducible exact railplanref1_spans.mono _ _)
      | (with_reducible exact LeO.refl _)
      | (with_reducible exact LeO.none _)
      | (with_reducible refine LeO.ite ?_ ?_)
      | (with_reducible refine LeO.bind ?_ (fun _ => ?_))
      | exact ih0 _ _ _ _
      | exact railplanref1_bad.mono _ _ _ _
      | exact railplanref1_marks.mono _ _ _
      | exact railplanref1_spans.mono _ _
      | exact LeO.none _
      | refine LeO.ite ?_ ?_
      | refine LeO.bind ?_ (fun _ => ?_)
theorem railplanref1_Intersect.mono : ∀ a0 a1 a2 k, LeO (railplanref1_Intersect.f k a0 a1 a2) (railplanref1_Intersect.f (k + 1) a0 a1 a2) := by
  intro a0 a1 a2 k
  have ih0 := railplanref1_Intersect.mono_l k
  unfold railplanref1_Intersect.f
  repeat' first
      | (with_reducible exact ih0 _ _ _ _)
      | (with_reducible exact railplanref1_bad.mono _ _ _ _)
      | (with_reducible exact railplanref1_marks.mono _ _ _)
      | (with_reducible exact railplanref1_spans.mono _ _)
      | (with_reducible exact LeO.refl _)
      | (with_reducible exact LeO.none _)
      | (with_reducible refine LeO.ite ?_ ?_)
      | (with_reducible refine LeO.bind ?_ (fun _ => ?_))
      | exact ih0 _ _ _ _
      | exact railplanref1_bad.mono _ _ _ _
      | exact railplanref1_marks.mono _ _ _
      | exact railplanref1_spans.mono _ _
      | exact LeO.none _
      | refine LeO.ite ?_ ?_
      | refine LeO.bind ?_ (fun _ => ?_)
set_option maxHeartbeats 8000000 in
set_option maxRecDepth 100000 in
theorem railplanref1_Intersect.calls (k : Nat) (a0 : Int) (A1 : Option Addr) (c1 : Nat) (l1 : List (S41)) (A2 : Option Addr) (c2 : Nat) (l2 : List (S41)) (r1 : List (S41)) (r2 : Int) (w : World) (hr1 : Kd.C k41 w A1 l1.length l1) (hc1 : l1.length ≤ c1) (hr2 : Kd.C k41 w A2 l2.length l2) (hc2 : l2.length ≤ c2) (h : railplanref1_Intersect.f k a0 l1 l2 = some (r1, r2)) :
    Calls Try.prog 22 #[.int .i64 a0, .slice A1 l1.length c1, .slice A2 l2.length c2] w fun e w' => ∃ v0_ : Value, e = .returned (.tuple #[v0_, .int .i64 r2]) ∧ Kd.R k41 41 w' w.heap.size (fun _ => True) v0_ r1 ∧ Below w.heap.size w w' := by
  have HR1 := Aside0.mk hr1
  have HC1 := Aside0.mk hc1
  clear hr1 hc1
  have HR2 := Aside0.mk hr2
  have HC2 := Aside0.mk hc2
  clear hr2 hc2
  have HB := Aside0.mk (Below.refl w.heap.size w)
  have H : ((railplanref1_bad.f k a0 l1 l2).bind fun t352 => (if t352 = 0 then ((railplanref1_marks.f k a0 l1).bind fun t353 => ((railplanref1_marks.f k a0 l2).bind fun t356 => (railplanref1_Intersect.l0 k a0 t353 t356 0))) else (some (([] : List (S41)), t352)))) = some (r1, r2) := h
  clear h
  replace H := Option.bind_eq_some_iff.mp H
  obtain ⟨t352, A40, H⟩ := H
  replace H : (if t352 = 0 then ((railplanref1_marks.f k a0 l1).bind fun t353 => ((railplanref1_marks.f k a0 l2).bind fun t356 => (railplanref1_Intersect.l0 k a0 t353 t356 0))) else (some (([] : List (S41)), t352))) = some (r1, r2) := H
  have A4 := Aside0.mk A40
  clear A40
  by_cases c5 : t352 = 0
  · rw [if_pos c5] at H
    have c5b0 : (t352 == 0) = true := beq_iff_eq.mpr c5
    have c5b1 : (t352 != 0) = false := bne_eq_false_iff_eq.mpr c5
    clear c5
    replace H := Option.bind_eq_some_iff.mp H
    obtain ⟨t353, A60, H⟩ := H
    replace H : ((railplanref1_marks.f k a0 l2).bind fun t356 => (railplanref1_Intersect.l0 k a0 t353 t356 0)) = some (r1, r2) := H
    have A6 := Aside0.mk A60
    clear A60
    replace H := Option.bind_eq_some_iff.mp H
    obtain ⟨t356, A70, H⟩ := H
    replace H : (railplanref1_Intersect.l0 k a0 t353 t356 0) = some (r1, r2) := H
    have A7 := Aside0.mk A70
    clear A70
    have H' := Aside0.mk H
    clear H
    go_enter Try.func22, Try.ntmps22
    go_wp2_with (first | ((with_reducible refine gate_callee (f := 40) rfl ?_); refine goesL_ (some 15) rfl rfl Try.func40 (by kernel_rfl) rfl #[.int .i64 a0, .slice A1 l1.length c1, .slice A2 l2.length c2] rfl (by (try simp only [List.map_toArray, List.map_cons, List.map_nil]); first | done | rfl | (simp only [List.length_drop, List.length_take]; rfl)) ?_; (with_reducible refine (railplanref1_bad.calls k a0 _ _ l1 _ _ l2 t352 _ ?side1 ?side2 ?side3 ?side4 A4.out).mono ?_); (case side1 => repeat (first | exact HR1.out | (with_reducible refine Kd.C_alloc ?_ _) | (with_reducible refine Kd.C_drewN ?_ _) | (with_reducible refine Kd.C_drew ?_))); (case side2 => exact HC1.out); (case side3 => repeat (first | exact HR2.out | (with_reducible refine Kd.C_alloc ?_ _) | (with_reducible refine Kd.C_drewN ?_ _) | (with_reducible refine Kd.C_drew ?_))); (case side4 => exact HC2.out); rintro e w' ⟨rfl, ⟨nd, rfl⟩⟩; refine ⟨_, rfl, ?_⟩) | ((with_reducible refine gate_callee (f := 42) rfl ?_); refine goesL_ (some 21) rfl rfl Try.func42 (by kernel_rfl) rfl #[.int .i64 a0, .slice A1 l1.length c1] rfl (by (try simp only [List.map_toArray, List.map_cons, List.map_nil]); first | done | rfl | (simp only [List.length_drop, List.length_take]; rfl)) ?_; (with_reducible refine (railplanref1_marks.calls k a0 _ _ l1 t353 _ ?side1 ?side2 A6.out).mono ?_); (case side1 => repeat (first | exact HR1.out | (with_reducible refine Kd.C_alloc ?_ _) | (with_reducible refine Kd.C_drewN ?_ _) | (with_reducible refine Kd.C_drew ?_))); (case side2 => exact HC1.out); rintro e w8 ⟨v354, rfl, ho0, hb⟩; refine ⟨_, rfl, ?_⟩; have n0_ := Aside0.mk (Kd.R_lower ho0 (below_size (by repeat (first | (with_reducible first | exact HB.out | apply below_alloc | apply pw_below_drewN | apply below_drew1) | exact HB.out)))); have n1_ := Aside0.mk (below_step (by repeat (first | (with_reducible first | exact HB.out | apply below_alloc | apply pw_below_drewN | apply below_drew1) | exact HB.out)) hb); clear HB; have HO355 := n0_; have HB := n1_; clear n0_ n1_; (try clear hb); (try clear hb2); (try clear hk); (try clear hi); (try clear ho0)) | ((with_reducible refine gate_callee (f := 42) rfl ?_); refine goesL_ (some 24) rfl rfl Try.func42 (by kernel_rfl) rfl #[.int .i64 a0, .slice A2 l2.length c2] rfl (by (try simp only [List.map_toArray, List.map_cons, List.map_nil]); first | done | rfl | (simp only [List.length_drop, List.length_take]; rfl)) ?_; (with_reducible refine (railplanref1_marks.calls k a0 _ _ l2 t356 _ ?side1 ?side2 A7.out).mono ?_); (case side1 => repeat (first | exact (Kd.C_below HR2.out HB.out) | (with_reducible refine Kd.C_alloc ?_ _) | (with_reducible refine Kd.C_drewN ?_ _) | (with_reducible refine Kd.C_drew ?_))); (case side2 => exact HC2.out); rintro e w9 ⟨v357, rfl, ho0, hb⟩; refine ⟨_, rfl, ?_⟩; have n0_ := Aside0.mk (Kd.R_elder' (by (with_reducible repeat (first | apply Kd.R_alloc | apply Kd.R_drewN | apply Kd.R_drew)); exact HO355.out) (Kd.R_base ho0) hb); have n1_ := Aside0.mk (Kd.R_lower (Kd.R_new' ho0 (Kd.R_lt (by (with_reducible repeat (first | apply Kd.R_alloc | apply Kd.R_drewN | apply Kd.R_drew)); exact HO355.out))) (below_size (by repeat (first | (with_reducible first | exact HB.out | apply below_alloc | apply pw_below_drewN | apply below_drew1) | exact HB.out)))); have n2_ := Aside0.mk (below_step (by repeat (first | (with_reducible first | exact HB.out | apply below_alloc | apply pw_below_drewN | apply below_drew1) | exact HB.out)) hb); clear HO355; clear HB; have HO355 := n0_; have HO358 := n1_; have HB := n2_; clear n0_ n1_ n2_; (try clear hb); (try clear hb2); (try clear hk); (try clear hi); (try clear ho0)))
    go_loopg [11] k (fun kq v11 w' => ∃ (x9_1 : List Bool) (x11_1 : Int), v11 = .int .i64 x11_1 ∧ Aside0 (railplanref1_Intersect.l0 kq a0 x9_1 t356 x11_1 = some (r1, r2)) ∧ Aside0 (kq ≤ k) ∧ Aside0 (Kd.R Kd.bool 4 w' w.heap.size (fun k_ => some k_ ≠ (v357 : Value).ownBlock) v354 x9_1) ∧ Aside0 (Kd.R Kd.bool 4 w' w.heap.size (fun k_ => some k_ ≠ (v354 : Value).ownBlock) v357 t356) ∧ Aside0 (Below w.heap.size w w'))
    case atStart => exact ⟨(t353), (0), (by first | rfl | (simp; done) | (simp [*]; done)), H', ⟨Nat.le_refl _⟩, ⟨by (with_reducible repeat (first | apply Kd.R_alloc | apply Kd.R_drewN | apply Kd.R_drew)); exact Kd.R_mono HO355.out (fun _ hk => hk.2)⟩, ⟨by (with_reducible repeat (first | apply Kd.R_alloc | apply Kd.R_drewN | apply Kd.R_drew)); exact Kd.R_mono HO358.out (fun _ hk => hk.2)⟩, ⟨by repeat (first | (with_reducible first | exact HB.out | apply below_alloc | apply pw_below_drewN | apply below_drew1) | exact HB.out)⟩⟩
    case round =>
      clear H'
      try clear c1
      try clear c2
      try clear p2
      try clear c4
      try clear c5
      try clear c5b0
      try clear c5b1
      obtain ⟨x9_1, x11_1, rfl, HA, HK1, HO_9, HO_10, HB⟩ := hrel
      cases gk with
      | zero => exact absurd HA.out (by simp [railplanref1_Intersect.l0])
      | succ k1 =>
        have H := HA.out
        clear HA
        simp only [railplanref1_Intersect.l0] at H
        by_cases c10 : x11_1 < a0
        · rw [if_pos c10] at H
          have c10b0 : decide (x11_1 < a0) = true := decide_eq_true c10
          clear c10
          by_cases c11 : 0 ≤ x11_1
          · rw [if_pos c11] at H
            have c11b0 : decide (0 ≤ x11_1) = true := decide_eq_true c11
            clear c11
            by_cases c12 : x11_1 < (x9_1.length : Int)
            · rw [if_pos c12] at H
              have c12b0 : decide (x11_1 < (x9_1.length : Int)) = true := decide_eq_true c12
              clear c12
              obtain ⟨bq13, hbq13⟩ : ∃ b_ : Bool, b_ = (rdOf false x9_1 x11_1) := ⟨_, rfl⟩
              replace H : (if bq13 = true then (if x11_1 < (t356.length : Int) then (railplanref1_Intersect.l0 k1 a0 (x9_1.set (x11_1 : Int).toNat (rdOf false t356 x11_1)) t356 (wrap64 (x11_1 + 1))) else (none)) else (railplanref1_Intersect.l0 k1 a0 (x9_1.set (x11_1 : Int).toNat false) t356 (wrap64 (x11_1 + 1)))) = some (r1, r2) := by rw [← hbq13] at H; exact H
              have Nbq13 := Aside0.mk hbq13
              clear hbq13
              by_cases c14 : bq13 = true
              · subst c14
                have H1 : (if x11_1 < (t356.length : Int) then (railplanref1_Intersect.l0 k1 a0 (x9_1.set (x11_1 : Int).toNat (rdOf false t356 x11_1)) t356 (wrap64 (x11_1 + 1))) else (none)) = some (r1, r2) := by rw [if_pos rfl] at H; exact H
                clear H
                have H := H1
                clear H1
                by_cases c15 : x11_1 < (t356.length : Int)
                · rw [if_pos c15] at H
                  have c15b0 : decide (x11_1 < (t356.length : Int)) = true := decide_eq_true c15
                  clear c15
                  obtain ⟨y361, hy361⟩ : ∃ y_ : List Bool, y_ = (x9_1.set (x11_1 : Int).toNat (rdOf false t356 x11_1)) := ⟨_, rfl⟩
                  replace H : (railplanref1_Intersect.l0 k1 a0 y361 t356 (wrap64 (x11_1 + 1))) = some (r1, r2) := by first | (rw [hy361]; with_reducible exact H) | (have H2_ := (Option.bind_some _ _).symm.trans H; rw [hy361]; with_reducible exact H2_) | (have H2_ := (Option.bind_some _ _).symm.trans H; with_reducible exact H2_) | with_reducible exact H | (rw [hy361]; exact H) | exact H
                  have Ny361 := Aside0.mk hy361
                  clear hy361
                  have H' := Aside0.mk H
                  clear H
                  obtain ⟨Ao17, co17, eo17⟩ := Kd.R_slice HO_9.out
                  subst eo17
                  have p359 : 0 ≤ (x11_1 : Int) := of_decide_eq_true (by first | (with_reducible assumption) | assumption)
                  have q359 : x11_1 < (x9_1.length : Int) := of_decide_eq_true (by first | (with_reducible assumption) | assumption)
                  obtain ⟨ad359, e359, hx359_0⟩ := Kd.at_bool (Kd.R_reads' HO_9.out).2.2 x11_1 p359 q359
                  (try rw [← Nbq13.out] at hx359_0)
                  cases e359
                  replace p359 := eq_true p359
                  replace q359 := eq_true q359
                  obtain ⟨Ao18, co18, eo18⟩ := Kd.R_slice HO_10.out
                  subst eo18
                  have p360 : 0 ≤ (x11_1 : Int) := of_decide_eq_true (by first | (with_reducible assumption) | assumption)
                  have q360 : x11_1 < (t356.length : Int) := of_decide_eq_true (by first | (with_reducible assumption) | assumption)
                  obtain ⟨ad360, e360, hx360_0⟩ := Kd.at_bool (Kd.R_reads' HO_10.out).2.2 x11_1 p360 q360
                  (try rw [← Nbq13.out] at hx360_0)
                  cases e360
                  replace p360 := eq_true p360
                  replace q360 := eq_true q360
                  have p16 : 0 ≤ (x11_1 : Int) := of_decide_eq_true (by first | (with_reducible assumption) | assumption)
                  have q16 : (x11_1 : Int) < ((x9_1.length : Int) : Int) := of_decide_eq_true (by first | (with_reducible assumption) | assumption)
                  obtain ⟨go16, co16, eo16, gb16, gl16, cl16, HG16⟩ := Kd.R_form HO_9.out (by omega)
                  (first | cases eo16 | (injection eo16 with ea_ en_ ec_; (first | subst ea_ | (injection ea_ with ea_; subst ea_)); subst ec_; clear en_))
                  have GB16 := Aside0.mk gb16
                  have GG16 := Aside0.mk HG16
                  clear gb16 gl16 HG16
                  (first | simp only [add_plain] at hx359_0 | skip)
                  obtain ⟨hx16_0, hf16_0⟩ := Kd.R_celln false HO_9.out (x11_1 : Int) p16 q16
                  replace p16 := eq_true p16
                  replace q16 := eq_true q16
                  have HP19 := Kd.R_putg HO_9.out (x11_1 : Int) (rdOf false t356 x11_1)
                  go_wp2_with (first | ((with_reducible refine gate_store (t := 4) (p := 42) rfl ?_); refine store_event (t := 4) (p := 42) (v := ?vo_w20) (w1 := (wr.setCell ⟨go16, (x11_1 : Int).toNat, none⟩ (.bool (rdOf false t356 x11_1)))) ?hg ?ho ?hn ?hr ?_; (case ho => rfl); (case hg => rfl); (case hn => rfl); (case hr => first | (go_simp; done) | (go_simp; rfl)); intro w20 hw; have hg : wr.grownBy w20 (some go16) := (by rw [hw]; exact HP19.2); have hp_ : Kd.R Kd.bool 4 w20 w.heap.size (fun k_ => some k_ ≠ (.slice (some ad360) t356.length co18 : Value).ownBlock) (.slice (some ⟨go16, 0, none⟩) x9_1.length co17) y361 := (by rw [hw, Ny361.out]; exact HP19.1); clear HP19; have n0_ := Aside0.mk (hp_); have n1_ := Aside0.mk (Kd.R_after (v := (.slice (some ⟨go16, 0, none⟩) x9_1.length co17)) (v1 := (.slice (some ⟨go16, 0, none⟩) x9_1.length co17)) (ok := (fun _ => True)) (by (with_reducible repeat (first | apply Kd.R_alloc | apply Kd.R_drewN | apply Kd.R_drew)); exact Kd.R_mono HO_10.out (fun _ hk => ⟨trivial, hk⟩)) hg (.inl rfl)); have n2_ := Aside0.mk ((by rw [hw]; exact below_set (HB.out) GB16.out : Below w.heap.size w w20)); clear HO_9; clear HO_10; clear HB; have HO_9 := n0_; have HO_10 := n1_; have HB := n2_; clear n0_ n1_ n2_; clear hg hw hp_))
                  go_roundg k1
                  case measure => have := HK1.out; omega
                  case rel => exact ⟨(y361), (wrap64 (x11_1 + 1)), (by first | rfl | (simp; done) | (simp [*]; done)), H', ⟨by have := HK1.out; omega⟩, ⟨by (with_reducible repeat (first | apply Kd.R_alloc | apply Kd.R_drewN | apply Kd.R_drew)); exact HO_9.out⟩, ⟨by (with_reducible repeat (first | apply Kd.R_alloc | apply Kd.R_drewN | apply Kd.R_drew)); exact Kd.R_mono HO_10.out (fun _ hk => hk.2)⟩, ⟨by repeat (first | (with_reducible first | exact HB.out | apply below_alloc | apply pw_below_drewN | apply below_drew1) | exact HB.out)⟩⟩
                · rw [if_neg c15] at H
                  exact absurd H (by simp)
              · replace c14 := Bool.eq_false_iff.mpr c14
                subst c14
                have H1 : (railplanref1_Intersect.l0 k1 a0 (x9_1.set (x11_1 : Int).toNat false) t356 (wrap64 (x11_1 + 1))) = some (r1, r2) := by rw [if_neg (show ¬ (false = true) by decide)] at H; exact H
                clear H
                have H := H1
                clear H1
                obtain ⟨y362, hy362⟩ : ∃ y_ : List Bool, y_ = (x9_1.set (x11_1 : Int).toNat false) := ⟨_, rfl⟩
                replace H : (railplanref1_Intersect.l0 k1 a0 y362 t356 (wrap64 (x11_1 + 1))) = some (r1, r2) := by first | (rw [hy362]; with_reducible exact H) | (have H2_ := (Option.bind_some _ _).symm.trans H; rw [hy362]; with_reducible exact H2_) | (have H2_ := (Option.bind_some _ _).symm.trans H; with_reducible exact H2_) | with_reducible exact H | (rw [hy362]; exact H) | exact H
                have Ny362 := Aside0.mk hy362
                clear hy362
                have H' := Aside0.mk H
                clear H
                obtain ⟨Ao22, co22, eo22⟩ := Kd.R_slice HO_9.out
                subst eo22
                have p359 : 0 ≤ (x11_1 : Int) := of_decide_eq_true (by first | (with_reducible assumption) | assumption)
                have q359 : x11_1 < (x9_1.length : Int) := of_decide_eq_true (by first | (with_reducible assumption) | assumption)
                obtain ⟨ad359, e359, hx359_0⟩ := Kd.at_bool (Kd.R_reads' HO_9.out).2.2 x11_1 p359 q359
                (try rw [← Nbq13.out] at hx359_0)
                cases e359
                replace p359 := eq_true p359
                replace q359 := eq_true q359
                have p21 : 0 ≤ (x11_1 : Int) := of_decide_eq_true (by first | (with_reducible assumption) | assumption)
                have q21 : (x11_1 : Int) < ((x9_1.length : Int) : Int) := of_decide_eq_true (by first | (with_reducible assumption) | assumption)
                obtain ⟨go21, co21, eo21, gb21, gl21, cl21, HG21⟩ := Kd.R_form HO_9.out (by omega)
                (first | cases eo21 | (injection eo21 with ea_ en_ ec_; (first | subst ea_ | (injection ea_ with ea_; subst ea_)); subst ec_; clear en_))
                have GB21 := Aside0.mk gb21
                have GG21 := Aside0.mk HG21
                clear gb21 gl21 HG21
                (first | simp only [add_plain] at hx359_0 | skip)
                obtain ⟨hx21_0, hf21_0⟩ := Kd.R_celln false HO_9.out (x11_1 : Int) p21 q21
                replace p21 := eq_true p21
                replace q21 := eq_true q21
                have HP23 := Kd.R_putg HO_9.out (x11_1 : Int) false
                go_wp2_with (first | ((with_reducible refine gate_store (t := 4) (p := 42) rfl ?_); refine store_event (t := 4) (p := 42) (v := ?vo_w24) (w1 := (wr.setCell ⟨go21, (x11_1 : Int).toNat, none⟩ (.bool false))) ?hg ?ho ?hn ?hr ?_; (case ho => rfl); (case hg => rfl); (case hn => rfl); (case hr => first | (go_simp; done) | (go_simp; rfl)); intro w24 hw; have hg : wr.grownBy w24 (some go21) := (by rw [hw]; exact HP23.2); have hp_ : Kd.R Kd.bool 4 w24 w.heap.size (fun k_ => some k_ ≠ (v357 : Value).ownBlock) (.slice (some ⟨go21, 0, none⟩) x9_1.length co22) y362 := (by rw [hw, Ny362.out]; exact HP23.1); clear HP23; have n0_ := Aside0.mk (hp_); have n1_ := Aside0.mk (Kd.R_after (v := (.slice (some ⟨go21, 0, none⟩) x9_1.length co22)) (v1 := (.slice (some ⟨go21, 0, none⟩) x9_1.length co22)) (ok := (fun _ => True)) (by (with_reducible repeat (first | apply Kd.R_alloc | apply Kd.R_drewN | apply Kd.R_drew)); exact Kd.R_mono HO_10.out (fun _ hk => ⟨trivial, hk⟩)) hg (.inl rfl)); have n2_ := Aside0.mk ((by rw [hw]; exact below_set (HB.out) GB21.out : Below w.heap.size w w24)); clear HO_9; clear HO_10; clear HB; have HO_9 := n0_; have HO_10 := n1_; have HB := n2_; clear n0_ n1_ n2_; clear hg hw hp_))
                go_roundg k1
                case measure => have := HK1.out; omega
                case rel => exact ⟨(y362), (wrap64 (x11_1 + 1)), (by first | rfl | (simp; done) | (simp [*]; done)), H', ⟨by have := HK1.out; omega⟩, ⟨by (with_reducible repeat (first | apply Kd.R_alloc | apply Kd.R_drewN | apply Kd.R_drew)); exact HO_9.out⟩, ⟨by (with_reducible repeat (first | apply Kd.R_alloc | apply Kd.R_drewN | apply Kd.R_drew)); exact Kd.R_mono HO_10.out (fun _ hk => hk.2)⟩, ⟨by repeat (first | (with_reducible first | exact HB.out | apply below_alloc | apply pw_below_drewN | apply below_drew1) | exact HB.out)⟩⟩
            · rw [if_neg c12] at H
              exact absurd H (by simp)
          · rw [if_neg c11] at H
            exact absurd H (by simp)
        · rw [if_neg c10] at H
          have c10b0 : decide (x11_1 < a0) = false := decide_eq_false c10
          clear c10
          replace H := Option.bind_eq_some_iff.mp H
          obtain ⟨t363, A250, H⟩ := H
          replace H : (some (t363, 0)) = some (r1, r2) := H
          have A25 := Aside0.mk A250
          clear A250
          simp only [Option.some.injEq, Prod.mk.injEq] at H
          obtain ⟨rfl, rfl⟩ := H
          obtain ⟨Ao26, co26, eo26⟩ := Kd.R_slice HO_9.out
          subst eo26
          go_wp2_with (first | ((with_reducible refine gate_callee (f := 41) rfl ?_); refine goesL_ (some 44) rfl rfl Try.func41 (by kernel_rfl) rfl #[.slice Ao26 x9_1.length co26] rfl (by (try simp only [List.map_toArray, List.map_cons, List.map_nil]); first | done | rfl | (simp only [List.length_drop, List.length_take]; rfl)) ?_; (with_reducible refine (railplanref1_spans.calls k1 _ _ x9_1 t363 _ ?side1 ?side2 A25.out).mono ?_); (case side1 => repeat (first | exact (Kd.R_reads' HO_9.out).2.2 | (with_reducible refine Kd.C_alloc ?_ _) | (with_reducible refine Kd.C_drewN ?_ _) | (with_reducible refine Kd.C_drew ?_))); (case side2 => exact (Kd.R_reads' HO_9.out).2.1); rintro e w27 ⟨v364, rfl, ho0, hb⟩; refine ⟨_, rfl, ?_⟩; have n0_ := Aside0.mk (Kd.R_below (by (with_reducible repeat (first | apply Kd.R_alloc | apply Kd.R_drewN | apply Kd.R_drew)); exact HO_9.out) hb); have n1_ := Aside0.mk (Kd.R_below (by (with_reducible repeat (first | apply Kd.R_alloc | apply Kd.R_drewN | apply Kd.R_drew)); exact HO_10.out) hb); have n2_ := Aside0.mk (Kd.R_lower ho0 (below_size (by repeat (first | (with_reducible first | exact HB.out | apply below_alloc | apply pw_below_drewN | apply below_drew1) | exact HB.out)))); have n3_ := Aside0.mk (below_step (by repeat (first | (with_reducible first | exact HB.out | apply below_alloc | apply pw_below_drewN | apply below_drew1) | exact HB.out)) hb); clear HO_9; clear HO_10; clear HB; have HO_9 := n0_; have HO_10 := n1_; have HO365 := n2_; have HB := n3_; clear n0_ n1_ n2_ n3_; (try clear hb); (try clear hb2); (try clear hk); (try clear hi); (try clear ho0)))
          go_ret2
          exact ⟨_, by first | rfl | (simp [errW_none, errW_some] <;> rfl) | (simp [*, errW_none, errW_some] <;> rfl), by (with_reducible repeat (first | apply Kd.R_alloc | apply Kd.R_drewN | apply Kd.R_drew)); exact HO365.out, by repeat (first | (with_reducible first | exact HB.out | apply below_alloc | apply pw_below_drewN | apply below_drew1) | exact HB.out)⟩
  · rw [if_neg c5] at H
    have c5b0 : (t352 == 0) = false := beq_eq_false_iff_ne.mpr c5
    have c5b1 : (t352 != 0) = true := bne_iff_ne.mpr c5
    simp only [Option.some.injEq, Prod.mk.injEq] at H
    obtain ⟨rfl, rfl⟩ := H
    go_enter Try.func22, Try.ntmps22
    go_wp2_with (first | ((with_reducible refine gate_callee (f := 40) rfl ?_); refine goesL_ (some 15) rfl rfl Try.func40 (by kernel_rfl) rfl #[.int .i64 a0, .slice A1 l1.length c1, .slice A2 l2.length c2] rfl (by (try simp only [List.map_toArray, List.map_cons, List.map_nil]); first | done | rfl | (simp only [List.length_drop, List.length_take]; rfl)) ?_; (with_reducible refine (railplanref1_bad.calls k a0 _ _ l1 _ _ l2 t352 _ ?side1 ?side2 ?side3 ?side4 A4.out).mono ?_); (case side1 => repeat (first | exact HR1.out | (with_reducible refine Kd.C_alloc ?_ _) | (with_reducible refine Kd.C_drewN ?_ _) | (with_reducible refine Kd.C_drew ?_))); (case side2 => exact HC1.out); (case side3 => repeat (first | exact HR2.out | (with_reducible refine Kd.C_alloc ?_ _) | (with_reducible refine Kd.C_drewN ?_ _) | (with_reducible refine Kd.C_drew ?_))); (case side4 => exact HC2.out); rintro e w' ⟨rfl, ⟨nd, rfl⟩⟩; refine ⟨_, rfl, ?_⟩))
    go_ret2
    exact ⟨_, by first | rfl | (simp [errW_none, errW_some] <;> rfl) | (simp [*, errW_none, errW_some] <;> rfl), by first | exact Kd.R_nil _ _ _ _ _ | exact Kd.N_nil _ _ _ _ _ | exact Kd.V_nil _ _ _ _ _ | exact Kd.Q_nil _ _ _ _ _ | exact Kd.S_nil _ _ _ _ _, by repeat (first | (with_reducible first | exact HB.out | apply below_alloc | apply pw_below_drewN | apply below_drew1) | exact HB.out)⟩

end Go.Proofs.Ytkbcgahpekmlbaa.PPg
