-- PRINTED BY print.sh 35421559b90ae4d0a3588c463048766b98c2df88dd9212a6774a882060cdf62d: not written by this session
import Derived.Test.YtdnileakboefgaaPResidueKeepsArgumentsx0
import Derived.Test.YtdnileakboefgaaPResidueKeepsArgumentsx2
import Derived.Test.YtdnileakboefgaaPResidueKeepsArgumentsx3
import Derived.Test.YtdnileakboefgaaPResidueKeepsArgumentsx5
namespace Go.Proofs.Ytdnileakboefgaa.PResidueKeepsArguments
open Go.RowKit Go.Proofs.YtdnileakboefgaaW.PrintWords Go.Proofs.YtdnileakboefgaaW.PrintLast Go.Proofs.YtdnileakboefgaaW.PrintMore
attribute [local go_sem] max2_int min2_int max_two min_two max_three min_three max_four min_four   -- for this text's walks alone
set_option linter.unusedVariables false
set_option linter.unusedSimpArgs false

/-! ### railplankeep_Set: function 19 -/
def railplankeep_Set.l0 : Nat → Int → List (S35) → Int → List Int → Int → Option ((List (S35)))
  | 0, _, _, _, _, _ => none
  | k + 1, x0, x6, x7, x194000, x194001 => if x7 > 0 then ((railplankeep_Source_Next.f x194000 x194001 x0).bind fun bt196 => ((railplankeep_Source_Next.f x194000 bt196.2 (wrap64 (1 + (wrap64 (Int.tdiv x0 2))))).bind fun bt198 => ((railplanref1_Make.f k x0 bt196.1 bt198.1).bind fun bt200 => ((railplanref1_Union.f k x0 x6 bt200.1).bind fun bt204 => (railplankeep_Set.l0 k x0 bt204.1 (wrap64 (x7 - 1)) x194000 bt198.2))))) else (some x6)
def railplankeep_Set.f (k : Nat) (a0 : Int) (l1 : List Int) : Option ((List (S35))) := (railplankeep_From.f l1).bind fun bt191 => ((railplankeep_Source_Next.f bt191.1 bt191.2 5).bind fun bt194 => (railplankeep_Set.l0 k a0 ([] : List (S35)) bt194.1 bt191.1 bt194.2))
theorem railplankeep_Set.mono_l : ∀ k, (∀ y0 y1 y2 y3 y4, LeO (railplankeep_Set.l0 k y0 y1 y2 y3 y4) (railplankeep_Set.l0 (k + 1) y0 y1 y2 y3 y4))
  | 0 => fun _ _ _ _ _ r h => by simp [railplankeep_Set.l0] at h
  | k + 1 => by
    have ih0 := railplankeep_Set.mono_l k
    · intro y0 y1 y2 y3 y4
      unfold railplankeep_Set.l0
      repeat' first
      | (with_reducible exact ih0 _ _ _ _ _)
      | (with_reducible exact railplanref1_Make.mono _ _ _ _)
      | (with_reducible exact railplanref1_Union.mono _ _ _ _)
      | (with_reducible exact LeO.refl _)
      | (with_reducible exact LeO.none _)
      | (with_reducible refine LeO.ite ?_ ?_)
      | (with_reducible refine LeO.bind ?_ (fun _ => ?_))
      | exact ih0 _ _ _ _ _
      | exact railplanref1_Make.mono _ _ _ _
      | exact railplanref1_Union.mono _ _ _ _
      | exact LeO.none _
      | refine LeO.ite ?_ ?_
      | refine LeO.bind ?_ (fun _ => ?_)
theorem railplankeep_Set.mono : ∀ a0 a1 k, LeO (railplankeep_Set.f k a0 a1) (railplankeep_Set.f (k + 1) a0 a1) := by
  intro a0 a1 k
  have ih0 := railplankeep_Set.mono_l k
  unfold railplankeep_Set.f
  repeat' first
      | (with_reducible exact ih0 _ _ _ _ _)
      | (with_reducible exact railplanref1_Make.mono _ _ _ _)
      | (with_reducible exact railplanref1_Union.mono _ _ _ _)
      | (with_reducible exact LeO.refl _)
      | (with_reducible exact LeO.none _)
      | (with_reducible refine LeO.ite ?_ ?_)
      | (with_reducible refine LeO.bind ?_ (fun _ => ?_))
      | exact ih0 _ _ _ _ _
      | exact railplanref1_Make.mono _ _ _ _
      | exact railplanref1_Union.mono _ _ _ _
      | exact LeO.none _
      | refine LeO.ite ?_ ?_
      | refine LeO.bind ?_ (fun _ => ?_)
set_option maxHeartbeats 8000000 in
set_option maxRecDepth 100000 in
theorem railplankeep_Set.calls (k : Nat) (a0 : Int) (A1 : Option Addr) (c1 : Nat) (l1 : List Int) (r : List (S35)) (w : World) (hr1 : Kd.C (Kd.int .i64) w A1 l1.length l1) (hc1 : l1.length ≤ c1) (h : railplankeep_Set.f k a0 l1 = some r) :
    Calls Try.prog 19 #[.int .i64 a0, .slice A1 l1.length c1] w fun e w' => ∃ v0_ : Value, e = .returned (v0_) ∧ Kd.R k35 35 w' w.heap.size (fun _ => True) v0_ r ∧ Below w.heap.size w w' := by
  have HR1 := Aside0.mk hr1
  have HC1 := Aside0.mk hc1
  clear hr1 hc1
  have HB := Aside0.mk (Below.refl w.heap.size w)
  have H : ((railplankeep_From.f l1).bind fun bt191 => ((railplankeep_Source_Next.f bt191.1 bt191.2 5).bind fun bt194 => (railplankeep_Set.l0 k a0 ([] : List (S35)) bt194.1 bt191.1 bt194.2))) = some r := h
  clear h
  replace H := Option.bind_eq_some_iff.mp H
  obtain ⟨⟨t191, t192⟩, A30, H⟩ := H
  replace H : ((railplankeep_Source_Next.f t191 t192 5).bind fun bt194 => (railplankeep_Set.l0 k a0 ([] : List (S35)) bt194.1 t191 bt194.2)) = some r := H
  have A3 := Aside0.mk A30
  clear A30
  replace H := Option.bind_eq_some_iff.mp H
  obtain ⟨⟨t194, t195⟩, A40, H⟩ := H
  replace H : (railplankeep_Set.l0 k a0 ([] : List (S35)) t194 t191 t195) = some r := H
  have A4 := Aside0.mk A40
  clear A40
  have H' := Aside0.mk H
  clear H
  go_enter Try.func19, Try.ntmps19
  go_wp2_with (first | ((with_reducible refine gate_callee (f := 43) rfl ?_); refine goesL_ (some 11) rfl rfl Try.func43 (by kernel_rfl) rfl #[.slice A1 l1.length c1] rfl (by (try simp only [List.map_toArray, List.map_cons, List.map_nil]); first | done | rfl | (simp only [List.length_drop, List.length_take]; rfl)) ?_; (with_reducible refine (railplankeep_From.calls _ _ l1 t191 t192 w _ ?side1 ?side2 ?side3 A3.out).mono ?_); (case side1 => repeat (first | (with_reducible first | exact HB.out | apply below_alloc | apply pw_below_drewN | apply below_drew1) | exact HB.out)); (case side2 => exact HR1.out); (case side3 => exact HC1.out); rintro e w5 ⟨g193, rfl, hi, hb, hb2⟩; refine ⟨_, rfl, ?_⟩; have n0_ := Aside0.mk (hb); have n1_ := Aside0.mk (hi); clear HB; have HB := n0_; have HI193 := n1_; clear n0_ n1_; (try clear hb); (try clear hb2); (try clear hk); (try clear hi)) | ((with_reducible refine gate_callee (f := 44) rfl ?_); refine goesL_ (some 13) rfl rfl Try.func44 (by kernel_rfl) rfl #[.pointer (some ⟨g193, 0, none⟩), .int .i64 5] rfl (by (try simp only [List.map_toArray, List.map_cons, List.map_nil]); first | done | rfl | (simp only [List.length_drop, List.length_take]; rfl)) ?_; (with_reducible refine (railplankeep_Source_Next.calls g193 t191 t192 5 t194 t195 w _ ?side1 ?side2 A4.out).mono ?_); (case side1 => repeat (first | (with_reducible first | exact HI193.out | apply IsS68.alloc | apply IsS68.drewN | apply IsS68.drew | apply IsS68.set_1) | exact HI193.out)); (case side2 => repeat (first | (with_reducible first | exact HB.out | apply below_alloc | apply pw_below_drewN | apply below_drew1 | refine below_set ?_ (IsS68.ge HI193.out)) | exact HB.out)); rintro e w6 ⟨rfl, hi, hb, hk⟩; refine ⟨_, rfl, ?_⟩; have n0_ := Aside0.mk (hb); have n1_ := Aside0.mk (hi); clear HB; clear HI193; have HB := n0_; have HI193 := n1_; clear n0_ n1_; (try clear hb); (try clear hb2); (try clear hk); (try clear hi)))
  go_loopg [6, 7] k (fun kq v6 v7 w' => ∃ (x6_1 : List (S35)) (x7_1 : Int) (x194001_1 : Int), v7 = .int .i64 x7_1 ∧ Aside0 (railplankeep_Set.l0 kq a0 x6_1 x7_1 t191 x194001_1 = some r) ∧ Aside0 (kq ≤ k) ∧ Aside0 (Kd.R k35 35 w' w.heap.size (fun _ => True) v6 x6_1) ∧ Aside0 (IsS68 w w' g193 t191 x194001_1) ∧ Aside0 (Below w.heap.size w w'))
  case atStart => exact ⟨(([] : List (S35))), (t194), (t195), (by first | rfl | (simp; done) | (simp [*]; done)), H', ⟨Nat.le_refl _⟩, ⟨by first | exact Kd.R_nil _ _ _ _ _ | exact Kd.N_nil _ _ _ _ _ | exact Kd.V_nil _ _ _ _ _ | exact Kd.Q_nil _ _ _ _ _ | exact Kd.S_nil _ _ _ _ _⟩, ⟨by repeat (first | (with_reducible first | exact HI193.out | apply IsS68.alloc | apply IsS68.drewN | apply IsS68.drew | apply IsS68.set_1) | exact HI193.out)⟩, ⟨by repeat (first | (with_reducible first | exact HB.out | apply below_alloc | apply pw_below_drewN | apply below_drew1 | refine below_set ?_ (IsS68.ge HI193.out)) | exact HB.out)⟩⟩
  case round =>
    clear H'
    try clear c1
    try clear p2
    try clear c4
    obtain ⟨x6_1, x7_1, x194001_1, rfl, HA, HK1, HO_6, HI193, HB⟩ := hrel
    cases gk with
    | zero => exact absurd HA.out (by simp [railplankeep_Set.l0])
    | succ k1 =>
      have H := HA.out
      clear HA
      simp only [railplankeep_Set.l0] at H
      by_cases c7 : x7_1 > 0
      · rw [if_pos c7] at H
        have c7b0 : decide (0 < x7_1) = true := decide_eq_true c7
        clear c7
        replace H := Option.bind_eq_some_iff.mp H
        obtain ⟨⟨t196, t197⟩, A80, H⟩ := H
        replace H : ((railplankeep_Source_Next.f t191 t197 (wrap64 (1 + (wrap64 (Int.tdiv a0 2))))).bind fun bt198 => ((railplanref1_Make.f k1 a0 t196 bt198.1).bind fun bt200 => ((railplanref1_Union.f k1 a0 x6_1 bt200.1).bind fun bt204 => (railplankeep_Set.l0 k1 a0 bt204.1 (wrap64 (x7_1 - 1)) t191 bt198.2)))) = some r := H
        have A8 := Aside0.mk A80
        clear A80
        replace H := Option.bind_eq_some_iff.mp H
        obtain ⟨⟨t198, t199⟩, A90, H⟩ := H
        replace H : ((railplanref1_Make.f k1 a0 t196 t198).bind fun bt200 => ((railplanref1_Union.f k1 a0 x6_1 bt200.1).bind fun bt204 => (railplankeep_Set.l0 k1 a0 bt204.1 (wrap64 (x7_1 - 1)) t191 t199))) = some r := H
        have A9 := Aside0.mk A90
        clear A90
        replace H := Option.bind_eq_some_iff.mp H
        obtain ⟨⟨t200, t201⟩, A100, H⟩ := H
        replace H : ((railplanref1_Union.f k1 a0 x6_1 t200).bind fun bt204 => (railplankeep_Set.l0 k1 a0 bt204.1 (wrap64 (x7_1 - 1)) t191 t199)) = some r := H
        have A10 := Aside0.mk A100
        clear A100
        replace H := Option.bind_eq_some_iff.mp H
        obtain ⟨⟨t204, t205⟩, A110, H⟩ := H
        replace H : (railplankeep_Set.l0 k1 a0 t204 (wrap64 (x7_1 - 1)) t191 t199) = some r := H
        have A11 := Aside0.mk A110
        clear A110
        have H' := Aside0.mk H
        clear H
        go_wp2_with (first | ((with_reducible refine gate_callee (f := 44) rfl ?_); refine goesL_ (some 22) rfl rfl Try.func44 (by kernel_rfl) rfl #[.pointer (some ⟨g193, 0, none⟩), .int .i64 a0] rfl (by (try simp only [List.map_toArray, List.map_cons, List.map_nil]); first | done | rfl | (simp only [List.length_drop, List.length_take]; rfl)) ?_; (with_reducible refine (railplankeep_Source_Next.calls g193 t191 x194001_1 a0 t196 t197 w _ ?side1 ?side2 A8.out).mono ?_); (case side1 => repeat (first | (with_reducible first | exact HI193.out | apply IsS68.alloc | apply IsS68.drewN | apply IsS68.drew | apply IsS68.set_1) | exact HI193.out)); (case side2 => repeat (first | (with_reducible first | exact HB.out | apply below_alloc | apply pw_below_drewN | apply below_drew1 | refine below_set ?_ (IsS68.ge HI193.out)) | exact HB.out)); rintro e w12 ⟨rfl, hi, hb, hk⟩; refine ⟨_, rfl, ?_⟩; have n0_ := Aside0.mk (Kd.R_mono (Kd.R_keep (IsS68.apart (show IsS68 w _ g193 t191 x194001_1 from by repeat (first | (with_reducible first | exact HI193.out | apply IsS68.alloc | apply IsS68.drewN | apply IsS68.drew | apply IsS68.set_1) | exact HI193.out)) (by (with_reducible repeat (first | apply Kd.R_alloc | apply Kd.R_drewN | apply Kd.R_drew)); exact HO_6.out) (by decide)) hk (fun _ h => h.2)) (fun _ h => h.1)); have n1_ := Aside0.mk (hb); have n2_ := Aside0.mk (hi); clear HO_6; clear HB; clear HI193; have HO_6 := n0_; have HB := n1_; have HI193 := n2_; clear n0_ n1_ n2_; (try clear hb); (try clear hb2); (try clear hk); (try clear hi)) | ((with_reducible refine gate_callee (f := 44) rfl ?_); refine goesL_ (some 27) rfl rfl Try.func44 (by kernel_rfl) rfl #[.pointer (some ⟨g193, 0, none⟩), .int .i64 (wrap64 (1 + (wrap64 (Int.tdiv a0 2))))] rfl (by (try simp only [List.map_toArray, List.map_cons, List.map_nil]); first | done | rfl | (simp only [List.length_drop, List.length_take]; rfl)) ?_; (with_reducible refine (railplankeep_Source_Next.calls g193 t191 t197 (wrap64 (1 + (wrap64 (Int.tdiv a0 2)))) t198 t199 w _ ?side1 ?side2 A9.out).mono ?_); (case side1 => repeat (first | (with_reducible first | exact HI193.out | apply IsS68.alloc | apply IsS68.drewN | apply IsS68.drew | apply IsS68.set_1) | exact HI193.out)); (case side2 => repeat (first | (with_reducible first | exact HB.out | apply below_alloc | apply pw_below_drewN | apply below_drew1 | refine below_set ?_ (IsS68.ge HI193.out)) | exact HB.out)); rintro e w13 ⟨rfl, hi, hb, hk⟩; refine ⟨_, rfl, ?_⟩; have n0_ := Aside0.mk (Kd.R_mono (Kd.R_keep (IsS68.apart (show IsS68 w _ g193 t191 t197 from by repeat (first | (with_reducible first | exact HI193.out | apply IsS68.alloc | apply IsS68.drewN | apply IsS68.drew | apply IsS68.set_1) | exact HI193.out)) (by (with_reducible repeat (first | apply Kd.R_alloc | apply Kd.R_drewN | apply Kd.R_drew)); exact HO_6.out) (by decide)) hk (fun _ h => h.2)) (fun _ h => h.1)); have n1_ := Aside0.mk (hb); have n2_ := Aside0.mk (hi); clear HO_6; clear HB; clear HI193; have HO_6 := n0_; have HB := n1_; have HI193 := n2_; clear n0_ n1_ n2_; (try clear hb); (try clear hb2); (try clear hk); (try clear hi)) | ((with_reducible refine gate_callee (f := 21) rfl ?_); refine goesL_ (some 28) rfl rfl Try.func21 (by kernel_rfl) rfl #[.int .i64 a0, .int .i64 t196, .int .i64 t198] rfl (by (try simp only [List.map_toArray, List.map_cons, List.map_nil]); first | done | rfl | (simp only [List.length_drop, List.length_take]; rfl)) ?_; (with_reducible refine (railplanref1_Make.calls k1 a0 t196 t198 t200 t201 _ A10.out).mono ?_); rintro e w14 ⟨v202, rfl, ho0, hb⟩; refine ⟨_, rfl, ?_⟩; have n0_ := Aside0.mk (Kd.R_elder' (by (with_reducible repeat (first | apply Kd.R_alloc | apply Kd.R_drewN | apply Kd.R_drew)); exact HO_6.out) (Kd.R_base ho0) hb); have n1_ := Aside0.mk (Kd.R_lower (Kd.R_new' ho0 (Kd.R_lt (by (with_reducible repeat (first | apply Kd.R_alloc | apply Kd.R_drewN | apply Kd.R_drew)); exact HO_6.out))) (below_size (by repeat (first | (with_reducible first | exact HB.out | apply below_alloc | apply pw_below_drewN | apply below_drew1 | refine below_set ?_ (IsS68.ge HI193.out)) | exact HB.out)))); have n2_ := Aside0.mk (IsS68.below (by repeat (first | (with_reducible first | exact HI193.out | apply IsS68.alloc | apply IsS68.drewN | apply IsS68.drew | apply IsS68.set_1) | exact HI193.out)) hb); have n3_ := Aside0.mk (below_step (by repeat (first | (with_reducible first | exact HB.out | apply below_alloc | apply pw_below_drewN | apply below_drew1 | refine below_set ?_ (IsS68.ge HI193.out)) | exact HB.out)) hb); clear HO_6; clear HI193; clear HB; have HO_6 := n0_; have HO203 := n1_; have HI193 := n2_; have HB := n3_; clear n0_ n1_ n2_ n3_; (try clear hb); (try clear hb2); (try clear hk); (try clear hi); (try clear ho0); obtain ⟨Ao15, co15, eo15⟩ := Kd.R_slice HO_6.out; subst eo15; obtain ⟨Ao16, co16, eo16⟩ := Kd.R_slice HO203.out; subst eo16) | ((with_reducible refine gate_callee (f := 36) rfl ?_); refine goesL_ (some 35) rfl rfl Try.func36 (by kernel_rfl) rfl #[.int .i64 a0, .slice Ao15 x6_1.length co15, .slice Ao16 t200.length co16] rfl (by (try simp only [List.map_toArray, List.map_cons, List.map_nil]); first | done | rfl | (simp only [List.length_drop, List.length_take]; rfl)) ?_; (with_reducible refine (railplanref1_Union.calls k1 a0 _ _ x6_1 _ _ t200 t204 t205 _ ?side1 ?side2 ?side3 ?side4 A11.out).mono ?_); (case side1 => repeat (first | exact (Kd.R_reads' HO_6.out).2.2 | (with_reducible refine Kd.C_alloc ?_ _) | (with_reducible refine Kd.C_drewN ?_ _) | (with_reducible refine Kd.C_drew ?_))); (case side2 => exact (Kd.R_reads' HO_6.out).2.1); (case side3 => repeat (first | exact (Kd.R_reads' HO203.out).2.2 | (with_reducible refine Kd.C_alloc ?_ _) | (with_reducible refine Kd.C_drewN ?_ _) | (with_reducible refine Kd.C_drew ?_))); (case side4 => exact (Kd.R_reads' HO203.out).2.1); rintro e w17 ⟨v206, rfl, ho0, hb⟩; refine ⟨_, rfl, ?_⟩; have n0_ := Aside0.mk (Kd.R_elder' (by (with_reducible repeat (first | apply Kd.R_alloc | apply Kd.R_drewN | apply Kd.R_drew)); exact HO_6.out) (Kd.R_base ho0) hb); have n1_ := Aside0.mk (Kd.R_elder' (by (with_reducible repeat (first | apply Kd.R_alloc | apply Kd.R_drewN | apply Kd.R_drew)); exact HO203.out) (Kd.R_base ho0) hb); have n2_ := Aside0.mk (Kd.R_lower (Kd.R_new' (Kd.R_new' ho0 (Kd.R_lt (by (with_reducible repeat (first | apply Kd.R_alloc | apply Kd.R_drewN | apply Kd.R_drew)); exact HO_6.out))) (Kd.R_lt (by (with_reducible repeat (first | apply Kd.R_alloc | apply Kd.R_drewN | apply Kd.R_drew)); exact HO203.out))) (below_size (by repeat (first | (with_reducible first | exact HB.out | apply below_alloc | apply pw_below_drewN | apply below_drew1 | refine below_set ?_ (IsS68.ge HI193.out)) | exact HB.out)))); have n3_ := Aside0.mk (IsS68.below (by repeat (first | (with_reducible first | exact HI193.out | apply IsS68.alloc | apply IsS68.drewN | apply IsS68.drew | apply IsS68.set_1) | exact HI193.out)) hb); have n4_ := Aside0.mk (below_step (by repeat (first | (with_reducible first | exact HB.out | apply below_alloc | apply pw_below_drewN | apply below_drew1 | refine below_set ?_ (IsS68.ge HI193.out)) | exact HB.out)) hb); clear HO_6; clear HO203; clear HI193; clear HB; have HO_6 := n0_; have HO203 := n1_; have HO207 := n2_; have HI193 := n3_; have HB := n4_; clear n0_ n1_ n2_ n3_ n4_; (try clear hb); (try clear hb2); (try clear hk); (try clear hi); (try clear ho0)))
        go_roundg k1
        case measure => have := HK1.out; omega
        case rel => exact ⟨(t204), (wrap64 (x7_1 - 1)), (t199), (by first | rfl | (simp; done) | (simp [*]; done)), H', ⟨by have := HK1.out; omega⟩, ⟨by (with_reducible repeat (first | apply Kd.R_alloc | apply Kd.R_drewN | apply Kd.R_drew)); exact Kd.R_mono HO207.out (fun _ hk => trivial)⟩, ⟨by repeat (first | (with_reducible first | exact HI193.out | apply IsS68.alloc | apply IsS68.drewN | apply IsS68.drew | apply IsS68.set_1) | exact HI193.out)⟩, ⟨by repeat (first | (with_reducible first | exact HB.out | apply below_alloc | apply pw_below_drewN | apply below_drew1 | refine below_set ?_ (IsS68.ge HI193.out)) | exact HB.out)⟩⟩
      · rw [if_neg c7] at H
        have c7b0 : decide (0 < x7_1) = false := decide_eq_false c7
        clear c7
        obtain rfl := Option.some.inj H
        go_wp2
        go_ret
        exact ⟨_, by first | rfl | (simp [errW_none, errW_some] <;> rfl) | (simp [*, errW_none, errW_some] <;> rfl), by (with_reducible repeat (first | apply Kd.R_alloc | apply Kd.R_drewN | apply Kd.R_drew)); exact HO_6.out, by repeat (first | (with_reducible first | exact HB.out | apply below_alloc | apply pw_below_drewN | apply below_drew1 | refine below_set ?_ (IsS68.ge HI193.out)) | exact HB.out)⟩

/-! ### residue_Shift: function 24 -/
def residue_Shift.l0 : Nat → Int → List Bool → List (S35) → Int → Int → Option ((List (S35)) × Int)
  | 0, _, _, _, _, _ => none
  | k + 1, x2, x9, x24, x25, x26 => if x26 < x25 then (if 0 ≤ x26 then (if x26 < (x24.length : Int) then ((residue_marks_put.f k x9 (wrap64 (((rd_T35 x24 x26).f0) + x2)) (wrap64 (((rd_T35 x24 x26).f1) - ((rd_T35 x24 x26).f0)))).bind fun t218 => (residue_Shift.l0 k x2 t218 x24 x25 (wrap64 (x26 + 1)))) else (none)) else (none)) else ((residue_marks_list.f k x9).bind fun t219 => (some (t219, 0)))
def residue_Shift.f (k : Nat) (a0 : Int) (l1 : List (S35)) (a2 : Int) : Option ((List (S35)) × Int) := (residue_check.f k a0 (([l1] : List (List (S35))))).bind fun t211 => (if t211 = 0 then ((arith_Mod.f a2 a0).bind fun t212 => (if 0 ≤ a0 then (if (a0 : Int).toNat ≤ 281474976710656 then (residue_Shift.l0 k t212 (List.replicate (a0 : Int).toNat false) l1 (l1.length : Int) 0) else (none)) else (none))) else (some (([] : List (S35)), t211)))
theorem residue_Shift.mono_l : ∀ k, (∀ y0 y1 y2 y3 y4, LeO (residue_Shift.l0 k y0 y1 y2 y3 y4) (residue_Shift.l0 (k + 1) y0 y1 y2 y3 y4))
  | 0 => fun _ _ _ _ _ r h => by simp [residue_Shift.l0] at h
  | k + 1 => by
    have ih0 := residue_Shift.mono_l k
    · intro y0 y1 y2 y3 y4
      unfold residue_Shift.l0
      repeat' first
      | (with_reducible exact ih0 _ _ _ _ _)
      | (with_reducible exact residue_check.mono _ _ _)
      | (with_reducible exact residue_marks_list.mono _ _)
      | (with_reducible exact residue_marks_put.mono _ _ _ _)
      | (with_reducible exact LeO.refl _)
      | (with_reducible exact LeO.none _)
      | (with_reducible refine LeO.ite ?_ ?_)
      | (with_reducible refine LeO.bind ?_ (fun _ => ?_))
      | exact ih0 _ _ _ _ _
      | exact residue_check.mono _ _ _
      | exact residue_marks_list.mono _ _
      | exact residue_marks_put.mono _ _ _ _
      | exact LeO.none _
      | refine LeO.ite ?_ ?_
      | refine LeO.bind ?_ (fun _ => ?_)
theorem residue_Shift.mono : ∀ a0 a1 a2 k, LeO (residue_Shift.f k a0 a1 a2) (residue_Shift.f (k + 1) a0 a1 a2) := by
  intro a0 a1 a2 k
  have ih0 := residue_Shift.mono_l k
  unfold residue_Shift.f
  repeat' first
      | (with_reducible exact ih0 _ _ _ _ _)
      | (with_reducible exact residue_check.mono _ _ _)
      | (with_reducible exact residue_marks_list.mono _ _)
      | (with_reducible exact residue_marks_put.mono _ _ _ _)
      | (with_reducible exact LeO.refl _)
      | (with_reducible exact LeO.none _)
      | (with_reducible refine LeO.ite ?_ ?_)
      | (with_reducible refine LeO.bind ?_ (fun _ => ?_))
      | exact ih0 _ _ _ _ _
      | exact residue_check.mono _ _ _
      | exact residue_marks_list.mono _ _
      | exact residue_marks_put.mono _ _ _ _
      | exact LeO.none _
      | refine LeO.ite ?_ ?_
      | refine LeO.bind ?_ (fun _ => ?_)
set_option maxHeartbeats 8000000 in
set_option maxRecDepth 100000 in
theorem residue_Shift.calls (k : Nat) (a0 : Int) (P1_ : Nat → Prop) (A1 : Option Addr) (c1 : Nat) (l1 : List (S35)) (a2 : Int) (r1 : List (S35)) (r2 : Int) (w : World) (hs1 : Kd.V k35 35 w w.heap.size (fun k_ => P1_ k_) (.slice A1 l1.length c1) l1) (h : residue_Shift.f k a0 l1 a2 = some (r1, r2)) :
    Calls Try.prog 24 #[.int .i64 a0, .slice A1 l1.length c1, .int .i64 a2] w fun e w' => ∃ v0_ : Value, e = .returned (.tuple #[v0_, .int .i64 r2]) ∧ Kd.R k35 35 w' w.heap.size (fun k_ => (w.heap.size ≤ k_)) v0_ r1 ∧ Below w.heap.size w w' := by
  have hu35 := Try.underlying35
  have HO1 := Aside0.mk (show Kd.V k35 35 w w.heap.size (fun k_ => (P1_ k_ ∨ w.heap.size ≤ k_)) (.slice A1 l1.length c1) l1 from Kd.V_mono hs1 (fun k_ hk => .inl hk))
  have HB := Aside0.mk (Below.refl w.heap.size w)
  have H : ((residue_check.f k a0 (([l1] : List (List (S35))))).bind fun t211 => (if t211 = 0 then ((arith_Mod.f a2 a0).bind fun t212 => (if 0 ≤ a0 then (if (a0 : Int).toNat ≤ 281474976710656 then (residue_Shift.l0 k t212 (List.replicate (a0 : Int).toNat false) l1 (l1.length : Int) 0) else (none)) else (none))) else (some (([] : List (S35)), t211)))) = some (r1, r2) := h
  clear h
  obtain ⟨y208, hy208⟩ : ∃ y_ : List (List (S35)), y_ = (([l1] : List (List (S35)))) := ⟨_, rfl⟩
  replace H : ((residue_check.f k a0 y208).bind fun t211 => (if t211 = 0 then ((arith_Mod.f a2 a0).bind fun t212 => (if 0 ≤ a0 then (if (a0 : Int).toNat ≤ 281474976710656 then (residue_Shift.l0 k t212 (List.replicate (a0 : Int).toNat false) l1 (l1.length : Int) 0) else (none)) else (none))) else (some (([] : List (S35)), t211)))) = some (r1, r2) := by first | (rw [hy208]; with_reducible exact H) | (have H2_ := (Option.bind_some _ _).symm.trans H; rw [hy208]; with_reducible exact H2_) | (have H2_ := (Option.bind_some _ _).symm.trans H; with_reducible exact H2_) | with_reducible exact H | (rw [hy208]; exact H) | exact H
  have Ny208 := Aside0.mk hy208
  clear hy208
  replace H := Option.bind_eq_some_iff.mp H
  obtain ⟨t211, A40, H⟩ := H
  replace H : (if t211 = 0 then ((arith_Mod.f a2 a0).bind fun t212 => (if 0 ≤ a0 then (if (a0 : Int).toNat ≤ 281474976710656 then (residue_Shift.l0 k t212 (List.replicate (a0 : Int).toNat false) l1 (l1.length : Int) 0) else (none)) else (none))) else (some (([] : List (S35)), t211))) = some (r1, r2) := H
  have A4 := Aside0.mk A40
  clear A40
  by_cases c5 : t211 = 0
  · rw [if_pos c5] at H
    have c5b0 : (t211 == 0) = true := beq_iff_eq.mpr c5
    have c5b1 : (t211 != 0) = false := bne_eq_false_iff_eq.mpr c5
    clear c5
    replace H := Option.bind_eq_some_iff.mp H
    obtain ⟨t212, A60, H⟩ := H
    replace H : (if 0 ≤ a0 then (if (a0 : Int).toNat ≤ 281474976710656 then (residue_Shift.l0 k t212 (List.replicate (a0 : Int).toNat false) l1 (l1.length : Int) 0) else (none)) else (none)) = some (r1, r2) := H
    have A6 := Aside0.mk A60
    clear A60
    by_cases c7 : 0 ≤ a0
    · rw [if_pos c7] at H
      have c7b0 := eq_true c7
      have c7b1 : decide (0 ≤ a0) = true := decide_eq_true c7
      clear c7
      by_cases c8 : (a0 : Int).toNat ≤ 281474976710656
      · rw [if_pos c8] at H
        have c8b0 := eq_true c8
        have c8b1 : decide ((a0 : Int).toNat ≤ 281474976710656) = true := decide_eq_true c8
        clear c8
        obtain ⟨y213, hy213⟩ : ∃ y_ : List Bool, y_ = (List.replicate (a0 : Int).toNat false) := ⟨_, rfl⟩
        replace H : (residue_Shift.l0 k t212 y213 l1 (l1.length : Int) 0) = some (r1, r2) := by first | (rw [hy213]; with_reducible exact H) | (have H2_ := (Option.bind_some _ _).symm.trans H; rw [hy213]; with_reducible exact H2_) | (have H2_ := (Option.bind_some _ _).symm.trans H; with_reducible exact H2_) | with_reducible exact H | (rw [hy213]; exact H) | exact H
        have Ny213 := Aside0.mk hy213
        clear hy213
        have H' := Aside0.mk H
        clear H
        go_enter Try.func24, Try.ntmps24
        go_wp2_with (first | ((with_reducible refine gate_dst (N := 14) rfl ?_); refine Kd.N_lit (Kd.slice 35 k35) _ 22 ?hg (N' := 14) ?hd (xs := ([l1] : List (List (S35)))) (inner := [.slice A1 l1.length c1]) (ok := (fun k_ => (P1_ k_ ∨ w.heap.size ≤ k_))) (okp := (fun k_ => (P1_ k_ ∨ w.heap.size ≤ k_))) ?hr ?hp (fun _ hk => hk) ((show ∀ k_, w.heap.size ≤ k_ → (fun k_ => (P1_ k_ ∨ w.heap.size ≤ k_)) k_ from fun k_ hk => (.inr (Nat.le_trans (below_size (by repeat (first | (with_reducible first | exact HB.out | apply below_alloc | apply pw_below_drewN | apply below_drew1) | exact HB.out))) hk))) _ (Nat.le_refl _)) (Below.refl _ _) (Nat.le_refl _) (by simp) ?_; (case hd => rfl); (case hg => rfl); (case hr => first | (go_simp; done) | (go_simp; rfl)); (case hp => exact (Reps.one (show Kd.FK (Kd.slice 35 k35) _ _ l1 [.slice A1 l1.length c1] from (Kd.FK_slice_mk (Kd.V_reads' (Kd.V_mono (ok' := (fun k_ => (P1_ k_ ∨ w.heap.size ≤ k_))) (HO1.out) (fun k_ hk => hk))).2.1 (Kd.V_F (Kd.V_mono (ok' := (fun k_ => (P1_ k_ ∨ w.heap.size ≤ k_))) (HO1.out) (fun k_ hk => hk))))) (Reps.none _ _))); intro v209 w9 ho10 hb hg_ hnew_; clear hg_ hnew_; (first | rw [← Ny208.out] at ho10 | (simp only [Int.reduceToNat] at ho10; rw [← Ny208.out] at ho10)); have n0_ := Aside0.mk (Kd.V_elder' (by (with_reducible repeat (first | apply Kd.V_alloc | apply Kd.V_drewN | apply Kd.V_drew)); exact HO1.out) (Kd.N_base ho10) hb); have n1_ := Aside0.mk (Kd.N_lower ho10 (below_size (by repeat (first | (with_reducible first | exact HB.out | apply below_alloc | apply pw_below_drewN | apply below_drew1) | exact HB.out)))); have n2_ := Aside0.mk (below_step (by repeat (first | (with_reducible first | exact HB.out | apply below_alloc | apply pw_below_drewN | apply below_drew1) | exact HB.out)) hb); clear HO1; clear HB; have HO1 := n0_; have HO210 := n1_; have HB := n2_; clear n0_ n1_ n2_; clear hb ho10; obtain ⟨Ao11, co11, eo11⟩ := Kd.N_slice HO210.out; subst eo11) | ((with_reducible refine gate_callee (f := 45) rfl ?_); refine goesL_ (some 15) rfl rfl Try.func45 (by kernel_rfl) rfl #[.int .i64 a0, .slice Ao11 y208.length co11] rfl (by (try simp only [List.map_toArray, List.map_cons, List.map_nil]); first | done | rfl | (simp only [List.length_drop, List.length_take]; rfl)) ?_; (with_reducible refine (residue_check.calls k a0 _ _ y208 t211 _ ?side1 ?side2 A4.out).mono ?_); (case side1 => repeat (first | exact (Kd.N_reads' HO210.out).2.2 | (with_reducible refine Kd.C_alloc ?_ _) | (with_reducible refine Kd.C_drewN ?_ _) | (with_reducible refine Kd.C_drew ?_))); (case side2 => exact (Kd.N_reads' HO210.out).2.1); rintro e w12 ⟨rfl, hb⟩; refine ⟨_, rfl, ?_⟩; have n0_ := Aside0.mk (Kd.V_below (by (with_reducible repeat (first | apply Kd.V_alloc | apply Kd.V_drewN | apply Kd.V_drew)); exact HO1.out) hb); have n1_ := Aside0.mk (Kd.N_below (by (with_reducible repeat (first | apply Kd.N_alloc | apply Kd.N_drewN | apply Kd.N_drew)); exact HO210.out) hb); have n2_ := Aside0.mk (below_step (by repeat (first | (with_reducible first | exact HB.out | apply below_alloc | apply pw_below_drewN | apply below_drew1) | exact HB.out)) hb); clear HO1; clear HO210; clear HB; have HO1 := n0_; have HO210 := n1_; have HB := n2_; clear n0_ n1_ n2_; (try clear hb); (try clear hb2); (try clear hk); (try clear hi)) | ((with_reducible refine gate_callee (f := 51) rfl ?_); refine goesL_ (some 21) rfl rfl Try.func51 (by kernel_rfl) rfl #[.int .i64 a2, .int .i64 a0] rfl (by (try simp only [List.map_toArray, List.map_cons, List.map_nil]); first | done | rfl | (simp only [List.length_drop, List.length_take]; rfl)) ?_; (with_reducible refine (arith_Mod.calls a2 a0 t212 _ A6.out).mono ?_); rintro e w' ⟨rfl, ⟨nd, rfl⟩⟩; refine ⟨_, rfl, ?_⟩) | ((with_reducible refine gate_dst (N := 23) rfl ?_); refine Kd.R_make Kd.bool _ 4 rfl (N := 23) rfl 59 _ _ rfl a0 rfl rfl Try.underlying59 (.bool false) 1 info4 rfl (by decide) (by omega) false (ok := fun _ => True) (okp := fun _ => True) rfl (fun _ hk => hk) trivial (of_decide_eq_true (by first | (with_reducible assumption) | assumption)) (Nat.le_trans (Nat.mul_le_mul_right _ (of_decide_eq_true (by first | (with_reducible assumption) | assumption) : a0.toNat ≤ 281474976710656)) (by omega)) (Below.refl _ _) (Nat.le_refl _) ?_; intro v214 w13 ho14 hb hg_ hnew_; clear hg_ hnew_; (first | rw [← Ny213.out] at ho14 | (simp only [Int.reduceToNat] at ho14; rw [← Ny213.out] at ho14)); have n0_ := Aside0.mk (Kd.V_elder' (by (with_reducible repeat (first | apply Kd.V_alloc | apply Kd.V_drewN | apply Kd.V_drew)); exact HO1.out) (Kd.R_base ho14) hb); have n1_ := Aside0.mk (Kd.N_elder' (by (with_reducible repeat (first | apply Kd.N_alloc | apply Kd.N_drewN | apply Kd.N_drew)); exact HO210.out) (Kd.R_base ho14) hb); have n2_ := Aside0.mk (Kd.R_lower (Kd.R_newM (M := fun k_ => (w.heap.size ≤ k_)) ho14 (below_size (by repeat (first | (with_reducible first | exact HB.out | apply below_alloc | apply pw_below_drewN | apply below_drew1) | exact HB.out))) (fun k_ h_ => h_)) (below_size (by repeat (first | (with_reducible first | exact HB.out | apply below_alloc | apply pw_below_drewN | apply below_drew1) | exact HB.out)))); have n3_ := Aside0.mk (below_step (by repeat (first | (with_reducible first | exact HB.out | apply below_alloc | apply pw_below_drewN | apply below_drew1) | exact HB.out)) hb); clear HO1; clear HO210; clear HB; have HO1 := n0_; have HO210 := n1_; have HO215 := n2_; have HB := n3_; clear n0_ n1_ n2_ n3_; clear hb ho14))
        go_loopg [26] k (fun kq v26 w' => ∃ (x9_1 : List Bool) (x26_1 : Int), v26 = .int .i64 x26_1 ∧ Aside0 (residue_Shift.l0 kq t212 x9_1 l1 (l1.length : Int) x26_1 = some (r1, r2)) ∧ Aside0 (kq ≤ k) ∧ Aside0 (Kd.R Kd.bool 4 w' w.heap.size (fun k_ => (w.heap.size ≤ k_)) v214 x9_1) ∧ Aside0 (Kd.V k35 35 w' w.heap.size (fun k_ => (P1_ k_ ∨ w.heap.size ≤ k_) ∧ some k_ ≠ (v214 : Value).ownBlock) (.slice A1 l1.length c1) l1) ∧ Aside0 (Below w.heap.size w w'))
        case atStart => exact ⟨(y213), (0), (by first | rfl | (simp; done) | (simp [*]; done)), H', ⟨Nat.le_refl _⟩, ⟨by (with_reducible repeat (first | apply Kd.R_alloc | apply Kd.R_drewN | apply Kd.R_drew)); exact Kd.R_mono HO215.out (fun _ hk => hk.1)⟩, ⟨by (with_reducible repeat (first | apply Kd.V_alloc | apply Kd.V_drewN | apply Kd.V_drew)); exact Kd.V_mono HO1.out (fun _ hk => ⟨hk.1.1, hk.2⟩)⟩, ⟨by repeat (first | (with_reducible first | exact HB.out | apply below_alloc | apply pw_below_drewN | apply below_drew1) | exact HB.out)⟩⟩
        case round =>
          clear H'
          try clear c1
          try clear c2
          try clear p2
          try clear c4
          try clear c5
          try clear c5b0
          try clear c5b1
          try clear c7
          try clear c7b0
          try clear c7b1
          try clear c8
          try clear c8b0
          try clear c8b1
          obtain ⟨x9_1, x26_1, rfl, HA, HK1, HO_9, HO_24, HB⟩ := hrel
          cases gk with
          | zero => exact absurd HA.out (by simp [residue_Shift.l0])
          | succ k1 =>
            have H := HA.out
            clear HA
            simp only [residue_Shift.l0] at H
            by_cases c15 : x26_1 < (l1.length : Int)
            · rw [if_pos c15] at H
              have c15b0 : decide (x26_1 < (l1.length : Int)) = true := decide_eq_true c15
              clear c15
              by_cases c16 : 0 ≤ x26_1
              · rw [if_pos c16] at H
                have c16b0 : decide (0 ≤ x26_1) = true := decide_eq_true c16
                clear c16
                by_cases c17 : x26_1 < (l1.length : Int)
                · rw [if_pos c17] at H
                  have c17b0 : decide (x26_1 < (l1.length : Int)) = true := decide_eq_true c17
                  clear c17
                  replace H := Option.bind_eq_some_iff.mp H
                  obtain ⟨t218, A180, H⟩ := H
                  replace H : (residue_Shift.l0 k1 t212 t218 l1 (l1.length : Int) (wrap64 (x26_1 + 1))) = some (r1, r2) := H
                  have A18 := Aside0.mk A180
                  clear A180
                  have H' := Aside0.mk H
                  clear H
                  have p216 : 0 ≤ (x26_1 : Int) := of_decide_eq_true (by first | (with_reducible assumption) | assumption)
                  have q216 : x26_1 < (l1.length : Int) := of_decide_eq_true (by first | (with_reducible assumption) | assumption)
                  obtain ⟨ad216, e216, hx216_0, hx216_1⟩ := at_T35 (Kd.V_reads' HO_24.out).2.2 x26_1 p216 q216
                  cases e216
                  replace p216 := eq_true p216
                  replace q216 := eq_true q216
                  go_wp2_with (first | ((with_reducible refine gate_dst (N := 11) rfl ?_); refine box_event ?hg (N := 11) ?hd (cs := #[.int .i64 0, .int .i64 0]) (t := 35) ?hr ?_; (case hd => rfl); (case hg => rfl); (case hr => first | (go_simp; done) | (go_simp; rfl)); intro gb217 hg w19 hbox hb; have n0_ := Aside0.mk (Kd.R_below (by (with_reducible repeat (first | apply Kd.R_alloc | apply Kd.R_drewN | apply Kd.R_drew)); exact HO_9.out) hb); have n1_ := Aside0.mk (Kd.V_below (Kd.V_elderB (by (with_reducible repeat (first | apply Kd.V_alloc | apply Kd.V_drewN | apply Kd.V_drew)); exact HO_24.out) gb217 (Nat.le_of_eq hg.symm)) hb); have n2_ := Aside0.mk (below_step (by repeat (first | (with_reducible first | exact HB.out | apply below_alloc | apply pw_below_drewN | apply below_drew1) | exact HB.out)) hb); have n3_ := Aside0.mk (hbox); have n4_ := Aside0.mk ((by rw [hg]; exact (below_size (by repeat (first | (with_reducible first | exact HB.out | apply below_alloc | apply pw_below_drewN | apply below_drew1) | exact HB.out))) : w.heap.size ≤ gb217)); have n5_ := Aside0.mk ((by rw [hg]; exact (below_size (by repeat (first | (with_reducible first | exact HB.out | apply below_alloc | apply pw_below_drewN | apply below_drew1) | exact HB.out))) : w.heap.size ≤ gb217)); clear HO_9; clear HO_24; clear HB; have HO_9 := n0_; have HO_24 := n1_; have HB := n2_; have BK217 := n3_; have GW217 := n4_; have GE217 := n5_; clear n0_ n1_ n2_ n3_ n4_ n5_; clear hb hbox hg; have hcz20_0 : w19.cell? ⟨gb217, 0, none⟩ = some (.int .i64 0) := (blk_cell BK217.out 0).trans rfl; have hcz20_1 : w19.cell? ⟨gb217, 1, none⟩ = some (.int .i64 0) := (blk_cell BK217.out 1).trans rfl; have hfz20_0 := blk_frozen BK217.out 0; have hfz20_1 := blk_frozen BK217.out 1) | ((with_reducible refine gate_store (t := 35) (p := 11) rfl ?_); refine store_event (t := 35) (p := 11) (v := ?vo_w21) (w1 := ((w19.setCell ⟨gb217, 0, none⟩ (.int .i64 ((rd_T35 l1 x26_1).f0))).setCell ⟨gb217, 1, none⟩ (.int .i64 ((rd_T35 l1 x26_1).f1)))) ?hg ?ho ?hn ?hr ?_; (case ho => rfl); (case hg => rfl); (case hn => rfl); (case hr => first | (go_simp; done) | (go_simp; rfl)); intro w21 hw; have n0_ : Aside0 (Kd.R Kd.bool 4 w21 w.heap.size (fun k_ => (w.heap.size ≤ k_)) v214 x9_1) := ⟨(by rw [hw]; exact (by (with_reducible repeat (first | apply Kd.R_alloc | apply Kd.R_drewN | apply Kd.R_drew)); exact Kd.R_mono (Kd.R_far (p := ⟨gb217, 1, none⟩) (Kd.R_far (p := ⟨gb217, 0, none⟩) (Kd.R_types HO_9.out BK217.out (by decide)) (fun _ hk => hk.2) (.int .i64 ((rd_T35 l1 x26_1).f0))) (fun _ hk => hk.2) (.int .i64 ((rd_T35 l1 x26_1).f1))) (fun _ hk => hk.1)))⟩; have n1_ : Aside0 (Kd.V k35 35 w21 w.heap.size (fun k_ => (P1_ k_ ∨ w.heap.size ≤ k_) ∧ some k_ ≠ (v214 : Value).ownBlock ∧ k_ ≠ gb217) (.slice (some ad216) l1.length c1) l1) := ⟨(by rw [hw]; exact (by (with_reducible repeat (first | apply Kd.V_alloc | apply Kd.V_drewN | apply Kd.V_drew)); exact Kd.V_mono (Kd.V_far (p := ⟨gb217, 1, none⟩) (Kd.V_far (p := ⟨gb217, 0, none⟩) (Kd.V_mono HO_24.out (fun k_ hk => (⟨hk, hk.2⟩ : _ ∧ k_ ≠ gb217))) (fun _ hk => hk.2) (.int .i64 ((rd_T35 l1 x26_1).f0))) (fun _ hk => hk.2) (.int .i64 ((rd_T35 l1 x26_1).f1))) (fun _ hk => ⟨hk.1.1.1, ⟨hk.1.1.2, hk.1.2⟩⟩)))⟩; have n2_ : Aside0 (w21.heap[gb217]? = some (.cells #[.int .i64 ((rd_T35 l1 x26_1).f0), .int .i64 ((rd_T35 l1 x26_1).f1)] 35 (0, 0))) := ⟨(by rw [hw]; exact (by (with_reducible repeat (first | refine blk_drewN ?_ _ | refine blk_drew ?_ | refine blk_alloc ?_ _)); refine blk_put (cs := #[.int .i64 ((rd_T35 l1 x26_1).f0), .int .i64 0]) ?_ 1 _ rfl; (with_reducible repeat (first | refine blk_drewN ?_ _ | refine blk_drew ?_ | refine blk_alloc ?_ _)); refine blk_put (cs := #[.int .i64 0, .int .i64 0]) ?_ 0 _ rfl; (with_reducible repeat (first | refine blk_drewN ?_ _ | refine blk_drew ?_ | refine blk_alloc ?_ _)); exact BK217.out))⟩; have n3_ : Aside0 (Below w.heap.size w w21) := ⟨(by rw [hw]; exact (by repeat (first | (with_reducible first | exact HB.out | apply below_alloc | apply pw_below_drewN | apply below_drew1 | refine below_set ?_ GE217.out) | exact HB.out)))⟩; clear hw; clear HO_9; clear HO_24; clear BK217; clear HB; have HO_9 := n0_; have HO_24 := n1_; have BK217 := n2_; have HB := n3_; clear n0_ n1_ n2_ n3_; have hcz22_0 : w21.cell? ⟨gb217, 0, none⟩ = some (.int .i64 ((rd_T35 l1 x26_1).f0)) := (blk_cell BK217.out 0).trans rfl; have hcz22_1 : w21.cell? ⟨gb217, 1, none⟩ = some (.int .i64 ((rd_T35 l1 x26_1).f1)) := (blk_cell BK217.out 1).trans rfl; have hfz22_0 := blk_frozen BK217.out 0; have hfz22_1 := blk_frozen BK217.out 1; obtain ⟨Ao23, co23, eo23⟩ := Kd.R_slice HO_9.out; subst eo23) | ((with_reducible refine gate_callee (f := 46) rfl ?_); refine goesL_ (some 40) rfl rfl Try.func46 (by kernel_rfl) rfl #[.slice Ao23 x9_1.length co23, .int .i64 (wrap64 (((rd_T35 l1 x26_1).f0) + t212)), .int .i64 (wrap64 (((rd_T35 l1 x26_1).f1) - ((rd_T35 l1 x26_1).f0)))] rfl (by (try simp only [List.map_toArray, List.map_cons, List.map_nil]); first | done | rfl | (simp only [List.length_drop, List.length_take]; rfl)) ?_; (with_reducible refine (residue_marks_put.calls k1 (fun k_ => some k_ = (.slice Ao23 x9_1.length co23 : Value).ownBlock) (.slice Ao23 x9_1.length co23) x9_1 (wrap64 (((rd_T35 l1 x26_1).f0) + t212)) (wrap64 (((rd_T35 l1 x26_1).f1) - ((rd_T35 l1 x26_1).f0))) t218 w _ ?side1 ?side2 A18.out).mono ?_); (case side1 => repeat (first | (with_reducible first | exact HB.out | apply below_alloc | apply pw_below_drewN | apply below_drew1 | refine below_set ?_ GE217.out) | exact HB.out)); (case side2 => exact Kd.R_tight rfl HO_9.out); rintro e w24 ⟨rfl, hy0, hb, hkp⟩; refine ⟨_, rfl, ?_⟩; have n0_ := Aside0.mk (Kd.R_reok rfl hy0 (fun k_ e_ => HO_9.out.1 k_ e_)); have n1_ := Aside0.mk (Kd.V_mono (ok' := fun k_ => (P1_ k_ ∨ w.heap.size ≤ k_) ∧ some k_ ≠ (.slice Ao23 x9_1.length co23 : Value).ownBlock ∧ k_ ≠ gb217) (Kd.V_keptB (HO_24.out) hkp (fun k_ hk_ hs_ => (hk_.2.1) hs_)) (fun k_ hk_ => ⟨hk_.1.1, hk_.1.2.1, hk_.1.2.2⟩)); have n2_ := Aside0.mk (blk_kept (by (with_reducible repeat (first | refine blk_drewN ?_ _ | refine blk_drew ?_ | refine blk_alloc ?_ _)); exact BK217.out) hkp (fun hs_ => (fun e_ => (Kd.R_ne HO_9.out BK217.out (by decide)) e_) hs_)); have n3_ := Aside0.mk (hb); clear HO_9; clear HO_24; clear BK217; clear HB; have HO_9 := n0_; have HO_24 := n1_; have BK217 := n2_; have HB := n3_; clear n0_ n1_ n2_ n3_; (try clear hb); (try clear hkp); (try clear hy0)))
                  go_roundg k1
                  case measure => have := HK1.out; omega
                  case rel => exact ⟨(t218), (wrap64 (x26_1 + 1)), (by first | rfl | (simp; done) | (simp [*]; done)), H', ⟨by have := HK1.out; omega⟩, ⟨by (with_reducible repeat (first | apply Kd.R_alloc | apply Kd.R_drewN | apply Kd.R_drew)); exact HO_9.out⟩, ⟨by (with_reducible repeat (first | apply Kd.V_alloc | apply Kd.V_drewN | apply Kd.V_drew)); exact Kd.V_mono HO_24.out (fun _ hk => ⟨hk.1, hk.2.1⟩)⟩, ⟨by repeat (first | (with_reducible first | exact HB.out | apply below_alloc | apply pw_below_drewN | apply below_drew1 | refine below_set ?_ GE217.out) | exact HB.out)⟩⟩
                · rw [if_neg c17] at H
                  exact absurd H (by simp)
              · rw [if_neg c16] at H
                exact absurd H (by simp)
            · rw [if_neg c15] at H
              have c15b0 : decide (x26_1 < (l1.length : Int)) = false := decide_eq_false c15
              clear c15
              replace H := Option.bind_eq_some_iff.mp H
              obtain ⟨t219, A250, H⟩ := H
              replace H : (some (t219, 0)) = some (r1, r2) := H
              have A25 := Aside0.mk A250
              clear A250
              simp only [Option.some.injEq, Prod.mk.injEq] at H
              obtain ⟨rfl, rfl⟩ := H
              obtain ⟨Ao26, co26, eo26⟩ := Kd.R_slice HO_9.out
              subst eo26
              go_wp2_with (first | ((with_reducible refine gate_callee (f := 47) rfl ?_); refine goesL_ (some 43) rfl rfl Try.func47 (by kernel_rfl) rfl #[.slice Ao26 x9_1.length co26] rfl (by (try simp only [List.map_toArray, List.map_cons, List.map_nil]); first | done | rfl | (simp only [List.length_drop, List.length_take]; rfl)) ?_; (with_reducible refine (residue_marks_list.calls k1 _ _ x9_1 t219 _ ?side1 ?side2 A25.out).mono ?_); (case side1 => repeat (first | exact (Kd.R_reads' HO_9.out).2.2 | (with_reducible refine Kd.C_alloc ?_ _) | (with_reducible refine Kd.C_drewN ?_ _) | (with_reducible refine Kd.C_drew ?_))); (case side2 => exact (Kd.R_reads' HO_9.out).2.1); rintro e w27 ⟨v220, rfl, ho0, hb⟩; refine ⟨_, rfl, ?_⟩; have n0_ := Aside0.mk (Kd.R_below (by (with_reducible repeat (first | apply Kd.R_alloc | apply Kd.R_drewN | apply Kd.R_drew)); exact HO_9.out) hb); have n1_ := Aside0.mk (Kd.V_elder' (by (with_reducible repeat (first | apply Kd.V_alloc | apply Kd.V_drewN | apply Kd.V_drew)); exact HO_24.out) (Kd.R_base ho0) hb); have n2_ := Aside0.mk (Kd.R_lower (Kd.R_newM (M := fun k_ => (w.heap.size ≤ k_)) ho0 (below_size (by repeat (first | (with_reducible first | exact HB.out | apply below_alloc | apply pw_below_drewN | apply below_drew1) | exact HB.out))) (fun k_ h_ => h_)) (below_size (by repeat (first | (with_reducible first | exact HB.out | apply below_alloc | apply pw_below_drewN | apply below_drew1) | exact HB.out)))); have n3_ := Aside0.mk (below_step (by repeat (first | (with_reducible first | exact HB.out | apply below_alloc | apply pw_below_drewN | apply below_drew1) | exact HB.out)) hb); clear HO_9; clear HO_24; clear HB; have HO_9 := n0_; have HO_24 := n1_; have HO221 := n2_; have HB := n3_; clear n0_ n1_ n2_ n3_; (try clear hb); (try clear hb2); (try clear hk); (try clear hi); (try clear ho0)))
              go_ret2
              exact ⟨_, by first | rfl | (simp [errW_none, errW_some] <;> rfl) | (simp [*, errW_none, errW_some] <;> rfl), by (with_reducible repeat (first | apply Kd.R_alloc | apply Kd.R_drewN | apply Kd.R_drew)); exact Kd.R_mono HO221.out (fun _ hk => hk.1), by repeat (first | (with_reducible first | exact HB.out | apply below_alloc | apply pw_below_drewN | apply below_drew1) | exact HB.out)⟩
      · rw [if_neg c8] at H
        exact absurd H (by simp)
    · rw [if_neg c7] at H
      exact absurd H (by simp)
  · rw [if_neg c5] at H
    have c5b0 : (t211 == 0) = false := beq_eq_false_iff_ne.mpr c5
    have c5b1 : (t211 != 0) = true := bne_iff_ne.mpr c5
    simp only [Option.some.injEq, Prod.mk.injEq] at H
    obtain ⟨rfl, rfl⟩ := H
    go_enter Try.func24, Try.ntmps24
    go_wp2_with (first | ((with_reducible refine gate_dst (N := 14) rfl ?_); refine Kd.N_lit (Kd.slice 35 k35) _ 22 ?hg (N' := 14) ?hd (xs := ([l1] : List (List (S35)))) (inner := [.slice A1 l1.length c1]) (ok := (fun k_ => (P1_ k_ ∨ w.heap.size ≤ k_))) (okp := (fun k_ => (P1_ k_ ∨ w.heap.size ≤ k_))) ?hr ?hp (fun _ hk => hk) ((show ∀ k_, w.heap.size ≤ k_ → (fun k_ => (P1_ k_ ∨ w.heap.size ≤ k_)) k_ from fun k_ hk => (.inr (Nat.le_trans (below_size (by repeat (first | (with_reducible first | exact HB.out | apply below_alloc | apply pw_below_drewN | apply below_drew1) | exact HB.out))) hk))) _ (Nat.le_refl _)) (Below.refl _ _) (Nat.le_refl _) (by simp) ?_; (case hd => rfl); (case hg => rfl); (case hr => first | (go_simp; done) | (go_simp; rfl)); (case hp => exact (Reps.one (show Kd.FK (Kd.slice 35 k35) _ _ l1 [.slice A1 l1.length c1] from (Kd.FK_slice_mk (Kd.V_reads' (Kd.V_mono (ok' := (fun k_ => (P1_ k_ ∨ w.heap.size ≤ k_))) (HO1.out) (fun k_ hk => hk))).2.1 (Kd.V_F (Kd.V_mono (ok' := (fun k_ => (P1_ k_ ∨ w.heap.size ≤ k_))) (HO1.out) (fun k_ hk => hk))))) (Reps.none _ _))); intro v209 w28 ho29 hb hg_ hnew_; clear hg_ hnew_; (first | rw [← Ny208.out] at ho29 | (simp only [Int.reduceToNat] at ho29; rw [← Ny208.out] at ho29)); have n0_ := Aside0.mk (Kd.V_elder' (by (with_reducible repeat (first | apply Kd.V_alloc | apply Kd.V_drewN | apply Kd.V_drew)); exact HO1.out) (Kd.N_base ho29) hb); have n1_ := Aside0.mk (Kd.N_lower ho29 (below_size (by repeat (first | (with_reducible first | exact HB.out | apply below_alloc | apply pw_below_drewN | apply below_drew1) | exact HB.out)))); have n2_ := Aside0.mk (below_step (by repeat (first | (with_reducible first | exact HB.out | apply below_alloc | apply pw_below_drewN | apply below_drew1) | exact HB.out)) hb); clear HO1; clear HB; have HO1 := n0_; have HO210 := n1_; have HB := n2_; clear n0_ n1_ n2_; clear hb ho29; obtain ⟨Ao30, co30, eo30⟩ := Kd.N_slice HO210.out; subst eo30) | ((with_reducible refine gate_callee (f := 45) rfl ?_); refine goesL_ (some 15) rfl rfl Try.func45 (by kernel_rfl) rfl #[.int .i64 a0, .slice Ao30 y208.length co30] rfl (by (try simp only [List.map_toArray, List.map_cons, List.map_nil]); first | done | rfl | (simp only [List.length_drop, List.length_take]; rfl)) ?_; (with_reducible refine (residue_check.calls k a0 _ _ y208 t211 _ ?side1 ?side2 A4.out).mono ?_); (case side1 => repeat (first | exact (Kd.N_reads' HO210.out).2.2 | (with_reducible refine Kd.C_alloc ?_ _) | (with_reducible refine Kd.C_drewN ?_ _) | (with_reducible refine Kd.C_drew ?_))); (case side2 => exact (Kd.N_reads' HO210.out).2.1); rintro e w31 ⟨rfl, hb⟩; refine ⟨_, rfl, ?_⟩; have n0_ := Aside0.mk (Kd.V_below (by (with_reducible repeat (first | apply Kd.V_alloc | apply Kd.V_drewN | apply Kd.V_drew)); exact HO1.out) hb); have n1_ := Aside0.mk (Kd.N_below (by (with_reducible repeat (first | apply Kd.N_alloc | apply Kd.N_drewN | apply Kd.N_drew)); exact HO210.out) hb); have n2_ := Aside0.mk (below_step (by repeat (first | (with_reducible first | exact HB.out | apply below_alloc | apply pw_below_drewN | apply below_drew1) | exact HB.out)) hb); clear HO1; clear HO210; clear HB; have HO1 := n0_; have HO210 := n1_; have HB := n2_; clear n0_ n1_ n2_; (try clear hb); (try clear hb2); (try clear hk); (try clear hi)))
    go_ret2
    exact ⟨_, by first | rfl | (simp [errW_none, errW_some] <;> rfl) | (simp [*, errW_none, errW_some] <;> rfl), by first | exact Kd.R_nil _ _ _ _ _ | exact Kd.N_nil _ _ _ _ _ | exact Kd.V_nil _ _ _ _ _ | exact Kd.Q_nil _ _ _ _ _ | exact Kd.S_nil _ _ _ _ _, by repeat (first | (with_reducible first | exact HB.out | apply below_alloc | apply pw_below_drewN | apply below_drew1) | exact HB.out)⟩

/-! ### residue_Sum: function 26 -/
mutual
def residue_Sum.l0 : Nat → List (S35) → List Bool → List (S35) → Int → Int → Option ((List (S35)) × Int)
  | 0, _, _, _, _, _ => none
  | k + 1, x2, x9, x24, x25, x26 => if x26 < x25 then (if 0 ≤ x26 then (if x26 < (x24.length : Int) then (residue_Sum.l1 k x2 x9 x24 x25 x26 x2 (x2.length : Int) 0 ((rd_T35 x24 x26).f0) ((rd_T35 x24 x26).f1)) else (none)) else (none)) else ((residue_marks_list.f k x9).bind fun t229 => (some (t229, 0)))
def residue_Sum.l1 : Nat → List (S35) → List Bool → List (S35) → Int → Int → List (S35) → Int → Int → Int → Int → Option ((List (S35)) × Int)
  | 0, _, _, _, _, _, _, _, _, _, _ => none
  | k + 1, x2, x9, x24, x25, x26, x30, x31, x32, x234000, x234001 => if x32 < x31 then (if 0 ≤ x32 then (if x32 < (x30.length : Int) then ((residue_marks_put.f k x9 (wrap64 (x234000 + ((rd_T35 x30 x32).f0))) (wrap64 ((wrap64 ((wrap64 ((wrap64 (x234001 - x234000)) + ((rd_T35 x30 x32).f1))) - ((rd_T35 x30 x32).f0))) - 1))).bind fun t236 => (residue_Sum.l1 k x2 t236 x24 x25 x26 x30 x31 (wrap64 (x32 + 1)) x234000 x234001)) else (none)) else (none)) else (residue_Sum.l0 k x2 x9 x24 x25 (wrap64 (x26 + 1)))
end
def residue_Sum.f (k : Nat) (a0 : Int) (l1 : List (S35)) (l2 : List (S35)) : Option ((List (S35)) × Int) := (residue_check.f k a0 (([l1, l2] : List (List (S35))))).bind fun t225 => (if t225 = 0 then (if 0 ≤ a0 then (if (a0 : Int).toNat ≤ 281474976710656 then (residue_Sum.l0 k l2 (List.replicate (a0 : Int).toNat false) l1 (l1.length : Int) 0) else (none)) else (none)) else (some (([] : List (S35)), t225)))
theorem residue_Sum.mono_l : ∀ k, (∀ y0 y1 y2 y3 y4, LeO (residue_Sum.l0 k y0 y1 y2 y3 y4) (residue_Sum.l0 (k + 1) y0 y1 y2 y3 y4)) ∧ (∀ y0 y1 y2 y3 y4 y5 y6 y7 y8 y9, LeO (residue_Sum.l1 k y0 y1 y2 y3 y4 y5 y6 y7 y8 y9) (residue_Sum.l1 (k + 1) y0 y1 y2 y3 y4 y5 y6 y7 y8 y9))
  | 0 => ⟨fun _ _ _ _ _ r h => by simp [residue_Sum.l0] at h, fun _ _ _ _ _ _ _ _ _ _ r h => by simp [residue_Sum.l1] at h⟩
  | k + 1 => by
    obtain ⟨ih0, ih1⟩ := residue_Sum.mono_l k
    refine ⟨?_, ?_⟩
    · intro y0 y1 y2 y3 y4
      unfold residue_Sum.l0
      repeat' first
      | (with_reducible exact ih0 _ _ _ _ _)
      | (with_reducible exact ih1 _ _ _ _ _ _ _ _ _ _)
      | (with_reducible exact residue_check.mono _ _ _)
      | (with_reducible exact residue_marks_list.mono _ _)
      | (with_reducible exact residue_marks_put.mono _ _ _ _)
      | (with_reducible exact LeO.refl _)
      | (with_reducible exact LeO.none _)
      | (with_reducible refine LeO.ite ?_ ?_)
      | (with_reducible refine LeO.bind ?_ (fun _ => ?_))
      | exact ih0 _ _ _ _ _
      | exact ih1 _ _ _ _ _ _ _ _ _ _
      | exact residue_check.mono _ _ _
      | exact residue_marks_list.mono _ _
      | exact residue_marks_put.mono _ _ _ _
      | exact LeO.none _
      | refine LeO.ite ?_ ?_
      | refine LeO.bind ?_ (fun _ => ?_)
    · intro y0 y1 y2 y3 y4 y5 y6 y7 y8 y9
      unfold residue_Sum.l1
      repeat' first
      | (with_reducible exact ih0 _ _ _ _ _)
      | (with_reducible exact ih1 _ _ _ _ _ _ _ _ _ _)
      | (with_reducible exact residue_check.mono _ _ _)
      | (with_reducible exact residue_marks_list.mono _ _)
      | (with_reducible exact residue_marks_put.mono _ _ _ _)
      | (with_reducible exact LeO.refl _)
      | (with_reducible exact LeO.none _)
      | (with_reducible refine LeO.ite ?_ ?_)
      | (with_reducible refine LeO.bind ?_ (fun _ => ?_))
      | exact ih0 _ _ _ _ _
      | exact ih1 _ _ _ _ _ _ _ _ _ _
      | exact residue_check.mono _ _ _
      | exact residue_marks_list.mono _ _
      | exact residue_marks_put.mono _ _ _ _
      | exact LeO.none _
      | refine LeO.ite ?_ ?_
      | refine LeO.bind ?_ (fun _ => ?_)
theorem residue_Sum.mono : ∀ a0 a1 a2 k, LeO (residue_Sum.f k a0 a1 a2) (residue_Sum.f (k + 1) a0 a1 a2) := by
  intro a0 a1 a2 k
  obtain ⟨ih0, ih1⟩ := residue_Sum.mono_l k
  unfold residue_Sum.f
  repeat' first
      | (with_reducible exact ih0 _ _ _ _ _)
      | (with_reducible exact ih1 _ _ _ _ _ _ _ _ _ _)
      | (with_reducible exact residue_check.mono _ _ _)
      | (with_reducible exact residue_marks_list.mono _ _)
      | (with_reducible exact residue_marks_put.mono _ _ _ _)
      | (with_reducible exact LeO.refl _)
      | (with_reducible exact LeO.none _)
      | (with_reducible refine LeO.ite ?_ ?_)
      | (with_reducible refine LeO.bind ?_ (fun _ => ?_))
      | exact ih0 _ _ _ _ _
      | exact ih1 _ _ _ _ _ _ _ _ _ _
      | exact residue_check.mono _ _ _
      | exact residue_marks_list.mono _ _
      | exact residue_marks_put.mono _ _ _ _
      | exact LeO.none _
      | refine LeO.ite ?_ ?_
      | refine LeO.bind ?_ (fun _ => ?_)
set_option maxHeartbeats 8000000 in
set_option maxRecDepth 100000 in
theorem residue_Sum.calls (k : Nat) (a0 : Int) (P1_ : Nat → Prop) (A1 : Option Addr) (c1 : Nat) (l1 : List (S35)) (P2_ : Nat → Prop) (A2 : Option Addr) (c2 : Nat) (l2 : List (S35)) (r1 : List (S35)) (r2 : Int) (w : World) (hs1 : Kd.V k35 35 w w.heap.size (fun k_ => P1_ k_) (.slice A1 l1.length c1) l1) (hs2 : Kd.V k35 35 w w.heap.size (fun k_ => P2_ k_) (.slice A2 l2.length c2) l2) (h : residue_Sum.f k a0 l1 l2 = some (r1, r2)) :
    Calls Try.prog 26 #[.int .i64 a0, .slice A1 l1.length c1, .slice A2 l2.length c2] w fun e w' => ∃ v0_ : Value, e = .returned (.tuple #[v0_, .int .i64 r2]) ∧ Kd.R k35 35 w' w.heap.size (fun k_ => (w.heap.size ≤ k_)) v0_ r1 ∧ Below w.heap.size w w' := by
  have hu35 := Try.underlying35
  have HO1 := Aside0.mk (show Kd.V k35 35 w w.heap.size (fun k_ => ((P1_ k_ ∨ P2_ k_) ∨ w.heap.size ≤ k_)) (.slice A1 l1.length c1) l1 from Kd.V_mono hs1 (fun k_ hk => .inl (.inl hk)))
  have HO2 := Aside0.mk (show Kd.V k35 35 w w.heap.size (fun k_ => ((P1_ k_ ∨ P2_ k_) ∨ w.heap.size ≤ k_)) (.slice A2 l2.length c2) l2 from Kd.V_mono hs2 (fun k_ hk => .inl (.inr hk)))
  have HB := Aside0.mk (Below.refl w.heap.size w)
  have H : ((residue_check.f k a0 (([l1, l2] : List (List (S35))))).bind fun t225 => (if t225 = 0 then (if 0 ≤ a0 then (if (a0 : Int).toNat ≤ 281474976710656 then (residue_Sum.l0 k l2 (List.replicate (a0 : Int).toNat false) l1 (l1.length : Int) 0) else (none)) else (none)) else (some (([] : List (S35)), t225)))) = some (r1, r2) := h
  clear h
  obtain ⟨y222, hy222⟩ : ∃ y_ : List (List (S35)), y_ = (([l1, l2] : List (List (S35)))) := ⟨_, rfl⟩
  replace H : ((residue_check.f k a0 y222).bind fun t225 => (if t225 = 0 then (if 0 ≤ a0 then (if (a0 : Int).toNat ≤ 281474976710656 then (residue_Sum.l0 k l2 (List.replicate (a0 : Int).toNat false) l1 (l1.length : Int) 0) else (none)) else (none)) else (some (([] : List (S35)), t225)))) = some (r1, r2) := by first | (rw [hy222]; with_reducible exact H) | (have H2_ := (Option.bind_some _ _).symm.trans H; rw [hy222]; with_reducible exact H2_) | (have H2_ := (Option.bind_some _ _).symm.trans H; with_reducible exact H2_) | with_reducible exact H | (rw [hy222]; exact H) | exact H
  have Ny222 := Aside0.mk hy222
  clear hy222
  replace H := Option.bind_eq_some_iff.mp H
  obtain ⟨t225, A40, H⟩ := H
  replace H : (if t225 = 0 then (if 0 ≤ a0 then (if (a0 : Int).toNat ≤ 281474976710656 then (residue_Sum.l0 k l2 (List.replicate (a0 : Int).toNat false) l1 (l1.length : Int) 0) else (none)) else (none)) else (some (([] : List (S35)), t225))) = some (r1, r2) := H
  have A4 := Aside0.mk A40
  clear A40
  by_cases c5 : t225 = 0
  · rw [if_pos c5] at H
    have c5b0 : (t225 == 0) = true := beq_iff_eq.mpr c5
    have c5b1 : (t225 != 0) = false := bne_eq_false_iff_eq.mpr c5
    clear c5
    by_cases c6 : 0 ≤ a0
    · rw [if_pos c6] at H
      have c6b0 := eq_true c6
      have c6b1 : decide (0 ≤ a0) = true := decide_eq_true c6
      clear c6
      by_cases c7 : (a0 : Int).toNat ≤ 281474976710656
      · rw [if_pos c7] at H
        have c7b0 := eq_true c7
        have c7b1 : decide ((a0 : Int).toNat ≤ 281474976710656) = true := decide_eq_true c7
        clear c7
        obtain ⟨y226, hy226⟩ : ∃ y_ : List Bool, y_ = (List.replicate (a0 : Int).toNat false) := ⟨_, rfl⟩
        replace H : (residue_Sum.l0 k l2 y226 l1 (l1.length : Int) 0) = some (r1, r2) := by first | (rw [hy226]; with_reducible exact H) | (have H2_ := (Option.bind_some _ _).symm.trans H; rw [hy226]; with_reducible exact H2_) | (have H2_ := (Option.bind_some _ _).symm.trans H; with_reducible exact H2_) | with_reducible exact H | (rw [hy226]; exact H) | exact H
        have Ny226 := Aside0.mk hy226
        clear hy226
        have H' := Aside0.mk H
        clear H
        go_enter Try.func26, Try.ntmps26
        go_wp2_with (first | ((with_reducible refine gate_dst (N := 17) rfl ?_); refine Kd.N_lit (Kd.slice 35 k35) _ 22 ?hg (N' := 17) ?hd (xs := ([l1, l2] : List (List (S35)))) (inner := [.slice A1 l1.length c1, .slice A2 l2.length c2]) (ok := (fun k_ => ((P1_ k_ ∨ P2_ k_) ∨ w.heap.size ≤ k_))) (okp := (fun k_ => ((P1_ k_ ∨ P2_ k_) ∨ w.heap.size ≤ k_))) ?hr ?hp (fun _ hk => hk) ((show ∀ k_, w.heap.size ≤ k_ → (fun k_ => ((P1_ k_ ∨ P2_ k_) ∨ w.heap.size ≤ k_)) k_ from fun k_ hk => (.inr (Nat.le_trans (below_size (by repeat (first | (with_reducible first | exact HB.out | apply below_alloc | apply pw_below_drewN | apply below_drew1) | exact HB.out))) hk))) _ (Nat.le_refl _)) (Below.refl _ _) (Nat.le_refl _) (by simp) ?_; (case hd => rfl); (case hg => rfl); (case hr => first | (go_simp; done) | (go_simp; rfl)); (case hp => exact (Reps.one (show Kd.FK (Kd.slice 35 k35) _ _ l1 [.slice A1 l1.length c1] from (Kd.FK_slice_mk (Kd.V_reads' (Kd.V_mono (ok' := (fun k_ => ((P1_ k_ ∨ P2_ k_) ∨ w.heap.size ≤ k_))) (HO1.out) (fun k_ hk => hk))).2.1 (Kd.V_F (Kd.V_mono (ok' := (fun k_ => ((P1_ k_ ∨ P2_ k_) ∨ w.heap.size ≤ k_))) (HO1.out) (fun k_ hk => hk))))) (Reps.one (show Kd.FK (Kd.slice 35 k35) _ _ l2 [.slice A2 l2.length c2] from (Kd.FK_slice_mk (Kd.V_reads' (Kd.V_mono (ok' := (fun k_ => ((P1_ k_ ∨ P2_ k_) ∨ w.heap.size ≤ k_))) (HO2.out) (fun k_ hk => hk))).2.1 (Kd.V_F (Kd.V_mono (ok' := (fun k_ => ((P1_ k_ ∨ P2_ k_) ∨ w.heap.size ≤ k_))) (HO2.out) (fun k_ hk => hk))))) (Reps.none _ _)))); intro v223 w8 ho9 hb hg_ hnew_; clear hg_ hnew_; (first | rw [← Ny222.out] at ho9 | (simp only [Int.reduceToNat] at ho9; rw [← Ny222.out] at ho9)); have n0_ := Aside0.mk (Kd.V_elder' (by (with_reducible repeat (first | apply Kd.V_alloc | apply Kd.V_drewN | apply Kd.V_drew)); exact HO1.out) (Kd.N_base ho9) hb); have n1_ := Aside0.mk (Kd.V_elder' (by (with_reducible repeat (first | apply Kd.V_alloc | apply Kd.V_drewN | apply Kd.V_drew)); exact HO2.out) (Kd.N_base ho9) hb); have n2_ := Aside0.mk (Kd.N_lower ho9 (below_size (by repeat (first | (with_reducible first | exact HB.out | apply below_alloc | apply pw_below_drewN | apply below_drew1) | exact HB.out)))); have n3_ := Aside0.mk (below_step (by repeat (first | (with_reducible first | exact HB.out | apply below_alloc | apply pw_below_drewN | apply below_drew1) | exact HB.out)) hb); clear HO1; clear HO2; clear HB; have HO1 := n0_; have HO2 := n1_; have HO224 := n2_; have HB := n3_; clear n0_ n1_ n2_ n3_; clear hb ho9; obtain ⟨Ao10, co10, eo10⟩ := Kd.N_slice HO224.out; subst eo10) | ((with_reducible refine gate_callee (f := 45) rfl ?_); refine goesL_ (some 18) rfl rfl Try.func45 (by kernel_rfl) rfl #[.int .i64 a0, .slice Ao10 y222.length co10] rfl (by (try simp only [List.map_toArray, List.map_cons, List.map_nil]); first | done | rfl | (simp only [List.length_drop, List.length_take]; rfl)) ?_; (with_reducible refine (residue_check.calls k a0 _ _ y222 t225 _ ?side1 ?side2 A4.out).mono ?_); (case side1 => repeat (first | exact (Kd.N_reads' HO224.out).2.2 | (with_reducible refine Kd.C_alloc ?_ _) | (with_reducible refine Kd.C_drewN ?_ _) | (with_reducible refine Kd.C_drew ?_))); (case side2 => exact (Kd.N_reads' HO224.out).2.1); rintro e w11 ⟨rfl, hb⟩; refine ⟨_, rfl, ?_⟩; have n0_ := Aside0.mk (Kd.V_below (by (with_reducible repeat (first | apply Kd.V_alloc | apply Kd.V_drewN | apply Kd.V_drew)); exact HO1.out) hb); have n1_ := Aside0.mk (Kd.V_below (by (with_reducible repeat (first | apply Kd.V_alloc | apply Kd.V_drewN | apply Kd.V_drew)); exact HO2.out) hb); have n2_ := Aside0.mk (Kd.N_below (by (with_reducible repeat (first | apply Kd.N_alloc | apply Kd.N_drewN | apply Kd.N_drew)); exact HO224.out) hb); have n3_ := Aside0.mk (below_step (by repeat (first | (with_reducible first | exact HB.out | apply below_alloc | apply pw_below_drewN | apply below_drew1) | exact HB.out)) hb); clear HO1; clear HO2; clear HO224; clear HB; have HO1 := n0_; have HO2 := n1_; have HO224 := n2_; have HB := n3_; clear n0_ n1_ n2_ n3_; (try clear hb); (try clear hb2); (try clear hk); (try clear hi)) | ((with_reducible refine gate_dst (N := 23) rfl ?_); refine Kd.R_make Kd.bool _ 4 rfl (N := 23) rfl 59 _ _ rfl a0 rfl rfl Try.underlying59 (.bool false) 1 info4 rfl (by decide) (by omega) false (ok := fun _ => True) (okp := fun _ => True) rfl (fun _ hk => hk) trivial (of_decide_eq_true (by first | (with_reducible assumption) | assumption)) (Nat.le_trans (Nat.mul_le_mul_right _ (of_decide_eq_true (by first | (with_reducible assumption) | assumption) : a0.toNat ≤ 281474976710656)) (by omega)) (Below.refl _ _) (Nat.le_refl _) ?_; intro v227 w12 ho13 hb hg_ hnew_; clear hg_ hnew_; (first | rw [← Ny226.out] at ho13 | (simp only [Int.reduceToNat] at ho13; rw [← Ny226.out] at ho13)); have n0_ := Aside0.mk (Kd.V_elder' (by (with_reducible repeat (first | apply Kd.V_alloc | apply Kd.V_drewN | apply Kd.V_drew)); exact HO1.out) (Kd.R_base ho13) hb); have n1_ := Aside0.mk (Kd.V_elder' (by (with_reducible repeat (first | apply Kd.V_alloc | apply Kd.V_drewN | apply Kd.V_drew)); exact HO2.out) (Kd.R_base ho13) hb); have n2_ := Aside0.mk (Kd.N_elder' (by (with_reducible repeat (first | apply Kd.N_alloc | apply Kd.N_drewN | apply Kd.N_drew)); exact HO224.out) (Kd.R_base ho13) hb); have n3_ := Aside0.mk (Kd.R_lower (Kd.R_newM (M := fun k_ => (w.heap.size ≤ k_)) ho13 (below_size (by repeat (first | (with_reducible first | exact HB.out | apply below_alloc | apply pw_below_drewN | apply below_drew1) | exact HB.out))) (fun k_ h_ => h_)) (below_size (by repeat (first | (with_reducible first | exact HB.out | apply below_alloc | apply pw_below_drewN | apply below_drew1) | exact HB.out)))); have n4_ := Aside0.mk (below_step (by repeat (first | (with_reducible first | exact HB.out | apply below_alloc | apply pw_below_drewN | apply below_drew1) | exact HB.out)) hb); clear HO1; clear HO2; clear HO224; clear HB; have HO1 := n0_; have HO2 := n1_; have HO224 := n2_; have HO228 := n3_; have HB := n4_; clear n0_ n1_ n2_ n3_ n4_; clear hb ho13))
        go_loopg [26] k (fun kq v26 w' => ∃ (x9_1 : List Bool) (x26_1 : Int), v26 = .int .i64 x26_1 ∧ Aside0 (residue_Sum.l0 kq l2 x9_1 l1 (l1.length : Int) x26_1 = some (r1, r2)) ∧ Aside0 (kq ≤ k) ∧ Aside0 (Kd.V k35 35 w' w.heap.size (fun k_ => ((P1_ k_ ∨ P2_ k_) ∨ w.heap.size ≤ k_) ∧ some k_ ≠ (v227 : Value).ownBlock) (.slice A2 l2.length c2) l2) ∧ Aside0 (Kd.R Kd.bool 4 w' w.heap.size (fun k_ => (w.heap.size ≤ k_)) v227 x9_1) ∧ Aside0 (Kd.V k35 35 w' w.heap.size (fun k_ => ((P1_ k_ ∨ P2_ k_) ∨ w.heap.size ≤ k_) ∧ some k_ ≠ (v227 : Value).ownBlock) (.slice A1 l1.length c1) l1) ∧ Aside0 (Below w.heap.size w w'))
        case atStart => exact ⟨(y226), (0), (by first | rfl | (simp; done) | (simp [*]; done)), H', ⟨Nat.le_refl _⟩, ⟨by (with_reducible repeat (first | apply Kd.V_alloc | apply Kd.V_drewN | apply Kd.V_drew)); exact Kd.V_mono HO2.out (fun _ hk => ⟨hk.1.1, hk.2⟩)⟩, ⟨by (with_reducible repeat (first | apply Kd.R_alloc | apply Kd.R_drewN | apply Kd.R_drew)); exact Kd.R_mono HO228.out (fun _ hk => hk.1)⟩, ⟨by (with_reducible repeat (first | apply Kd.V_alloc | apply Kd.V_drewN | apply Kd.V_drew)); exact Kd.V_mono HO1.out (fun _ hk => ⟨hk.1.1, hk.2⟩)⟩, ⟨by repeat (first | (with_reducible first | exact HB.out | apply below_alloc | apply pw_below_drewN | apply below_drew1) | exact HB.out)⟩⟩
        case round =>
          clear H'
          try clear c1
          try clear c2
          try clear p2
          try clear c4
          try clear c5
          try clear c5b0
          try clear c5b1
          try clear c6
          try clear c6b0
          try clear c6b1
          try clear c7
          try clear c7b0
          try clear c7b1
          obtain ⟨x9_1, x26_1, rfl, HA, HK1, HO_2, HO_9, HO_24, HB⟩ := hrel
          cases gk with
          | zero => exact absurd HA.out (by simp [residue_Sum.l0])
          | succ k1 =>
            have H := HA.out
            clear HA
            simp only [residue_Sum.l0] at H
            by_cases c14 : x26_1 < (l1.length : Int)
            · rw [if_pos c14] at H
              have c14b0 : decide (x26_1 < (l1.length : Int)) = true := decide_eq_true c14
              clear c14
              by_cases c15 : 0 ≤ x26_1
              · rw [if_pos c15] at H
                have c15b0 : decide (0 ≤ x26_1) = true := decide_eq_true c15
                clear c15
                by_cases c16 : x26_1 < (l1.length : Int)
                · rw [if_pos c16] at H
                  have c16b0 : decide (x26_1 < (l1.length : Int)) = true := decide_eq_true c16
                  clear c16
                  have H' := Aside0.mk H
                  clear H
                  have p232 : 0 ≤ (x26_1 : Int) := of_decide_eq_true (by first | (with_reducible assumption) | assumption)
                  have q232 : x26_1 < (l1.length : Int) := of_decide_eq_true (by first | (with_reducible assumption) | assumption)
                  obtain ⟨ad232, e232, hx232_0, hx232_1⟩ := at_T35 (Kd.V_reads' HO_24.out).2.2 x26_1 p232 q232
                  cases e232
                  replace p232 := eq_true p232
                  replace q232 := eq_true q232
                  go_wp2_with (first | ((with_reducible refine gate_dst (N := 11) rfl ?_); refine box_event ?hg (N := 11) ?hd (cs := #[.int .i64 0, .int .i64 0]) (t := 35) ?hr ?_; (case hd => rfl); (case hg => rfl); (case hr => first | (go_simp; done) | (go_simp; rfl)); intro gb233 hg w17 hbox hb; have n0_ := Aside0.mk (Kd.V_below (Kd.V_elderB (by (with_reducible repeat (first | apply Kd.V_alloc | apply Kd.V_drewN | apply Kd.V_drew)); exact HO_2.out) gb233 (Nat.le_of_eq hg.symm)) hb); have n1_ := Aside0.mk (Kd.R_below (by (with_reducible repeat (first | apply Kd.R_alloc | apply Kd.R_drewN | apply Kd.R_drew)); exact HO_9.out) hb); have n2_ := Aside0.mk (Kd.V_below (Kd.V_elderB (by (with_reducible repeat (first | apply Kd.V_alloc | apply Kd.V_drewN | apply Kd.V_drew)); exact HO_24.out) gb233 (Nat.le_of_eq hg.symm)) hb); have n3_ := Aside0.mk (below_step (by repeat (first | (with_reducible first | exact HB.out | apply below_alloc | apply pw_below_drewN | apply below_drew1) | exact HB.out)) hb); have n4_ := Aside0.mk (hbox); have n5_ := Aside0.mk ((by rw [hg]; exact (below_size (by repeat (first | (with_reducible first | exact HB.out | apply below_alloc | apply pw_below_drewN | apply below_drew1) | exact HB.out))) : w.heap.size ≤ gb233)); have n6_ := Aside0.mk ((by rw [hg]; exact (below_size (by repeat (first | (with_reducible first | exact HB.out | apply below_alloc | apply pw_below_drewN | apply below_drew1) | exact HB.out))) : w.heap.size ≤ gb233)); clear HO_2; clear HO_9; clear HO_24; clear HB; have HO_2 := n0_; have HO_9 := n1_; have HO_24 := n2_; have HB := n3_; have BK233 := n4_; have GW233 := n5_; have GE233 := n6_; clear n0_ n1_ n2_ n3_ n4_ n5_ n6_; clear hb hbox hg; have hcz18_0 : w17.cell? ⟨gb233, 0, none⟩ = some (.int .i64 0) := (blk_cell BK233.out 0).trans rfl; have hcz18_1 : w17.cell? ⟨gb233, 1, none⟩ = some (.int .i64 0) := (blk_cell BK233.out 1).trans rfl; have hfz18_0 := blk_frozen BK233.out 0; have hfz18_1 := blk_frozen BK233.out 1))
                  go_loopg [32] k1 (fun kq v32 w' => ∃ (x9_2 : List Bool) (x32_2 : Int), v32 = .int .i64 x32_2 ∧ Aside0 (residue_Sum.l1 kq l2 x9_2 l1 (l1.length : Int) x26_1 l2 (l2.length : Int) x32_2 ((rd_T35 l1 x26_1).f0) ((rd_T35 l1 x26_1).f1) = some (r1, r2)) ∧ Aside0 (kq ≤ k1) ∧ Aside0 (Kd.V k35 35 w' w.heap.size (fun k_ => ((P1_ k_ ∨ P2_ k_) ∨ w.heap.size ≤ k_) ∧ some k_ ≠ (v227 : Value).ownBlock ∧ k_ ≠ gb233) (.slice A2 l2.length c2) l2) ∧ Aside0 (Kd.R Kd.bool 4 w' w.heap.size (fun k_ => (w.heap.size ≤ k_)) v227 x9_2) ∧ Aside0 (Kd.V k35 35 w' w.heap.size (fun k_ => ((P1_ k_ ∨ P2_ k_) ∨ w.heap.size ≤ k_) ∧ some k_ ≠ (v227 : Value).ownBlock ∧ k_ ≠ gb233) (.slice (some ad232) l1.length c1) l1) ∧ Aside0 (Kd.V k35 35 w' w.heap.size (fun k_ => ((P1_ k_ ∨ P2_ k_) ∨ w.heap.size ≤ k_) ∧ some k_ ≠ (v227 : Value).ownBlock ∧ k_ ≠ gb233) (.slice A2 l2.length c2) l2) ∧ Aside0 (w'.heap[gb233]? = some (.cells #[.int .i64 ((rd_T35 l1 x26_1).f0), .int .i64 ((rd_T35 l1 x26_1).f1)] 35 (0, 0))) ∧ Aside0 (Below w.heap.size w w'))
                  case atStart => exact ⟨(x9_1), (0), (by first | rfl | (simp; done) | (simp [*]; done)), H', ⟨Nat.le_refl _⟩, ⟨by (with_reducible repeat (first | apply Kd.V_alloc | apply Kd.V_drewN | apply Kd.V_drew)); exact Kd.V_mono (Kd.V_far (p := ⟨gb233, 1, none⟩) (Kd.V_far (p := ⟨gb233, 0, none⟩) (Kd.V_mono HO_2.out (fun k_ hk => (⟨hk, hk.2⟩ : _ ∧ k_ ≠ gb233))) (fun _ hk => hk.2) (.int .i64 ((rd_T35 l1 x26_1).f0))) (fun _ hk => hk.2) (.int .i64 ((rd_T35 l1 x26_1).f1))) (fun _ hk => ⟨hk.1.1.1, ⟨hk.1.1.2, hk.1.2⟩⟩)⟩, ⟨by (with_reducible repeat (first | apply Kd.R_alloc | apply Kd.R_drewN | apply Kd.R_drew)); exact Kd.R_mono (Kd.R_far (p := ⟨gb233, 1, none⟩) (Kd.R_far (p := ⟨gb233, 0, none⟩) (Kd.R_types HO_9.out BK233.out (by decide)) (fun _ hk => hk.2) (.int .i64 ((rd_T35 l1 x26_1).f0))) (fun _ hk => hk.2) (.int .i64 ((rd_T35 l1 x26_1).f1))) (fun _ hk => hk.1)⟩, ⟨by (with_reducible repeat (first | apply Kd.V_alloc | apply Kd.V_drewN | apply Kd.V_drew)); exact Kd.V_mono (Kd.V_far (p := ⟨gb233, 1, none⟩) (Kd.V_far (p := ⟨gb233, 0, none⟩) (Kd.V_mono HO_24.out (fun k_ hk => (⟨hk, hk.2⟩ : _ ∧ k_ ≠ gb233))) (fun _ hk => hk.2) (.int .i64 ((rd_T35 l1 x26_1).f0))) (fun _ hk => hk.2) (.int .i64 ((rd_T35 l1 x26_1).f1))) (fun _ hk => ⟨hk.1.1.1, ⟨hk.1.1.2, hk.1.2⟩⟩)⟩, ⟨by (with_reducible repeat (first | apply Kd.V_alloc | apply Kd.V_drewN | apply Kd.V_drew)); exact Kd.V_mono (Kd.V_far (p := ⟨gb233, 1, none⟩) (Kd.V_far (p := ⟨gb233, 0, none⟩) (Kd.V_mono HO_2.out (fun k_ hk => (⟨hk, hk.2⟩ : _ ∧ k_ ≠ gb233))) (fun _ hk => hk.2) (.int .i64 ((rd_T35 l1 x26_1).f0))) (fun _ hk => hk.2) (.int .i64 ((rd_T35 l1 x26_1).f1))) (fun _ hk => ⟨hk.1.1.1, ⟨hk.1.1.2, hk.1.2⟩⟩)⟩, ⟨by (with_reducible repeat (first | refine blk_drewN ?_ _ | refine blk_drew ?_ | refine blk_alloc ?_ _)); refine blk_put (cs := #[.int .i64 ((rd_T35 l1 x26_1).f0), .int .i64 0]) ?_ 1 _ rfl; (with_reducible repeat (first | refine blk_drewN ?_ _ | refine blk_drew ?_ | refine blk_alloc ?_ _)); refine blk_put (cs := #[.int .i64 0, .int .i64 0]) ?_ 0 _ rfl; (with_reducible repeat (first | refine blk_drewN ?_ _ | refine blk_drew ?_ | refine blk_alloc ?_ _)); exact BK233.out⟩, ⟨by repeat (first | (with_reducible first | exact HB.out | apply below_alloc | apply pw_below_drewN | apply below_drew1 | refine below_set ?_ GE233.out) | exact HB.out)⟩⟩
                  case round =>
                    clear H'
                    try clear c1
                    try clear c2
                    try clear p2
                    try clear q2
                    try clear hx2
                    try clear c4
                    try clear c5
                    try clear c5b0
                    try clear c5b1
                    try clear c6
                    try clear c6b0
                    try clear c6b1
                    try clear c7
                    try clear c7b0
                    try clear c7b1
                    try clear c14
                    try clear c14b0
                    try clear c15
                    try clear c15b0
                    try clear c16
                    try clear c16b0
                    try clear hcz18_0
                    try clear hcz18_1
                    try clear hfz18_0
                    try clear hfz18_1
                    try clear hx232_0
                    try clear hx232_1
                    try clear p2
                    try clear p232
                    try clear q232
                    obtain ⟨x9_2, x32_2, rfl, HA, HK2, HO_2, HO_9, HO_24, HO_30, BK233, HB⟩ := hrel
                    cases gk with
                    | zero => exact absurd HA.out (by simp [residue_Sum.l1])
                    | succ k2 =>
                      have H := HA.out
                      clear HA
                      simp only [residue_Sum.l1] at H
                      by_cases c19 : x32_2 < (l2.length : Int)
                      · rw [if_pos c19] at H
                        have c19b0 : decide (x32_2 < (l2.length : Int)) = true := decide_eq_true c19
                        clear c19
                        by_cases c20 : 0 ≤ x32_2
                        · rw [if_pos c20] at H
                          have c20b0 : decide (0 ≤ x32_2) = true := decide_eq_true c20
                          clear c20
                          by_cases c21 : x32_2 < (l2.length : Int)
                          · rw [if_pos c21] at H
                            have c21b0 : decide (x32_2 < (l2.length : Int)) = true := decide_eq_true c21
                            clear c21
                            replace H := Option.bind_eq_some_iff.mp H
                            obtain ⟨t236, A220, H⟩ := H
                            replace H : (residue_Sum.l1 k2 l2 t236 l1 (l1.length : Int) x26_1 l2 (l2.length : Int) (wrap64 (x32_2 + 1)) ((rd_T35 l1 x26_1).f0) ((rd_T35 l1 x26_1).f1)) = some (r1, r2) := H
                            have A22 := Aside0.mk A220
                            clear A220
                            have H' := Aside0.mk H
                            clear H
                            have p234 : 0 ≤ (x32_2 : Int) := of_decide_eq_true (by first | (with_reducible assumption) | assumption)
                            have q234 : x32_2 < (l2.length : Int) := of_decide_eq_true (by first | (with_reducible assumption) | assumption)
                            obtain ⟨ad234, e234, hx234_0, hx234_1⟩ := at_T35 (Kd.V_reads' HO_30.out).2.2 x32_2 p234 q234
                            cases e234
                            replace p234 := eq_true p234
                            replace q234 := eq_true q234
                            go_wp2_with (first | ((with_reducible refine gate_dst (N := 13) rfl ?_); refine box_event ?hg (N := 13) ?hd (cs := #[.int .i64 0, .int .i64 0]) (t := 35) ?hr ?_; (case hd => rfl); (case hg => rfl); (case hr => first | (go_simp; done) | (go_simp; rfl)); intro gb235 hg w23 hbox hb; have n0_ := Aside0.mk (Kd.V_below (Kd.V_elderB (by (with_reducible repeat (first | apply Kd.V_alloc | apply Kd.V_drewN | apply Kd.V_drew)); exact HO_2.out) gb235 (Nat.le_of_eq hg.symm)) hb); have n1_ := Aside0.mk (Kd.R_below (by (with_reducible repeat (first | apply Kd.R_alloc | apply Kd.R_drewN | apply Kd.R_drew)); exact HO_9.out) hb); have n2_ := Aside0.mk (Kd.V_below (Kd.V_elderB (by (with_reducible repeat (first | apply Kd.V_alloc | apply Kd.V_drewN | apply Kd.V_drew)); exact HO_24.out) gb235 (Nat.le_of_eq hg.symm)) hb); have n3_ := Aside0.mk (Kd.V_below (Kd.V_elderB (by (with_reducible repeat (first | apply Kd.V_alloc | apply Kd.V_drewN | apply Kd.V_drew)); exact HO_30.out) gb235 (Nat.le_of_eq hg.symm)) hb); have n4_ := Aside0.mk (blk_below (g := gb233) (o := .cells #[.int .i64 ((rd_T35 l1 x26_1).f0), .int .i64 ((rd_T35 l1 x26_1).f1)] 35 (0, 0)) (by (with_reducible repeat (first | refine blk_drewN ?_ _ | refine blk_drew ?_ | refine blk_alloc ?_ _)); exact BK233.out) hb); have n5_ := Aside0.mk (below_step (by repeat (first | (with_reducible first | exact HB.out | apply below_alloc | apply pw_below_drewN | apply below_drew1 | refine below_set ?_ GE233.out) | exact HB.out)) hb); have n6_ := Aside0.mk (hbox); have n7_ := Aside0.mk ((by rw [hg]; exact (below_size (by repeat (first | (with_reducible first | exact HB.out | apply below_alloc | apply pw_below_drewN | apply below_drew1 | refine below_set ?_ GE233.out) | exact HB.out))) : w.heap.size ≤ gb235)); have n8_ := Aside0.mk ((by rw [hg]; exact (below_size (by repeat (first | (with_reducible first | exact HB.out | apply below_alloc | apply pw_below_drewN | apply below_drew1 | refine below_set ?_ GE233.out) | exact HB.out))) : w.heap.size ≤ gb235)); have n9_ := Aside0.mk ((by rw [hg]; exact Nat.ne_of_lt (blk_lt (g := gb233) (o := .cells #[.int .i64 ((rd_T35 l1 x26_1).f0), .int .i64 ((rd_T35 l1 x26_1).f1)] 35 (0, 0)) (by (with_reducible repeat (first | refine blk_drewN ?_ _ | refine blk_drew ?_ | refine blk_alloc ?_ _)); exact BK233.out)) : gb233 ≠ gb235)); have n10_ := Aside0.mk ((by rw [hg]; exact Nat.ne_of_gt (blk_lt (g := gb233) (o := .cells #[.int .i64 ((rd_T35 l1 x26_1).f0), .int .i64 ((rd_T35 l1 x26_1).f1)] 35 (0, 0)) (by (with_reducible repeat (first | refine blk_drewN ?_ _ | refine blk_drew ?_ | refine blk_alloc ?_ _)); exact BK233.out)) : gb235 ≠ gb233)); clear HO_2; clear HO_9; clear HO_24; clear HO_30; clear BK233; clear HB; have HO_2 := n0_; have HO_9 := n1_; have HO_24 := n2_; have HO_30 := n3_; have BK233 := n4_; have HB := n5_; have BK235 := n6_; have GW235 := n7_; have GE235 := n8_; have NB233_235 := n9_; have NB235_233 := n10_; clear n0_ n1_ n2_ n3_ n4_ n5_ n6_ n7_ n8_ n9_ n10_; clear hb hbox hg; have hnb24 := NB235_233.out; have hnc24 := NB233_235.out; have hcz25_0 : w23.cell? ⟨gb235, 0, none⟩ = some (.int .i64 0) := (blk_cell BK235.out 0).trans rfl; have hcz25_1 : w23.cell? ⟨gb235, 1, none⟩ = some (.int .i64 0) := (blk_cell BK235.out 1).trans rfl; have hfz25_0 := blk_frozen BK235.out 0; have hfz25_1 := blk_frozen BK235.out 1) | ((with_reducible refine gate_store (t := 35) (p := 13) rfl ?_); refine store_event (t := 35) (p := 13) (v := ?vo_w26) (w1 := ((w23.setCell ⟨gb235, 0, none⟩ (.int .i64 ((rd_T35 l2 x32_2).f0))).setCell ⟨gb235, 1, none⟩ (.int .i64 ((rd_T35 l2 x32_2).f1)))) ?hg ?ho ?hn ?hr ?_; (case ho => rfl); (case hg => rfl); (case hn => rfl); (case hr => first | (go_simp; done) | (go_simp; rfl)); intro w26 hw; have n0_ : Aside0 (Kd.V k35 35 w26 w.heap.size (fun k_ => ((P1_ k_ ∨ P2_ k_) ∨ w.heap.size ≤ k_) ∧ some k_ ≠ (v227 : Value).ownBlock ∧ k_ ≠ gb233 ∧ k_ ≠ gb235) (.slice (some ad234) l2.length c2) l2) := ⟨(by rw [hw]; exact (by (with_reducible repeat (first | apply Kd.V_alloc | apply Kd.V_drewN | apply Kd.V_drew)); exact Kd.V_mono (Kd.V_far (p := ⟨gb235, 1, none⟩) (Kd.V_far (p := ⟨gb235, 0, none⟩) (Kd.V_mono HO_2.out (fun k_ hk => (⟨hk, hk.2⟩ : _ ∧ k_ ≠ gb235))) (fun _ hk => hk.2) (.int .i64 ((rd_T35 l2 x32_2).f0))) (fun _ hk => hk.2) (.int .i64 ((rd_T35 l2 x32_2).f1))) (fun _ hk => ⟨hk.1.1.1, ⟨hk.1.1.2.1, ⟨hk.1.1.2.2, hk.1.2⟩⟩⟩)))⟩; have n1_ : Aside0 (Kd.R Kd.bool 4 w26 w.heap.size (fun k_ => (w.heap.size ≤ k_)) v227 x9_2) := ⟨(by rw [hw]; exact (by (with_reducible repeat (first | apply Kd.R_alloc | apply Kd.R_drewN | apply Kd.R_drew)); exact Kd.R_mono (Kd.R_far (p := ⟨gb235, 1, none⟩) (Kd.R_far (p := ⟨gb235, 0, none⟩) (Kd.R_types HO_9.out BK235.out (by decide)) (fun _ hk => hk.2) (.int .i64 ((rd_T35 l2 x32_2).f0))) (fun _ hk => hk.2) (.int .i64 ((rd_T35 l2 x32_2).f1))) (fun _ hk => hk.1)))⟩; have n2_ : Aside0 (Kd.V k35 35 w26 w.heap.size (fun k_ => ((P1_ k_ ∨ P2_ k_) ∨ w.heap.size ≤ k_) ∧ some k_ ≠ (v227 : Value).ownBlock ∧ k_ ≠ gb233 ∧ k_ ≠ gb235) (.slice (some ad232) l1.length c1) l1) := ⟨(by rw [hw]; exact (by (with_reducible repeat (first | apply Kd.V_alloc | apply Kd.V_drewN | apply Kd.V_drew)); exact Kd.V_mono (Kd.V_far (p := ⟨gb235, 1, none⟩) (Kd.V_far (p := ⟨gb235, 0, none⟩) (Kd.V_mono HO_24.out (fun k_ hk => (⟨hk, hk.2⟩ : _ ∧ k_ ≠ gb235))) (fun _ hk => hk.2) (.int .i64 ((rd_T35 l2 x32_2).f0))) (fun _ hk => hk.2) (.int .i64 ((rd_T35 l2 x32_2).f1))) (fun _ hk => ⟨hk.1.1.1, ⟨hk.1.1.2.1, ⟨hk.1.1.2.2, hk.1.2⟩⟩⟩)))⟩; have n3_ : Aside0 (Kd.V k35 35 w26 w.heap.size (fun k_ => ((P1_ k_ ∨ P2_ k_) ∨ w.heap.size ≤ k_) ∧ some k_ ≠ (v227 : Value).ownBlock ∧ k_ ≠ gb233 ∧ k_ ≠ gb235) (.slice (some ad234) l2.length c2) l2) := ⟨(by rw [hw]; exact (by (with_reducible repeat (first | apply Kd.V_alloc | apply Kd.V_drewN | apply Kd.V_drew)); exact Kd.V_mono (Kd.V_far (p := ⟨gb235, 1, none⟩) (Kd.V_far (p := ⟨gb235, 0, none⟩) (Kd.V_mono HO_30.out (fun k_ hk => (⟨hk, hk.2⟩ : _ ∧ k_ ≠ gb235))) (fun _ hk => hk.2) (.int .i64 ((rd_T35 l2 x32_2).f0))) (fun _ hk => hk.2) (.int .i64 ((rd_T35 l2 x32_2).f1))) (fun _ hk => ⟨hk.1.1.1, ⟨hk.1.1.2.1, ⟨hk.1.1.2.2, hk.1.2⟩⟩⟩)))⟩; have n4_ : Aside0 (w26.heap[gb233]? = some (.cells #[.int .i64 ((rd_T35 l1 x26_1).f0), .int .i64 ((rd_T35 l1 x26_1).f1)] 35 (0, 0))) := ⟨(by rw [hw]; exact (by (with_reducible repeat (first | refine blk_drewN ?_ _ | refine blk_drew ?_ | refine blk_alloc ?_ _)); refine blk_far ?_ NB233_235.out _; (with_reducible repeat (first | refine blk_drewN ?_ _ | refine blk_drew ?_ | refine blk_alloc ?_ _)); refine blk_far ?_ NB233_235.out _; (with_reducible repeat (first | refine blk_drewN ?_ _ | refine blk_drew ?_ | refine blk_alloc ?_ _)); exact BK233.out))⟩; have n5_ : Aside0 (w26.heap[gb235]? = some (.cells #[.int .i64 ((rd_T35 l2 x32_2).f0), .int .i64 ((rd_T35 l2 x32_2).f1)] 35 (0, 0))) := ⟨(by rw [hw]; exact (by (with_reducible repeat (first | refine blk_drewN ?_ _ | refine blk_drew ?_ | refine blk_alloc ?_ _)); refine blk_put (cs := #[.int .i64 ((rd_T35 l2 x32_2).f0), .int .i64 0]) ?_ 1 _ rfl; (with_reducible repeat (first | refine blk_drewN ?_ _ | refine blk_drew ?_ | refine blk_alloc ?_ _)); refine blk_put (cs := #[.int .i64 0, .int .i64 0]) ?_ 0 _ rfl; (with_reducible repeat (first | refine blk_drewN ?_ _ | refine blk_drew ?_ | refine blk_alloc ?_ _)); exact BK235.out))⟩; have n6_ : Aside0 (Below w.heap.size w w26) := ⟨(by rw [hw]; exact (by repeat (first | (with_reducible first | exact HB.out | apply below_alloc | apply pw_below_drewN | apply below_drew1 | refine below_set ?_ GE233.out | refine below_set ?_ GE235.out) | exact HB.out)))⟩; clear hw; clear HO_2; clear HO_9; clear HO_24; clear HO_30; clear BK233; clear BK235; clear HB; have HO_2 := n0_; have HO_9 := n1_; have HO_24 := n2_; have HO_30 := n3_; have BK233 := n4_; have BK235 := n5_; have HB := n6_; clear n0_ n1_ n2_ n3_ n4_ n5_ n6_; have hcz27_0 : w26.cell? ⟨gb233, 0, none⟩ = some (.int .i64 ((rd_T35 l1 x26_1).f0)) := (blk_cell BK233.out 0).trans rfl; have hcz27_1 : w26.cell? ⟨gb233, 1, none⟩ = some (.int .i64 ((rd_T35 l1 x26_1).f1)) := (blk_cell BK233.out 1).trans rfl; have hfz27_0 := blk_frozen BK233.out 0; have hfz27_1 := blk_frozen BK233.out 1; have hcz28_0 : w26.cell? ⟨gb235, 0, none⟩ = some (.int .i64 ((rd_T35 l2 x32_2).f0)) := (blk_cell BK235.out 0).trans rfl; have hcz28_1 : w26.cell? ⟨gb235, 1, none⟩ = some (.int .i64 ((rd_T35 l2 x32_2).f1)) := (blk_cell BK235.out 1).trans rfl; have hfz28_0 := blk_frozen BK235.out 0; have hfz28_1 := blk_frozen BK235.out 1; obtain ⟨Ao29, co29, eo29⟩ := Kd.R_slice HO_9.out; subst eo29) | ((with_reducible refine gate_callee (f := 46) rfl ?_); refine goesL_ (some 54) rfl rfl Try.func46 (by kernel_rfl) rfl #[.slice Ao29 x9_2.length co29, .int .i64 (wrap64 (((rd_T35 l1 x26_1).f0) + ((rd_T35 l2 x32_2).f0))), .int .i64 (wrap64 ((wrap64 ((wrap64 ((wrap64 (((rd_T35 l1 x26_1).f1) - ((rd_T35 l1 x26_1).f0))) + ((rd_T35 l2 x32_2).f1))) - ((rd_T35 l2 x32_2).f0))) - 1))] rfl (by (try simp only [List.map_toArray, List.map_cons, List.map_nil]); first | done | rfl | (simp only [List.length_drop, List.length_take]; rfl)) ?_; (with_reducible refine (residue_marks_put.calls k2 (fun k_ => some k_ = (.slice Ao29 x9_2.length co29 : Value).ownBlock) (.slice Ao29 x9_2.length co29) x9_2 (wrap64 (((rd_T35 l1 x26_1).f0) + ((rd_T35 l2 x32_2).f0))) (wrap64 ((wrap64 ((wrap64 ((wrap64 (((rd_T35 l1 x26_1).f1) - ((rd_T35 l1 x26_1).f0))) + ((rd_T35 l2 x32_2).f1))) - ((rd_T35 l2 x32_2).f0))) - 1)) t236 w _ ?side1 ?side2 A22.out).mono ?_); (case side1 => repeat (first | (with_reducible first | exact HB.out | apply below_alloc | apply pw_below_drewN | apply below_drew1 | refine below_set ?_ GE233.out | refine below_set ?_ GE235.out) | exact HB.out)); (case side2 => exact Kd.R_tight rfl HO_9.out); rintro e w30 ⟨rfl, hy0, hb, hkp⟩; refine ⟨_, rfl, ?_⟩; have n0_ := Aside0.mk (Kd.V_mono (ok' := fun k_ => ((P1_ k_ ∨ P2_ k_) ∨ w.heap.size ≤ k_) ∧ some k_ ≠ (.slice Ao29 x9_2.length co29 : Value).ownBlock ∧ k_ ≠ gb233 ∧ k_ ≠ gb235) (Kd.V_keptB (HO_2.out) hkp (fun k_ hk_ hs_ => (hk_.2.1) hs_)) (fun k_ hk_ => ⟨hk_.1.1, hk_.1.2.1, hk_.1.2.2.1, hk_.1.2.2.2⟩)); have n1_ := Aside0.mk (Kd.R_reok rfl hy0 (fun k_ e_ => HO_9.out.1 k_ e_)); have n2_ := Aside0.mk (Kd.V_mono (ok' := fun k_ => ((P1_ k_ ∨ P2_ k_) ∨ w.heap.size ≤ k_) ∧ some k_ ≠ (.slice Ao29 x9_2.length co29 : Value).ownBlock ∧ k_ ≠ gb233 ∧ k_ ≠ gb235) (Kd.V_keptB (HO_24.out) hkp (fun k_ hk_ hs_ => (hk_.2.1) hs_)) (fun k_ hk_ => ⟨hk_.1.1, hk_.1.2.1, hk_.1.2.2.1, hk_.1.2.2.2⟩)); have n3_ := Aside0.mk (Kd.V_mono (ok' := fun k_ => ((P1_ k_ ∨ P2_ k_) ∨ w.heap.size ≤ k_) ∧ some k_ ≠ (.slice Ao29 x9_2.length co29 : Value).ownBlock ∧ k_ ≠ gb233 ∧ k_ ≠ gb235) (Kd.V_keptB (HO_30.out) hkp (fun k_ hk_ hs_ => (hk_.2.1) hs_)) (fun k_ hk_ => ⟨hk_.1.1, hk_.1.2.1, hk_.1.2.2.1, hk_.1.2.2.2⟩)); have n4_ := Aside0.mk (blk_kept (by (with_reducible repeat (first | refine blk_drewN ?_ _ | refine blk_drew ?_ | refine blk_alloc ?_ _)); exact BK233.out) hkp (fun hs_ => (fun e_ => (Kd.R_ne HO_9.out BK233.out (by decide)) e_) hs_)); have n5_ := Aside0.mk (blk_kept (by (with_reducible repeat (first | refine blk_drewN ?_ _ | refine blk_drew ?_ | refine blk_alloc ?_ _)); exact BK235.out) hkp (fun hs_ => (fun e_ => (Kd.R_ne HO_9.out BK235.out (by decide)) e_) hs_)); have n6_ := Aside0.mk (hb); clear HO_2; clear HO_9; clear HO_24; clear HO_30; clear BK233; clear BK235; clear HB; have HO_2 := n0_; have HO_9 := n1_; have HO_24 := n2_; have HO_30 := n3_; have BK233 := n4_; have BK235 := n5_; have HB := n6_; clear n0_ n1_ n2_ n3_ n4_ n5_ n6_; (try clear hb); (try clear hkp); (try clear hy0)))
                            go_roundg k2
                            case measure => have := HK1.out; have := HK2.out; omega
                            case rel => exact ⟨(t236), (wrap64 (x32_2 + 1)), (by first | rfl | (simp; done) | (simp [*]; done)), H', ⟨by have := HK1.out; have := HK2.out; omega⟩, ⟨by (with_reducible repeat (first | apply Kd.V_alloc | apply Kd.V_drewN | apply Kd.V_drew)); exact Kd.V_mono HO_2.out (fun _ hk => ⟨hk.1, ⟨hk.2.1, hk.2.2.1⟩⟩)⟩, ⟨by (with_reducible repeat (first | apply Kd.R_alloc | apply Kd.R_drewN | apply Kd.R_drew)); exact HO_9.out⟩, ⟨by (with_reducible repeat (first | apply Kd.V_alloc | apply Kd.V_drewN | apply Kd.V_drew)); exact Kd.V_mono HO_24.out (fun _ hk => ⟨hk.1, ⟨hk.2.1, hk.2.2.1⟩⟩)⟩, ⟨by (with_reducible repeat (first | apply Kd.V_alloc | apply Kd.V_drewN | apply Kd.V_drew)); exact Kd.V_mono HO_30.out (fun _ hk => ⟨hk.1, ⟨hk.2.1, hk.2.2.1⟩⟩)⟩, ⟨by (with_reducible repeat (first | refine blk_drewN ?_ _ | refine blk_drew ?_ | refine blk_alloc ?_ _)); exact BK233.out⟩, ⟨by repeat (first | (with_reducible first | exact HB.out | apply below_alloc | apply pw_below_drewN | apply below_drew1 | refine below_set ?_ GE233.out | refine below_set ?_ GE235.out) | exact HB.out)⟩⟩
                          · rw [if_neg c21] at H
                            exact absurd H (by simp)
                        · rw [if_neg c20] at H
                          exact absurd H (by simp)
                      · rw [if_neg c19] at H
                        have c19b0 : decide (x32_2 < (l2.length : Int)) = false := decide_eq_false c19
                        clear c19
                        have H' := Aside0.mk H
                        clear H
                        go_wp2
                        go_roundg k2
                        case measure => have := HK1.out; have := HK2.out; omega
                        case rel => exact ⟨(x9_2), (wrap64 (x26_1 + 1)), (by first | rfl | (simp; done) | (simp [*]; done)), H', ⟨by have := HK1.out; have := HK2.out; omega⟩, ⟨by (with_reducible repeat (first | apply Kd.V_alloc | apply Kd.V_drewN | apply Kd.V_drew)); exact Kd.V_mono HO_2.out (fun _ hk => ⟨hk.1, hk.2.1⟩)⟩, ⟨by (with_reducible repeat (first | apply Kd.R_alloc | apply Kd.R_drewN | apply Kd.R_drew)); exact HO_9.out⟩, ⟨by (with_reducible repeat (first | apply Kd.V_alloc | apply Kd.V_drewN | apply Kd.V_drew)); exact Kd.V_mono HO_24.out (fun _ hk => ⟨hk.1, hk.2.1⟩)⟩, ⟨by repeat (first | (with_reducible first | exact HB.out | apply below_alloc | apply pw_below_drewN | apply below_drew1 | refine below_set ?_ GE233.out) | exact HB.out)⟩⟩
                · rw [if_neg c16] at H
                  exact absurd H (by simp)
              · rw [if_neg c15] at H
                exact absurd H (by simp)
            · rw [if_neg c14] at H
              have c14b0 : decide (x26_1 < (l1.length : Int)) = false := decide_eq_false c14
              clear c14
              replace H := Option.bind_eq_some_iff.mp H
              obtain ⟨t229, A310, H⟩ := H
              replace H : (some (t229, 0)) = some (r1, r2) := H
              have A31 := Aside0.mk A310
              clear A310
              simp only [Option.some.injEq, Prod.mk.injEq] at H
              obtain ⟨rfl, rfl⟩ := H
              obtain ⟨Ao32, co32, eo32⟩ := Kd.R_slice HO_9.out
              subst eo32
              go_wp2_with (first | ((with_reducible refine gate_callee (f := 47) rfl ?_); refine goesL_ (some 58) rfl rfl Try.func47 (by kernel_rfl) rfl #[.slice Ao32 x9_1.length co32] rfl (by (try simp only [List.map_toArray, List.map_cons, List.map_nil]); first | done | rfl | (simp only [List.length_drop, List.length_take]; rfl)) ?_; (with_reducible refine (residue_marks_list.calls k1 _ _ x9_1 t229 _ ?side1 ?side2 A31.out).mono ?_); (case side1 => repeat (first | exact (Kd.R_reads' HO_9.out).2.2 | (with_reducible refine Kd.C_alloc ?_ _) | (with_reducible refine Kd.C_drewN ?_ _) | (with_reducible refine Kd.C_drew ?_))); (case side2 => exact (Kd.R_reads' HO_9.out).2.1); rintro e w33 ⟨v230, rfl, ho0, hb⟩; refine ⟨_, rfl, ?_⟩; have n0_ := Aside0.mk (Kd.V_elder' (by (with_reducible repeat (first | apply Kd.V_alloc | apply Kd.V_drewN | apply Kd.V_drew)); exact HO_2.out) (Kd.R_base ho0) hb); have n1_ := Aside0.mk (Kd.R_below (by (with_reducible repeat (first | apply Kd.R_alloc | apply Kd.R_drewN | apply Kd.R_drew)); exact HO_9.out) hb); have n2_ := Aside0.mk (Kd.V_elder' (by (with_reducible repeat (first | apply Kd.V_alloc | apply Kd.V_drewN | apply Kd.V_drew)); exact HO_24.out) (Kd.R_base ho0) hb); have n3_ := Aside0.mk (Kd.R_lower (Kd.R_newM (M := fun k_ => (w.heap.size ≤ k_)) ho0 (below_size (by repeat (first | (with_reducible first | exact HB.out | apply below_alloc | apply pw_below_drewN | apply below_drew1) | exact HB.out))) (fun k_ h_ => h_)) (below_size (by repeat (first | (with_reducible first | exact HB.out | apply below_alloc | apply pw_below_drewN | apply below_drew1) | exact HB.out)))); have n4_ := Aside0.mk (below_step (by repeat (first | (with_reducible first | exact HB.out | apply below_alloc | apply pw_below_drewN | apply below_drew1) | exact HB.out)) hb); clear HO_2; clear HO_9; clear HO_24; clear HB; have HO_2 := n0_; have HO_9 := n1_; have HO_24 := n2_; have HO231 := n3_; have HB := n4_; clear n0_ n1_ n2_ n3_ n4_; (try clear hb); (try clear hb2); (try clear hk); (try clear hi); (try clear ho0)))
              go_ret2
              exact ⟨_, by first | rfl | (simp [errW_none, errW_some] <;> rfl) | (simp [*, errW_none, errW_some] <;> rfl), by (with_reducible repeat (first | apply Kd.R_alloc | apply Kd.R_drewN | apply Kd.R_drew)); exact Kd.R_mono HO231.out (fun _ hk => hk.1), by repeat (first | (with_reducible first | exact HB.out | apply below_alloc | apply pw_below_drewN | apply below_drew1) | exact HB.out)⟩
      · rw [if_neg c7] at H
        exact absurd H (by simp)
    · rw [if_neg c6] at H
      exact absurd H (by simp)
  · rw [if_neg c5] at H
    have c5b0 : (t225 == 0) = false := beq_eq_false_iff_ne.mpr c5
    have c5b1 : (t225 != 0) = true := bne_iff_ne.mpr c5
    simp only [Option.some.injEq, Prod.mk.injEq] at H
    obtain ⟨rfl, rfl⟩ := H
    go_enter Try.func26, Try.ntmps26
    go_wp2_with (first | ((with_reducible refine gate_dst (N := 17) rfl ?_); refine Kd.N_lit (Kd.slice 35 k35) _ 22 ?hg (N' := 17) ?hd (xs := ([l1, l2] : List (List (S35)))) (inner := [.slice A1 l1.length c1, .slice A2 l2.length c2]) (ok := (fun k_ => ((P1_ k_ ∨ P2_ k_) ∨ w.heap.size ≤ k_))) (okp := (fun k_ => ((P1_ k_ ∨ P2_ k_) ∨ w.heap.size ≤ k_))) ?hr ?hp (fun _ hk => hk) ((show ∀ k_, w.heap.size ≤ k_ → (fun k_ => ((P1_ k_ ∨ P2_ k_) ∨ w.heap.size ≤ k_)) k_ from fun k_ hk => (.inr (Nat.le_trans (below_size (by repeat (first | (with_reducible first | exact HB.out | apply below_alloc | apply pw_below_drewN | apply below_drew1) | exact HB.out))) hk))) _ (Nat.le_refl _)) (Below.refl _ _) (Nat.le_refl _) (by simp) ?_; (case hd => rfl); (case hg => rfl); (case hr => first | (go_simp; done) | (go_simp; rfl)); (case hp => exact (Reps.one (show Kd.FK (Kd.slice 35 k35) _ _ l1 [.slice A1 l1.length c1] from (Kd.FK_slice_mk (Kd.V_reads' (Kd.V_mono (ok' := (fun k_ => ((P1_ k_ ∨ P2_ k_) ∨ w.heap.size ≤ k_))) (HO1.out) (fun k_ hk => hk))).2.1 (Kd.V_F (Kd.V_mono (ok' := (fun k_ => ((P1_ k_ ∨ P2_ k_) ∨ w.heap.size ≤ k_))) (HO1.out) (fun k_ hk => hk))))) (Reps.one (show Kd.FK (Kd.slice 35 k35) _ _ l2 [.slice A2 l2.length c2] from (Kd.FK_slice_mk (Kd.V_reads' (Kd.V_mono (ok' := (fun k_ => ((P1_ k_ ∨ P2_ k_) ∨ w.heap.size ≤ k_))) (HO2.out) (fun k_ hk => hk))).2.1 (Kd.V_F (Kd.V_mono (ok' := (fun k_ => ((P1_ k_ ∨ P2_ k_) ∨ w.heap.size ≤ k_))) (HO2.out) (fun k_ hk => hk))))) (Reps.none _ _)))); intro v223 w34 ho35 hb hg_ hnew_; clear hg_ hnew_; (first | rw [← Ny222.out] at ho35 | (simp only [Int.reduceToNat] at ho35; rw [← Ny222.out] at ho35)); have n0_ := Aside0.mk (Kd.V_elder' (by (with_reducible repeat (first | apply Kd.V_alloc | apply Kd.V_drewN | apply Kd.V_drew)); exact HO1.out) (Kd.N_base ho35) hb); have n1_ := Aside0.mk (Kd.V_elder' (by (with_reducible repeat (first | apply Kd.V_alloc | apply Kd.V_drewN | apply Kd.V_drew)); exact HO2.out) (Kd.N_base ho35) hb); have n2_ := Aside0.mk (Kd.N_lower ho35 (below_size (by repeat (first | (with_reducible first | exact HB.out | apply below_alloc | apply pw_below_drewN | apply below_drew1) | exact HB.out)))); have n3_ := Aside0.mk (below_step (by repeat (first | (with_reducible first | exact HB.out | apply below_alloc | apply pw_below_drewN | apply below_drew1) | exact HB.out)) hb); clear HO1; clear HO2; clear HB; have HO1 := n0_; have HO2 := n1_; have HO224 := n2_; have HB := n3_; clear n0_ n1_ n2_ n3_; clear hb ho35; obtain ⟨Ao36, co36, eo36⟩ := Kd.N_slice HO224.out; subst eo36) | ((with_reducible refine gate_callee (f := 45) rfl ?_); refine goesL_ (some 18) rfl rfl Try.func45 (by kernel_rfl) rfl #[.int .i64 a0, .slice Ao36 y222.length co36] rfl (by (try simp only [List.map_toArray, List.map_cons, List.map_nil]); first | done | rfl | (simp only [List.length_drop, List.length_take]; rfl)) ?_; (with_reducible refine (residue_check.calls k a0 _ _ y222 t225 _ ?side1 ?side2 A4.out).mono ?_); (case side1 => repeat (first | exact (Kd.N_reads' HO224.out).2.2 | (with_reducible refine Kd.C_alloc ?_ _) | (with_reducible refine Kd.C_drewN ?_ _) | (with_reducible refine Kd.C_drew ?_))); (case side2 => exact (Kd.N_reads' HO224.out).2.1); rintro e w37 ⟨rfl, hb⟩; refine ⟨_, rfl, ?_⟩; have n0_ := Aside0.mk (Kd.V_below (by (with_reducible repeat (first | apply Kd.V_alloc | apply Kd.V_drewN | apply Kd.V_drew)); exact HO1.out) hb); have n1_ := Aside0.mk (Kd.V_below (by (with_reducible repeat (first | apply Kd.V_alloc | apply Kd.V_drewN | apply Kd.V_drew)); exact HO2.out) hb); have n2_ := Aside0.mk (Kd.N_below (by (with_reducible repeat (first | apply Kd.N_alloc | apply Kd.N_drewN | apply Kd.N_drew)); exact HO224.out) hb); have n3_ := Aside0.mk (below_step (by repeat (first | (with_reducible first | exact HB.out | apply below_alloc | apply pw_below_drewN | apply below_drew1) | exact HB.out)) hb); clear HO1; clear HO2; clear HO224; clear HB; have HO1 := n0_; have HO2 := n1_; have HO224 := n2_; have HB := n3_; clear n0_ n1_ n2_ n3_; (try clear hb); (try clear hb2); (try clear hk); (try clear hi)))
    go_ret2
    exact ⟨_, by first | rfl | (simp [errW_none, errW_some] <;> rfl) | (simp [*, errW_none, errW_some] <;> rfl), by first | exact Kd.R_nil _ _ _ _ _ | exact Kd.N_nil _ _ _ _ _ | exact Kd.V_nil _ _ _ _ _ | exact Kd.Q_nil _ _ _ _ _ | exact Kd.S_nil _ _ _ _ _, by repeat (first | (with_reducible first | exact HB.out | apply below_alloc | apply pw_below_drewN | apply below_drew1) | exact HB.out)⟩

/-! ### residue_Complement: function 34 -/
def residue_Complement.l0 : Nat → Int → List (S35) → Int → List (S35) → Int → Int → Option ((List (S35)) × Int)
  | 0, _, _, _, _, _, _ => none
  | k + 1, x0, x7, x8, x18, x19, x20 => if x20 < x19 then (if 0 ≤ x20 then (if x20 < (x18.length : Int) then (if x8 < ((rd_T35 x18 x20).f0) then (if x7.length < 8796093022208 then (residue_Complement.l0 k x0 (x7 ++ [(⟨x8, (rd_T35 x18 x20).f0⟩ : S35)]) ((rd_T35 x18 x20).f1) x18 x19 (wrap64 (x20 + 1))) else (none)) else (residue_Complement.l0 k x0 x7 ((rd_T35 x18 x20).f1) x18 x19 (wrap64 (x20 + 1)))) else (none)) else (none)) else (if x8 < x0 then (if x7.length < 8796093022208 then (some ((x7 ++ [(⟨x8, x0⟩ : S35)]), 0)) else (none)) else (some (x7, 0)))
def residue_Complement.f (k : Nat) (a0 : Int) (l1 : List (S35)) : Option ((List (S35)) × Int) := (residue_check.f k a0 (([l1] : List (List (S35))))).bind fun t240 => (if t240 = 0 then (residue_Complement.l0 k a0 ([] : List (S35)) 0 l1 (l1.length : Int) 0) else (some (([] : List (S35)), t240)))
theorem residue_Complement.mono_l : ∀ k, (∀ y0 y1 y2 y3 y4 y5, LeO (residue_Complement.l0 k y0 y1 y2 y3 y4 y5) (residue_Complement.l0 (k + 1) y0 y1 y2 y3 y4 y5))
  | 0 => fun _ _ _ _ _ _ r h => by simp [residue_Complement.l0] at h
  | k + 1 => by
    have ih0 := residue_Complement.mono_l k
    · intro y0 y1 y2 y3 y4 y5
      unfold residue_Complement.l0
      repeat' first
      | (with_reducible exact ih0 _ _ _ _ _ _)
      | (with_reducible exact residue_check.mono _ _ _)
      | (with_reducible exact LeO.refl _)
      | (with_reducible exact LeO.none _)
      | (with_reducible refine LeO.ite ?_ ?_)
      | (with_reducible refine LeO.bind ?_ (fun _ => ?_))
      | exact ih0 _ _ _ _ _ _
      | exact residue_check.mono _ _ _
      | exact LeO.none _
      | refine LeO.ite ?_ ?_
      | refine LeO.bind ?_ (fun _ => ?_)
theorem residue_Complement.mono : ∀ a0 a1 k, LeO (residue_Complement.f k a0 a1) (residue_Complement.f (k + 1) a0 a1) := by
  intro a0 a1 k
  have ih0 := residue_Complement.mono_l k
  unfold residue_Complement.f
  repeat' first
      | (with_reducible exact ih0 _ _ _ _ _ _)
      | (with_reducible exact residue_check.mono _ _ _)
      | (with_reducible exact LeO.refl _)
      | (with_reducible exact LeO.none _)
      | (with_reducible refine LeO.ite ?_ ?_)
      | (with_reducible refine LeO.bind ?_ (fun _ => ?_))
      | exact ih0 _ _ _ _ _ _
      | exact residue_check.mono _ _ _
      | exact LeO.none _
      | refine LeO.ite ?_ ?_
      | refine LeO.bind ?_ (fun _ => ?_)
set_option maxHeartbeats 8000000 in
set_option maxRecDepth 100000 in
theorem residue_Complement.calls (k : Nat) (a0 : Int) (P1_ : Nat → Prop) (A1 : Option Addr) (c1 : Nat) (l1 : List (S35)) (r1 : List (S35)) (r2 : Int) (w : World) (hs1 : Kd.V k35 35 w w.heap.size (fun k_ => P1_ k_) (.slice A1 l1.length c1) l1) (h : residue_Complement.f k a0 l1 = some (r1, r2)) :
    Calls Try.prog 34 #[.int .i64 a0, .slice A1 l1.length c1] w fun e w' => ∃ v0_ : Value, e = .returned (.tuple #[v0_, .int .i64 r2]) ∧ Kd.R k35 35 w' w.heap.size (fun k_ => (w.heap.size ≤ k_)) v0_ r1 ∧ Below w.heap.size w w' := by
  have hu35 := Try.underlying35
  have HO1 := Aside0.mk (show Kd.V k35 35 w w.heap.size (fun k_ => (P1_ k_ ∨ w.heap.size ≤ k_)) (.slice A1 l1.length c1) l1 from Kd.V_mono hs1 (fun k_ hk => .inl hk))
  have HB := Aside0.mk (Below.refl w.heap.size w)
  have H : ((residue_check.f k a0 (([l1] : List (List (S35))))).bind fun t240 => (if t240 = 0 then (residue_Complement.l0 k a0 ([] : List (S35)) 0 l1 (l1.length : Int) 0) else (some (([] : List (S35)), t240)))) = some (r1, r2) := h
  clear h
  obtain ⟨y237, hy237⟩ : ∃ y_ : List (List (S35)), y_ = (([l1] : List (List (S35)))) := ⟨_, rfl⟩
  replace H : ((residue_check.f k a0 y237).bind fun t240 => (if t240 = 0 then (residue_Complement.l0 k a0 ([] : List (S35)) 0 l1 (l1.length : Int) 0) else (some (([] : List (S35)), t240)))) = some (r1, r2) := by first | (rw [hy237]; with_reducible exact H) | (have H2_ := (Option.bind_some _ _).symm.trans H; rw [hy237]; with_reducible exact H2_) | (have H2_ := (Option.bind_some _ _).symm.trans H; with_reducible exact H2_) | with_reducible exact H | (rw [hy237]; exact H) | exact H
  have Ny237 := Aside0.mk hy237
  clear hy237
  replace H := Option.bind_eq_some_iff.mp H
  obtain ⟨t240, A30, H⟩ := H
  replace H : (if t240 = 0 then (residue_Complement.l0 k a0 ([] : List (S35)) 0 l1 (l1.length : Int) 0) else (some (([] : List (S35)), t240))) = some (r1, r2) := H
  have A3 := Aside0.mk A30
  clear A30
  by_cases c4 : t240 = 0
  · rw [if_pos c4] at H
    have c4b0 : (t240 == 0) = true := beq_iff_eq.mpr c4
    have c4b1 : (t240 != 0) = false := bne_eq_false_iff_eq.mpr c4
    clear c4
    have H' := Aside0.mk H
    clear H
    go_enter Try.func34, Try.ntmps34
    go_wp2_with (first | ((with_reducible refine gate_dst (N := 13) rfl ?_); refine Kd.N_lit (Kd.slice 35 k35) _ 22 ?hg (N' := 13) ?hd (xs := ([l1] : List (List (S35)))) (inner := [.slice A1 l1.length c1]) (ok := (fun k_ => (P1_ k_ ∨ w.heap.size ≤ k_))) (okp := (fun k_ => (P1_ k_ ∨ w.heap.size ≤ k_))) ?hr ?hp (fun _ hk => hk) ((show ∀ k_, w.heap.size ≤ k_ → (fun k_ => (P1_ k_ ∨ w.heap.size ≤ k_)) k_ from fun k_ hk => (.inr (Nat.le_trans (below_size (by repeat (first | (with_reducible first | exact HB.out | apply below_alloc | apply pw_below_drewN | apply below_drew1) | exact HB.out))) hk))) _ (Nat.le_refl _)) (Below.refl _ _) (Nat.le_refl _) (by simp) ?_; (case hd => rfl); (case hg => rfl); (case hr => first | (go_simp; done) | (go_simp; rfl)); (case hp => exact (Reps.one (show Kd.FK (Kd.slice 35 k35) _ _ l1 [.slice A1 l1.length c1] from (Kd.FK_slice_mk (Kd.V_reads' (Kd.V_mono (ok' := (fun k_ => (P1_ k_ ∨ w.heap.size ≤ k_))) (HO1.out) (fun k_ hk => hk))).2.1 (Kd.V_F (Kd.V_mono (ok' := (fun k_ => (P1_ k_ ∨ w.heap.size ≤ k_))) (HO1.out) (fun k_ hk => hk))))) (Reps.none _ _))); intro v238 w5 ho6 hb hg_ hnew_; clear hg_ hnew_; (first | rw [← Ny237.out] at ho6 | (simp only [Int.reduceToNat] at ho6; rw [← Ny237.out] at ho6)); have n0_ := Aside0.mk (Kd.V_elder' (by (with_reducible repeat (first | apply Kd.V_alloc | apply Kd.V_drewN | apply Kd.V_drew)); exact HO1.out) (Kd.N_base ho6) hb); have n1_ := Aside0.mk (Kd.N_lower ho6 (below_size (by repeat (first | (with_reducible first | exact HB.out | apply below_alloc | apply pw_below_drewN | apply below_drew1) | exact HB.out)))); have n2_ := Aside0.mk (below_step (by repeat (first | (with_reducible first | exact HB.out | apply below_alloc | apply pw_below_drewN | apply below_drew1) | exact HB.out)) hb); clear HO1; clear HB; have HO1 := n0_; have HO239 := n1_; have HB := n2_; clear n0_ n1_ n2_; clear hb ho6; obtain ⟨Ao7, co7, eo7⟩ := Kd.N_slice HO239.out; subst eo7) | ((with_reducible refine gate_callee (f := 45) rfl ?_); refine goesL_ (some 14) rfl rfl Try.func45 (by kernel_rfl) rfl #[.int .i64 a0, .slice Ao7 y237.length co7] rfl (by (try simp only [List.map_toArray, List.map_cons, List.map_nil]); first | done | rfl | (simp only [List.length_drop, List.length_take]; rfl)) ?_; (with_reducible refine (residue_check.calls k a0 _ _ y237 t240 _ ?side1 ?side2 A3.out).mono ?_); (case side1 => repeat (first | exact (Kd.N_reads' HO239.out).2.2 | (with_reducible refine Kd.C_alloc ?_ _) | (with_reducible refine Kd.C_drewN ?_ _) | (with_reducible refine Kd.C_drew ?_))); (case side2 => exact (Kd.N_reads' HO239.out).2.1); rintro e w8 ⟨rfl, hb⟩; refine ⟨_, rfl, ?_⟩; have n0_ := Aside0.mk (Kd.V_below (by (with_reducible repeat (first | apply Kd.V_alloc | apply Kd.V_drewN | apply Kd.V_drew)); exact HO1.out) hb); have n1_ := Aside0.mk (Kd.N_below (by (with_reducible repeat (first | apply Kd.N_alloc | apply Kd.N_drewN | apply Kd.N_drew)); exact HO239.out) hb); have n2_ := Aside0.mk (below_step (by repeat (first | (with_reducible first | exact HB.out | apply below_alloc | apply pw_below_drewN | apply below_drew1) | exact HB.out)) hb); clear HO1; clear HO239; clear HB; have HO1 := n0_; have HO239 := n1_; have HB := n2_; clear n0_ n1_ n2_; (try clear hb); (try clear hb2); (try clear hk); (try clear hi)))
    go_loopg [7, 8, 20] k (fun kq v7 v8 v20 w' => ∃ (x7_1 : List (S35)) (x8_1 : Int) (x20_1 : Int), v8 = .int .i64 x8_1 ∧ v20 = .int .i64 x20_1 ∧ Aside0 (residue_Complement.l0 kq a0 x7_1 x8_1 l1 (l1.length : Int) x20_1 = some (r1, r2)) ∧ Aside0 (kq ≤ k) ∧ Aside0 (Kd.R k35 35 w' w.heap.size (fun k_ => (w.heap.size ≤ k_)) v7 x7_1) ∧ Aside0 (Kd.V k35 35 w' w.heap.size (fun k_ => (P1_ k_ ∨ w.heap.size ≤ k_) ∧ some k_ ≠ (v7 : Value).ownBlock) (.slice A1 l1.length c1) l1) ∧ Aside0 (Below w.heap.size w w'))
    case atStart => exact ⟨(([] : List (S35))), (0), (0), (by first | rfl | (simp; done) | (simp [*]; done)), (by first | rfl | (simp; done) | (simp [*]; done)), H', ⟨Nat.le_refl _⟩, ⟨by first | exact Kd.R_nil _ _ _ _ _ | exact Kd.N_nil _ _ _ _ _ | exact Kd.V_nil _ _ _ _ _ | exact Kd.Q_nil _ _ _ _ _ | exact Kd.S_nil _ _ _ _ _⟩, ⟨by (with_reducible repeat (first | apply Kd.V_alloc | apply Kd.V_drewN | apply Kd.V_drew)); exact Kd.V_mono HO1.out (fun _ hk => ⟨hk.1, (by simp [Value.ownBlock])⟩)⟩, ⟨by repeat (first | (with_reducible first | exact HB.out | apply below_alloc | apply pw_below_drewN | apply below_drew1) | exact HB.out)⟩⟩
    case round =>
      clear H'
      try clear c1
      try clear p2
      try clear c3
      try clear c4
      try clear c4b0
      try clear c4b1
      obtain ⟨x7_1, x8_1, x20_1, rfl, rfl, HA, HK1, HO_7, HO_18, HB⟩ := hrel
      cases gk with
      | zero => exact absurd HA.out (by simp [residue_Complement.l0])
      | succ k1 =>
        have H := HA.out
        clear HA
        simp only [residue_Complement.l0] at H
        by_cases c9 : x20_1 < (l1.length : Int)
        · rw [if_pos c9] at H
          have c9b0 : decide (x20_1 < (l1.length : Int)) = true := decide_eq_true c9
          clear c9
          by_cases c10 : 0 ≤ x20_1
          · rw [if_pos c10] at H
            have c10b0 : decide (0 ≤ x20_1) = true := decide_eq_true c10
            clear c10
            by_cases c11 : x20_1 < (l1.length : Int)
            · rw [if_pos c11] at H
              have c11b0 : decide (x20_1 < (l1.length : Int)) = true := decide_eq_true c11
              clear c11
              by_cases c12 : x8_1 < ((rd_T35 l1 x20_1).f0)
              · rw [if_pos c12] at H
                have c12b0 : decide (x8_1 < ((rd_T35 l1 x20_1).f0)) = true := decide_eq_true c12
                clear c12
                by_cases c13 : x7_1.length < 8796093022208
                · rw [if_pos c13] at H
                  have LMc13 := Aside0.mk c13
                  clear c13
                  obtain ⟨y243, hy243⟩ : ∃ y_ : List (S35), y_ = (x7_1 ++ [(⟨x8_1, (rd_T35 l1 x20_1).f0⟩ : S35)]) := ⟨_, rfl⟩
                  replace H : (residue_Complement.l0 k1 a0 y243 ((rd_T35 l1 x20_1).f1) l1 (l1.length : Int) (wrap64 (x20_1 + 1))) = some (r1, r2) := by first | (rw [hy243]; with_reducible exact H) | (have H2_ := (Option.bind_some _ _).symm.trans H; rw [hy243]; with_reducible exact H2_) | (have H2_ := (Option.bind_some _ _).symm.trans H; with_reducible exact H2_) | with_reducible exact H | (rw [hy243]; exact H) | exact H
                  have Ny243 := Aside0.mk hy243
                  clear hy243
                  have H' := Aside0.mk H
                  clear H
                  have p241 : 0 ≤ (x20_1 : Int) := of_decide_eq_true (by first | (with_reducible assumption) | assumption)
                  have q241 : x20_1 < (l1.length : Int) := of_decide_eq_true (by first | (with_reducible assumption) | assumption)
                  obtain ⟨ad241, e241, hx241_0, hx241_1⟩ := at_T35 (Kd.V_reads' HO_18.out).2.2 x20_1 p241 q241
                  cases e241
                  replace p241 := eq_true p241
                  replace q241 := eq_true q241
                  go_wp2_with (first | ((with_reducible refine gate_dst (N := 10) rfl ?_); refine box_event ?hg (N := 10) ?hd (cs := #[.int .i64 0, .int .i64 0]) (t := 35) ?hr ?_; (case hd => rfl); (case hg => rfl); (case hr => first | (go_simp; done) | (go_simp; rfl)); intro gb242 hg w14 hbox hb; have n0_ := Aside0.mk (Kd.R_below (Kd.R_elderB (by (with_reducible repeat (first | apply Kd.R_alloc | apply Kd.R_drewN | apply Kd.R_drew)); exact HO_7.out) gb242 (Nat.le_of_eq hg.symm)) hb); have n1_ := Aside0.mk (Kd.V_below (Kd.V_elderB (by (with_reducible repeat (first | apply Kd.V_alloc | apply Kd.V_drewN | apply Kd.V_drew)); exact HO_18.out) gb242 (Nat.le_of_eq hg.symm)) hb); have n2_ := Aside0.mk (below_step (by repeat (first | (with_reducible first | exact HB.out | apply below_alloc | apply pw_below_drewN | apply below_drew1) | exact HB.out)) hb); have n3_ := Aside0.mk (hbox); have n4_ := Aside0.mk ((by rw [hg]; exact (below_size (by repeat (first | (with_reducible first | exact HB.out | apply below_alloc | apply pw_below_drewN | apply below_drew1) | exact HB.out))) : w.heap.size ≤ gb242)); have n5_ := Aside0.mk ((by rw [hg]; exact (below_size (by repeat (first | (with_reducible first | exact HB.out | apply below_alloc | apply pw_below_drewN | apply below_drew1) | exact HB.out))) : w.heap.size ≤ gb242)); clear HO_7; clear HO_18; clear HB; have HO_7 := n0_; have HO_18 := n1_; have HB := n2_; have BK242 := n3_; have GW242 := n4_; have GE242 := n5_; clear n0_ n1_ n2_ n3_ n4_ n5_; clear hb hbox hg; have hcz15_0 : w14.cell? ⟨gb242, 0, none⟩ = some (.int .i64 0) := (blk_cell BK242.out 0).trans rfl; have hcz15_1 : w14.cell? ⟨gb242, 1, none⟩ = some (.int .i64 0) := (blk_cell BK242.out 1).trans rfl; have hfz15_0 := blk_frozen BK242.out 0; have hfz15_1 := blk_frozen BK242.out 1) | ((with_reducible refine gate_builtin (b := .append) (xs := #[.tmp 28, .tmp 33]) rfl ?_); at_builtin; refine Kd.R_append k35 (w0 := w) w.heap.size rfl (.tmp 28) (.tmp 33) 22 35 (.agg #[(.int .i64 0), (.int .i64 0)]) 16 rfl Try.underlying22 info35 rfl (by decide) (by omega) u7 x7_1 (⟨x8_1, (rd_T35 l1 x20_1).f0⟩ : S35) [.int .i64 x8_1, .int .i64 ((rd_T35 l1 x20_1).f0)] (fun k_ => (w.heap.size ≤ k_) ∧ k_ ≠ gb242) (fun _ => False) rfl (by first | (go_simp; done) | (go_simp; rfl)) ?aP (fun _ hk => hk.elim) ?aF ?aO ?aB ?aS ?aL ?_; (case aP => exact k35_mkM _ _ _ (⟨x8_1, (rd_T35 l1 x20_1).f0⟩ : S35)); (case aB => exact (by repeat (first | (with_reducible first | exact HB.out | apply below_alloc | apply pw_below_drewN | apply below_drew1 | refine below_set ?_ GE242.out) | exact HB.out))); (case aF => exact (fun k_ hk => ⟨(Nat.le_trans (below_size (by repeat (first | (with_reducible first | exact HB.out | apply below_alloc | apply pw_below_drewN | apply below_drew1 | refine below_set ?_ GE242.out) | exact HB.out))) hk), Kd.freshB (g := gb242) (o := .cells #[.int .i64 ((rd_T35 l1 x20_1).f0), .int .i64 ((rd_T35 l1 x20_1).f1)] 35 (0, 0)) (by (with_reducible repeat (first | refine blk_drewN ?_ _ | refine blk_drew ?_ | refine blk_alloc ?_ _)); refine blk_put (cs := #[.int .i64 ((rd_T35 l1 x20_1).f0), .int .i64 0]) ?_ 1 _ rfl; (with_reducible repeat (first | refine blk_drewN ?_ _ | refine blk_drew ?_ | refine blk_alloc ?_ _)); refine blk_put (cs := #[.int .i64 0, .int .i64 0]) ?_ 0 _ rfl; (with_reducible repeat (first | refine blk_drewN ?_ _ | refine blk_drew ?_ | refine blk_alloc ?_ _)); exact BK242.out) k_ hk⟩)); (case aO => exact (by (with_reducible repeat (first | apply Kd.R_alloc | apply Kd.R_drewN | apply Kd.R_drew)); exact Kd.R_mono (Kd.R_far (p := ⟨gb242, 1, none⟩) (Kd.R_far (p := ⟨gb242, 0, none⟩) (Kd.R_mono HO_7.out (fun k_ hk => (⟨hk, hk.2⟩ : _ ∧ k_ ≠ gb242))) (fun _ hk => hk.2) (.int .i64 ((rd_T35 l1 x20_1).f0))) (fun _ hk => hk.2) (.int .i64 ((rd_T35 l1 x20_1).f1))) (fun _ hk => ⟨hk.1.1, hk.1.2⟩))); (case aS => exact (below_size (by repeat (first | (with_reducible first | exact HB.out | apply below_alloc | apply pw_below_drewN | apply below_drew1 | refine below_set ?_ GE242.out) | exact HB.out)))); (case aL => have := LMc13.out; omega); intro v244 w16 ho hb hg hat; rw [← Ny243.out] at ho; have n0_ := Aside0.mk (Kd.V_afterv (ok := (fun k_ => (P1_ k_ ∨ w.heap.size ≤ k_) ∧ k_ ≠ gb242)) (by (with_reducible repeat (first | apply Kd.V_alloc | apply Kd.V_drewN | apply Kd.V_drew)); exact Kd.V_mono (Kd.V_far (p := ⟨gb242, 1, none⟩) (Kd.V_far (p := ⟨gb242, 0, none⟩) (Kd.V_mono HO_18.out (fun k_ hk => (⟨hk, hk.2⟩ : _ ∧ k_ ≠ gb242))) (fun _ hk => hk.2) (.int .i64 ((rd_T35 l1 x20_1).f0))) (fun _ hk => hk.2) (.int .i64 ((rd_T35 l1 x20_1).f1))) (fun _ hk => ⟨⟨hk.1.1.1, hk.1.2⟩, hk.1.1.2⟩)) hg hat); have n1_ := Aside0.mk (blk_grown (g := gb242) (o := .cells #[.int .i64 ((rd_T35 l1 x20_1).f0), .int .i64 ((rd_T35 l1 x20_1).f1)] 35 (0, 0)) (by (with_reducible repeat (first | refine blk_drewN ?_ _ | refine blk_drew ?_ | refine blk_alloc ?_ _)); refine blk_put (cs := #[.int .i64 ((rd_T35 l1 x20_1).f0), .int .i64 0]) ?_ 1 _ rfl; (with_reducible repeat (first | refine blk_drewN ?_ _ | refine blk_drew ?_ | refine blk_alloc ?_ _)); refine blk_put (cs := #[.int .i64 0, .int .i64 0]) ?_ 0 _ rfl; (with_reducible repeat (first | refine blk_drewN ?_ _ | refine blk_drew ?_ | refine blk_alloc ?_ _)); exact BK242.out) hg (Kd.R_away HO_7.out (fun _ hk => hk.2))); have n2_ := Aside0.mk (hb); have n3_ := Aside0.mk (ho); clear HO_18; clear BK242; clear HB; clear HO_7; have HO_18 := n0_; have BK242 := n1_; have HB := n2_; have HO245 := n3_; clear n0_ n1_ n2_ n3_; clear ho hb hg hat; have hcz17_0 : w16.cell? ⟨gb242, 0, none⟩ = some (.int .i64 ((rd_T35 l1 x20_1).f0)) := (blk_cell BK242.out 0).trans rfl; have hcz17_1 : w16.cell? ⟨gb242, 1, none⟩ = some (.int .i64 ((rd_T35 l1 x20_1).f1)) := (blk_cell BK242.out 1).trans rfl; have hfz17_0 := blk_frozen BK242.out 0; have hfz17_1 := blk_frozen BK242.out 1))
                  go_roundg k1
                  case measure => have := HK1.out; omega
                  case rel => exact ⟨(y243), ((rd_T35 l1 x20_1).f1), (wrap64 (x20_1 + 1)), (by first | rfl | (simp; done) | (simp [*]; done)), (by first | rfl | (simp; done) | (simp [*]; done)), H', ⟨by have := HK1.out; omega⟩, ⟨by (with_reducible repeat (first | apply Kd.R_alloc | apply Kd.R_drewN | apply Kd.R_drew)); exact Kd.R_mono HO245.out (fun _ hk => hk.1)⟩, ⟨by (with_reducible repeat (first | apply Kd.V_alloc | apply Kd.V_drewN | apply Kd.V_drew)); exact Kd.V_mono HO_18.out (fun _ hk => ⟨hk.1.1, hk.2⟩)⟩, ⟨by repeat (first | (with_reducible first | exact HB.out | apply below_alloc | apply pw_below_drewN | apply below_drew1 | refine below_set ?_ GE242.out) | exact HB.out)⟩⟩
                · rw [if_neg c13] at H
                  exact absurd H (by simp)
              · rw [if_neg c12] at H
                have c12b0 : decide (x8_1 < ((rd_T35 l1 x20_1).f0)) = false := decide_eq_false c12
                clear c12
                have H' := Aside0.mk H
                clear H
                have p241 : 0 ≤ (x20_1 : Int) := of_decide_eq_true (by first | (with_reducible assumption) | assumption)
                have q241 : x20_1 < (l1.length : Int) := of_decide_eq_true (by first | (with_reducible assumption) | assumption)
                obtain ⟨ad241, e241, hx241_0, hx241_1⟩ := at_T35 (Kd.V_reads' HO_18.out).2.2 x20_1 p241 q241
                cases e241
                replace p241 := eq_true p241
                replace q241 := eq_true q241
                go_wp2_with (first | ((with_reducible refine gate_dst (N := 10) rfl ?_); refine box_event ?hg (N := 10) ?hd (cs := #[.int .i64 0, .int .i64 0]) (t := 35) ?hr ?_; (case hd => rfl); (case hg => rfl); (case hr => first | (go_simp; done) | (go_simp; rfl)); intro gb242 hg w18 hbox hb; have n0_ := Aside0.mk (Kd.R_below (Kd.R_elderB (by (with_reducible repeat (first | apply Kd.R_alloc | apply Kd.R_drewN | apply Kd.R_drew)); exact HO_7.out) gb242 (Nat.le_of_eq hg.symm)) hb); have n1_ := Aside0.mk (Kd.V_below (Kd.V_elderB (by (with_reducible repeat (first | apply Kd.V_alloc | apply Kd.V_drewN | apply Kd.V_drew)); exact HO_18.out) gb242 (Nat.le_of_eq hg.symm)) hb); have n2_ := Aside0.mk (below_step (by repeat (first | (with_reducible first | exact HB.out | apply below_alloc | apply pw_below_drewN | apply below_drew1) | exact HB.out)) hb); have n3_ := Aside0.mk (hbox); have n4_ := Aside0.mk ((by rw [hg]; exact (below_size (by repeat (first | (with_reducible first | exact HB.out | apply below_alloc | apply pw_below_drewN | apply below_drew1) | exact HB.out))) : w.heap.size ≤ gb242)); have n5_ := Aside0.mk ((by rw [hg]; exact (below_size (by repeat (first | (with_reducible first | exact HB.out | apply below_alloc | apply pw_below_drewN | apply below_drew1) | exact HB.out))) : w.heap.size ≤ gb242)); clear HO_7; clear HO_18; clear HB; have HO_7 := n0_; have HO_18 := n1_; have HB := n2_; have BK242 := n3_; have GW242 := n4_; have GE242 := n5_; clear n0_ n1_ n2_ n3_ n4_ n5_; clear hb hbox hg; have hcz19_0 : w18.cell? ⟨gb242, 0, none⟩ = some (.int .i64 0) := (blk_cell BK242.out 0).trans rfl; have hcz19_1 : w18.cell? ⟨gb242, 1, none⟩ = some (.int .i64 0) := (blk_cell BK242.out 1).trans rfl; have hfz19_0 := blk_frozen BK242.out 0; have hfz19_1 := blk_frozen BK242.out 1))
                go_roundg k1
                case measure => have := HK1.out; omega
                case rel => exact ⟨(x7_1), ((rd_T35 l1 x20_1).f1), (wrap64 (x20_1 + 1)), (by first | rfl | (simp; done) | (simp [*]; done)), (by first | rfl | (simp; done) | (simp [*]; done)), H', ⟨by have := HK1.out; omega⟩, ⟨by (with_reducible repeat (first | apply Kd.R_alloc | apply Kd.R_drewN | apply Kd.R_drew)); exact Kd.R_mono (Kd.R_far (p := ⟨gb242, 1, none⟩) (Kd.R_far (p := ⟨gb242, 0, none⟩) (Kd.R_mono HO_7.out (fun k_ hk => (⟨hk, hk.2⟩ : _ ∧ k_ ≠ gb242))) (fun _ hk => hk.2) (.int .i64 ((rd_T35 l1 x20_1).f0))) (fun _ hk => hk.2) (.int .i64 ((rd_T35 l1 x20_1).f1))) (fun _ hk => hk.1.1)⟩, ⟨by (with_reducible repeat (first | apply Kd.V_alloc | apply Kd.V_drewN | apply Kd.V_drew)); exact Kd.V_mono (Kd.V_far (p := ⟨gb242, 1, none⟩) (Kd.V_far (p := ⟨gb242, 0, none⟩) (Kd.V_mono HO_18.out (fun k_ hk => (⟨hk, hk.2⟩ : _ ∧ k_ ≠ gb242))) (fun _ hk => hk.2) (.int .i64 ((rd_T35 l1 x20_1).f0))) (fun _ hk => hk.2) (.int .i64 ((rd_T35 l1 x20_1).f1))) (fun _ hk => ⟨hk.1.1.1, hk.1.1.2⟩)⟩, ⟨by repeat (first | (with_reducible first | exact HB.out | apply below_alloc | apply pw_below_drewN | apply below_drew1 | refine below_set ?_ GE242.out) | exact HB.out)⟩⟩
            · rw [if_neg c11] at H
              exact absurd H (by simp)
          · rw [if_neg c10] at H
            exact absurd H (by simp)
        · rw [if_neg c9] at H
          have c9b0 : decide (x20_1 < (l1.length : Int)) = false := decide_eq_false c9
          clear c9
          by_cases c20 : x8_1 < a0
          · rw [if_pos c20] at H
            have c20b0 : decide (x8_1 < a0) = true := decide_eq_true c20
            clear c20
            by_cases c21 : x7_1.length < 8796093022208
            · rw [if_pos c21] at H
              have LMc21 := Aside0.mk c21
              clear c21
              obtain ⟨y246, hy246⟩ : ∃ y_ : List (S35), y_ = (x7_1 ++ [(⟨x8_1, a0⟩ : S35)]) := ⟨_, rfl⟩
              replace H : (some (y246, 0)) = some (r1, r2) := by first | (rw [hy246]; with_reducible exact H) | (have H2_ := (Option.bind_some _ _).symm.trans H; rw [hy246]; with_reducible exact H2_) | (have H2_ := (Option.bind_some _ _).symm.trans H; with_reducible exact H2_) | with_reducible exact H | (rw [hy246]; exact H) | exact H
              have Ny246 := Aside0.mk hy246
              clear hy246
              simp only [Option.some.injEq, Prod.mk.injEq] at H
              obtain ⟨rfl, rfl⟩ := H
              go_wp2_with (first | ((with_reducible refine gate_builtin (b := .append) (xs := #[.tmp 41, .tmp 45]) rfl ?_); at_builtin; refine Kd.R_append k35 (w0 := w) w.heap.size rfl (.tmp 41) (.tmp 45) 22 35 (.agg #[(.int .i64 0), (.int .i64 0)]) 16 rfl Try.underlying22 info35 rfl (by decide) (by omega) u7 x7_1 (⟨x8_1, a0⟩ : S35) [.int .i64 x8_1, .int .i64 a0] (fun k_ => (w.heap.size ≤ k_)) (fun _ => False) rfl rfl ?aP (fun _ hk => hk.elim) ?aF ?aO ?aB ?aS ?aL ?_; (case aP => exact k35_mkM _ _ _ (⟨x8_1, a0⟩ : S35)); (case aB => exact (by repeat (first | (with_reducible first | exact HB.out | apply below_alloc | apply pw_below_drewN | apply below_drew1) | exact HB.out))); (case aF => exact (fun k_ hk => (Nat.le_trans (below_size (by repeat (first | (with_reducible first | exact HB.out | apply below_alloc | apply pw_below_drewN | apply below_drew1) | exact HB.out))) hk))); (case aO => exact (by (with_reducible repeat (first | apply Kd.R_alloc | apply Kd.R_drewN | apply Kd.R_drew)); exact HO_7.out)); (case aS => exact (below_size (by repeat (first | (with_reducible first | exact HB.out | apply below_alloc | apply pw_below_drewN | apply below_drew1) | exact HB.out)))); (case aL => have := LMc21.out; omega); intro v247 w22 ho hb hg hat; rw [← Ny246.out] at ho; have n0_ := Aside0.mk (Kd.V_afterv (ok := (fun k_ => (P1_ k_ ∨ w.heap.size ≤ k_))) (by (with_reducible repeat (first | apply Kd.V_alloc | apply Kd.V_drewN | apply Kd.V_drew)); exact HO_18.out) hg hat); have n1_ := Aside0.mk (hb); have n2_ := Aside0.mk (ho); clear HO_18; clear HB; clear HO_7; have HO_18 := n0_; have HB := n1_; have HO248 := n2_; clear n0_ n1_ n2_; clear ho hb hg hat))
              go_ret2
              exact ⟨_, by first | rfl | (simp [errW_none, errW_some] <;> rfl) | (simp [*, errW_none, errW_some] <;> rfl), by (with_reducible repeat (first | apply Kd.R_alloc | apply Kd.R_drewN | apply Kd.R_drew)); exact HO248.out, by repeat (first | (with_reducible first | exact HB.out | apply below_alloc | apply pw_below_drewN | apply below_drew1) | exact HB.out)⟩
            · rw [if_neg c21] at H
              exact absurd H (by simp)
          · rw [if_neg c20] at H
            have c20b0 : decide (x8_1 < a0) = false := decide_eq_false c20
            clear c20
            simp only [Option.some.injEq, Prod.mk.injEq] at H
            obtain ⟨rfl, rfl⟩ := H
            go_wp2
            go_ret2
            exact ⟨_, by first | rfl | (simp [errW_none, errW_some] <;> rfl) | (simp [*, errW_none, errW_some] <;> rfl), by (with_reducible repeat (first | apply Kd.R_alloc | apply Kd.R_drewN | apply Kd.R_drew)); exact HO_7.out, by repeat (first | (with_reducible first | exact HB.out | apply below_alloc | apply pw_below_drewN | apply below_drew1) | exact HB.out)⟩
  · rw [if_neg c4] at H
    have c4b0 : (t240 == 0) = false := beq_eq_false_iff_ne.mpr c4
    have c4b1 : (t240 != 0) = true := bne_iff_ne.mpr c4
    simp only [Option.some.injEq, Prod.mk.injEq] at H
    obtain ⟨rfl, rfl⟩ := H
    go_enter Try.func34, Try.ntmps34
    go_wp2_with (first | ((with_reducible refine gate_dst (N := 13) rfl ?_); refine Kd.N_lit (Kd.slice 35 k35) _ 22 ?hg (N' := 13) ?hd (xs := ([l1] : List (List (S35)))) (inner := [.slice A1 l1.length c1]) (ok := (fun k_ => (P1_ k_ ∨ w.heap.size ≤ k_))) (okp := (fun k_ => (P1_ k_ ∨ w.heap.size ≤ k_))) ?hr ?hp (fun _ hk => hk) ((show ∀ k_, w.heap.size ≤ k_ → (fun k_ => (P1_ k_ ∨ w.heap.size ≤ k_)) k_ from fun k_ hk => (.inr (Nat.le_trans (below_size (by repeat (first | (with_reducible first | exact HB.out | apply below_alloc | apply pw_below_drewN | apply below_drew1) | exact HB.out))) hk))) _ (Nat.le_refl _)) (Below.refl _ _) (Nat.le_refl _) (by simp) ?_; (case hd => rfl); (case hg => rfl); (case hr => first | (go_simp; done) | (go_simp; rfl)); (case hp => exact (Reps.one (show Kd.FK (Kd.slice 35 k35) _ _ l1 [.slice A1 l1.length c1] from (Kd.FK_slice_mk (Kd.V_reads' (Kd.V_mono (ok' := (fun k_ => (P1_ k_ ∨ w.heap.size ≤ k_))) (HO1.out) (fun k_ hk => hk))).2.1 (Kd.V_F (Kd.V_mono (ok' := (fun k_ => (P1_ k_ ∨ w.heap.size ≤ k_))) (HO1.out) (fun k_ hk => hk))))) (Reps.none _ _))); intro v238 w23 ho24 hb hg_ hnew_; clear hg_ hnew_; (first | rw [← Ny237.out] at ho24 | (simp only [Int.reduceToNat] at ho24; rw [← Ny237.out] at ho24)); have n0_ := Aside0.mk (Kd.V_elder' (by (with_reducible repeat (first | apply Kd.V_alloc | apply Kd.V_drewN | apply Kd.V_drew)); exact HO1.out) (Kd.N_base ho24) hb); have n1_ := Aside0.mk (Kd.N_lower ho24 (below_size (by repeat (first | (with_reducible first | exact HB.out | apply below_alloc | apply pw_below_drewN | apply below_drew1) | exact HB.out)))); have n2_ := Aside0.mk (below_step (by repeat (first | (with_reducible first | exact HB.out | apply below_alloc | apply pw_below_drewN | apply below_drew1) | exact HB.out)) hb); clear HO1; clear HB; have HO1 := n0_; have HO239 := n1_; have HB := n2_; clear n0_ n1_ n2_; clear hb ho24; obtain ⟨Ao25, co25, eo25⟩ := Kd.N_slice HO239.out; subst eo25) | ((with_reducible refine gate_callee (f := 45) rfl ?_); refine goesL_ (some 14) rfl rfl Try.func45 (by kernel_rfl) rfl #[.int .i64 a0, .slice Ao25 y237.length co25] rfl (by (try simp only [List.map_toArray, List.map_cons, List.map_nil]); first | done | rfl | (simp only [List.length_drop, List.length_take]; rfl)) ?_; (with_reducible refine (residue_check.calls k a0 _ _ y237 t240 _ ?side1 ?side2 A3.out).mono ?_); (case side1 => repeat (first | exact (Kd.N_reads' HO239.out).2.2 | (with_reducible refine Kd.C_alloc ?_ _) | (with_reducible refine Kd.C_drewN ?_ _) | (with_reducible refine Kd.C_drew ?_))); (case side2 => exact (Kd.N_reads' HO239.out).2.1); rintro e w26 ⟨rfl, hb⟩; refine ⟨_, rfl, ?_⟩; have n0_ := Aside0.mk (Kd.V_below (by (with_reducible repeat (first | apply Kd.V_alloc | apply Kd.V_drewN | apply Kd.V_drew)); exact HO1.out) hb); have n1_ := Aside0.mk (Kd.N_below (by (with_reducible repeat (first | apply Kd.N_alloc | apply Kd.N_drewN | apply Kd.N_drew)); exact HO239.out) hb); have n2_ := Aside0.mk (below_step (by repeat (first | (with_reducible first | exact HB.out | apply below_alloc | apply pw_below_drewN | apply below_drew1) | exact HB.out)) hb); clear HO1; clear HO239; clear HB; have HO1 := n0_; have HO239 := n1_; have HB := n2_; clear n0_ n1_ n2_; (try clear hb); (try clear hb2); (try clear hk); (try clear hi)))
    go_ret2
    exact ⟨_, by first | rfl | (simp [errW_none, errW_some] <;> rfl) | (simp [*, errW_none, errW_some] <;> rfl), by first | exact Kd.R_nil _ _ _ _ _ | exact Kd.N_nil _ _ _ _ _ | exact Kd.V_nil _ _ _ _ _ | exact Kd.Q_nil _ _ _ _ _ | exact Kd.S_nil _ _ _ _ _, by repeat (first | (with_reducible first | exact HB.out | apply below_alloc | apply pw_below_drewN | apply below_drew1) | exact HB.out)⟩

end Go.Proofs.Ytdnileakboefgaa.PResidueKeepsArguments
