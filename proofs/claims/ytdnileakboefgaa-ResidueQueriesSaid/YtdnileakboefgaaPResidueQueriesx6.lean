-- PRINTED BY print.sh 35421559b90ae4d0a3588c463048766b98c2df88dd9212a6774a882060cdf62d: not written by this session
import Derived.Test.YtdnileakboefgaaPResidueQueriesx0
import Derived.Test.YtdnileakboefgaaPResidueQueriesx2
import Derived.Test.YtdnileakboefgaaPResidueQueriesx4
import Derived.Test.YtdnileakboefgaaPResidueQueriesx5
namespace Go.Proofs.Ytdnileakboefgaa.PResidueQueries
open Go.RowKit Go.Proofs.YtdnileakboefgaaW.PrintWords Go.Proofs.YtdnileakboefgaaW.PrintLast Go.Proofs.YtdnileakboefgaaW.PrintMore
attribute [local go_sem] max2_int min2_int max_two min_two max_three min_three max_four min_four   -- for this text's walks alone
set_option linter.unusedVariables false
set_option linter.unusedSimpArgs false

/-! ### railplankeep_Set: function 19 -/
def railplankeep_Set.l0 : Nat → Int → List (S35) → Int → List Int → Int → Option ((List (S35)))
  | 0, _, _, _, _, _ => none
  | k + 1, x0, x6, x7, x194000, x194001 => if x7 > 0 then ((railplankeep_Source_Next.f x194000 x194001 x0).bind fun bt196 => ((railplankeep_Source_Next.f x194000 bt196.2 (wrap64 (1 + (wrap64 (Int.tdiv x0 2))))).bind fun bt198 => ((railplanref1_Make.f k x0 bt196.1 bt198.1).bind fun bt200 => ((railplanref1_Union.f k x0 x6 bt200.1).bind fun bt204 => (railplankeep_Set.l0 k x0 bt204.1 (wrap64 (x7 - 1)) x194000 bt198.2))))) else (some x6)
def railplankeep_Set.f (k : Nat) (a0 : Int) (l1 : List Int) : Option ((List (S35))) := (railplankeep_From.f l1).bind fun bt191 => ((railplankeep_Source_Next.f bt191.1 bt191.2 5).bind fun bt194 => (railplankeep_Set.l0 k a0 ([] : List (S35)) bt194.1 bt191.1 bt194.2))
theorem railplankeep_Set.mono_l : ∀ k, (∀ y0 y1 y2 y3 y4, LeO (railplankeep_Set.l0 k y0 y1 y2 y3 y4) (railplankeep_Set.l0 (k + 1) y0 y1 y2 y3 y4))
  | 0 => fun _ _ _ _ _ r h => by simp [railplankeep_Set.l0] at h
  | k + 1 => by
    have ih0 := railplankeep_Set.mono_l k
    · intro y0 y1 y2 y3 y4
      unfold railplankeep_Set.l0
      repeat' first
      | (with_reducible exact ih0 _ _ _ _ _)
      | (with_reducible exact railplanref1_Make.mono _ _ _ _)
      | (with_reducible exact railplanref1_Union.mono _ _ _ _)
      | (with_reducible exact LeO.refl _)
      | (with_reducible exact LeO.none _)
      | (with_reducible refine LeO.ite ?_ ?_)
      | (with_reducible refine LeO.bind ?_ (fun _ => ?_))
      | exact ih0 _ _ _ _ _
      | exact railplanref1_Make.mono _ _ _ _
      | exact railplanref1_Union.mono _ _ _ _
      | exact LeO.none _
      | refine LeO.ite ?_ ?_
      | refine LeO.bind ?_ (fun _ => ?_)
theorem railplankeep_Set.mono : ∀ a0 a1 k, LeO (railplankeep_Set.f k a0 a1) (railplankeep_Set.f (k + 1) a0 a1) := by
  intro a0 a1 k
  have ih0 := railplankeep_Set.mono_l k
  unfold railplankeep_Set.f
  repeat' first
      | (with_reducible exact ih0 _ _ _ _ _)
      | (with_reducible exact railplanref1_Make.mono _ _ _ _)
      | (with_reducible exact railplanref1_Union.mono _ _ _ _)
      | (with_reducible exact LeO.refl _)
      | (with_reducible exact LeO.none _)
      | (with_reducible refine LeO.ite ?_ ?_)
      | (with_reducible refine LeO.bind ?_ (fun _ => ?_))
      | exact ih0 _ _ _ _ _
      | exact railplanref1_Make.mono _ _ _ _
      | exact railplanref1_Union.mono _ _ _ _
      | exact LeO.none _
      | refine LeO.ite ?_ ?_
      | refine LeO.bind ?_ (fun _ => ?_)
set_option maxHeartbeats 8000000 in
set_option maxRecDepth 100000 in
theorem railplankeep_Set.calls (k : Nat) (a0 : Int) (A1 : Option Addr) (c1 : Nat) (l1 : List Int) (r : List (S35)) (w : World) (hr1 : Kd.C (Kd.int .i64) w A1 l1.length l1) (hc1 : l1.length ≤ c1) (h : railplankeep_Set.f k a0 l1 = some r) :
    Calls Try.prog 19 #[.int .i64 a0, .slice A1 l1.length c1] w fun e w' => ∃ v0_ : Value, e = .returned (v0_) ∧ Kd.R k35 35 w' w.heap.size (fun _ => True) v0_ r ∧ Below w.heap.size w w' := by
  have HR1 := Aside0.mk hr1
  have HC1 := Aside0.mk hc1
  clear hr1 hc1
  have HB := Aside0.mk (Below.refl w.heap.size w)
  have H : ((railplankeep_From.f l1).bind fun bt191 => ((railplankeep_Source_Next.f bt191.1 bt191.2 5).bind fun bt194 => (railplankeep_Set.l0 k a0 ([] : List (S35)) bt194.1 bt191.1 bt194.2))) = some r := h
  clear h
  replace H := Option.bind_eq_some_iff.mp H
  obtain ⟨⟨t191, t192⟩, A30, H⟩ := H
  replace H : ((railplankeep_Source_Next.f t191 t192 5).bind fun bt194 => (railplankeep_Set.l0 k a0 ([] : List (S35)) bt194.1 t191 bt194.2)) = some r := H
  have A3 := Aside0.mk A30
  clear A30
  replace H := Option.bind_eq_some_iff.mp H
  obtain ⟨⟨t194, t195⟩, A40, H⟩ := H
  replace H : (railplankeep_Set.l0 k a0 ([] : List (S35)) t194 t191 t195) = some r := H
  have A4 := Aside0.mk A40
  clear A40
  have H' := Aside0.mk H
  clear H
  go_enter Try.func19, Try.ntmps19
  go_wp2_with (first | ((with_reducible refine gate_callee (f := 43) rfl ?_); refine goesL_ (some 11) rfl rfl Try.func43 (by kernel_rfl) rfl #[.slice A1 l1.length c1] rfl (by (try simp only [List.map_toArray, List.map_cons, List.map_nil]); first | done | rfl | (simp only [List.length_drop, List.length_take]; rfl)) ?_; (with_reducible refine (railplankeep_From.calls _ _ l1 t191 t192 w _ ?side1 ?side2 ?side3 A3.out).mono ?_); (case side1 => repeat (first | (with_reducible first | exact HB.out | apply below_alloc | apply pw_below_drewN | apply below_drew1) | exact HB.out)); (case side2 => exact HR1.out); (case side3 => exact HC1.out); rintro e w5 ⟨g193, rfl, hi, hb, hb2⟩; refine ⟨_, rfl, ?_⟩; have n0_ := Aside0.mk (hb); have n1_ := Aside0.mk (hi); clear HB; have HB := n0_; have HI193 := n1_; clear n0_ n1_; (try clear hb); (try clear hb2); (try clear hk); (try clear hi)) | ((with_reducible refine gate_callee (f := 44) rfl ?_); refine goesL_ (some 13) rfl rfl Try.func44 (by kernel_rfl) rfl #[.pointer (some ⟨g193, 0, none⟩), .int .i64 5] rfl (by (try simp only [List.map_toArray, List.map_cons, List.map_nil]); first | done | rfl | (simp only [List.length_drop, List.length_take]; rfl)) ?_; (with_reducible refine (railplankeep_Source_Next.calls g193 t191 t192 5 t194 t195 w _ ?side1 ?side2 A4.out).mono ?_); (case side1 => repeat (first | (with_reducible first | exact HI193.out | apply IsS68.alloc | apply IsS68.drewN | apply IsS68.drew | apply IsS68.set_1) | exact HI193.out)); (case side2 => repeat (first | (with_reducible first | exact HB.out | apply below_alloc | apply pw_below_drewN | apply below_drew1 | refine below_set ?_ (IsS68.ge HI193.out)) | exact HB.out)); rintro e w6 ⟨rfl, hi, hb, hk⟩; refine ⟨_, rfl, ?_⟩; have n0_ := Aside0.mk (hb); have n1_ := Aside0.mk (hi); clear HB; clear HI193; have HB := n0_; have HI193 := n1_; clear n0_ n1_; (try clear hb); (try clear hb2); (try clear hk); (try clear hi)))
  go_loopg [6, 7] k (fun kq v6 v7 w' => ∃ (x6_1 : List (S35)) (x7_1 : Int) (x194001_1 : Int), v7 = .int .i64 x7_1 ∧ Aside0 (railplankeep_Set.l0 kq a0 x6_1 x7_1 t191 x194001_1 = some r) ∧ Aside0 (kq ≤ k) ∧ Aside0 (Kd.R k35 35 w' w.heap.size (fun _ => True) v6 x6_1) ∧ Aside0 (IsS68 w w' g193 t191 x194001_1) ∧ Aside0 (Below w.heap.size w w'))
  case atStart => exact ⟨(([] : List (S35))), (t194), (t195), (by first | rfl | (simp; done) | (simp [*]; done)), H', ⟨Nat.le_refl _⟩, ⟨by first | exact Kd.R_nil _ _ _ _ _ | exact Kd.N_nil _ _ _ _ _ | exact Kd.V_nil _ _ _ _ _ | exact Kd.Q_nil _ _ _ _ _ | exact Kd.S_nil _ _ _ _ _⟩, ⟨by repeat (first | (with_reducible first | exact HI193.out | apply IsS68.alloc | apply IsS68.drewN | apply IsS68.drew | apply IsS68.set_1) | exact HI193.out)⟩, ⟨by repeat (first | (with_reducible first | exact HB.out | apply below_alloc | apply pw_below_drewN | apply below_drew1 | refine below_set ?_ (IsS68.ge HI193.out)) | exact HB.out)⟩⟩
  case round =>
    clear H'
    try clear c1
    try clear p2
    try clear c4
    obtain ⟨x6_1, x7_1, x194001_1, rfl, HA, HK1, HO_6, HI193, HB⟩ := hrel
    cases gk with
    | zero => exact absurd HA.out (by simp [railplankeep_Set.l0])
    | succ k1 =>
      have H := HA.out
      clear HA
      simp only [railplankeep_Set.l0] at H
      by_cases c7 : x7_1 > 0
      · rw [if_pos c7] at H
        have c7b0 : decide (0 < x7_1) = true := decide_eq_true c7
        clear c7
        replace H := Option.bind_eq_some_iff.mp H
        obtain ⟨⟨t196, t197⟩, A80, H⟩ := H
        replace H : ((railplankeep_Source_Next.f t191 t197 (wrap64 (1 + (wrap64 (Int.tdiv a0 2))))).bind fun bt198 => ((railplanref1_Make.f k1 a0 t196 bt198.1).bind fun bt200 => ((railplanref1_Union.f k1 a0 x6_1 bt200.1).bind fun bt204 => (railplankeep_Set.l0 k1 a0 bt204.1 (wrap64 (x7_1 - 1)) t191 bt198.2)))) = some r := H
        have A8 := Aside0.mk A80
        clear A80
        replace H := Option.bind_eq_some_iff.mp H
        obtain ⟨⟨t198, t199⟩, A90, H⟩ := H
        replace H : ((railplanref1_Make.f k1 a0 t196 t198).bind fun bt200 => ((railplanref1_Union.f k1 a0 x6_1 bt200.1).bind fun bt204 => (railplankeep_Set.l0 k1 a0 bt204.1 (wrap64 (x7_1 - 1)) t191 t199))) = some r := H
        have A9 := Aside0.mk A90
        clear A90
        replace H := Option.bind_eq_some_iff.mp H
        obtain ⟨⟨t200, t201⟩, A100, H⟩ := H
        replace H : ((railplanref1_Union.f k1 a0 x6_1 t200).bind fun bt204 => (railplankeep_Set.l0 k1 a0 bt204.1 (wrap64 (x7_1 - 1)) t191 t199)) = some r := H
        have A10 := Aside0.mk A100
        clear A100
        replace H := Option.bind_eq_some_iff.mp H
        obtain ⟨⟨t204, t205⟩, A110, H⟩ := H
        replace H : (railplankeep_Set.l0 k1 a0 t204 (wrap64 (x7_1 - 1)) t191 t199) = some r := H
        have A11 := Aside0.mk A110
        clear A110
        have H' := Aside0.mk H
        clear H
        go_wp2_with (first | ((with_reducible refine gate_callee (f := 44) rfl ?_); refine goesL_ (some 22) rfl rfl Try.func44 (by kernel_rfl) rfl #[.pointer (some ⟨g193, 0, none⟩), .int .i64 a0] rfl (by (try simp only [List.map_toArray, List.map_cons, List.map_nil]); first | done | rfl | (simp only [List.length_drop, List.length_take]; rfl)) ?_; (with_reducible refine (railplankeep_Source_Next.calls g193 t191 x194001_1 a0 t196 t197 w _ ?side1 ?side2 A8.out).mono ?_); (case side1 => repeat (first | (with_reducible first | exact HI193.out | apply IsS68.alloc | apply IsS68.drewN | apply IsS68.drew | apply IsS68.set_1) | exact HI193.out)); (case side2 => repeat (first | (with_reducible first | exact HB.out | apply below_alloc | apply pw_below_drewN | apply below_drew1 | refine below_set ?_ (IsS68.ge HI193.out)) | exact HB.out)); rintro e w12 ⟨rfl, hi, hb, hk⟩; refine ⟨_, rfl, ?_⟩; have n0_ := Aside0.mk (Kd.R_mono (Kd.R_keep (IsS68.apart (show IsS68 w _ g193 t191 x194001_1 from by repeat (first | (with_reducible first | exact HI193.out | apply IsS68.alloc | apply IsS68.drewN | apply IsS68.drew | apply IsS68.set_1) | exact HI193.out)) (by (with_reducible repeat (first | apply Kd.R_alloc | apply Kd.R_drewN | apply Kd.R_drew)); exact HO_6.out) (by decide)) hk (fun _ h => h.2)) (fun _ h => h.1)); have n1_ := Aside0.mk (hb); have n2_ := Aside0.mk (hi); clear HO_6; clear HB; clear HI193; have HO_6 := n0_; have HB := n1_; have HI193 := n2_; clear n0_ n1_ n2_; (try clear hb); (try clear hb2); (try clear hk); (try clear hi)) | ((with_reducible refine gate_callee (f := 44) rfl ?_); refine goesL_ (some 27) rfl rfl Try.func44 (by kernel_rfl) rfl #[.pointer (some ⟨g193, 0, none⟩), .int .i64 (wrap64 (1 + (wrap64 (Int.tdiv a0 2))))] rfl (by (try simp only [List.map_toArray, List.map_cons, List.map_nil]); first | done | rfl | (simp only [List.length_drop, List.length_take]; rfl)) ?_; (with_reducible refine (railplankeep_Source_Next.calls g193 t191 t197 (wrap64 (1 + (wrap64 (Int.tdiv a0 2)))) t198 t199 w _ ?side1 ?side2 A9.out).mono ?_); (case side1 => repeat (first | (with_reducible first | exact HI193.out | apply IsS68.alloc | apply IsS68.drewN | apply IsS68.drew | apply IsS68.set_1) | exact HI193.out)); (case side2 => repeat (first | (with_reducible first | exact HB.out | apply below_alloc | apply pw_below_drewN | apply below_drew1 | refine below_set ?_ (IsS68.ge HI193.out)) | exact HB.out)); rintro e w13 ⟨rfl, hi, hb, hk⟩; refine ⟨_, rfl, ?_⟩; have n0_ := Aside0.mk (Kd.R_mono (Kd.R_keep (IsS68.apart (show IsS68 w _ g193 t191 t197 from by repeat (first | (with_reducible first | exact HI193.out | apply IsS68.alloc | apply IsS68.drewN | apply IsS68.drew | apply IsS68.set_1) | exact HI193.out)) (by (with_reducible repeat (first | apply Kd.R_alloc | apply Kd.R_drewN | apply Kd.R_drew)); exact HO_6.out) (by decide)) hk (fun _ h => h.2)) (fun _ h => h.1)); have n1_ := Aside0.mk (hb); have n2_ := Aside0.mk (hi); clear HO_6; clear HB; clear HI193; have HO_6 := n0_; have HB := n1_; have HI193 := n2_; clear n0_ n1_ n2_; (try clear hb); (try clear hb2); (try clear hk); (try clear hi)) | ((with_reducible refine gate_callee (f := 21) rfl ?_); refine goesL_ (some 28) rfl rfl Try.func21 (by kernel_rfl) rfl #[.int .i64 a0, .int .i64 t196, .int .i64 t198] rfl (by (try simp only [List.map_toArray, List.map_cons, List.map_nil]); first | done | rfl | (simp only [List.length_drop, List.length_take]; rfl)) ?_; (with_reducible refine (railplanref1_Make.calls k1 a0 t196 t198 t200 t201 _ A10.out).mono ?_); rintro e w14 ⟨v202, rfl, ho0, hb⟩; refine ⟨_, rfl, ?_⟩; have n0_ := Aside0.mk (Kd.R_elder' (by (with_reducible repeat (first | apply Kd.R_alloc | apply Kd.R_drewN | apply Kd.R_drew)); exact HO_6.out) (Kd.R_base ho0) hb); have n1_ := Aside0.mk (Kd.R_lower (Kd.R_new' ho0 (Kd.R_lt (by (with_reducible repeat (first | apply Kd.R_alloc | apply Kd.R_drewN | apply Kd.R_drew)); exact HO_6.out))) (below_size (by repeat (first | (with_reducible first | exact HB.out | apply below_alloc | apply pw_below_drewN | apply below_drew1 | refine below_set ?_ (IsS68.ge HI193.out)) | exact HB.out)))); have n2_ := Aside0.mk (IsS68.below (by repeat (first | (with_reducible first | exact HI193.out | apply IsS68.alloc | apply IsS68.drewN | apply IsS68.drew | apply IsS68.set_1) | exact HI193.out)) hb); have n3_ := Aside0.mk (below_step (by repeat (first | (with_reducible first | exact HB.out | apply below_alloc | apply pw_below_drewN | apply below_drew1 | refine below_set ?_ (IsS68.ge HI193.out)) | exact HB.out)) hb); clear HO_6; clear HI193; clear HB; have HO_6 := n0_; have HO203 := n1_; have HI193 := n2_; have HB := n3_; clear n0_ n1_ n2_ n3_; (try clear hb); (try clear hb2); (try clear hk); (try clear hi); (try clear ho0); obtain ⟨Ao15, co15, eo15⟩ := Kd.R_slice HO_6.out; subst eo15; obtain ⟨Ao16, co16, eo16⟩ := Kd.R_slice HO203.out; subst eo16) | ((with_reducible refine gate_callee (f := 36) rfl ?_); refine goesL_ (some 35) rfl rfl Try.func36 (by kernel_rfl) rfl #[.int .i64 a0, .slice Ao15 x6_1.length co15, .slice Ao16 t200.length co16] rfl (by (try simp only [List.map_toArray, List.map_cons, List.map_nil]); first | done | rfl | (simp only [List.length_drop, List.length_take]; rfl)) ?_; (with_reducible refine (railplanref1_Union.calls k1 a0 _ _ x6_1 _ _ t200 t204 t205 _ ?side1 ?side2 ?side3 ?side4 A11.out).mono ?_); (case side1 => repeat (first | exact (Kd.R_reads' HO_6.out).2.2 | (with_reducible refine Kd.C_alloc ?_ _) | (with_reducible refine Kd.C_drewN ?_ _) | (with_reducible refine Kd.C_drew ?_))); (case side2 => exact (Kd.R_reads' HO_6.out).2.1); (case side3 => repeat (first | exact (Kd.R_reads' HO203.out).2.2 | (with_reducible refine Kd.C_alloc ?_ _) | (with_reducible refine Kd.C_drewN ?_ _) | (with_reducible refine Kd.C_drew ?_))); (case side4 => exact (Kd.R_reads' HO203.out).2.1); rintro e w17 ⟨v206, rfl, ho0, hb⟩; refine ⟨_, rfl, ?_⟩; have n0_ := Aside0.mk (Kd.R_elder' (by (with_reducible repeat (first | apply Kd.R_alloc | apply Kd.R_drewN | apply Kd.R_drew)); exact HO_6.out) (Kd.R_base ho0) hb); have n1_ := Aside0.mk (Kd.R_elder' (by (with_reducible repeat (first | apply Kd.R_alloc | apply Kd.R_drewN | apply Kd.R_drew)); exact HO203.out) (Kd.R_base ho0) hb); have n2_ := Aside0.mk (Kd.R_lower (Kd.R_new' (Kd.R_new' ho0 (Kd.R_lt (by (with_reducible repeat (first | apply Kd.R_alloc | apply Kd.R_drewN | apply Kd.R_drew)); exact HO_6.out))) (Kd.R_lt (by (with_reducible repeat (first | apply Kd.R_alloc | apply Kd.R_drewN | apply Kd.R_drew)); exact HO203.out))) (below_size (by repeat (first | (with_reducible first | exact HB.out | apply below_alloc | apply pw_below_drewN | apply below_drew1 | refine below_set ?_ (IsS68.ge HI193.out)) | exact HB.out)))); have n3_ := Aside0.mk (IsS68.below (by repeat (first | (with_reducible first | exact HI193.out | apply IsS68.alloc | apply IsS68.drewN | apply IsS68.drew | apply IsS68.set_1) | exact HI193.out)) hb); have n4_ := Aside0.mk (below_step (by repeat (first | (with_reducible first | exact HB.out | apply below_alloc | apply pw_below_drewN | apply below_drew1 | refine below_set ?_ (IsS68.ge HI193.out)) | exact HB.out)) hb); clear HO_6; clear HO203; clear HI193; clear HB; have HO_6 := n0_; have HO203 := n1_; have HO207 := n2_; have HI193 := n3_; have HB := n4_; clear n0_ n1_ n2_ n3_ n4_; (try clear hb); (try clear hb2); (try clear hk); (try clear hi); (try clear ho0)))
        go_roundg k1
        case measure => have := HK1.out; omega
        case rel => exact ⟨(t204), (wrap64 (x7_1 - 1)), (t199), (by first | rfl | (simp; done) | (simp [*]; done)), H', ⟨by have := HK1.out; omega⟩, ⟨by (with_reducible repeat (first | apply Kd.R_alloc | apply Kd.R_drewN | apply Kd.R_drew)); exact Kd.R_mono HO207.out (fun _ hk => trivial)⟩, ⟨by repeat (first | (with_reducible first | exact HI193.out | apply IsS68.alloc | apply IsS68.drewN | apply IsS68.drew | apply IsS68.set_1) | exact HI193.out)⟩, ⟨by repeat (first | (with_reducible first | exact HB.out | apply below_alloc | apply pw_below_drewN | apply below_drew1 | refine below_set ?_ (IsS68.ge HI193.out)) | exact HB.out)⟩⟩
      · rw [if_neg c7] at H
        have c7b0 : decide (0 < x7_1) = false := decide_eq_false c7
        clear c7
        obtain rfl := Option.some.inj H
        go_wp2
        go_ret
        exact ⟨_, by first | rfl | (simp [errW_none, errW_some] <;> rfl) | (simp [*, errW_none, errW_some] <;> rfl), by (with_reducible repeat (first | apply Kd.R_alloc | apply Kd.R_drewN | apply Kd.R_drew)); exact HO_6.out, by repeat (first | (with_reducible first | exact HB.out | apply below_alloc | apply pw_below_drewN | apply below_drew1 | refine below_set ?_ (IsS68.ge HI193.out)) | exact HB.out)⟩

/-! ### residue_Has: function 28 -/
def residue_Has.l0 : Nat → Int → List (S35) → Int → Int → Option (Bool)
  | 0, _, _, _, _ => none
  | k + 1, x7, x17, x18, x19 => if x19 < x18 then (if 0 ≤ x19 then (if x19 < (x17.length : Int) then (if x7 ≥ ((rd_T35 x17 x19).f0) then (if x7 < ((rd_T35 x17 x19).f1) then (some true) else (residue_Has.l0 k x7 x17 x18 (wrap64 (x19 + 1)))) else (residue_Has.l0 k x7 x17 x18 (wrap64 (x19 + 1)))) else (none)) else (none)) else (some false)
def residue_Has.f (k : Nat) (a0 : Int) (l1 : List (S35)) (a2 : Int) : Option (Bool) := (residue_Valid.f k a0 l1).bind fun t208 => (if t208 = true then ((arith_Mod.f a2 a0).bind fun t209 => (residue_Has.l0 k t209 l1 (l1.length : Int) 0)) else (some false))
theorem residue_Has.mono_l : ∀ k, (∀ y0 y1 y2 y3, LeO (residue_Has.l0 k y0 y1 y2 y3) (residue_Has.l0 (k + 1) y0 y1 y2 y3))
  | 0 => fun _ _ _ _ r h => by simp [residue_Has.l0] at h
  | k + 1 => by
    have ih0 := residue_Has.mono_l k
    · intro y0 y1 y2 y3
      unfold residue_Has.l0
      repeat' first
      | (with_reducible exact ih0 _ _ _ _)
      | (with_reducible exact residue_Valid.mono _ _ _)
      | (with_reducible exact LeO.refl _)
      | (with_reducible exact LeO.none _)
      | (with_reducible refine LeO.ite ?_ ?_)
      | (with_reducible refine LeO.bind ?_ (fun _ => ?_))
      | exact ih0 _ _ _ _
      | exact residue_Valid.mono _ _ _
      | exact LeO.none _
      | refine LeO.ite ?_ ?_
      | refine LeO.bind ?_ (fun _ => ?_)
theorem residue_Has.mono : ∀ a0 a1 a2 k, LeO (residue_Has.f k a0 a1 a2) (residue_Has.f (k + 1) a0 a1 a2) := by
  intro a0 a1 a2 k
  have ih0 := residue_Has.mono_l k
  unfold residue_Has.f
  repeat' first
      | (with_reducible exact ih0 _ _ _ _)
      | (with_reducible exact residue_Valid.mono _ _ _)
      | (with_reducible exact LeO.refl _)
      | (with_reducible exact LeO.none _)
      | (with_reducible refine LeO.ite ?_ ?_)
      | (with_reducible refine LeO.bind ?_ (fun _ => ?_))
      | exact ih0 _ _ _ _
      | exact residue_Valid.mono _ _ _
      | exact LeO.none _
      | refine LeO.ite ?_ ?_
      | refine LeO.bind ?_ (fun _ => ?_)
set_option maxHeartbeats 8000000 in
set_option maxRecDepth 100000 in
theorem residue_Has.calls (k : Nat) (a0 : Int) (A1 : Option Addr) (c1 : Nat) (l1 : List (S35)) (a2 : Int) (r : Bool) (w : World) (hr1 : Kd.C k35 w A1 l1.length l1) (hc1 : l1.length ≤ c1) (h : residue_Has.f k a0 l1 a2 = some r) :
    Calls Try.prog 28 #[.int .i64 a0, .slice A1 l1.length c1, .int .i64 a2] w fun e w' => e = .returned (.bool r) ∧ Below w.heap.size w w' := by
  have hu35 := Try.underlying35
  have HR1 := Aside0.mk hr1
  have HC1 := Aside0.mk hc1
  clear hr1 hc1
  have HB := Aside0.mk (Below.refl w.heap.size w)
  have H : ((residue_Valid.f k a0 l1).bind fun t208 => (if t208 = true then ((arith_Mod.f a2 a0).bind fun t209 => (residue_Has.l0 k t209 l1 (l1.length : Int) 0)) else (some false))) = some r := h
  clear h
  replace H := Option.bind_eq_some_iff.mp H
  obtain ⟨t208, A40, H⟩ := H
  replace H : (if t208 = true then ((arith_Mod.f a2 a0).bind fun t209 => (residue_Has.l0 k t209 l1 (l1.length : Int) 0)) else (some false)) = some r := H
  have A4 := Aside0.mk A40
  clear A40
  by_cases c5 : t208 = true
  · subst c5
    have H1 : ((arith_Mod.f a2 a0).bind fun t209 => (residue_Has.l0 k t209 l1 (l1.length : Int) 0)) = some r := by rw [if_pos rfl] at H; exact H
    clear H
    have H := H1
    clear H1
    replace H := Option.bind_eq_some_iff.mp H
    obtain ⟨t209, A60, H⟩ := H
    replace H : (residue_Has.l0 k t209 l1 (l1.length : Int) 0) = some r := H
    have A6 := Aside0.mk A60
    clear A60
    have H' := Aside0.mk H
    clear H
    go_enter Try.func28, Try.ntmps28
    go_wp2_with (first | ((with_reducible refine gate_callee (f := 17) rfl ?_); refine goesL_ (some 12) rfl rfl Try.func17 (by kernel_rfl) rfl #[.int .i64 a0, .slice A1 l1.length c1] rfl (by (try simp only [List.map_toArray, List.map_cons, List.map_nil]); first | done | rfl | (simp only [List.length_drop, List.length_take]; rfl)) ?_; (with_reducible refine (residue_Valid.calls k a0 _ _ l1 true _ ?side1 ?side2 A4.out).mono ?_); (case side1 => repeat (first | exact HR1.out | (with_reducible refine Kd.C_alloc ?_ _) | (with_reducible refine Kd.C_drewN ?_ _) | (with_reducible refine Kd.C_drew ?_))); (case side2 => exact HC1.out); rintro e w7 ⟨rfl, hb⟩; refine ⟨_, rfl, ?_⟩; have n0_ := Aside0.mk (below_step (by repeat (first | (with_reducible first | exact HB.out | apply below_alloc | apply pw_below_drewN | apply below_drew1) | exact HB.out)) hb); clear HB; have HB := n0_; clear n0_; (try clear hb); (try clear hb2); (try clear hk); (try clear hi)) | ((with_reducible refine gate_callee (f := 51) rfl ?_); refine goesL_ (some 16) rfl rfl Try.func51 (by kernel_rfl) rfl #[.int .i64 a2, .int .i64 a0] rfl (by (try simp only [List.map_toArray, List.map_cons, List.map_nil]); first | done | rfl | (simp only [List.length_drop, List.length_take]; rfl)) ?_; (with_reducible refine (arith_Mod.calls a2 a0 t209 _ A6.out).mono ?_); rintro e w' ⟨rfl, ⟨nd, rfl⟩⟩; refine ⟨_, rfl, ?_⟩))
    go_loopg [19] k (fun kq v19 w' => ∃ (x19_1 : Int), v19 = .int .i64 x19_1 ∧ Aside0 (residue_Has.l0 kq t209 l1 (l1.length : Int) x19_1 = some r) ∧ Aside0 (kq ≤ k) ∧ Aside0 (Below w.heap.size w w'))
    case atStart => exact ⟨(0), (by first | rfl | (simp; done) | (simp [*]; done)), H', ⟨Nat.le_refl _⟩, ⟨by repeat (first | (with_reducible first | exact HB.out | apply below_alloc | apply pw_below_drewN | apply below_drew1) | exact HB.out)⟩⟩
    case round =>
      clear H'
      try clear c1
      try clear c2
      try clear p2
      try clear c5
      obtain ⟨x19_1, rfl, HA, HK1, HB⟩ := hrel
      cases gk with
      | zero => exact absurd HA.out (by simp [residue_Has.l0])
      | succ k1 =>
        have H := HA.out
        clear HA
        simp only [residue_Has.l0] at H
        by_cases c8 : x19_1 < (l1.length : Int)
        · rw [if_pos c8] at H
          have c8b0 : decide (x19_1 < (l1.length : Int)) = true := decide_eq_true c8
          clear c8
          by_cases c9 : 0 ≤ x19_1
          · rw [if_pos c9] at H
            have c9b0 : decide (0 ≤ x19_1) = true := decide_eq_true c9
            clear c9
            by_cases c10 : x19_1 < (l1.length : Int)
            · rw [if_pos c10] at H
              have c10b0 : decide (x19_1 < (l1.length : Int)) = true := decide_eq_true c10
              clear c10
              by_cases c11 : t209 ≥ ((rd_T35 l1 x19_1).f0)
              · rw [if_pos c11] at H
                have c11b0 : decide (((rd_T35 l1 x19_1).f0) ≤ t209) = true := decide_eq_true c11
                clear c11
                by_cases c12 : t209 < ((rd_T35 l1 x19_1).f1)
                · rw [if_pos c12] at H
                  have c12b0 : decide (t209 < ((rd_T35 l1 x19_1).f1)) = true := decide_eq_true c12
                  clear c12
                  obtain rfl := Option.some.inj H
                  have p210 : 0 ≤ (x19_1 : Int) := of_decide_eq_true (by first | (with_reducible assumption) | assumption)
                  have q210 : x19_1 < (l1.length : Int) := of_decide_eq_true (by first | (with_reducible assumption) | assumption)
                  obtain ⟨ad210, e210, hx210_0, hx210_1⟩ := at_T35 HR1.out x19_1 p210 q210
                  cases e210
                  replace hx210_0 := (HB.out.cell (World.block_lt_of_cell? w _ hx210_0)).trans hx210_0
                  replace hx210_1 := (HB.out.cell (World.block_lt_of_cell? w _ hx210_1)).trans hx210_1
                  replace p210 := eq_true p210
                  replace q210 := eq_true q210
                  go_wp2_with (first | ((with_reducible refine gate_dst (N := 9) rfl ?_); refine box_event ?hg (N := 9) ?hd (cs := #[.int .i64 0, .int .i64 0]) (t := 35) ?hr ?_; (case hd => rfl); (case hg => rfl); (case hr => first | (go_simp; done) | (go_simp; rfl)); intro gb211 hg w13 hbox hb; have n0_ := Aside0.mk (below_step (by repeat (first | (with_reducible first | exact HB.out | apply below_alloc | apply pw_below_drewN | apply below_drew1) | exact HB.out)) hb); have n1_ := Aside0.mk (hbox); have n2_ := Aside0.mk ((by rw [hg]; exact (below_size (by repeat (first | (with_reducible first | exact HB.out | apply below_alloc | apply pw_below_drewN | apply below_drew1) | exact HB.out))) : w.heap.size ≤ gb211)); have n3_ := Aside0.mk ((by rw [hg]; exact (below_size (by repeat (first | (with_reducible first | exact HB.out | apply below_alloc | apply pw_below_drewN | apply below_drew1) | exact HB.out))) : w.heap.size ≤ gb211)); clear HB; have HB := n0_; have BK211 := n1_; have GW211 := n2_; have GE211 := n3_; clear n0_ n1_ n2_ n3_; clear hb hbox hg; have hcz14_0 : w13.cell? ⟨gb211, 0, none⟩ = some (.int .i64 0) := (blk_cell BK211.out 0).trans rfl; have hcz14_1 : w13.cell? ⟨gb211, 1, none⟩ = some (.int .i64 0) := (blk_cell BK211.out 1).trans rfl; have hfz14_0 := blk_frozen BK211.out 0; have hfz14_1 := blk_frozen BK211.out 1))
                  go_ret
                  exact ⟨by first | rfl | (simp [errW_none, errW_some] <;> rfl) | (simp [*, errW_none, errW_some] <;> rfl), by repeat (first | (with_reducible first | exact HB.out | apply below_alloc | apply pw_below_drewN | apply below_drew1 | refine below_set ?_ GE211.out) | exact HB.out)⟩
                · rw [if_neg c12] at H
                  have c12b0 : decide (t209 < ((rd_T35 l1 x19_1).f1)) = false := decide_eq_false c12
                  clear c12
                  have H' := Aside0.mk H
                  clear H
                  have p210 : 0 ≤ (x19_1 : Int) := of_decide_eq_true (by first | (with_reducible assumption) | assumption)
                  have q210 : x19_1 < (l1.length : Int) := of_decide_eq_true (by first | (with_reducible assumption) | assumption)
                  obtain ⟨ad210, e210, hx210_0, hx210_1⟩ := at_T35 HR1.out x19_1 p210 q210
                  cases e210
                  replace hx210_0 := (HB.out.cell (World.block_lt_of_cell? w _ hx210_0)).trans hx210_0
                  replace hx210_1 := (HB.out.cell (World.block_lt_of_cell? w _ hx210_1)).trans hx210_1
                  replace p210 := eq_true p210
                  replace q210 := eq_true q210
                  go_wp2_with (first | ((with_reducible refine gate_dst (N := 9) rfl ?_); refine box_event ?hg (N := 9) ?hd (cs := #[.int .i64 0, .int .i64 0]) (t := 35) ?hr ?_; (case hd => rfl); (case hg => rfl); (case hr => first | (go_simp; done) | (go_simp; rfl)); intro gb211 hg w15 hbox hb; have n0_ := Aside0.mk (below_step (by repeat (first | (with_reducible first | exact HB.out | apply below_alloc | apply pw_below_drewN | apply below_drew1) | exact HB.out)) hb); have n1_ := Aside0.mk (hbox); have n2_ := Aside0.mk ((by rw [hg]; exact (below_size (by repeat (first | (with_reducible first | exact HB.out | apply below_alloc | apply pw_below_drewN | apply below_drew1) | exact HB.out))) : w.heap.size ≤ gb211)); have n3_ := Aside0.mk ((by rw [hg]; exact (below_size (by repeat (first | (with_reducible first | exact HB.out | apply below_alloc | apply pw_below_drewN | apply below_drew1) | exact HB.out))) : w.heap.size ≤ gb211)); clear HB; have HB := n0_; have BK211 := n1_; have GW211 := n2_; have GE211 := n3_; clear n0_ n1_ n2_ n3_; clear hb hbox hg; have hcz16_0 : w15.cell? ⟨gb211, 0, none⟩ = some (.int .i64 0) := (blk_cell BK211.out 0).trans rfl; have hcz16_1 : w15.cell? ⟨gb211, 1, none⟩ = some (.int .i64 0) := (blk_cell BK211.out 1).trans rfl; have hfz16_0 := blk_frozen BK211.out 0; have hfz16_1 := blk_frozen BK211.out 1))
                  go_roundg k1
                  case measure => have := HK1.out; omega
                  case rel => exact ⟨(wrap64 (x19_1 + 1)), (by first | rfl | (simp; done) | (simp [*]; done)), H', ⟨by have := HK1.out; omega⟩, ⟨by repeat (first | (with_reducible first | exact HB.out | apply below_alloc | apply pw_below_drewN | apply below_drew1 | refine below_set ?_ GE211.out) | exact HB.out)⟩⟩
              · rw [if_neg c11] at H
                have c11b0 : decide (((rd_T35 l1 x19_1).f0) ≤ t209) = false := decide_eq_false c11
                clear c11
                have H' := Aside0.mk H
                clear H
                have p210 : 0 ≤ (x19_1 : Int) := of_decide_eq_true (by first | (with_reducible assumption) | assumption)
                have q210 : x19_1 < (l1.length : Int) := of_decide_eq_true (by first | (with_reducible assumption) | assumption)
                obtain ⟨ad210, e210, hx210_0, hx210_1⟩ := at_T35 HR1.out x19_1 p210 q210
                cases e210
                replace hx210_0 := (HB.out.cell (World.block_lt_of_cell? w _ hx210_0)).trans hx210_0
                replace hx210_1 := (HB.out.cell (World.block_lt_of_cell? w _ hx210_1)).trans hx210_1
                replace p210 := eq_true p210
                replace q210 := eq_true q210
                go_wp2_with (first | ((with_reducible refine gate_dst (N := 9) rfl ?_); refine box_event ?hg (N := 9) ?hd (cs := #[.int .i64 0, .int .i64 0]) (t := 35) ?hr ?_; (case hd => rfl); (case hg => rfl); (case hr => first | (go_simp; done) | (go_simp; rfl)); intro gb211 hg w17 hbox hb; have n0_ := Aside0.mk (below_step (by repeat (first | (with_reducible first | exact HB.out | apply below_alloc | apply pw_below_drewN | apply below_drew1) | exact HB.out)) hb); have n1_ := Aside0.mk (hbox); have n2_ := Aside0.mk ((by rw [hg]; exact (below_size (by repeat (first | (with_reducible first | exact HB.out | apply below_alloc | apply pw_below_drewN | apply below_drew1) | exact HB.out))) : w.heap.size ≤ gb211)); have n3_ := Aside0.mk ((by rw [hg]; exact (below_size (by repeat (first | (with_reducible first | exact HB.out | apply below_alloc | apply pw_below_drewN | apply below_drew1) | exact HB.out))) : w.heap.size ≤ gb211)); clear HB; have HB := n0_; have BK211 := n1_; have GW211 := n2_; have GE211 := n3_; clear n0_ n1_ n2_ n3_; clear hb hbox hg; have hcz18_0 : w17.cell? ⟨gb211, 0, none⟩ = some (.int .i64 0) := (blk_cell BK211.out 0).trans rfl; have hcz18_1 : w17.cell? ⟨gb211, 1, none⟩ = some (.int .i64 0) := (blk_cell BK211.out 1).trans rfl; have hfz18_0 := blk_frozen BK211.out 0; have hfz18_1 := blk_frozen BK211.out 1))
                go_roundg k1
                case measure => have := HK1.out; omega
                case rel => exact ⟨(wrap64 (x19_1 + 1)), (by first | rfl | (simp; done) | (simp [*]; done)), H', ⟨by have := HK1.out; omega⟩, ⟨by repeat (first | (with_reducible first | exact HB.out | apply below_alloc | apply pw_below_drewN | apply below_drew1 | refine below_set ?_ GE211.out) | exact HB.out)⟩⟩
            · rw [if_neg c10] at H
              exact absurd H (by simp)
          · rw [if_neg c9] at H
            exact absurd H (by simp)
        · rw [if_neg c8] at H
          have c8b0 : decide (x19_1 < (l1.length : Int)) = false := decide_eq_false c8
          clear c8
          obtain rfl := Option.some.inj H
          go_wp2
          go_ret
          exact ⟨by first | rfl | (simp [errW_none, errW_some] <;> rfl) | (simp [*, errW_none, errW_some] <;> rfl), by repeat (first | (with_reducible first | exact HB.out | apply below_alloc | apply pw_below_drewN | apply below_drew1) | exact HB.out)⟩
  · replace c5 := Bool.eq_false_iff.mpr c5
    subst c5
    have H1 : (some false) = some r := by rw [if_neg (show ¬ (false = true) by decide)] at H; exact H
    clear H
    have H := H1
    clear H1
    obtain rfl := Option.some.inj H
    go_enter Try.func28, Try.ntmps28
    go_wp2_with (first | ((with_reducible refine gate_callee (f := 17) rfl ?_); refine goesL_ (some 12) rfl rfl Try.func17 (by kernel_rfl) rfl #[.int .i64 a0, .slice A1 l1.length c1] rfl (by (try simp only [List.map_toArray, List.map_cons, List.map_nil]); first | done | rfl | (simp only [List.length_drop, List.length_take]; rfl)) ?_; (with_reducible refine (residue_Valid.calls k a0 _ _ l1 false _ ?side1 ?side2 A4.out).mono ?_); (case side1 => repeat (first | exact HR1.out | (with_reducible refine Kd.C_alloc ?_ _) | (with_reducible refine Kd.C_drewN ?_ _) | (with_reducible refine Kd.C_drew ?_))); (case side2 => exact HC1.out); rintro e w19 ⟨rfl, hb⟩; refine ⟨_, rfl, ?_⟩; have n0_ := Aside0.mk (below_step (by repeat (first | (with_reducible first | exact HB.out | apply below_alloc | apply pw_below_drewN | apply below_drew1) | exact HB.out)) hb); clear HB; have HB := n0_; clear n0_; (try clear hb); (try clear hb2); (try clear hk); (try clear hi)))
    go_ret
    exact ⟨by first | rfl | (simp [errW_none, errW_some] <;> rfl) | (simp [*, errW_none, errW_some] <;> rfl), by repeat (first | (with_reducible first | exact HB.out | apply below_alloc | apply pw_below_drewN | apply below_drew1) | exact HB.out)⟩

/-! ### residue_Next: function 29 -/
mutual
def residue_Next.j0 : Nat → Int → List (S35) → Int → Bool → Option (Int × Bool)
  | 0, _, _, _, _ => none
  | k + 1, x0, x1, x2, x19 => if x19 = true then (some (0, false)) else ((arith_Mod.f x2 x0).bind fun t213 => (residue_Next.l0 k x0 x1 t213 x1 (x1.length : Int) 0))
def residue_Next.l0 : Nat → Int → List (S35) → Int → List (S35) → Int → Int → Option (Int × Bool)
  | 0, _, _, _, _, _, _ => none
  | k + 1, x0, x1, x8, x23, x24, x25 => if x25 < x24 then (if 0 ≤ x25 then (if x25 < (x23.length : Int) then (if x8 < ((rd_T35 x23 x25).f1) then (some (mx 0 (wrap64 (((rd_T35 x23 x25).f0) - x8)), true)) else (residue_Next.l0 k x0 x1 x8 x23 x24 (wrap64 (x25 + 1)))) else (none)) else (none)) else (if 0 < (x1.length : Int) then (some (wrap64 ((wrap64 (((rd_T35 x1 0).f0) + x0)) - x8), true)) else (none))
end
def residue_Next.f (k : Nat) (a0 : Int) (l1 : List (S35)) (a2 : Int) : Option (Int × Bool) := (residue_Valid.f k a0 l1).bind fun t212 => (if t212 = true then (residue_Next.j0 k a0 l1 a2 ((l1.length : Int) == 0)) else (residue_Next.j0 k a0 l1 a2 true))
theorem residue_Next.mono_l : ∀ k, (∀ y0 y1 y2 y3, LeO (residue_Next.j0 k y0 y1 y2 y3) (residue_Next.j0 (k + 1) y0 y1 y2 y3)) ∧ (∀ y0 y1 y2 y3 y4 y5, LeO (residue_Next.l0 k y0 y1 y2 y3 y4 y5) (residue_Next.l0 (k + 1) y0 y1 y2 y3 y4 y5))
  | 0 => ⟨fun _ _ _ _ r h => by simp [residue_Next.j0] at h, fun _ _ _ _ _ _ r h => by simp [residue_Next.l0] at h⟩
  | k + 1 => by
    obtain ⟨ih0, ih1⟩ := residue_Next.mono_l k
    refine ⟨?_, ?_⟩
    · intro y0 y1 y2 y3
      unfold residue_Next.j0
      repeat' first
      | (with_reducible exact ih0 _ _ _ _)
      | (with_reducible exact ih1 _ _ _ _ _ _)
      | (with_reducible exact residue_Valid.mono _ _ _)
      | (with_reducible exact LeO.refl _)
      | (with_reducible exact LeO.none _)
      | (with_reducible refine LeO.ite ?_ ?_)
      | (with_reducible refine LeO.bind ?_ (fun _ => ?_))
      | exact ih0 _ _ _ _
      | exact ih1 _ _ _ _ _ _
      | exact residue_Valid.mono _ _ _
      | exact LeO.none _
      | refine LeO.ite ?_ ?_
      | refine LeO.bind ?_ (fun _ => ?_)
    · intro y0 y1 y2 y3 y4 y5
      unfold residue_Next.l0
      repeat' first
      | (with_reducible exact ih0 _ _ _ _)
      | (with_reducible exact ih1 _ _ _ _ _ _)
      | (with_reducible exact residue_Valid.mono _ _ _)
      | (with_reducible exact LeO.refl _)
      | (with_reducible exact LeO.none _)
      | (with_reducible refine LeO.ite ?_ ?_)
      | (with_reducible refine LeO.bind ?_ (fun _ => ?_))
      | exact ih0 _ _ _ _
      | exact ih1 _ _ _ _ _ _
      | exact residue_Valid.mono _ _ _
      | exact LeO.none _
      | refine LeO.ite ?_ ?_
      | refine LeO.bind ?_ (fun _ => ?_)
theorem residue_Next.mono : ∀ a0 a1 a2 k, LeO (residue_Next.f k a0 a1 a2) (residue_Next.f (k + 1) a0 a1 a2) := by
  intro a0 a1 a2 k
  obtain ⟨ih0, ih1⟩ := residue_Next.mono_l k
  unfold residue_Next.f
  repeat' first
      | (with_reducible exact ih0 _ _ _ _)
      | (with_reducible exact ih1 _ _ _ _ _ _)
      | (with_reducible exact residue_Valid.mono _ _ _)
      | (with_reducible exact LeO.refl _)
      | (with_reducible exact LeO.none _)
      | (with_reducible refine LeO.ite ?_ ?_)
      | (with_reducible refine LeO.bind ?_ (fun _ => ?_))
      | exact ih0 _ _ _ _
      | exact ih1 _ _ _ _ _ _
      | exact residue_Valid.mono _ _ _
      | exact LeO.none _
      | refine LeO.ite ?_ ?_
      | refine LeO.bind ?_ (fun _ => ?_)
set_option maxHeartbeats 8000000 in
set_option maxRecDepth 100000 in
theorem residue_Next.calls (k : Nat) (a0 : Int) (A1 : Option Addr) (c1 : Nat) (l1 : List (S35)) (a2 : Int) (r1 : Int) (r2 : Bool) (w : World) (hr1 : Kd.C k35 w A1 l1.length l1) (hc1 : l1.length ≤ c1) (h : residue_Next.f k a0 l1 a2 = some (r1, r2)) :
    Calls Try.prog 29 #[.int .i64 a0, .slice A1 l1.length c1, .int .i64 a2] w fun e w' => e = .returned (.tuple #[.int .i64 r1, .bool r2]) ∧ Below w.heap.size w w' := by
  have hu35 := Try.underlying35
  have HR1 := Aside0.mk hr1
  have HC1 := Aside0.mk hc1
  clear hr1 hc1
  have HB := Aside0.mk (Below.refl w.heap.size w)
  have H : ((residue_Valid.f k a0 l1).bind fun t212 => (if t212 = true then (residue_Next.j0 k a0 l1 a2 ((l1.length : Int) == 0)) else (residue_Next.j0 k a0 l1 a2 true))) = some (r1, r2) := h
  clear h
  have HC4 := Aside0.mk H
  clear H
  go_enter Try.func29, Try.ntmps29
  go_upto_region 1 with (fail)
  go_cut [19] (fun v19 wc => ∃ (kq : Nat) (x19_3 : Bool), v19 = .bool x19_3 ∧ Aside0 (residue_Next.j0 kq a0 l1 a2 x19_3 = some (r1, r2)) ∧ Aside0 (kq ≤ k) ∧ Aside0 (Below w.heap.size w wc))
  case first =>
    have H := HC4.out
    clear HC4
    replace H := Option.bind_eq_some_iff.mp H
    obtain ⟨t212, A50, H⟩ := H
    replace H : (if t212 = true then (residue_Next.j0 k a0 l1 a2 ((l1.length : Int) == 0)) else (residue_Next.j0 k a0 l1 a2 true)) = some (r1, r2) := H
    have A5 := Aside0.mk A50
    clear A50
    by_cases c6 : t212 = true
    · subst c6
      have H1 : (residue_Next.j0 k a0 l1 a2 ((l1.length : Int) == 0)) = some (r1, r2) := by rw [if_pos rfl] at H; exact H
      clear H
      have H := H1
      clear H1
      have H' := Aside0.mk H
      clear H
      go_wp2_with (first | ((with_reducible refine gate_callee (f := 17) rfl ?_); refine goesL_ (some 13) rfl rfl Try.func17 (by kernel_rfl) rfl #[.int .i64 a0, .slice A1 l1.length c1] rfl (by (try simp only [List.map_toArray, List.map_cons, List.map_nil]); first | done | rfl | (simp only [List.length_drop, List.length_take]; rfl)) ?_; (with_reducible refine (residue_Valid.calls k a0 _ _ l1 true _ ?side1 ?side2 A5.out).mono ?_); (case side1 => repeat (first | exact (Kd.C_below HR1.out HB.out) | (with_reducible refine Kd.C_alloc ?_ _) | (with_reducible refine Kd.C_drewN ?_ _) | (with_reducible refine Kd.C_drew ?_))); (case side2 => exact HC1.out); rintro e w7 ⟨rfl, hb⟩; refine ⟨_, rfl, ?_⟩; have n0_ := Aside0.mk (below_step (by repeat (first | (with_reducible first | exact HB.out | apply below_alloc | apply pw_below_drewN | apply below_drew1) | exact HB.out)) hb); clear HB; have HB := n0_; clear n0_; (try clear hb); (try clear hb2); (try clear hk); (try clear hi)))
      go_meet
      case rel => exact ⟨_, (((l1.length : Int) == 0)), (by first | rfl | (simp; done) | (simp [*]; done)), H', ⟨by first | omega | exact Nat.le_refl _⟩, ⟨by repeat (first | (with_reducible first | exact HB.out | apply below_alloc | apply pw_below_drewN | apply below_drew1) | exact HB.out)⟩⟩
    · replace c6 := Bool.eq_false_iff.mpr c6
      subst c6
      have H1 : (residue_Next.j0 k a0 l1 a2 true) = some (r1, r2) := by rw [if_neg (show ¬ (false = true) by decide)] at H; exact H
      clear H
      have H := H1
      clear H1
      have H' := Aside0.mk H
      clear H
      go_wp2_with (first | ((with_reducible refine gate_callee (f := 17) rfl ?_); refine goesL_ (some 13) rfl rfl Try.func17 (by kernel_rfl) rfl #[.int .i64 a0, .slice A1 l1.length c1] rfl (by (try simp only [List.map_toArray, List.map_cons, List.map_nil]); first | done | rfl | (simp only [List.length_drop, List.length_take]; rfl)) ?_; (with_reducible refine (residue_Valid.calls k a0 _ _ l1 false _ ?side1 ?side2 A5.out).mono ?_); (case side1 => repeat (first | exact (Kd.C_below HR1.out HB.out) | (with_reducible refine Kd.C_alloc ?_ _) | (with_reducible refine Kd.C_drewN ?_ _) | (with_reducible refine Kd.C_drew ?_))); (case side2 => exact HC1.out); rintro e w8 ⟨rfl, hb⟩; refine ⟨_, rfl, ?_⟩; have n0_ := Aside0.mk (below_step (by repeat (first | (with_reducible first | exact HB.out | apply below_alloc | apply pw_below_drewN | apply below_drew1) | exact HB.out)) hb); clear HB; have HB := n0_; clear n0_; (try clear hb); (try clear hb2); (try clear hk); (try clear hi)))
      go_meet
      case rel => exact ⟨_, (true), (by first | rfl | (simp; done) | (simp [*]; done)), H', ⟨by first | omega | exact Nat.le_refl _⟩, ⟨by repeat (first | (with_reducible first | exact HB.out | apply below_alloc | apply pw_below_drewN | apply below_drew1) | exact HB.out)⟩⟩
  case rest =>
    clear HC4
    try clear c1
    try clear c2
    try clear p2
    try clear c6
    obtain ⟨kq, x19_3, rfl, HA, HJ3, HB⟩ := hcut
    cases kq with
    | zero => exact absurd HA.out (by simp [residue_Next.j0])
    | succ kj3 =>
      have H := HA.out
      clear HA
      simp only [residue_Next.j0] at H
      by_cases c9 : x19_3 = true
      · subst c9
        have H1 : (some (0, false)) = some (r1, r2) := by rw [if_pos rfl] at H; exact H
        clear H
        have H := H1
        clear H1
        simp only [Option.some.injEq, Prod.mk.injEq] at H
        obtain ⟨rfl, rfl⟩ := H
        go_wp2
        go_ret2
        exact ⟨by first | rfl | (simp [errW_none, errW_some] <;> rfl) | (simp [*, errW_none, errW_some] <;> rfl), by repeat (first | (with_reducible first | exact HB.out | apply below_alloc | apply pw_below_drewN | apply below_drew1) | exact HB.out)⟩
      · replace c9 := Bool.eq_false_iff.mpr c9
        subst c9
        have H1 : ((arith_Mod.f a2 a0).bind fun t213 => (residue_Next.l0 kj3 a0 l1 t213 l1 (l1.length : Int) 0)) = some (r1, r2) := by rw [if_neg (show ¬ (false = true) by decide)] at H; exact H
        clear H
        have H := H1
        clear H1
        replace H := Option.bind_eq_some_iff.mp H
        obtain ⟨t213, A100, H⟩ := H
        replace H : (residue_Next.l0 kj3 a0 l1 t213 l1 (l1.length : Int) 0) = some (r1, r2) := H
        have A10 := Aside0.mk A100
        clear A100
        have H' := Aside0.mk H
        clear H
        go_wp2_with (first | ((with_reducible refine gate_callee (f := 51) rfl ?_); refine goesL_ (some 22) rfl rfl Try.func51 (by kernel_rfl) rfl #[.int .i64 a2, .int .i64 a0] rfl (by (try simp only [List.map_toArray, List.map_cons, List.map_nil]); first | done | rfl | (simp only [List.length_drop, List.length_take]; rfl)) ?_; (with_reducible refine (arith_Mod.calls a2 a0 t213 _ A10.out).mono ?_); rintro e w' ⟨rfl, ⟨nd, rfl⟩⟩; refine ⟨_, rfl, ?_⟩))
        go_loopg [25] kj3 (fun kq v25 w' => ∃ (x25_2 : Int), v25 = .int .i64 x25_2 ∧ Aside0 (residue_Next.l0 kq a0 l1 t213 l1 (l1.length : Int) x25_2 = some (r1, r2)) ∧ Aside0 (kq ≤ kj3) ∧ Aside0 (Below w.heap.size w w'))
        case atStart => exact ⟨(0), (by first | rfl | (simp; done) | (simp [*]; done)), H', ⟨Nat.le_refl _⟩, ⟨by repeat (first | (with_reducible first | exact HB.out | apply below_alloc | apply pw_below_drewN | apply below_drew1) | exact HB.out)⟩⟩
        case round =>
          clear H'
          try clear c1
          try clear c2
          try clear p2
          try clear c5
          try clear c6
          try clear c9
          try clear p2
          obtain ⟨x25_2, rfl, HA, HK2, HB⟩ := hrel
          cases gk with
          | zero => exact absurd HA.out (by simp [residue_Next.l0])
          | succ k2 =>
            have H := HA.out
            clear HA
            simp only [residue_Next.l0] at H
            by_cases c11 : x25_2 < (l1.length : Int)
            · rw [if_pos c11] at H
              have c11b0 : decide (x25_2 < (l1.length : Int)) = true := decide_eq_true c11
              clear c11
              by_cases c12 : 0 ≤ x25_2
              · rw [if_pos c12] at H
                have c12b0 : decide (0 ≤ x25_2) = true := decide_eq_true c12
                clear c12
                by_cases c13 : x25_2 < (l1.length : Int)
                · rw [if_pos c13] at H
                  have c13b0 : decide (x25_2 < (l1.length : Int)) = true := decide_eq_true c13
                  clear c13
                  by_cases c14 : t213 < ((rd_T35 l1 x25_2).f1)
                  · rw [if_pos c14] at H
                    have c14b0 : decide (t213 < ((rd_T35 l1 x25_2).f1)) = true := decide_eq_true c14
                    clear c14
                    obtain ⟨ji15, hji15⟩ : ∃ j_ : Int, (mx 0 (wrap64 (((rd_T35 l1 x25_2).f0) - t213))) = j_ := ⟨_, rfl⟩
                    replace H : (some (ji15, true)) = some (r1, r2) := by first | (rw [hji15] at H; exact H) | (simp only [hji15] at H ⊢; exact H)
                    have hji15_ : (if 0 < (wrap64 (((rd_T35 l1 x25_2).f0) - t213)) then (wrap64 (((rd_T35 l1 x25_2).f0) - t213)) else 0) = ji15 := hji15
                    simp only [Option.some.injEq, Prod.mk.injEq] at H
                    obtain ⟨rfl, rfl⟩ := H
                    have p214 : 0 ≤ (x25_2 : Int) := of_decide_eq_true (by first | (with_reducible assumption) | assumption)
                    have q214 : x25_2 < (l1.length : Int) := of_decide_eq_true (by first | (with_reducible assumption) | assumption)
                    obtain ⟨ad214, e214, hx214_0, hx214_1⟩ := at_T35 HR1.out x25_2 p214 q214
                    cases e214
                    replace hx214_0 := (HB.out.cell (World.block_lt_of_cell? w _ hx214_0)).trans hx214_0
                    replace hx214_1 := (HB.out.cell (World.block_lt_of_cell? w _ hx214_1)).trans hx214_1
                    replace p214 := eq_true p214
                    replace q214 := eq_true q214
                    go_wp2_with (first | ((with_reducible refine gate_dst (N := 10) rfl ?_); (try (refine gate_guard (by rfl) ?_; dsimp only)); refine box_event ?hg (N := 10) ?hd (cs := #[.int .i64 0, .int .i64 0]) (t := 35) ?hr ?_; (case hd => rfl); (case hg => rfl); (case hr => first | (go_simp; done) | (go_simp; rfl)); intro gb215 hg w16 hbox hb; have n0_ := Aside0.mk (below_step (by repeat (first | (with_reducible first | exact HB.out | apply below_alloc | apply pw_below_drewN | apply below_drew1) | exact HB.out)) hb); have n1_ := Aside0.mk (hbox); have n2_ := Aside0.mk ((by rw [hg]; exact (below_size (by repeat (first | (with_reducible first | exact HB.out | apply below_alloc | apply pw_below_drewN | apply below_drew1) | exact HB.out))) : w.heap.size ≤ gb215)); have n3_ := Aside0.mk ((by rw [hg]; exact (below_size (by repeat (first | (with_reducible first | exact HB.out | apply below_alloc | apply pw_below_drewN | apply below_drew1) | exact HB.out))) : w.heap.size ≤ gb215)); clear HB; have HB := n0_; have BK215 := n1_; have GW215 := n2_; have GE215 := n3_; clear n0_ n1_ n2_ n3_; clear hb hbox hg; have hcz17_0 : w16.cell? ⟨gb215, 0, none⟩ = some (.int .i64 0) := (blk_cell BK215.out 0).trans rfl; have hcz17_1 : w16.cell? ⟨gb215, 1, none⟩ = some (.int .i64 0) := (blk_cell BK215.out 1).trans rfl; have hfz17_0 := blk_frozen BK215.out 0; have hfz17_1 := blk_frozen BK215.out 1))
                    go_ret2
                    exact ⟨by first | rfl | (simp [errW_none, errW_some] <;> rfl) | (simp only [← hji15]; first | rfl | (simp [errW_none, errW_some] <;> rfl)) | (simp [*, errW_none, errW_some] <;> rfl), by repeat (first | (with_reducible first | exact HB.out | apply below_alloc | apply pw_below_drewN | apply below_drew1 | refine below_set ?_ GE215.out) | exact HB.out)⟩
                  · rw [if_neg c14] at H
                    have c14b0 : decide (t213 < ((rd_T35 l1 x25_2).f1)) = false := decide_eq_false c14
                    clear c14
                    have H' := Aside0.mk H
                    clear H
                    have p214 : 0 ≤ (x25_2 : Int) := of_decide_eq_true (by first | (with_reducible assumption) | assumption)
                    have q214 : x25_2 < (l1.length : Int) := of_decide_eq_true (by first | (with_reducible assumption) | assumption)
                    obtain ⟨ad214, e214, hx214_0, hx214_1⟩ := at_T35 HR1.out x25_2 p214 q214
                    cases e214
                    replace hx214_0 := (HB.out.cell (World.block_lt_of_cell? w _ hx214_0)).trans hx214_0
                    replace hx214_1 := (HB.out.cell (World.block_lt_of_cell? w _ hx214_1)).trans hx214_1
                    replace p214 := eq_true p214
                    replace q214 := eq_true q214
                    go_wp2_with (first | ((with_reducible refine gate_dst (N := 10) rfl ?_); (try (refine gate_guard (by rfl) ?_; dsimp only)); refine box_event ?hg (N := 10) ?hd (cs := #[.int .i64 0, .int .i64 0]) (t := 35) ?hr ?_; (case hd => rfl); (case hg => rfl); (case hr => first | (go_simp; done) | (go_simp; rfl)); intro gb215 hg w18 hbox hb; have n0_ := Aside0.mk (below_step (by repeat (first | (with_reducible first | exact HB.out | apply below_alloc | apply pw_below_drewN | apply below_drew1) | exact HB.out)) hb); have n1_ := Aside0.mk (hbox); have n2_ := Aside0.mk ((by rw [hg]; exact (below_size (by repeat (first | (with_reducible first | exact HB.out | apply below_alloc | apply pw_below_drewN | apply below_drew1) | exact HB.out))) : w.heap.size ≤ gb215)); have n3_ := Aside0.mk ((by rw [hg]; exact (below_size (by repeat (first | (with_reducible first | exact HB.out | apply below_alloc | apply pw_below_drewN | apply below_drew1) | exact HB.out))) : w.heap.size ≤ gb215)); clear HB; have HB := n0_; have BK215 := n1_; have GW215 := n2_; have GE215 := n3_; clear n0_ n1_ n2_ n3_; clear hb hbox hg; have hcz19_0 : w18.cell? ⟨gb215, 0, none⟩ = some (.int .i64 0) := (blk_cell BK215.out 0).trans rfl; have hcz19_1 : w18.cell? ⟨gb215, 1, none⟩ = some (.int .i64 0) := (blk_cell BK215.out 1).trans rfl; have hfz19_0 := blk_frozen BK215.out 0; have hfz19_1 := blk_frozen BK215.out 1))
                    go_roundg k2
                    case measure => have := HJ3.out; have := HK2.out; omega
                    case rel => exact ⟨(wrap64 (x25_2 + 1)), (by first | rfl | (simp; done) | (simp [*]; done)), H', ⟨by have := HJ3.out; have := HK2.out; omega⟩, ⟨by repeat (first | (with_reducible first | exact HB.out | apply below_alloc | apply pw_below_drewN | apply below_drew1 | refine below_set ?_ GE215.out) | exact HB.out)⟩⟩
                · rw [if_neg c13] at H
                  exact absurd H (by simp)
              · rw [if_neg c12] at H
                exact absurd H (by simp)
            · rw [if_neg c11] at H
              have c11b0 : decide (x25_2 < (l1.length : Int)) = false := decide_eq_false c11
              clear c11
              by_cases c20 : 0 < (l1.length : Int)
              · rw [if_pos c20] at H
                have c20b0 : decide (0 < (l1.length : Int)) = true := decide_eq_true c20
                have c20b1 : decide (0 < l1.length) = true := decide_eq_true (by omega)
                clear c20
                simp only [Option.some.injEq, Prod.mk.injEq] at H
                obtain ⟨rfl, rfl⟩ := H
                have p216 : 0 ≤ (0 : Int) := (by omega)
                have q216 : 0 < (l1.length : Int) := of_decide_eq_true (by first | (with_reducible assumption) | assumption)
                obtain ⟨ad216, e216, hx216_0, hx216_1⟩ := at_T35 HR1.out 0 p216 q216
                cases e216
                have qi216 : (0 < l1.length) = True := eq_true (by omega)
                (try rw [show ((0 : Int)).toNat = 0 from rfl] at hx216_0)
                (try rw [show 0 * 2 = 0 from rfl] at hx216_0)
                (try rw [Addr.add_zero'] at hx216_0)
                (try rw [show ((0 : Int)).toNat = 0 from rfl] at hx216_1)
                (try rw [show 0 * 2 = 0 from rfl] at hx216_1)
                (try rw [Addr.add_zero'] at hx216_1)
                replace hx216_0 := (HB.out.cell (World.block_lt_of_cell? w _ hx216_0)).trans hx216_0
                replace hx216_1 := (HB.out.cell (World.block_lt_of_cell? w _ hx216_1)).trans hx216_1
                replace p216 := eq_true p216
                replace q216 := eq_true q216
                go_wp2
                go_ret2
                exact ⟨by first | rfl | (simp [errW_none, errW_some] <;> rfl) | (simp [*, errW_none, errW_some] <;> rfl), by repeat (first | (with_reducible first | exact HB.out | apply below_alloc | apply pw_below_drewN | apply below_drew1) | exact HB.out)⟩
              · rw [if_neg c20] at H
                exact absurd H (by simp)

/-! ### residue_Count: function 30 -/
def residue_Count.l0 : Nat → Int → List (S35) → Int → Int → Option (Int)
  | 0, _, _, _, _ => none
  | k + 1, x5, x12, x13, x14 => if x14 < x13 then (if 0 ≤ x14 then (if x14 < (x12.length : Int) then (residue_Count.l0 k (wrap64 (x5 + (wrap64 (((rd_T35 x12 x14).f1) - ((rd_T35 x12 x14).f0))))) x12 x13 (wrap64 (x14 + 1))) else (none)) else (none)) else (some x5)
def residue_Count.f (k : Nat) (a0 : Int) (l1 : List (S35)) : Option (Int) := (residue_Valid.f k a0 l1).bind fun t217 => (if t217 = true then (residue_Count.l0 k 0 l1 (l1.length : Int) 0) else (some 0))
theorem residue_Count.mono_l : ∀ k, (∀ y0 y1 y2 y3, LeO (residue_Count.l0 k y0 y1 y2 y3) (residue_Count.l0 (k + 1) y0 y1 y2 y3))
  | 0 => fun _ _ _ _ r h => by simp [residue_Count.l0] at h
  | k + 1 => by
    have ih0 := residue_Count.mono_l k
    · intro y0 y1 y2 y3
      unfold residue_Count.l0
      repeat' first
      | (with_reducible exact ih0 _ _ _ _)
      | (with_reducible exact residue_Valid.mono _ _ _)
      | (with_reducible exact LeO.refl _)
      | (with_reducible exact LeO.none _)
      | (with_reducible refine LeO.ite ?_ ?_)
      | (with_reducible refine LeO.bind ?_ (fun _ => ?_))
      | exact ih0 _ _ _ _
      | exact residue_Valid.mono _ _ _
      | exact LeO.none _
      | refine LeO.ite ?_ ?_
      | refine LeO.bind ?_ (fun _ => ?_)
theorem residue_Count.mono : ∀ a0 a1 k, LeO (residue_Count.f k a0 a1) (residue_Count.f (k + 1) a0 a1) := by
  intro a0 a1 k
  have ih0 := residue_Count.mono_l k
  unfold residue_Count.f
  repeat' first
      | (with_reducible exact ih0 _ _ _ _)
      | (with_reducible exact residue_Valid.mono _ _ _)
      | (with_reducible exact LeO.refl _)
      | (with_reducible exact LeO.none _)
      | (with_reducible refine LeO.ite ?_ ?_)
      | (with_reducible refine LeO.bind ?_ (fun _ => ?_))
      | exact ih0 _ _ _ _
      | exact residue_Valid.mono _ _ _
      | exact LeO.none _
      | refine LeO.ite ?_ ?_
      | refine LeO.bind ?_ (fun _ => ?_)
set_option maxHeartbeats 8000000 in
set_option maxRecDepth 100000 in
theorem residue_Count.calls (k : Nat) (a0 : Int) (A1 : Option Addr) (c1 : Nat) (l1 : List (S35)) (r : Int) (w : World) (hr1 : Kd.C k35 w A1 l1.length l1) (hc1 : l1.length ≤ c1) (h : residue_Count.f k a0 l1 = some r) :
    Calls Try.prog 30 #[.int .i64 a0, .slice A1 l1.length c1] w fun e w' => e = .returned (.int .i64 r) ∧ Below w.heap.size w w' := by
  have hu35 := Try.underlying35
  have HR1 := Aside0.mk hr1
  have HC1 := Aside0.mk hc1
  clear hr1 hc1
  have HB := Aside0.mk (Below.refl w.heap.size w)
  have H : ((residue_Valid.f k a0 l1).bind fun t217 => (if t217 = true then (residue_Count.l0 k 0 l1 (l1.length : Int) 0) else (some 0))) = some r := h
  clear h
  replace H := Option.bind_eq_some_iff.mp H
  obtain ⟨t217, A30, H⟩ := H
  replace H : (if t217 = true then (residue_Count.l0 k 0 l1 (l1.length : Int) 0) else (some 0)) = some r := H
  have A3 := Aside0.mk A30
  clear A30
  by_cases c4 : t217 = true
  · subst c4
    have H1 : (residue_Count.l0 k 0 l1 (l1.length : Int) 0) = some r := by rw [if_pos rfl] at H; exact H
    clear H
    have H := H1
    clear H1
    have H' := Aside0.mk H
    clear H
    go_enter Try.func30, Try.ntmps30
    go_wp2_with (first | ((with_reducible refine gate_callee (f := 17) rfl ?_); refine goesL_ (some 10) rfl rfl Try.func17 (by kernel_rfl) rfl #[.int .i64 a0, .slice A1 l1.length c1] rfl (by (try simp only [List.map_toArray, List.map_cons, List.map_nil]); first | done | rfl | (simp only [List.length_drop, List.length_take]; rfl)) ?_; (with_reducible refine (residue_Valid.calls k a0 _ _ l1 true _ ?side1 ?side2 A3.out).mono ?_); (case side1 => repeat (first | exact HR1.out | (with_reducible refine Kd.C_alloc ?_ _) | (with_reducible refine Kd.C_drewN ?_ _) | (with_reducible refine Kd.C_drew ?_))); (case side2 => exact HC1.out); rintro e w5 ⟨rfl, hb⟩; refine ⟨_, rfl, ?_⟩; have n0_ := Aside0.mk (below_step (by repeat (first | (with_reducible first | exact HB.out | apply below_alloc | apply pw_below_drewN | apply below_drew1) | exact HB.out)) hb); clear HB; have HB := n0_; clear n0_; (try clear hb); (try clear hb2); (try clear hk); (try clear hi)))
    go_loopg [5, 14] k (fun kq v5 v14 w' => ∃ (x5_1 : Int) (x14_1 : Int), v5 = .int .i64 x5_1 ∧ v14 = .int .i64 x14_1 ∧ Aside0 (residue_Count.l0 kq x5_1 l1 (l1.length : Int) x14_1 = some r) ∧ Aside0 (kq ≤ k) ∧ Aside0 (Below w.heap.size w w'))
    case atStart => exact ⟨(0), (0), (by first | rfl | (simp; done) | (simp [*]; done)), (by first | rfl | (simp; done) | (simp [*]; done)), H', ⟨Nat.le_refl _⟩, ⟨by repeat (first | (with_reducible first | exact HB.out | apply below_alloc | apply pw_below_drewN | apply below_drew1) | exact HB.out)⟩⟩
    case round =>
      clear H'
      try clear c1
      try clear p2
      try clear c3
      try clear c4
      obtain ⟨x5_1, x14_1, rfl, rfl, HA, HK1, HB⟩ := hrel
      cases gk with
      | zero => exact absurd HA.out (by simp [residue_Count.l0])
      | succ k1 =>
        have H := HA.out
        clear HA
        simp only [residue_Count.l0] at H
        by_cases c6 : x14_1 < (l1.length : Int)
        · rw [if_pos c6] at H
          have c6b0 : decide (x14_1 < (l1.length : Int)) = true := decide_eq_true c6
          clear c6
          by_cases c7 : 0 ≤ x14_1
          · rw [if_pos c7] at H
            have c7b0 : decide (0 ≤ x14_1) = true := decide_eq_true c7
            clear c7
            by_cases c8 : x14_1 < (l1.length : Int)
            · rw [if_pos c8] at H
              have c8b0 : decide (x14_1 < (l1.length : Int)) = true := decide_eq_true c8
              clear c8
              have H' := Aside0.mk H
              clear H
              have p218 : 0 ≤ (x14_1 : Int) := of_decide_eq_true (by first | (with_reducible assumption) | assumption)
              have q218 : x14_1 < (l1.length : Int) := of_decide_eq_true (by first | (with_reducible assumption) | assumption)
              obtain ⟨ad218, e218, hx218_0, hx218_1⟩ := at_T35 HR1.out x14_1 p218 q218
              cases e218
              replace hx218_0 := (HB.out.cell (World.block_lt_of_cell? w _ hx218_0)).trans hx218_0
              replace hx218_1 := (HB.out.cell (World.block_lt_of_cell? w _ hx218_1)).trans hx218_1
              replace p218 := eq_true p218
              replace q218 := eq_true q218
              go_wp2_with (first | ((with_reducible refine gate_dst (N := 7) rfl ?_); refine box_event ?hg (N := 7) ?hd (cs := #[.int .i64 0, .int .i64 0]) (t := 35) ?hr ?_; (case hd => rfl); (case hg => rfl); (case hr => first | (go_simp; done) | (go_simp; rfl)); intro gb219 hg w9 hbox hb; have n0_ := Aside0.mk (below_step (by repeat (first | (with_reducible first | exact HB.out | apply below_alloc | apply pw_below_drewN | apply below_drew1) | exact HB.out)) hb); have n1_ := Aside0.mk (hbox); have n2_ := Aside0.mk ((by rw [hg]; exact (below_size (by repeat (first | (with_reducible first | exact HB.out | apply below_alloc | apply pw_below_drewN | apply below_drew1) | exact HB.out))) : w.heap.size ≤ gb219)); have n3_ := Aside0.mk ((by rw [hg]; exact (below_size (by repeat (first | (with_reducible first | exact HB.out | apply below_alloc | apply pw_below_drewN | apply below_drew1) | exact HB.out))) : w.heap.size ≤ gb219)); clear HB; have HB := n0_; have BK219 := n1_; have GW219 := n2_; have GE219 := n3_; clear n0_ n1_ n2_ n3_; clear hb hbox hg; have hcz10_0 : w9.cell? ⟨gb219, 0, none⟩ = some (.int .i64 0) := (blk_cell BK219.out 0).trans rfl; have hcz10_1 : w9.cell? ⟨gb219, 1, none⟩ = some (.int .i64 0) := (blk_cell BK219.out 1).trans rfl; have hfz10_0 := blk_frozen BK219.out 0; have hfz10_1 := blk_frozen BK219.out 1))
              go_roundg k1
              case measure => have := HK1.out; omega
              case rel => exact ⟨(wrap64 (x5_1 + (wrap64 (((rd_T35 l1 x14_1).f1) - ((rd_T35 l1 x14_1).f0))))), (wrap64 (x14_1 + 1)), (by first | rfl | (simp; done) | (simp [*]; done)), (by first | rfl | (simp; done) | (simp [*]; done)), H', ⟨by have := HK1.out; omega⟩, ⟨by repeat (first | (with_reducible first | exact HB.out | apply below_alloc | apply pw_below_drewN | apply below_drew1 | refine below_set ?_ GE219.out) | exact HB.out)⟩⟩
            · rw [if_neg c8] at H
              exact absurd H (by simp)
          · rw [if_neg c7] at H
            exact absurd H (by simp)
        · rw [if_neg c6] at H
          have c6b0 : decide (x14_1 < (l1.length : Int)) = false := decide_eq_false c6
          clear c6
          obtain rfl := Option.some.inj H
          go_wp2
          go_ret
          exact ⟨by first | rfl | (simp [errW_none, errW_some] <;> rfl) | (simp [*, errW_none, errW_some] <;> rfl), by repeat (first | (with_reducible first | exact HB.out | apply below_alloc | apply pw_below_drewN | apply below_drew1) | exact HB.out)⟩
  · replace c4 := Bool.eq_false_iff.mpr c4
    subst c4
    have H1 : (some 0) = some r := by rw [if_neg (show ¬ (false = true) by decide)] at H; exact H
    clear H
    have H := H1
    clear H1
    obtain rfl := Option.some.inj H
    go_enter Try.func30, Try.ntmps30
    go_wp2_with (first | ((with_reducible refine gate_callee (f := 17) rfl ?_); refine goesL_ (some 10) rfl rfl Try.func17 (by kernel_rfl) rfl #[.int .i64 a0, .slice A1 l1.length c1] rfl (by (try simp only [List.map_toArray, List.map_cons, List.map_nil]); first | done | rfl | (simp only [List.length_drop, List.length_take]; rfl)) ?_; (with_reducible refine (residue_Valid.calls k a0 _ _ l1 false _ ?side1 ?side2 A3.out).mono ?_); (case side1 => repeat (first | exact HR1.out | (with_reducible refine Kd.C_alloc ?_ _) | (with_reducible refine Kd.C_drewN ?_ _) | (with_reducible refine Kd.C_drew ?_))); (case side2 => exact HC1.out); rintro e w11 ⟨rfl, hb⟩; refine ⟨_, rfl, ?_⟩; have n0_ := Aside0.mk (below_step (by repeat (first | (with_reducible first | exact HB.out | apply below_alloc | apply pw_below_drewN | apply below_drew1) | exact HB.out)) hb); clear HB; have HB := n0_; clear n0_; (try clear hb); (try clear hb2); (try clear hk); (try clear hi)))
    go_ret
    exact ⟨by first | rfl | (simp [errW_none, errW_some] <;> rfl) | (simp [*, errW_none, errW_some] <;> rfl), by repeat (first | (with_reducible first | exact HB.out | apply below_alloc | apply pw_below_drewN | apply below_drew1) | exact HB.out)⟩

/-! ### railplanref1_Has: function 32 -/
def railplanref1_Has.l0 : Nat → List (S35) → Int → Int → Option (Bool)
  | 0, _, _, _ => none
  | k + 1, x1, x7, x8 => if x8 < (x1.length : Int) then (if 0 ≤ x8 then (if x7 ≥ ((rd_T35 x1 x8).f0) then (if x7 < ((rd_T35 x1 x8).f1) then (some true) else (railplanref1_Has.l0 k x1 x7 (wrap64 (x8 + 1)))) else (railplanref1_Has.l0 k x1 x7 (wrap64 (x8 + 1)))) else (none)) else (some false)
def railplanref1_Has.f (k : Nat) (a0 : Int) (l1 : List (S35)) (a2 : Int) : Option (Bool) := (railplanref1_ValidSpans.f k a0 l1).bind fun t220 => (if t220 = true then ((railplanref1_Mod.f a2 a0).bind fun t221 => (railplanref1_Has.l0 k l1 t221 0)) else (some false))
theorem railplanref1_Has.mono_l : ∀ k, (∀ y0 y1 y2, LeO (railplanref1_Has.l0 k y0 y1 y2) (railplanref1_Has.l0 (k + 1) y0 y1 y2))
  | 0 => fun _ _ _ r h => by simp [railplanref1_Has.l0] at h
  | k + 1 => by
    have ih0 := railplanref1_Has.mono_l k
    · intro y0 y1 y2
      unfold railplanref1_Has.l0
      repeat' first
      | (with_reducible exact ih0 _ _ _)
      | (with_reducible exact railplanref1_ValidSpans.mono _ _ _)
      | (with_reducible exact LeO.refl _)
      | (with_reducible exact LeO.none _)
      | (with_reducible refine LeO.ite ?_ ?_)
      | (with_reducible refine LeO.bind ?_ (fun _ => ?_))
      | exact ih0 _ _ _
      | exact railplanref1_ValidSpans.mono _ _ _
      | exact LeO.none _
      | refine LeO.ite ?_ ?_
      | refine LeO.bind ?_ (fun _ => ?_)
theorem railplanref1_Has.mono : ∀ a0 a1 a2 k, LeO (railplanref1_Has.f k a0 a1 a2) (railplanref1_Has.f (k + 1) a0 a1 a2) := by
  intro a0 a1 a2 k
  have ih0 := railplanref1_Has.mono_l k
  unfold railplanref1_Has.f
  repeat' first
      | (with_reducible exact ih0 _ _ _)
      | (with_reducible exact railplanref1_ValidSpans.mono _ _ _)
      | (with_reducible exact LeO.refl _)
      | (with_reducible exact LeO.none _)
      | (with_reducible refine LeO.ite ?_ ?_)
      | (with_reducible refine LeO.bind ?_ (fun _ => ?_))
      | exact ih0 _ _ _
      | exact railplanref1_ValidSpans.mono _ _ _
      | exact LeO.none _
      | refine LeO.ite ?_ ?_
      | refine LeO.bind ?_ (fun _ => ?_)
set_option maxHeartbeats 8000000 in
set_option maxRecDepth 100000 in
theorem railplanref1_Has.calls (k : Nat) (a0 : Int) (A1 : Option Addr) (c1 : Nat) (l1 : List (S35)) (a2 : Int) (r : Bool) (w : World) (hr1 : Kd.C k35 w A1 l1.length l1) (hc1 : l1.length ≤ c1) (h : railplanref1_Has.f k a0 l1 a2 = some r) :
    Calls Try.prog 32 #[.int .i64 a0, .slice A1 l1.length c1, .int .i64 a2] w fun e w' => e = .returned (.bool r) ∧ Drawn0 w w' := by
  have HR1 := Aside0.mk hr1
  have HC1 := Aside0.mk hc1
  clear hr1 hc1
  have H : ((railplanref1_ValidSpans.f k a0 l1).bind fun t220 => (if t220 = true then ((railplanref1_Mod.f a2 a0).bind fun t221 => (railplanref1_Has.l0 k l1 t221 0)) else (some false))) = some r := h
  clear h
  replace H := Option.bind_eq_some_iff.mp H
  obtain ⟨t220, A40, H⟩ := H
  replace H : (if t220 = true then ((railplanref1_Mod.f a2 a0).bind fun t221 => (railplanref1_Has.l0 k l1 t221 0)) else (some false)) = some r := H
  have A4 := Aside0.mk A40
  clear A40
  by_cases c5 : t220 = true
  · subst c5
    have H1 : ((railplanref1_Mod.f a2 a0).bind fun t221 => (railplanref1_Has.l0 k l1 t221 0)) = some r := by rw [if_pos rfl] at H; exact H
    clear H
    have H := H1
    clear H1
    replace H := Option.bind_eq_some_iff.mp H
    obtain ⟨t221, A60, H⟩ := H
    replace H : (railplanref1_Has.l0 k l1 t221 0) = some r := H
    have A6 := Aside0.mk A60
    clear A60
    have H' := Aside0.mk H
    clear H
    go_enter Try.func32, Try.ntmps32
    go_wp2_with (first | ((with_reducible refine gate_callee (f := 18) rfl ?_); refine goesL_ (some 11) rfl rfl Try.func18 (by kernel_rfl) rfl #[.int .i64 a0, .slice A1 l1.length c1] rfl (by (try simp only [List.map_toArray, List.map_cons, List.map_nil]); first | done | rfl | (simp only [List.length_drop, List.length_take]; rfl)) ?_; (with_reducible refine (railplanref1_ValidSpans.calls k a0 _ _ l1 true _ ?side1 ?side2 A4.out).mono ?_); (case side1 => repeat (first | exact HR1.out | (with_reducible refine Kd.C_alloc ?_ _) | (with_reducible refine Kd.C_drewN ?_ _) | (with_reducible refine Kd.C_drew ?_))); (case side2 => exact HC1.out); rintro e w' ⟨rfl, ⟨nd, rfl⟩⟩; refine ⟨_, rfl, ?_⟩) | ((with_reducible refine gate_callee (f := 49) rfl ?_); refine goesL_ (some 15) rfl rfl Try.func49 (by kernel_rfl) rfl #[.int .i64 a2, .int .i64 a0] rfl (by (try simp only [List.map_toArray, List.map_cons, List.map_nil]); first | done | rfl | (simp only [List.length_drop, List.length_take]; rfl)) ?_; (with_reducible refine (railplanref1_Mod.calls a2 a0 t221 _ A6.out).mono ?_); rintro e w' ⟨rfl, ⟨nd, rfl⟩⟩; refine ⟨_, rfl, ?_⟩))
    go_loopg [8] k (fun kq v8 w' => ∃ (x8_1 : Int), v8 = .int .i64 x8_1 ∧ Aside0 (railplanref1_Has.l0 kq l1 t221 x8_1 = some r) ∧ Aside0 (kq ≤ k) ∧ Drawn0 w w')
    case atStart => exact ⟨(0), (by first | rfl | (simp; done) | (simp [*]; done)), H', ⟨Nat.le_refl _⟩, by repeat (first | exact Drawn0.refl _ | apply Drawn0.step)⟩
    case round =>
      clear H'
      try clear c1
      try clear p2
      try clear c3
      try clear c4
      try clear c5
      obtain ⟨x8_1, rfl, HA, HK1, ⟨m1, rfl⟩⟩ := hrel
      cases gk with
      | zero => exact absurd HA.out (by simp [railplanref1_Has.l0])
      | succ k1 =>
        have H := HA.out
        clear HA
        simp only [railplanref1_Has.l0] at H
        by_cases c7 : x8_1 < (l1.length : Int)
        · rw [if_pos c7] at H
          have c7b0 : decide (x8_1 < (l1.length : Int)) = true := decide_eq_true c7
          clear c7
          by_cases c8 : 0 ≤ x8_1
          · rw [if_pos c8] at H
            have c8b0 : decide (0 ≤ x8_1) = true := decide_eq_true c8
            clear c8
            by_cases c9 : t221 ≥ ((rd_T35 l1 x8_1).f0)
            · rw [if_pos c9] at H
              have c9b0 : decide (((rd_T35 l1 x8_1).f0) ≤ t221) = true := decide_eq_true c9
              clear c9
              by_cases c10 : t221 < ((rd_T35 l1 x8_1).f1)
              · rw [if_pos c10] at H
                have c10b0 : decide (t221 < ((rd_T35 l1 x8_1).f1)) = true := decide_eq_true c10
                clear c10
                obtain rfl := Option.some.inj H
                have p222 : 0 ≤ (x8_1 : Int) := of_decide_eq_true (by first | (with_reducible assumption) | assumption)
                have q222 : x8_1 < (l1.length : Int) := of_decide_eq_true (by first | (with_reducible assumption) | assumption)
                obtain ⟨ad222, e222, hx222_0, hx222_1⟩ := at_T35 HR1.out x8_1 p222 q222
                cases e222
                replace p222 := eq_true p222
                replace q222 := eq_true q222
                have p223 : 0 ≤ (x8_1 : Int) := of_decide_eq_true (by first | (with_reducible assumption) | assumption)
                have q223 : x8_1 < (l1.length : Int) := of_decide_eq_true (by first | (with_reducible assumption) | assumption)
                obtain ⟨ad223, e223, hx223_0, hx223_1⟩ := at_T35 HR1.out x8_1 p223 q223
                obtain rfl : ad222 = ad223 := (by injection e223)
                replace p223 := eq_true p223
                replace q223 := eq_true q223
                go_wp2
                go_ret
                exact ⟨by first | rfl | (simp; done) | (simp [*]; done), by repeat (first | exact Drawn0.refl _ | apply Drawn0.step)⟩
              · rw [if_neg c10] at H
                have c10b0 : decide (t221 < ((rd_T35 l1 x8_1).f1)) = false := decide_eq_false c10
                clear c10
                have H' := Aside0.mk H
                clear H
                have p222 : 0 ≤ (x8_1 : Int) := of_decide_eq_true (by first | (with_reducible assumption) | assumption)
                have q222 : x8_1 < (l1.length : Int) := of_decide_eq_true (by first | (with_reducible assumption) | assumption)
                obtain ⟨ad222, e222, hx222_0, hx222_1⟩ := at_T35 HR1.out x8_1 p222 q222
                cases e222
                replace p222 := eq_true p222
                replace q222 := eq_true q222
                have p223 : 0 ≤ (x8_1 : Int) := of_decide_eq_true (by first | (with_reducible assumption) | assumption)
                have q223 : x8_1 < (l1.length : Int) := of_decide_eq_true (by first | (with_reducible assumption) | assumption)
                obtain ⟨ad223, e223, hx223_0, hx223_1⟩ := at_T35 HR1.out x8_1 p223 q223
                obtain rfl : ad222 = ad223 := (by injection e223)
                replace p223 := eq_true p223
                replace q223 := eq_true q223
                go_wp2
                go_roundg k1
                case measure => have := HK1.out; omega
                case rel => exact ⟨(wrap64 (x8_1 + 1)), (by first | rfl | (simp; done) | (simp [*]; done)), H', ⟨by have := HK1.out; omega⟩, by repeat (first | exact Drawn0.refl _ | apply Drawn0.step)⟩
            · rw [if_neg c9] at H
              have c9b0 : decide (((rd_T35 l1 x8_1).f0) ≤ t221) = false := decide_eq_false c9
              clear c9
              have H' := Aside0.mk H
              clear H
              have p222 : 0 ≤ (x8_1 : Int) := of_decide_eq_true (by first | (with_reducible assumption) | assumption)
              have q222 : x8_1 < (l1.length : Int) := of_decide_eq_true (by first | (with_reducible assumption) | assumption)
              obtain ⟨ad222, e222, hx222_0, hx222_1⟩ := at_T35 HR1.out x8_1 p222 q222
              cases e222
              replace p222 := eq_true p222
              replace q222 := eq_true q222
              go_wp2
              go_roundg k1
              case measure => have := HK1.out; omega
              case rel => exact ⟨(wrap64 (x8_1 + 1)), (by first | rfl | (simp; done) | (simp [*]; done)), H', ⟨by have := HK1.out; omega⟩, by repeat (first | exact Drawn0.refl _ | apply Drawn0.step)⟩
          · rw [if_neg c8] at H
            exact absurd H (by simp)
        · rw [if_neg c7] at H
          have c7b0 : decide (x8_1 < (l1.length : Int)) = false := decide_eq_false c7
          clear c7
          obtain rfl := Option.some.inj H
          go_wp2
          go_ret
          exact ⟨by first | rfl | (simp; done) | (simp [*]; done), by repeat (first | exact Drawn0.refl _ | apply Drawn0.step)⟩
  · replace c5 := Bool.eq_false_iff.mpr c5
    subst c5
    have H1 : (some false) = some r := by rw [if_neg (show ¬ (false = true) by decide)] at H; exact H
    clear H
    have H := H1
    clear H1
    obtain rfl := Option.some.inj H
    go_enter Try.func32, Try.ntmps32
    go_wp2_with (first | ((with_reducible refine gate_callee (f := 18) rfl ?_); refine goesL_ (some 11) rfl rfl Try.func18 (by kernel_rfl) rfl #[.int .i64 a0, .slice A1 l1.length c1] rfl (by (try simp only [List.map_toArray, List.map_cons, List.map_nil]); first | done | rfl | (simp only [List.length_drop, List.length_take]; rfl)) ?_; (with_reducible refine (railplanref1_ValidSpans.calls k a0 _ _ l1 false _ ?side1 ?side2 A4.out).mono ?_); (case side1 => repeat (first | exact HR1.out | (with_reducible refine Kd.C_alloc ?_ _) | (with_reducible refine Kd.C_drewN ?_ _) | (with_reducible refine Kd.C_drew ?_))); (case side2 => exact HC1.out); rintro e w' ⟨rfl, ⟨nd, rfl⟩⟩; refine ⟨_, rfl, ?_⟩))
    go_ret
    exact ⟨by first | rfl | (simp; done) | (simp [*]; done), by repeat (first | exact Drawn0.refl _ | apply Drawn0.step)⟩

end Go.Proofs.Ytdnileakboefgaa.PResidueQueries
