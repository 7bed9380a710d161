-- PRINTED BY print.sh 35421559b90ae4d0a3588c463048766b98c2df88dd9212a6774a882060cdf62d: not written by this session
import Derived.Test.YtdnileakboefgaaPResidueValidx0
import Derived.Test.YtdnileakboefgaaPResidueValidx2
import Derived.Test.YtdnileakboefgaaPResidueValidx3
import Derived.Test.YtdnileakboefgaaPResidueValidx4
import Derived.Test.YtdnileakboefgaaPResidueValidx5
namespace Go.Proofs.Ytdnileakboefgaa.PResidueValid
open Go.RowKit Go.Proofs.YtdnileakboefgaaW.PrintWords Go.Proofs.YtdnileakboefgaaW.PrintLast Go.Proofs.YtdnileakboefgaaW.PrintMore
attribute [local go_sem] max2_int min2_int max_two min_two max_three min_three max_four min_four   -- for this text's walks alone
set_option linter.unusedVariables false
set_option linter.unusedSimpArgs false

/-! ### railplankeep_Set: function 19 -/
def railplankeep_Set.l0 : Nat → Int → List (S35) → Int → List Int → Int → Option ((List (S35)))
  | 0, _, _, _, _, _ => none
  | k + 1, x0, x6, x7, x194000, x194001 => if x7 > 0 then ((railplankeep_Source_Next.f x194000 x194001 x0).bind fun bt196 => ((railplankeep_Source_Next.f x194000 bt196.2 (wrap64 (1 + (wrap64 (Int.tdiv x0 2))))).bind fun bt198 => ((railplanref1_Make.f k x0 bt196.1 bt198.1).bind fun bt200 => ((railplanref1_Union.f k x0 x6 bt200.1).bind fun bt204 => (railplankeep_Set.l0 k x0 bt204.1 (wrap64 (x7 - 1)) x194000 bt198.2))))) else (some x6)
def railplankeep_Set.f (k : Nat) (a0 : Int) (l1 : List Int) : Option ((List (S35))) := (railplankeep_From.f l1).bind fun bt191 => ((railplankeep_Source_Next.f bt191.1 bt191.2 5).bind fun bt194 => (railplankeep_Set.l0 k a0 ([] : List (S35)) bt194.1 bt191.1 bt194.2))
theorem railplankeep_Set.mono_l : ∀ k, (∀ y0 y1 y2 y3 y4, LeO (railplankeep_Set.l0 k y0 y1 y2 y3 y4) (railplankeep_Set.l0 (k + 1) y0 y1 y2 y3 y4))
  | 0 => fun _ _ _ _ _ r h => by simp [railplankeep_Set.l0] at h
  | k + 1 => by
    have ih0 := railplankeep_Set.mono_l k
    · intro y0 y1 y2 y3 y4
      unfold railplankeep_Set.l0
      repeat' first
      | (with_reducible exact ih0 _ _ _ _ _)
      | (with_reducible exact railplanref1_Make.mono _ _ _ _)
      | (with_reducible exact railplanref1_Union.mono _ _ _ _)
      | (with_reducible exact LeO.refl _)
      | (with_reducible exact LeO.none _)
      | (with_reducible refine LeO.ite ?_ ?_)
      | (with_reducible refine LeO.bind ?_ (fun _ => ?_))
      | exact ih0 _ _ _ _ _
      | exact railplanref1_Make.mono _ _ _ _
      | exact railplanref1_Union.mono _ _ _ _
      | exact LeO.none _
      | refine LeO.ite ?_ ?_
      | refine LeO.bind ?_ (fun _ => ?_)
theorem railplankeep_Set.mono : ∀ a0 a1 k, LeO (railplankeep_Set.f k a0 a1) (railplankeep_Set.f (k + 1) a0 a1) := by
  intro a0 a1 k
  have ih0 := railplankeep_Set.mono_l k
  unfold railplankeep_Set.f
  repeat' first
      | (with_reducible exact ih0 _ _ _ _ _)
      | (with_reducible exact railplanref1_Make.mono _ _ _ _)
      | (with_reducible exact railplanref1_Union.mono _ _ _ _)
      | (with_reducible exact LeO.refl _)
      | (with_reducible exact LeO.none _)
      | (with_reducible refine LeO.ite ?_ ?_)
      | (with_reducible refine LeO.bind ?_ (fun _ => ?_))
      | exact ih0 _ _ _ _ _
      | exact railplanref1_Make.mono _ _ _ _
      | exact railplanref1_Union.mono _ _ _ _
      | exact LeO.none _
      | refine LeO.ite ?_ ?_
      | refine LeO.bind ?_ (fun _ => ?_)
set_option maxHeartbeats 8000000 in
set_option maxRecDepth 100000 in
theorem railplankeep_Set.calls (k : Nat) (a0 : Int) (A1 : Option Addr) (c1 : Nat) (l1 : List Int) (r : List (S35)) (w : World) (hr1 : Kd.C (Kd.int .i64) w A1 l1.length l1) (hc1 : l1.length ≤ c1) (h : railplankeep_Set.f k a0 l1 = some r) :
    Calls Try.prog 19 #[.int .i64 a0, .slice A1 l1.length c1] w fun e w' => ∃ v0_ : Value, e = .returned (v0_) ∧ Kd.R k35 35 w' w.heap.size (fun _ => True) v0_ r ∧ Below w.heap.size w w' := by
  have HR1 := Aside0.mk hr1
  have HC1 := Aside0.mk hc1
  clear hr1 hc1
  have HB := Aside0.mk (Below.refl w.heap.size w)
  have H : ((railplankeep_From.f l1).bind fun bt191 => ((railplankeep_Source_Next.f bt191.1 bt191.2 5).bind fun bt194 => (railplankeep_Set.l0 k a0 ([] : List (S35)) bt194.1 bt191.1 bt194.2))) = some r := h
  clear h
  replace H := Option.bind_eq_some_iff.mp H
  obtain ⟨⟨t191, t192⟩, A30, H⟩ := H
  replace H : ((railplankeep_Source_Next.f t191 t192 5).bind fun bt194 => (railplankeep_Set.l0 k a0 ([] : List (S35)) bt194.1 t191 bt194.2)) = some r := H
  have A3 := Aside0.mk A30
  clear A30
  replace H := Option.bind_eq_some_iff.mp H
  obtain ⟨⟨t194, t195⟩, A40, H⟩ := H
  replace H : (railplankeep_Set.l0 k a0 ([] : List (S35)) t194 t191 t195) = some r := H
  have A4 := Aside0.mk A40
  clear A40
  have H' := Aside0.mk H
  clear H
  go_enter Try.func19, Try.ntmps19
  go_wp2_with (first | ((with_reducible refine gate_callee (f := 43) rfl ?_); refine goesL_ (some 11) rfl rfl Try.func43 (by kernel_rfl) rfl #[.slice A1 l1.length c1] rfl (by (try simp only [List.map_toArray, List.map_cons, List.map_nil]); first | done | rfl | (simp only [List.length_drop, List.length_take]; rfl)) ?_; (with_reducible refine (railplankeep_From.calls _ _ l1 t191 t192 w _ ?side1 ?side2 ?side3 A3.out).mono ?_); (case side1 => repeat (first | (with_reducible first | exact HB.out | apply below_alloc | apply pw_below_drewN | apply below_drew1) | exact HB.out)); (case side2 => exact HR1.out); (case side3 => exact HC1.out); rintro e w5 ⟨g193, rfl, hi, hb, hb2⟩; refine ⟨_, rfl, ?_⟩; have n0_ := Aside0.mk (hb); have n1_ := Aside0.mk (hi); clear HB; have HB := n0_; have HI193 := n1_; clear n0_ n1_; (try clear hb); (try clear hb2); (try clear hk); (try clear hi)) | ((with_reducible refine gate_callee (f := 44) rfl ?_); refine goesL_ (some 13) rfl rfl Try.func44 (by kernel_rfl) rfl #[.pointer (some ⟨g193, 0, none⟩), .int .i64 5] rfl (by (try simp only [List.map_toArray, List.map_cons, List.map_nil]); first | done | rfl | (simp only [List.length_drop, List.length_take]; rfl)) ?_; (with_reducible refine (railplankeep_Source_Next.calls g193 t191 t192 5 t194 t195 w _ ?side1 ?side2 A4.out).mono ?_); (case side1 => repeat (first | (with_reducible first | exact HI193.out | apply IsS68.alloc | apply IsS68.drewN | apply IsS68.drew | apply IsS68.set_1) | exact HI193.out)); (case side2 => repeat (first | (with_reducible first | exact HB.out | apply below_alloc | apply pw_below_drewN | apply below_drew1 | refine below_set ?_ (IsS68.ge HI193.out)) | exact HB.out)); rintro e w6 ⟨rfl, hi, hb, hk⟩; refine ⟨_, rfl, ?_⟩; have n0_ := Aside0.mk (hb); have n1_ := Aside0.mk (hi); clear HB; clear HI193; have HB := n0_; have HI193 := n1_; clear n0_ n1_; (try clear hb); (try clear hb2); (try clear hk); (try clear hi)))
  go_loopg [6, 7] k (fun kq v6 v7 w' => ∃ (x6_1 : List (S35)) (x7_1 : Int) (x194001_1 : Int), v7 = .int .i64 x7_1 ∧ Aside0 (railplankeep_Set.l0 kq a0 x6_1 x7_1 t191 x194001_1 = some r) ∧ Aside0 (kq ≤ k) ∧ Aside0 (Kd.R k35 35 w' w.heap.size (fun _ => True) v6 x6_1) ∧ Aside0 (IsS68 w w' g193 t191 x194001_1) ∧ Aside0 (Below w.heap.size w w'))
  case atStart => exact ⟨(([] : List (S35))), (t194), (t195), (by first | rfl | (simp; done) | (simp [*]; done)), H', ⟨Nat.le_refl _⟩, ⟨by first | exact Kd.R_nil _ _ _ _ _ | exact Kd.N_nil _ _ _ _ _ | exact Kd.V_nil _ _ _ _ _ | exact Kd.Q_nil _ _ _ _ _ | exact Kd.S_nil _ _ _ _ _⟩, ⟨by repeat (first | (with_reducible first | exact HI193.out | apply IsS68.alloc | apply IsS68.drewN | apply IsS68.drew | apply IsS68.set_1) | exact HI193.out)⟩, ⟨by repeat (first | (with_reducible first | exact HB.out | apply below_alloc | apply pw_below_drewN | apply below_drew1 | refine below_set ?_ (IsS68.ge HI193.out)) | exact HB.out)⟩⟩
  case round =>
    clear H'
    try clear c1
    try clear p2
    try clear c4
    obtain ⟨x6_1, x7_1, x194001_1, rfl, HA, HK1, HO_6, HI193, HB⟩ := hrel
    cases gk with
    | zero => exact absurd HA.out (by simp [railplankeep_Set.l0])
    | succ k1 =>
      have H := HA.out
      clear HA
      simp only [railplankeep_Set.l0] at H
      by_cases c7 : x7_1 > 0
      · rw [if_pos c7] at H
        have c7b0 : decide (0 < x7_1) = true := decide_eq_true c7
        clear c7
        replace H := Option.bind_eq_some_iff.mp H
        obtain ⟨⟨t196, t197⟩, A80, H⟩ := H
        replace H : ((railplankeep_Source_Next.f t191 t197 (wrap64 (1 + (wrap64 (Int.tdiv a0 2))))).bind fun bt198 => ((railplanref1_Make.f k1 a0 t196 bt198.1).bind fun bt200 => ((railplanref1_Union.f k1 a0 x6_1 bt200.1).bind fun bt204 => (railplankeep_Set.l0 k1 a0 bt204.1 (wrap64 (x7_1 - 1)) t191 bt198.2)))) = some r := H
        have A8 := Aside0.mk A80
        clear A80
        replace H := Option.bind_eq_some_iff.mp H
        obtain ⟨⟨t198, t199⟩, A90, H⟩ := H
        replace H : ((railplanref1_Make.f k1 a0 t196 t198).bind fun bt200 => ((railplanref1_Union.f k1 a0 x6_1 bt200.1).bind fun bt204 => (railplankeep_Set.l0 k1 a0 bt204.1 (wrap64 (x7_1 - 1)) t191 t199))) = some r := H
        have A9 := Aside0.mk A90
        clear A90
        replace H := Option.bind_eq_some_iff.mp H
        obtain ⟨⟨t200, t201⟩, A100, H⟩ := H
        replace H : ((railplanref1_Union.f k1 a0 x6_1 t200).bind fun bt204 => (railplankeep_Set.l0 k1 a0 bt204.1 (wrap64 (x7_1 - 1)) t191 t199)) = some r := H
        have A10 := Aside0.mk A100
        clear A100
        replace H := Option.bind_eq_some_iff.mp H
        obtain ⟨⟨t204, t205⟩, A110, H⟩ := H
        replace H : (railplankeep_Set.l0 k1 a0 t204 (wrap64 (x7_1 - 1)) t191 t199) = some r := H
        have A11 := Aside0.mk A110
        clear A110
        have H' := Aside0.mk H
        clear H
        go_wp2_with (first | ((with_reducible refine gate_callee (f := 44) rfl ?_); refine goesL_ (some 22) rfl rfl Try.func44 (by kernel_rfl) rfl #[.pointer (some ⟨g193, 0, none⟩), .int .i64 a0] rfl (by (try simp only [List.map_toArray, List.map_cons, List.map_nil]); first | done | rfl | (simp only [List.length_drop, List.length_take]; rfl)) ?_; (with_reducible refine (railplankeep_Source_Next.calls g193 t191 x194001_1 a0 t196 t197 w _ ?side1 ?side2 A8.out).mono ?_); (case side1 => repeat (first | (with_reducible first | exact HI193.out | apply IsS68.alloc | apply IsS68.drewN | apply IsS68.drew | apply IsS68.set_1) | exact HI193.out)); (case side2 => repeat (first | (with_reducible first | exact HB.out | apply below_alloc | apply pw_below_drewN | apply below_drew1 | refine below_set ?_ (IsS68.ge HI193.out)) | exact HB.out)); rintro e w12 ⟨rfl, hi, hb, hk⟩; refine ⟨_, rfl, ?_⟩; have n0_ := Aside0.mk (Kd.R_mono (Kd.R_keep (IsS68.apart (show IsS68 w _ g193 t191 x194001_1 from by repeat (first | (with_reducible first | exact HI193.out | apply IsS68.alloc | apply IsS68.drewN | apply IsS68.drew | apply IsS68.set_1) | exact HI193.out)) (by (with_reducible repeat (first | apply Kd.R_alloc | apply Kd.R_drewN | apply Kd.R_drew)); exact HO_6.out) (by decide)) hk (fun _ h => h.2)) (fun _ h => h.1)); have n1_ := Aside0.mk (hb); have n2_ := Aside0.mk (hi); clear HO_6; clear HB; clear HI193; have HO_6 := n0_; have HB := n1_; have HI193 := n2_; clear n0_ n1_ n2_; (try clear hb); (try clear hb2); (try clear hk); (try clear hi)) | ((with_reducible refine gate_callee (f := 44) rfl ?_); refine goesL_ (some 27) rfl rfl Try.func44 (by kernel_rfl) rfl #[.pointer (some ⟨g193, 0, none⟩), .int .i64 (wrap64 (1 + (wrap64 (Int.tdiv a0 2))))] rfl (by (try simp only [List.map_toArray, List.map_cons, List.map_nil]); first | done | rfl | (simp only [List.length_drop, List.length_take]; rfl)) ?_; (with_reducible refine (railplankeep_Source_Next.calls g193 t191 t197 (wrap64 (1 + (wrap64 (Int.tdiv a0 2)))) t198 t199 w _ ?side1 ?side2 A9.out).mono ?_); (case side1 => repeat (first | (with_reducible first | exact HI193.out | apply IsS68.alloc | apply IsS68.drewN | apply IsS68.drew | apply IsS68.set_1) | exact HI193.out)); (case side2 => repeat (first | (with_reducible first | exact HB.out | apply below_alloc | apply pw_below_drewN | apply below_drew1 | refine below_set ?_ (IsS68.ge HI193.out)) | exact HB.out)); rintro e w13 ⟨rfl, hi, hb, hk⟩; refine ⟨_, rfl, ?_⟩; have n0_ := Aside0.mk (Kd.R_mono (Kd.R_keep (IsS68.apart (show IsS68 w _ g193 t191 t197 from by repeat (first | (with_reducible first | exact HI193.out | apply IsS68.alloc | apply IsS68.drewN | apply IsS68.drew | apply IsS68.set_1) | exact HI193.out)) (by (with_reducible repeat (first | apply Kd.R_alloc | apply Kd.R_drewN | apply Kd.R_drew)); exact HO_6.out) (by decide)) hk (fun _ h => h.2)) (fun _ h => h.1)); have n1_ := Aside0.mk (hb); have n2_ := Aside0.mk (hi); clear HO_6; clear HB; clear HI193; have HO_6 := n0_; have HB := n1_; have HI193 := n2_; clear n0_ n1_ n2_; (try clear hb); (try clear hb2); (try clear hk); (try clear hi)) | ((with_reducible refine gate_callee (f := 21) rfl ?_); refine goesL_ (some 28) rfl rfl Try.func21 (by kernel_rfl) rfl #[.int .i64 a0, .int .i64 t196, .int .i64 t198] rfl (by (try simp only [List.map_toArray, List.map_cons, List.map_nil]); first | done | rfl | (simp only [List.length_drop, List.length_take]; rfl)) ?_; (with_reducible refine (railplanref1_Make.calls k1 a0 t196 t198 t200 t201 _ A10.out).mono ?_); rintro e w14 ⟨v202, rfl, ho0, hb⟩; refine ⟨_, rfl, ?_⟩; have n0_ := Aside0.mk (Kd.R_elder' (by (with_reducible repeat (first | apply Kd.R_alloc | apply Kd.R_drewN | apply Kd.R_drew)); exact HO_6.out) (Kd.R_base ho0) hb); have n1_ := Aside0.mk (Kd.R_lower (Kd.R_new' ho0 (Kd.R_lt (by (with_reducible repeat (first | apply Kd.R_alloc | apply Kd.R_drewN | apply Kd.R_drew)); exact HO_6.out))) (below_size (by repeat (first | (with_reducible first | exact HB.out | apply below_alloc | apply pw_below_drewN | apply below_drew1 | refine below_set ?_ (IsS68.ge HI193.out)) | exact HB.out)))); have n2_ := Aside0.mk (IsS68.below (by repeat (first | (with_reducible first | exact HI193.out | apply IsS68.alloc | apply IsS68.drewN | apply IsS68.drew | apply IsS68.set_1) | exact HI193.out)) hb); have n3_ := Aside0.mk (below_step (by repeat (first | (with_reducible first | exact HB.out | apply below_alloc | apply pw_below_drewN | apply below_drew1 | refine below_set ?_ (IsS68.ge HI193.out)) | exact HB.out)) hb); clear HO_6; clear HI193; clear HB; have HO_6 := n0_; have HO203 := n1_; have HI193 := n2_; have HB := n3_; clear n0_ n1_ n2_ n3_; (try clear hb); (try clear hb2); (try clear hk); (try clear hi); (try clear ho0); obtain ⟨Ao15, co15, eo15⟩ := Kd.R_slice HO_6.out; subst eo15; obtain ⟨Ao16, co16, eo16⟩ := Kd.R_slice HO203.out; subst eo16) | ((with_reducible refine gate_callee (f := 36) rfl ?_); refine goesL_ (some 35) rfl rfl Try.func36 (by kernel_rfl) rfl #[.int .i64 a0, .slice Ao15 x6_1.length co15, .slice Ao16 t200.length co16] rfl (by (try simp only [List.map_toArray, List.map_cons, List.map_nil]); first | done | rfl | (simp only [List.length_drop, List.length_take]; rfl)) ?_; (with_reducible refine (railplanref1_Union.calls k1 a0 _ _ x6_1 _ _ t200 t204 t205 _ ?side1 ?side2 ?side3 ?side4 A11.out).mono ?_); (case side1 => repeat (first | exact (Kd.R_reads' HO_6.out).2.2 | (with_reducible refine Kd.C_alloc ?_ _) | (with_reducible refine Kd.C_drewN ?_ _) | (with_reducible refine Kd.C_drew ?_))); (case side2 => exact (Kd.R_reads' HO_6.out).2.1); (case side3 => repeat (first | exact (Kd.R_reads' HO203.out).2.2 | (with_reducible refine Kd.C_alloc ?_ _) | (with_reducible refine Kd.C_drewN ?_ _) | (with_reducible refine Kd.C_drew ?_))); (case side4 => exact (Kd.R_reads' HO203.out).2.1); rintro e w17 ⟨v206, rfl, ho0, hb⟩; refine ⟨_, rfl, ?_⟩; have n0_ := Aside0.mk (Kd.R_elder' (by (with_reducible repeat (first | apply Kd.R_alloc | apply Kd.R_drewN | apply Kd.R_drew)); exact HO_6.out) (Kd.R_base ho0) hb); have n1_ := Aside0.mk (Kd.R_elder' (by (with_reducible repeat (first | apply Kd.R_alloc | apply Kd.R_drewN | apply Kd.R_drew)); exact HO203.out) (Kd.R_base ho0) hb); have n2_ := Aside0.mk (Kd.R_lower (Kd.R_new' (Kd.R_new' ho0 (Kd.R_lt (by (with_reducible repeat (first | apply Kd.R_alloc | apply Kd.R_drewN | apply Kd.R_drew)); exact HO_6.out))) (Kd.R_lt (by (with_reducible repeat (first | apply Kd.R_alloc | apply Kd.R_drewN | apply Kd.R_drew)); exact HO203.out))) (below_size (by repeat (first | (with_reducible first | exact HB.out | apply below_alloc | apply pw_below_drewN | apply below_drew1 | refine below_set ?_ (IsS68.ge HI193.out)) | exact HB.out)))); have n3_ := Aside0.mk (IsS68.below (by repeat (first | (with_reducible first | exact HI193.out | apply IsS68.alloc | apply IsS68.drewN | apply IsS68.drew | apply IsS68.set_1) | exact HI193.out)) hb); have n4_ := Aside0.mk (below_step (by repeat (first | (with_reducible first | exact HB.out | apply below_alloc | apply pw_below_drewN | apply below_drew1 | refine below_set ?_ (IsS68.ge HI193.out)) | exact HB.out)) hb); clear HO_6; clear HO203; clear HI193; clear HB; have HO_6 := n0_; have HO203 := n1_; have HO207 := n2_; have HI193 := n3_; have HB := n4_; clear n0_ n1_ n2_ n3_ n4_; (try clear hb); (try clear hb2); (try clear hk); (try clear hi); (try clear ho0)))
        go_roundg k1
        case measure => have := HK1.out; omega
        case rel => exact ⟨(t204), (wrap64 (x7_1 - 1)), (t199), (by first | rfl | (simp; done) | (simp [*]; done)), H', ⟨by have := HK1.out; omega⟩, ⟨by (with_reducible repeat (first | apply Kd.R_alloc | apply Kd.R_drewN | apply Kd.R_drew)); exact Kd.R_mono HO207.out (fun _ hk => trivial)⟩, ⟨by repeat (first | (with_reducible first | exact HI193.out | apply IsS68.alloc | apply IsS68.drewN | apply IsS68.drew | apply IsS68.set_1) | exact HI193.out)⟩, ⟨by repeat (first | (with_reducible first | exact HB.out | apply below_alloc | apply pw_below_drewN | apply below_drew1 | refine below_set ?_ (IsS68.ge HI193.out)) | exact HB.out)⟩⟩
      · rw [if_neg c7] at H
        have c7b0 : decide (0 < x7_1) = false := decide_eq_false c7
        clear c7
        obtain rfl := Option.some.inj H
        go_wp2
        go_ret
        exact ⟨_, by first | rfl | (simp [errW_none, errW_some] <;> rfl) | (simp [*, errW_none, errW_some] <;> rfl), by (with_reducible repeat (first | apply Kd.R_alloc | apply Kd.R_drewN | apply Kd.R_drew)); exact HO_6.out, by repeat (first | (with_reducible first | exact HB.out | apply below_alloc | apply pw_below_drewN | apply below_drew1 | refine below_set ?_ (IsS68.ge HI193.out)) | exact HB.out)⟩

/-! ### railplanlaw2_ResidueValid: function 3 -/
def railplanlaw2_ResidueValid.f (k : Nat) (a0 : Int) (l1 : List (S35)) (l2 : List Int) : Option (Bool) := (railplankeep_Period.f a0).bind fun t208 => ((railplanlaw2_awake.f k).bind fun t209 => (if t209 = true then ((residue_Valid.f k a0 l1).bind fun t210 => ((railplanref1_ValidSpans.f k a0 l1).bind fun t211 => (if (t210 == t211) = true then ((railplankeep_Set.f k t208 l2).bind fun t212 => ((residue_Valid.f k t208 t212).bind fun t215 => (if t215 = true then ((residue_Valid.f k t208 l1).bind fun t216 => ((railplanref1_ValidSpans.f k t208 l1).bind fun t217 => (some (t216 == t217)))) else (some false)))) else (some false)))) else (some false)))
theorem railplanlaw2_ResidueValid.mono : ∀ a0 a1 a2 k, LeO (railplanlaw2_ResidueValid.f k a0 a1 a2) (railplanlaw2_ResidueValid.f (k + 1) a0 a1 a2) := by
  intro a0 a1 a2 k
  unfold railplanlaw2_ResidueValid.f
  repeat' first
      | (with_reducible exact railplankeep_Set.mono _ _ _)
      | (with_reducible exact railplanlaw2_awake.mono _)
      | (with_reducible exact railplanref1_ValidSpans.mono _ _ _)
      | (with_reducible exact residue_Valid.mono _ _ _)
      | (with_reducible exact LeO.refl _)
      | (with_reducible exact LeO.none _)
      | (with_reducible refine LeO.ite ?_ ?_)
      | (with_reducible refine LeO.bind ?_ (fun _ => ?_))
      | exact railplankeep_Set.mono _ _ _
      | exact railplanlaw2_awake.mono _
      | exact railplanref1_ValidSpans.mono _ _ _
      | exact residue_Valid.mono _ _ _
      | exact LeO.none _
      | refine LeO.ite ?_ ?_
      | refine LeO.bind ?_ (fun _ => ?_)
set_option maxHeartbeats 8000000 in
set_option maxRecDepth 100000 in
theorem railplanlaw2_ResidueValid.calls (k : Nat) (a0 : Int) (A1 : Option Addr) (c1 : Nat) (l1 : List (S35)) (A2 : Option Addr) (c2 : Nat) (l2 : List Int) (r : Bool) (w : World) (hr1 : Kd.C k35 w A1 l1.length l1) (hc1 : l1.length ≤ c1) (hr2 : Kd.C (Kd.int .i64) w A2 l2.length l2) (hc2 : l2.length ≤ c2) (h : railplanlaw2_ResidueValid.f k a0 l1 l2 = some r) :
    Calls Try.prog 3 #[.int .i64 a0, .slice A1 l1.length c1, .slice A2 l2.length c2] w fun e w' => e = .returned (.bool r) ∧ Below w.heap.size w w' := by
  have HR1 := Aside0.mk hr1
  have HC1 := Aside0.mk hc1
  clear hr1 hc1
  have HR2 := Aside0.mk hr2
  have HC2 := Aside0.mk hc2
  clear hr2 hc2
  have HB := Aside0.mk (Below.refl w.heap.size w)
  have H : ((railplankeep_Period.f a0).bind fun t208 => ((railplanlaw2_awake.f k).bind fun t209 => (if t209 = true then ((residue_Valid.f k a0 l1).bind fun t210 => ((railplanref1_ValidSpans.f k a0 l1).bind fun t211 => (if (t210 == t211) = true then ((railplankeep_Set.f k t208 l2).bind fun t212 => ((residue_Valid.f k t208 t212).bind fun t215 => (if t215 = true then ((residue_Valid.f k t208 l1).bind fun t216 => ((railplanref1_ValidSpans.f k t208 l1).bind fun t217 => (some (t216 == t217)))) else (some false)))) else (some false)))) else (some false)))) = some r := h
  clear h
  replace H := Option.bind_eq_some_iff.mp H
  obtain ⟨t208, A40, H⟩ := H
  replace H : ((railplanlaw2_awake.f k).bind fun t209 => (if t209 = true then ((residue_Valid.f k a0 l1).bind fun t210 => ((railplanref1_ValidSpans.f k a0 l1).bind fun t211 => (if (t210 == t211) = true then ((railplankeep_Set.f k t208 l2).bind fun t212 => ((residue_Valid.f k t208 t212).bind fun t215 => (if t215 = true then ((residue_Valid.f k t208 l1).bind fun t216 => ((railplanref1_ValidSpans.f k t208 l1).bind fun t217 => (some (t216 == t217)))) else (some false)))) else (some false)))) else (some false))) = some r := H
  have A4 := Aside0.mk A40
  clear A40
  replace H := Option.bind_eq_some_iff.mp H
  obtain ⟨t209, A50, H⟩ := H
  replace H : (if t209 = true then ((residue_Valid.f k a0 l1).bind fun t210 => ((railplanref1_ValidSpans.f k a0 l1).bind fun t211 => (if (t210 == t211) = true then ((railplankeep_Set.f k t208 l2).bind fun t212 => ((residue_Valid.f k t208 t212).bind fun t215 => (if t215 = true then ((residue_Valid.f k t208 l1).bind fun t216 => ((railplanref1_ValidSpans.f k t208 l1).bind fun t217 => (some (t216 == t217)))) else (some false)))) else (some false)))) else (some false)) = some r := H
  have A5 := Aside0.mk A50
  clear A50
  by_cases c6 : t209 = true
  · subst c6
    have H1 : ((residue_Valid.f k a0 l1).bind fun t210 => ((railplanref1_ValidSpans.f k a0 l1).bind fun t211 => (if (t210 == t211) = true then ((railplankeep_Set.f k t208 l2).bind fun t212 => ((residue_Valid.f k t208 t212).bind fun t215 => (if t215 = true then ((residue_Valid.f k t208 l1).bind fun t216 => ((railplanref1_ValidSpans.f k t208 l1).bind fun t217 => (some (t216 == t217)))) else (some false)))) else (some false)))) = some r := by rw [if_pos rfl] at H; exact H
    clear H
    have H := H1
    clear H1
    replace H := Option.bind_eq_some_iff.mp H
    obtain ⟨t210, A70, H⟩ := H
    replace H : ((railplanref1_ValidSpans.f k a0 l1).bind fun t211 => (if (t210 == t211) = true then ((railplankeep_Set.f k t208 l2).bind fun t212 => ((residue_Valid.f k t208 t212).bind fun t215 => (if t215 = true then ((residue_Valid.f k t208 l1).bind fun t216 => ((railplanref1_ValidSpans.f k t208 l1).bind fun t217 => (some (t216 == t217)))) else (some false)))) else (some false))) = some r := H
    have A7 := Aside0.mk A70
    clear A70
    replace H := Option.bind_eq_some_iff.mp H
    obtain ⟨t211, A80, H⟩ := H
    replace H : (if (t210 == t211) = true then ((railplankeep_Set.f k t208 l2).bind fun t212 => ((residue_Valid.f k t208 t212).bind fun t215 => (if t215 = true then ((residue_Valid.f k t208 l1).bind fun t216 => ((railplanref1_ValidSpans.f k t208 l1).bind fun t217 => (some (t216 == t217)))) else (some false)))) else (some false)) = some r := H
    have A8 := Aside0.mk A80
    clear A80
    by_cases c9 : (t210 == t211) = true
    · rw [if_pos c9] at H
      have c9b0 : (t210 == t211) = true := c9
      (try (have c9b1 : decide (t210 = t211) = true := by simpa using c9))
      (try (have c9b2 : (t210 == t211) = true := by simpa using c9))
      clear c9
      replace H := Option.bind_eq_some_iff.mp H
      obtain ⟨t212, A100, H⟩ := H
      replace H : ((residue_Valid.f k t208 t212).bind fun t215 => (if t215 = true then ((residue_Valid.f k t208 l1).bind fun t216 => ((railplanref1_ValidSpans.f k t208 l1).bind fun t217 => (some (t216 == t217)))) else (some false))) = some r := H
      have A10 := Aside0.mk A100
      clear A100
      replace H := Option.bind_eq_some_iff.mp H
      obtain ⟨t215, A110, H⟩ := H
      replace H : (if t215 = true then ((residue_Valid.f k t208 l1).bind fun t216 => ((railplanref1_ValidSpans.f k t208 l1).bind fun t217 => (some (t216 == t217)))) else (some false)) = some r := H
      have A11 := Aside0.mk A110
      clear A110
      by_cases c12 : t215 = true
      · subst c12
        have H1 : ((residue_Valid.f k t208 l1).bind fun t216 => ((railplanref1_ValidSpans.f k t208 l1).bind fun t217 => (some (t216 == t217)))) = some r := by rw [if_pos rfl] at H; exact H
        clear H
        have H := H1
        clear H1
        replace H := Option.bind_eq_some_iff.mp H
        obtain ⟨t216, A130, H⟩ := H
        replace H : ((railplanref1_ValidSpans.f k t208 l1).bind fun t217 => (some (t216 == t217))) = some r := H
        have A13 := Aside0.mk A130
        clear A130
        replace H := Option.bind_eq_some_iff.mp H
        obtain ⟨t217, A140, H⟩ := H
        replace H : (some (t216 == t217)) = some r := H
        have A14 := Aside0.mk A140
        clear A140
        obtain rfl := Option.some.inj H
        go_enter Try.func3, Try.ntmps3
        go_wp2_with (first | ((with_reducible refine gate_callee (f := 15) rfl ?_); refine goesL_ (some 9) rfl rfl Try.func15 (by kernel_rfl) rfl #[.int .i64 a0] rfl (by (try simp only [List.map_toArray, List.map_cons, List.map_nil]); first | done | rfl | (simp only [List.length_drop, List.length_take]; rfl)) ?_; (with_reducible refine (railplankeep_Period.calls a0 t208 _ A4.out).mono ?_); rintro e w' ⟨rfl, ⟨nd, rfl⟩⟩; refine ⟨_, rfl, ?_⟩) | ((with_reducible refine gate_callee (f := 16) rfl ?_); refine goesL_ (some 10) rfl rfl Try.func16 (by kernel_rfl) rfl #[] rfl (by (try simp only [List.map_toArray, List.map_cons, List.map_nil]); first | done | rfl | (simp only [List.length_drop, List.length_take]; rfl)) ?_; (with_reducible refine (railplanlaw2_awake.calls k  true _ A5.out).mono ?_); rintro e w15 ⟨rfl, hb⟩; refine ⟨_, rfl, ?_⟩; have n0_ := Aside0.mk (below_step (by repeat (first | (with_reducible first | exact HB.out | apply below_alloc | apply pw_below_drewN | apply below_drew1) | exact HB.out)) hb); clear HB; have HB := n0_; clear n0_; (try clear hb); (try clear hb2); (try clear hk); (try clear hi)) | (go_at_call 17; (with_reducible refine (residue_Valid.calls k a0 _ _ l1 t210 _ ?side1 ?side2 A7.out).mono ?_); (case side1 => repeat (first | exact (Kd.C_below HR1.out HB.out) | (with_reducible refine Kd.C_alloc ?_ _) | (with_reducible refine Kd.C_drewN ?_ _) | (with_reducible refine Kd.C_drew ?_))); (case side2 => exact HC1.out); rintro e w16 ⟨rfl, hb⟩; have n0_ := Aside0.mk (below_step (by repeat (first | (with_reducible first | exact HB.out | apply below_alloc | apply pw_below_drewN | apply below_drew1) | exact HB.out)) hb); clear HB; have HB := n0_; clear n0_; (try clear hb); (try clear hb2); (try clear hk); (try clear hi)) | (go_at_call 18; (with_reducible refine (railplanref1_ValidSpans.calls k a0 _ _ l1 t211 _ ?side1 ?side2 A8.out).mono ?_); (case side1 => repeat (first | exact (Kd.C_below HR1.out HB.out) | (with_reducible refine Kd.C_alloc ?_ _) | (with_reducible refine Kd.C_drewN ?_ _) | (with_reducible refine Kd.C_drew ?_))); (case side2 => exact HC1.out); rintro e w' ⟨rfl, ⟨nd, rfl⟩⟩) | (go_at_call 19; (with_reducible refine (railplankeep_Set.calls k t208 _ _ l2 t212 _ ?side1 ?side2 A10.out).mono ?_); (case side1 => repeat (first | exact (Kd.C_below HR2.out (by repeat (first | (with_reducible first | exact HB.out | apply below_alloc | apply pw_below_drewN | apply below_drew1) | exact HB.out))) | (with_reducible refine Kd.C_alloc ?_ _) | (with_reducible refine Kd.C_drewN ?_ _) | (with_reducible refine Kd.C_drew ?_))); (case side2 => exact HC2.out); rintro e w17 ⟨v213, rfl, ho0, hb⟩; have n0_ := Aside0.mk (Kd.R_lower ho0 (below_size (by repeat (first | (with_reducible first | exact HB.out | apply below_alloc | apply pw_below_drewN | apply below_drew1) | exact HB.out)))); have n1_ := Aside0.mk (below_step (by repeat (first | (with_reducible first | exact HB.out | apply below_alloc | apply pw_below_drewN | apply below_drew1) | exact HB.out)) hb); clear HB; have HO214 := n0_; have HB := n1_; clear n0_ n1_; (try clear hb); (try clear hb2); (try clear hk); (try clear hi); (try clear ho0); obtain ⟨Ao18, co18, eo18⟩ := Kd.R_slice HO214.out; subst eo18) | (go_at_call 17; (with_reducible refine (residue_Valid.calls k t208 _ _ t212 true _ ?side1 ?side2 A11.out).mono ?_); (case side1 => repeat (first | exact (Kd.R_reads' HO214.out).2.2 | (with_reducible refine Kd.C_alloc ?_ _) | (with_reducible refine Kd.C_drewN ?_ _) | (with_reducible refine Kd.C_drew ?_))); (case side2 => exact (Kd.R_reads' HO214.out).2.1); rintro e w19 ⟨rfl, hb⟩; have n0_ := Aside0.mk (Kd.R_below (by (with_reducible repeat (first | apply Kd.R_alloc | apply Kd.R_drewN | apply Kd.R_drew)); exact HO214.out) hb); have n1_ := Aside0.mk (below_step (by repeat (first | (with_reducible first | exact HB.out | apply below_alloc | apply pw_below_drewN | apply below_drew1) | exact HB.out)) hb); clear HO214; clear HB; have HO214 := n0_; have HB := n1_; clear n0_ n1_; (try clear hb); (try clear hb2); (try clear hk); (try clear hi)) | (go_at_call 17; (with_reducible refine (residue_Valid.calls k t208 _ _ l1 t216 _ ?side1 ?side2 A13.out).mono ?_); (case side1 => repeat (first | exact (Kd.C_below HR1.out HB.out) | (with_reducible refine Kd.C_alloc ?_ _) | (with_reducible refine Kd.C_drewN ?_ _) | (with_reducible refine Kd.C_drew ?_))); (case side2 => exact HC1.out); rintro e w20 ⟨rfl, hb⟩; have n0_ := Aside0.mk (Kd.R_below (by (with_reducible repeat (first | apply Kd.R_alloc | apply Kd.R_drewN | apply Kd.R_drew)); exact HO214.out) hb); have n1_ := Aside0.mk (below_step (by repeat (first | (with_reducible first | exact HB.out | apply below_alloc | apply pw_below_drewN | apply below_drew1) | exact HB.out)) hb); clear HO214; clear HB; have HO214 := n0_; have HB := n1_; clear n0_ n1_; (try clear hb); (try clear hb2); (try clear hk); (try clear hi)) | (go_at_call 18; (with_reducible refine (railplanref1_ValidSpans.calls k t208 _ _ l1 t217 _ ?side1 ?side2 A14.out).mono ?_); (case side1 => repeat (first | exact (Kd.C_below HR1.out HB.out) | (with_reducible refine Kd.C_alloc ?_ _) | (with_reducible refine Kd.C_drewN ?_ _) | (with_reducible refine Kd.C_drew ?_))); (case side2 => exact HC1.out); rintro e w' ⟨rfl, ⟨nd, rfl⟩⟩))
        go_ret
        exact ⟨by first | rfl | (simp [errW_none, errW_some] <;> rfl) | (simp [*, errW_none, errW_some] <;> rfl), by repeat (first | (with_reducible first | exact HB.out | apply below_alloc | apply pw_below_drewN | apply below_drew1) | exact HB.out)⟩
      · replace c12 := Bool.eq_false_iff.mpr c12
        subst c12
        have H1 : (some false) = some r := by rw [if_neg (show ¬ (false = true) by decide)] at H; exact H
        clear H
        have H := H1
        clear H1
        obtain rfl := Option.some.inj H
        go_enter Try.func3, Try.ntmps3
        go_wp2_with (first | ((with_reducible refine gate_callee (f := 15) rfl ?_); refine goesL_ (some 9) rfl rfl Try.func15 (by kernel_rfl) rfl #[.int .i64 a0] rfl (by (try simp only [List.map_toArray, List.map_cons, List.map_nil]); first | done | rfl | (simp only [List.length_drop, List.length_take]; rfl)) ?_; (with_reducible refine (railplankeep_Period.calls a0 t208 _ A4.out).mono ?_); rintro e w' ⟨rfl, ⟨nd, rfl⟩⟩; refine ⟨_, rfl, ?_⟩) | ((with_reducible refine gate_callee (f := 16) rfl ?_); refine goesL_ (some 10) rfl rfl Try.func16 (by kernel_rfl) rfl #[] rfl (by (try simp only [List.map_toArray, List.map_cons, List.map_nil]); first | done | rfl | (simp only [List.length_drop, List.length_take]; rfl)) ?_; (with_reducible refine (railplanlaw2_awake.calls k  true _ A5.out).mono ?_); rintro e w21 ⟨rfl, hb⟩; refine ⟨_, rfl, ?_⟩; have n0_ := Aside0.mk (below_step (by repeat (first | (with_reducible first | exact HB.out | apply below_alloc | apply pw_below_drewN | apply below_drew1) | exact HB.out)) hb); clear HB; have HB := n0_; clear n0_; (try clear hb); (try clear hb2); (try clear hk); (try clear hi)) | (go_at_call 17; (with_reducible refine (residue_Valid.calls k a0 _ _ l1 t210 _ ?side1 ?side2 A7.out).mono ?_); (case side1 => repeat (first | exact (Kd.C_below HR1.out HB.out) | (with_reducible refine Kd.C_alloc ?_ _) | (with_reducible refine Kd.C_drewN ?_ _) | (with_reducible refine Kd.C_drew ?_))); (case side2 => exact HC1.out); rintro e w22 ⟨rfl, hb⟩; have n0_ := Aside0.mk (below_step (by repeat (first | (with_reducible first | exact HB.out | apply below_alloc | apply pw_below_drewN | apply below_drew1) | exact HB.out)) hb); clear HB; have HB := n0_; clear n0_; (try clear hb); (try clear hb2); (try clear hk); (try clear hi)) | (go_at_call 18; (with_reducible refine (railplanref1_ValidSpans.calls k a0 _ _ l1 t211 _ ?side1 ?side2 A8.out).mono ?_); (case side1 => repeat (first | exact (Kd.C_below HR1.out HB.out) | (with_reducible refine Kd.C_alloc ?_ _) | (with_reducible refine Kd.C_drewN ?_ _) | (with_reducible refine Kd.C_drew ?_))); (case side2 => exact HC1.out); rintro e w' ⟨rfl, ⟨nd, rfl⟩⟩) | (go_at_call 19; (with_reducible refine (railplankeep_Set.calls k t208 _ _ l2 t212 _ ?side1 ?side2 A10.out).mono ?_); (case side1 => repeat (first | exact (Kd.C_below HR2.out (by repeat (first | (with_reducible first | exact HB.out | apply below_alloc | apply pw_below_drewN | apply below_drew1) | exact HB.out))) | (with_reducible refine Kd.C_alloc ?_ _) | (with_reducible refine Kd.C_drewN ?_ _) | (with_reducible refine Kd.C_drew ?_))); (case side2 => exact HC2.out); rintro e w23 ⟨v213, rfl, ho0, hb⟩; have n0_ := Aside0.mk (Kd.R_lower ho0 (below_size (by repeat (first | (with_reducible first | exact HB.out | apply below_alloc | apply pw_below_drewN | apply below_drew1) | exact HB.out)))); have n1_ := Aside0.mk (below_step (by repeat (first | (with_reducible first | exact HB.out | apply below_alloc | apply pw_below_drewN | apply below_drew1) | exact HB.out)) hb); clear HB; have HO214 := n0_; have HB := n1_; clear n0_ n1_; (try clear hb); (try clear hb2); (try clear hk); (try clear hi); (try clear ho0); obtain ⟨Ao24, co24, eo24⟩ := Kd.R_slice HO214.out; subst eo24) | (go_at_call 17; (with_reducible refine (residue_Valid.calls k t208 _ _ t212 false _ ?side1 ?side2 A11.out).mono ?_); (case side1 => repeat (first | exact (Kd.R_reads' HO214.out).2.2 | (with_reducible refine Kd.C_alloc ?_ _) | (with_reducible refine Kd.C_drewN ?_ _) | (with_reducible refine Kd.C_drew ?_))); (case side2 => exact (Kd.R_reads' HO214.out).2.1); rintro e w25 ⟨rfl, hb⟩; have n0_ := Aside0.mk (Kd.R_below (by (with_reducible repeat (first | apply Kd.R_alloc | apply Kd.R_drewN | apply Kd.R_drew)); exact HO214.out) hb); have n1_ := Aside0.mk (below_step (by repeat (first | (with_reducible first | exact HB.out | apply below_alloc | apply pw_below_drewN | apply below_drew1) | exact HB.out)) hb); clear HO214; clear HB; have HO214 := n0_; have HB := n1_; clear n0_ n1_; (try clear hb); (try clear hb2); (try clear hk); (try clear hi)))
        go_ret
        exact ⟨by first | rfl | (simp [errW_none, errW_some] <;> rfl) | (simp [*, errW_none, errW_some] <;> rfl), by repeat (first | (with_reducible first | exact HB.out | apply below_alloc | apply pw_below_drewN | apply below_drew1) | exact HB.out)⟩
    · rw [if_neg c9] at H
      have c9b0 : (t210 == t211) = false := by simpa using c9
      (try (have c9b1 : decide (t210 = t211) = false := by simpa using c9))
      (try (have c9b2 : (t210 == t211) = false := by simpa using c9))
      (try (have c9b3 : ¬ (t210 = t211) := by simpa using c9))
      clear c9
      obtain rfl := Option.some.inj H
      go_enter Try.func3, Try.ntmps3
      go_wp2_with (first | ((with_reducible refine gate_callee (f := 15) rfl ?_); refine goesL_ (some 9) rfl rfl Try.func15 (by kernel_rfl) rfl #[.int .i64 a0] rfl (by (try simp only [List.map_toArray, List.map_cons, List.map_nil]); first | done | rfl | (simp only [List.length_drop, List.length_take]; rfl)) ?_; (with_reducible refine (railplankeep_Period.calls a0 t208 _ A4.out).mono ?_); rintro e w' ⟨rfl, ⟨nd, rfl⟩⟩; refine ⟨_, rfl, ?_⟩) | ((with_reducible refine gate_callee (f := 16) rfl ?_); refine goesL_ (some 10) rfl rfl Try.func16 (by kernel_rfl) rfl #[] rfl (by (try simp only [List.map_toArray, List.map_cons, List.map_nil]); first | done | rfl | (simp only [List.length_drop, List.length_take]; rfl)) ?_; (with_reducible refine (railplanlaw2_awake.calls k  true _ A5.out).mono ?_); rintro e w26 ⟨rfl, hb⟩; refine ⟨_, rfl, ?_⟩; have n0_ := Aside0.mk (below_step (by repeat (first | (with_reducible first | exact HB.out | apply below_alloc | apply pw_below_drewN | apply below_drew1) | exact HB.out)) hb); clear HB; have HB := n0_; clear n0_; (try clear hb); (try clear hb2); (try clear hk); (try clear hi)) | (go_at_call 17; (with_reducible refine (residue_Valid.calls k a0 _ _ l1 t210 _ ?side1 ?side2 A7.out).mono ?_); (case side1 => repeat (first | exact (Kd.C_below HR1.out HB.out) | (with_reducible refine Kd.C_alloc ?_ _) | (with_reducible refine Kd.C_drewN ?_ _) | (with_reducible refine Kd.C_drew ?_))); (case side2 => exact HC1.out); rintro e w27 ⟨rfl, hb⟩; have n0_ := Aside0.mk (below_step (by repeat (first | (with_reducible first | exact HB.out | apply below_alloc | apply pw_below_drewN | apply below_drew1) | exact HB.out)) hb); clear HB; have HB := n0_; clear n0_; (try clear hb); (try clear hb2); (try clear hk); (try clear hi)) | (go_at_call 18; (with_reducible refine (railplanref1_ValidSpans.calls k a0 _ _ l1 t211 _ ?side1 ?side2 A8.out).mono ?_); (case side1 => repeat (first | exact (Kd.C_below HR1.out HB.out) | (with_reducible refine Kd.C_alloc ?_ _) | (with_reducible refine Kd.C_drewN ?_ _) | (with_reducible refine Kd.C_drew ?_))); (case side2 => exact HC1.out); rintro e w' ⟨rfl, ⟨nd, rfl⟩⟩))
      go_ret
      exact ⟨by first | rfl | (simp [errW_none, errW_some] <;> rfl) | (simp [*, errW_none, errW_some] <;> rfl), by repeat (first | (with_reducible first | exact HB.out | apply below_alloc | apply pw_below_drewN | apply below_drew1) | exact HB.out)⟩
  · replace c6 := Bool.eq_false_iff.mpr c6
    subst c6
    have H1 : (some false) = some r := by rw [if_neg (show ¬ (false = true) by decide)] at H; exact H
    clear H
    have H := H1
    clear H1
    obtain rfl := Option.some.inj H
    go_enter Try.func3, Try.ntmps3
    go_wp2_with (first | ((with_reducible refine gate_callee (f := 15) rfl ?_); refine goesL_ (some 9) rfl rfl Try.func15 (by kernel_rfl) rfl #[.int .i64 a0] rfl (by (try simp only [List.map_toArray, List.map_cons, List.map_nil]); first | done | rfl | (simp only [List.length_drop, List.length_take]; rfl)) ?_; (with_reducible refine (railplankeep_Period.calls a0 t208 _ A4.out).mono ?_); rintro e w' ⟨rfl, ⟨nd, rfl⟩⟩; refine ⟨_, rfl, ?_⟩) | ((with_reducible refine gate_callee (f := 16) rfl ?_); refine goesL_ (some 10) rfl rfl Try.func16 (by kernel_rfl) rfl #[] rfl (by (try simp only [List.map_toArray, List.map_cons, List.map_nil]); first | done | rfl | (simp only [List.length_drop, List.length_take]; rfl)) ?_; (with_reducible refine (railplanlaw2_awake.calls k  false _ A5.out).mono ?_); rintro e w28 ⟨rfl, hb⟩; refine ⟨_, rfl, ?_⟩; have n0_ := Aside0.mk (below_step (by repeat (first | (with_reducible first | exact HB.out | apply below_alloc | apply pw_below_drewN | apply below_drew1) | exact HB.out)) hb); clear HB; have HB := n0_; clear n0_; (try clear hb); (try clear hb2); (try clear hk); (try clear hi)))
    go_ret
    exact ⟨by first | rfl | (simp [errW_none, errW_some] <;> rfl) | (simp [*, errW_none, errW_some] <;> rfl), by repeat (first | (with_reducible first | exact HB.out | apply below_alloc | apply pw_below_drewN | apply below_drew1) | exact HB.out)⟩

end Go.Proofs.Ytdnileakboefgaa.PResidueValid
