/- Contracts that some laws of layer 13 need besides. -/
import Derived.Test.YtkbcgahpekmlbaaLPgN3
import Derived.Test.YtkbcgahpekmlbaaPPgx0
import Derived.Test.YtkbcgahpekmlbaaPPgx23
import Derived.Test.YtkbcgahpekmlbaaPPgx26
import Derived.StillTailTactics
namespace Go.Proofs.Ytkbcgahpekmlbaa.PPg
open Go.RowKit Go.Proofs.YtkbcgahpekmlbaaW.PrintWords Go.Proofs.YtkbcgahpekmlbaaW.PrintLast Go.Proofs.YtkbcgahpekmlbaaW.PrintMore
attribute [local go_sem] max2_int min2_int max_two min_two max_three min_three max_four min_four   -- for this text's walks alone
set_option linter.unusedVariables false
set_option linter.unusedSimpArgs false

/-! ### railplanref11_Check: function 15 -/
mutual
def railplanref11_Check.j0 : Nat → Bool → Int → List (S65) → List (S30) → Option (Bool)
  | 0, _, _, _, _ => none
  | k + 1, x20, x280000, x280001, x280002 => if x20 = true then (some false) else (railplanref11_Check.l0 k 0 x280000 x280001 x280002)
def railplanref11_Check.l0 : Nat → Int → Int → List (S65) → List (S30) → Option (Bool)
  | 0, _, _, _, _ => none
  | k + 1, x3, x280000, x280001, x280002 => if x3 < (x280002.length : Int) then (if 0 ≤ x3 then ((railplanref11_in.f ((rd_T30 x280002 x3).f1) 0 (wrap64 ((x280001.length : Int) - 1))).bind fun t283 => (if t283 = true then ((railplanref11_in.f ((rd_T30 x280002 x3).f2) 0 (wrap64 ((x280001.length : Int) - 1))).bind fun t284 => (if t284 = true then (if ((rd_T30 x280002 x3).f1) = ((rd_T30 x280002 x3).f2) then (some false) else (if ((rd_T30 x280002 x3).f3) < (-65536) then (some false) else (if ((rd_T30 x280002 x3).f4) > 65536 then (some false) else (if ((rd_T30 x280002 x3).f3) > ((rd_T30 x280002 x3).f4) then (some false) else (if (wrap64 (((rd_T30 x280002 x3).f4) - ((rd_T30 x280002 x3).f3))) ≥ x280000 then (some false) else ((railplanref11_in.f ((rd_T30 x280002 x3).f5) 0 1048576).bind fun t285 => (if t285 = true then (railplanref11_Check.l0 k (wrap64 (x3 + 1)) x280000 x280001 x280002) else (some false)))))))) else (some false))) else (some false))) else (none)) else (some true)
end
def railplanref11_Check.f (k : Nat) (a0_0 : Int) (l0_1 : List (S65)) (l0_2 : List (S30)) : Option (Bool) := (railplanref11_in.f a0_0 2 7200).bind fun t280 => (if t280 = true then (if (l0_1.length : Int) > 48 then (railplanref11_Check.j0 k true a0_0 l0_1 l0_2) else (railplanref11_Check.j0 k (decide ((l0_2.length : Int) > 512)) a0_0 l0_1 l0_2)) else (railplanref11_Check.j0 k true a0_0 l0_1 l0_2))
theorem railplanref11_Check.mono_l : ∀ k, (∀ y0 y1 y2 y3, LeO (railplanref11_Check.j0 k y0 y1 y2 y3) (railplanref11_Check.j0 (k + 1) y0 y1 y2 y3)) ∧ (∀ y0 y1 y2 y3, LeO (railplanref11_Check.l0 k y0 y1 y2 y3) (railplanref11_Check.l0 (k + 1) y0 y1 y2 y3))
  | 0 => ⟨fun _ _ _ _ r h => by simp [railplanref11_Check.j0] at h, fun _ _ _ _ r h => by simp [railplanref11_Check.l0] at h⟩
  | k + 1 => by
    obtain ⟨ih0, ih1⟩ := railplanref11_Check.mono_l k
    refine ⟨?_, ?_⟩
    · intro y0 y1 y2 y3
      unfold railplanref11_Check.j0
      repeat' first
      | (with_reducible exact ih0 _ _ _ _)
      | (with_reducible exact ih1 _ _ _ _)
      | (with_reducible exact LeO.refl _)
      | (with_reducible exact LeO.none _)
      | (with_reducible refine LeO.ite ?_ ?_)
      | (with_reducible refine LeO.bind ?_ (fun _ => ?_))
      | exact ih0 _ _ _ _
      | exact ih1 _ _ _ _
      | exact LeO.none _
      | refine LeO.ite ?_ ?_
      | refine LeO.bind ?_ (fun _ => ?_)
    · intro y0 y1 y2 y3
      unfold railplanref11_Check.l0
      repeat' first
      | (with_reducible exact ih0 _ _ _ _)
      | (with_reducible exact ih1 _ _ _ _)
      | (with_reducible exact LeO.refl _)
      | (with_reducible exact LeO.none _)
      | (with_reducible refine LeO.ite ?_ ?_)
      | (with_reducible refine LeO.bind ?_ (fun _ => ?_))
      | exact ih0 _ _ _ _
      | exact ih1 _ _ _ _
      | exact LeO.none _
      | refine LeO.ite ?_ ?_
      | refine LeO.bind ?_ (fun _ => ?_)
theorem railplanref11_Check.mono : ∀ a0 a1 a2 k, LeO (railplanref11_Check.f k a0 a1 a2) (railplanref11_Check.f (k + 1) a0 a1 a2) := by
  intro a0 a1 a2 k
  obtain ⟨ih0, ih1⟩ := railplanref11_Check.mono_l k
  unfold railplanref11_Check.f
  repeat' first
      | (with_reducible exact ih0 _ _ _ _)
      | (with_reducible exact ih1 _ _ _ _)
      | (with_reducible exact LeO.refl _)
      | (with_reducible exact LeO.none _)
      | (with_reducible refine LeO.ite ?_ ?_)
      | (with_reducible refine LeO.bind ?_ (fun _ => ?_))
      | exact ih0 _ _ _ _
      | exact ih1 _ _ _ _
      | exact LeO.none _
      | refine LeO.ite ?_ ?_
      | refine LeO.bind ?_ (fun _ => ?_)
set_option maxHeartbeats 8000000 in
set_option maxRecDepth 100000 in
theorem railplanref11_Check.calls (k : Nat) (a0_0 : Int) (A0_1 : Option Addr) (c0_1 : Nat) (l0_1 : List (S65)) (A0_2 : Option Addr) (c0_2 : Nat) (l0_2 : List (S30)) (r : Bool) (w : World) (hr0_1 : Kd.C k65 w A0_1 l0_1.length l0_1) (hc0_1 : l0_1.length ≤ c0_1) (hr0_2 : Kd.C k30 w A0_2 l0_2.length l0_2) (hc0_2 : l0_2.length ≤ c0_2) (h : railplanref11_Check.f k a0_0 l0_1 l0_2 = some r) :
    Calls Try.prog 15 #[.agg #[.int .i64 a0_0, .slice A0_1 l0_1.length c0_1, .slice A0_2 l0_2.length c0_2]] w fun e w' => e = .returned (.bool r) ∧ Below w.heap.size w w' := by
  have hu25 := Try.underlying25
  have hu30 := Try.underlying30
  have HR0_1 := Aside0.mk hr0_1
  have HC0_1 := Aside0.mk hc0_1
  clear hr0_1 hc0_1
  have HR0_2 := Aside0.mk hr0_2
  have HC0_2 := Aside0.mk hc0_2
  clear hr0_2 hc0_2
  have HB := Aside0.mk (Below.refl w.heap.size w)
  have H : ((railplanref11_in.f a0_0 2 7200).bind fun t280 => (if t280 = true then (if (l0_1.length : Int) > 48 then (railplanref11_Check.j0 k true a0_0 l0_1 l0_2) else (railplanref11_Check.j0 k (decide ((l0_2.length : Int) > 512)) a0_0 l0_1 l0_2)) else (railplanref11_Check.j0 k true a0_0 l0_1 l0_2))) = some r := h
  clear h
  have HC2 := Aside0.mk H
  clear H
  go_enter Try.func15, Try.ntmps15
  go_upto_region 1 with (first | ((with_reducible refine gate_dst (N := 1) rfl ?_); (try (refine gate_guard (by rfl) ?_; dsimp only)); refine box_event ?hg (N := 1) ?hd (cs := #[.int .i64 a0_0, .slice A0_1 l0_1.length c0_1, .slice A0_2 l0_2.length c0_2]) (t := 25) ?hr ?_; (case hd => rfl); (case hg => rfl); (case hr => first | (go_simp; done) | (go_simp; rfl)); intro gb279 hg w3 hbox hb; have n0_ := Aside0.mk (below_step (by repeat (first | (with_reducible first | exact HB.out | apply below_alloc | apply pw_below_drewN | apply below_drew1) | exact HB.out)) hb); have n1_ := Aside0.mk (hbox); have n2_ := Aside0.mk ((by rw [hg]; exact (below_size (by repeat (first | (with_reducible first | exact HB.out | apply below_alloc | apply pw_below_drewN | apply below_drew1) | exact HB.out))) : w.heap.size ≤ gb279)); have n3_ := Aside0.mk ((by rw [hg]; exact (below_size (by repeat (first | (with_reducible first | exact HB.out | apply below_alloc | apply pw_below_drewN | apply below_drew1) | exact HB.out))) : w.heap.size ≤ gb279)); clear HB; have HB := n0_; have BK279 := n1_; have GW279 := n2_; have GE279 := n3_; clear n0_ n1_ n2_ n3_; clear hb hbox hg))
  (try simp only [Act.put, List.setIfInBounds_toArray, List.set_cons_zero, List.set_cons_succ])
  go_cut [20] (fun v20 wc => ∃ (kq : Nat) (x20_1 : Bool), v20 = .bool x20_1 ∧ Aside0 (railplanref11_Check.j0 kq x20_1 a0_0 l0_1 l0_2 = some r) ∧ Aside0 (kq ≤ k) ∧ Aside0 (wc.heap[gb279]? = some (.cells #[.int .i64 a0_0, (.slice A0_1 l0_1.length c0_1), (.slice A0_2 l0_2.length c0_2)] 25 (0, 0))) ∧ Aside0 (Below w.heap.size w wc))
  case first =>
    have H := HC2.out
    clear HC2
    replace H := Option.bind_eq_some_iff.mp H
    obtain ⟨t280, A40, H⟩ := H
    replace H : (if t280 = true then (if (l0_1.length : Int) > 48 then (railplanref11_Check.j0 k true a0_0 l0_1 l0_2) else (railplanref11_Check.j0 k (decide ((l0_2.length : Int) > 512)) a0_0 l0_1 l0_2)) else (railplanref11_Check.j0 k true a0_0 l0_1 l0_2)) = some r := H
    have A4 := Aside0.mk A40
    clear A40
    by_cases c5 : t280 = true
    · subst c5
      have H1 : (if (l0_1.length : Int) > 48 then (railplanref11_Check.j0 k true a0_0 l0_1 l0_2) else (railplanref11_Check.j0 k (decide ((l0_2.length : Int) > 512)) a0_0 l0_1 l0_2)) = some r := by rw [if_pos rfl] at H; exact H
      clear H
      have H := H1
      clear H1
      by_cases c6 : (l0_1.length : Int) > 48
      · rw [if_pos c6] at H
        have c6b0 : decide (48 < (l0_1.length : Int)) = true := decide_eq_true c6
        have c6b1 : decide (48 < l0_1.length) = true := decide_eq_true (by omega)
        clear c6
        (first | rw [c6b0] | (simp only [i64_w, i32_w]; rw [c6b0]) | skip)
        have H' := Aside0.mk H
        clear H
        have hcz7_0 : w3.cell? ⟨gb279, 0, none⟩ = some (.int .i64 a0_0) := (blk_cell BK279.out 0).trans rfl
        have hcz7_1 : w3.cell? ⟨gb279, 1, none⟩ = some (.slice A0_1 l0_1.length c0_1) := (blk_cell BK279.out 1).trans rfl
        have hcz7_2 : w3.cell? ⟨gb279, 2, none⟩ = some (.slice A0_2 l0_2.length c0_2) := (blk_cell BK279.out 2).trans rfl
        have hfz7_0 := blk_frozen BK279.out 0
        have hfz7_1 := blk_frozen BK279.out 1
        have hfz7_2 := blk_frozen BK279.out 2
        go_wp2_with (first | ((with_reducible refine gate_callee (f := 39) rfl ?_); refine goesL_ (some 7) rfl rfl Try.func39 (by kernel_rfl) rfl #[.int .i64 a0_0, .int .i64 2, .int .i64 7200] rfl (by (try simp only [List.map_toArray, List.map_cons, List.map_nil]); first | done | rfl | (simp only [List.length_drop, List.length_take]; rfl)) ?_; (with_reducible refine (railplanref11_in.calls a0_0 2 7200 true _ A4.out).mono ?_); rintro e w' ⟨rfl, ⟨nd, rfl⟩⟩; refine ⟨_, rfl, ?_⟩))
        go_meet
        case rel => exact ⟨_, (true), (by first | rfl | (simp; done) | (simp [*]; done)), H', ⟨by first | omega | exact Nat.le_refl _⟩, ⟨by (with_reducible repeat (first | refine blk_drewN ?_ _ | refine blk_drew ?_ | refine blk_alloc ?_ _)); exact BK279.out⟩, ⟨by repeat (first | (with_reducible first | exact HB.out | apply below_alloc | apply pw_below_drewN | apply below_drew1 | refine below_set ?_ GE279.out) | exact HB.out)⟩⟩
      · rw [if_neg c6] at H
        have c6b0 : decide (48 < (l0_1.length : Int)) = false := decide_eq_false c6
        have c6b1 : decide (48 < l0_1.length) = false := decide_eq_false (by omega)
        clear c6
        (first | rw [c6b0] | (simp only [i64_w, i32_w]; rw [c6b0]) | skip)
        have H' := Aside0.mk H
        clear H
        have hcz8_0 : w3.cell? ⟨gb279, 0, none⟩ = some (.int .i64 a0_0) := (blk_cell BK279.out 0).trans rfl
        have hcz8_1 : w3.cell? ⟨gb279, 1, none⟩ = some (.slice A0_1 l0_1.length c0_1) := (blk_cell BK279.out 1).trans rfl
        have hcz8_2 : w3.cell? ⟨gb279, 2, none⟩ = some (.slice A0_2 l0_2.length c0_2) := (blk_cell BK279.out 2).trans rfl
        have hfz8_0 := blk_frozen BK279.out 0
        have hfz8_1 := blk_frozen BK279.out 1
        have hfz8_2 := blk_frozen BK279.out 2
        go_wp2_with (first | ((with_reducible refine gate_callee (f := 39) rfl ?_); refine goesL_ (some 7) rfl rfl Try.func39 (by kernel_rfl) rfl #[.int .i64 a0_0, .int .i64 2, .int .i64 7200] rfl (by (try simp only [List.map_toArray, List.map_cons, List.map_nil]); first | done | rfl | (simp only [List.length_drop, List.length_take]; rfl)) ?_; (with_reducible refine (railplanref11_in.calls a0_0 2 7200 true _ A4.out).mono ?_); rintro e w' ⟨rfl, ⟨nd, rfl⟩⟩; refine ⟨_, rfl, ?_⟩))
        go_meet
        case rel => exact ⟨_, (decide ((l0_2.length : Int) > 512)), (by first | rfl | (simp; done) | (simp [*]; done)), H', ⟨by first | omega | exact Nat.le_refl _⟩, ⟨by (with_reducible repeat (first | refine blk_drewN ?_ _ | refine blk_drew ?_ | refine blk_alloc ?_ _)); exact BK279.out⟩, ⟨by repeat (first | (with_reducible first | exact HB.out | apply below_alloc | apply pw_below_drewN | apply below_drew1 | refine below_set ?_ GE279.out) | exact HB.out)⟩⟩
    · replace c5 := Bool.eq_false_iff.mpr c5
      subst c5
      have H1 : (railplanref11_Check.j0 k true a0_0 l0_1 l0_2) = some r := by rw [if_neg (show ¬ (false = true) by decide)] at H; exact H
      clear H
      have H := H1
      clear H1
      have H' := Aside0.mk H
      clear H
      have hcz9_0 : w3.cell? ⟨gb279, 0, none⟩ = some (.int .i64 a0_0) := (blk_cell BK279.out 0).trans rfl
      have hcz9_1 : w3.cell? ⟨gb279, 1, none⟩ = some (.slice A0_1 l0_1.length c0_1) := (blk_cell BK279.out 1).trans rfl
      have hcz9_2 : w3.cell? ⟨gb279, 2, none⟩ = some (.slice A0_2 l0_2.length c0_2) := (blk_cell BK279.out 2).trans rfl
      have hfz9_0 := blk_frozen BK279.out 0
      have hfz9_1 := blk_frozen BK279.out 1
      have hfz9_2 := blk_frozen BK279.out 2
      go_wp2_with (first | ((with_reducible refine gate_callee (f := 39) rfl ?_); refine goesL_ (some 7) rfl rfl Try.func39 (by kernel_rfl) rfl #[.int .i64 a0_0, .int .i64 2, .int .i64 7200] rfl (by (try simp only [List.map_toArray, List.map_cons, List.map_nil]); first | done | rfl | (simp only [List.length_drop, List.length_take]; rfl)) ?_; (with_reducible refine (railplanref11_in.calls a0_0 2 7200 false _ A4.out).mono ?_); rintro e w' ⟨rfl, ⟨nd, rfl⟩⟩; refine ⟨_, rfl, ?_⟩))
      go_meet
      case rel => exact ⟨_, (true), (by first | rfl | (simp; done) | (simp [*]; done)), H', ⟨by first | omega | exact Nat.le_refl _⟩, ⟨by (with_reducible repeat (first | refine blk_drewN ?_ _ | refine blk_drew ?_ | refine blk_alloc ?_ _)); exact BK279.out⟩, ⟨by repeat (first | (with_reducible first | exact HB.out | apply below_alloc | apply pw_below_drewN | apply below_drew1 | refine below_set ?_ GE279.out) | exact HB.out)⟩⟩
  case rest =>
    clear HC2
    try clear c1
    try clear p2
    try clear c3
    try clear c5
    try clear c6
    try clear c6b0
    try clear c6b1
    try clear hcz7_0
    try clear hcz7_1
    try clear hcz7_2
    try clear hcz8_0
    try clear hcz8_1
    try clear hcz8_2
    try clear hcz9_0
    try clear hcz9_1
    try clear hcz9_2
    try clear hfz7_0
    try clear hfz7_1
    try clear hfz7_2
    try clear hfz8_0
    try clear hfz8_1
    try clear hfz8_2
    try clear hfz9_0
    try clear hfz9_1
    try clear hfz9_2
    obtain ⟨kq, x20_1, rfl, HA, HJ1, BK279, HB⟩ := hcut
    cases kq with
    | zero => exact absurd HA.out (by simp [railplanref11_Check.j0])
    | succ kj1 =>
      have H := HA.out
      clear HA
      simp only [railplanref11_Check.j0] at H
      by_cases c10 : x20_1 = true
      · subst c10
        have H1 : (some false) = some r := by rw [if_pos rfl] at H; exact H
        clear H
        have H := H1
        clear H1
        obtain rfl := Option.some.inj H
        go_wp2
        go_ret
        exact ⟨by first | rfl | (simp [errW_none, errW_some] <;> rfl) | (simp [*, errW_none, errW_some] <;> rfl), by repeat (first | (with_reducible first | exact HB.out | apply below_alloc | apply pw_below_drewN | apply below_drew1 | refine below_set ?_ GE279.out) | exact HB.out)⟩
      · replace c10 := Bool.eq_false_iff.mpr c10
        subst c10
        have H1 : (railplanref11_Check.l0 kj1 0 a0_0 l0_1 l0_2) = some r := by rw [if_neg (show ¬ (false = true) by decide)] at H; exact H
        clear H
        have H := H1
        clear H1
        have H' := Aside0.mk H
        clear H
        go_wp2
        go_loopg [3] kj1 (fun kq v3 w' => ∃ (x3_2 : Int), v3 = .int .i64 x3_2 ∧ Aside0 (railplanref11_Check.l0 kq x3_2 a0_0 l0_1 l0_2 = some r) ∧ Aside0 (kq ≤ kj1) ∧ Aside0 (w'.heap[gb279]? = some (.cells #[.int .i64 a0_0, (.slice A0_1 l0_1.length c0_1), (.slice A0_2 l0_2.length c0_2)] 25 (0, 0))) ∧ Aside0 (Below w.heap.size w w'))
        case atStart => exact ⟨(0), (by first | rfl | (simp; done) | (simp [*]; done)), H', ⟨Nat.le_refl _⟩, ⟨by (with_reducible repeat (first | refine blk_drewN ?_ _ | refine blk_drew ?_ | refine blk_alloc ?_ _)); exact BK279.out⟩, ⟨by repeat (first | (with_reducible first | exact HB.out | apply below_alloc | apply pw_below_drewN | apply below_drew1 | refine below_set ?_ GE279.out) | exact HB.out)⟩⟩
        case round =>
          clear H'
          try clear c1
          try clear p2
          try clear c3
          try clear c5
          try clear c6
          try clear c6b0
          try clear c6b1
          try clear c10
          try clear hcz7_0
          try clear hcz7_1
          try clear hcz7_2
          try clear hcz8_0
          try clear hcz8_1
          try clear hcz8_2
          try clear hcz9_0
          try clear hcz9_1
          try clear hcz9_2
          try clear hfz7_0
          try clear hfz7_1
          try clear hfz7_2
          try clear hfz8_0
          try clear hfz8_1
          try clear hfz8_2
          try clear hfz9_0
          try clear hfz9_1
          try clear hfz9_2
          try clear p2
          obtain ⟨x3_2, rfl, HA, HK2, BK279, HB⟩ := hrel
          cases gk with
          | zero => exact absurd HA.out (by simp [railplanref11_Check.l0])
          | succ k2 =>
            have H := HA.out
            clear HA
            simp only [railplanref11_Check.l0] at H
            by_cases c11 : x3_2 < (l0_2.length : Int)
            · rw [if_pos c11] at H
              have c11b0 : decide (x3_2 < (l0_2.length : Int)) = true := decide_eq_true c11
              clear c11
              by_cases c12 : 0 ≤ x3_2
              · rw [if_pos c12] at H
                have c12b0 : decide (0 ≤ x3_2) = true := decide_eq_true c12
                clear c12
                replace H := Option.bind_eq_some_iff.mp H
                obtain ⟨t283, A130, H⟩ := H
                replace H : (if t283 = true then ((railplanref11_in.f ((rd_T30 l0_2 x3_2).f2) 0 (wrap64 ((l0_1.length : Int) - 1))).bind fun t284 => (if t284 = true then (if ((rd_T30 l0_2 x3_2).f1) = ((rd_T30 l0_2 x3_2).f2) then (some false) else (if ((rd_T30 l0_2 x3_2).f3) < (-65536) then (some false) else (if ((rd_T30 l0_2 x3_2).f4) > 65536 then (some false) else (if ((rd_T30 l0_2 x3_2).f3) > ((rd_T30 l0_2 x3_2).f4) then (some false) else (if (wrap64 (((rd_T30 l0_2 x3_2).f4) - ((rd_T30 l0_2 x3_2).f3))) ≥ a0_0 then (some false) else ((railplanref11_in.f ((rd_T30 l0_2 x3_2).f5) 0 1048576).bind fun t285 => (if t285 = true then (railplanref11_Check.l0 k2 (wrap64 (x3_2 + 1)) a0_0 l0_1 l0_2) else (some false)))))))) else (some false))) else (some false)) = some r := H
                have A13 := Aside0.mk A130
                clear A130
                by_cases c14 : t283 = true
                · subst c14
                  have H1 : ((railplanref11_in.f ((rd_T30 l0_2 x3_2).f2) 0 (wrap64 ((l0_1.length : Int) - 1))).bind fun t284 => (if t284 = true then (if ((rd_T30 l0_2 x3_2).f1) = ((rd_T30 l0_2 x3_2).f2) then (some false) else (if ((rd_T30 l0_2 x3_2).f3) < (-65536) then (some false) else (if ((rd_T30 l0_2 x3_2).f4) > 65536 then (some false) else (if ((rd_T30 l0_2 x3_2).f3) > ((rd_T30 l0_2 x3_2).f4) then (some false) else (if (wrap64 (((rd_T30 l0_2 x3_2).f4) - ((rd_T30 l0_2 x3_2).f3))) ≥ a0_0 then (some false) else ((railplanref11_in.f ((rd_T30 l0_2 x3_2).f5) 0 1048576).bind fun t285 => (if t285 = true then (railplanref11_Check.l0 k2 (wrap64 (x3_2 + 1)) a0_0 l0_1 l0_2) else (some false)))))))) else (some false))) = some r := by rw [if_pos rfl] at H; exact H
                  clear H
                  have H := H1
                  clear H1
                  replace H := Option.bind_eq_some_iff.mp H
                  obtain ⟨t284, A150, H⟩ := H
                  replace H : (if t284 = true then (if ((rd_T30 l0_2 x3_2).f1) = ((rd_T30 l0_2 x3_2).f2) then (some false) else (if ((rd_T30 l0_2 x3_2).f3) < (-65536) then (some false) else (if ((rd_T30 l0_2 x3_2).f4) > 65536 then (some false) else (if ((rd_T30 l0_2 x3_2).f3) > ((rd_T30 l0_2 x3_2).f4) then (some false) else (if (wrap64 (((rd_T30 l0_2 x3_2).f4) - ((rd_T30 l0_2 x3_2).f3))) ≥ a0_0 then (some false) else ((railplanref11_in.f ((rd_T30 l0_2 x3_2).f5) 0 1048576).bind fun t285 => (if t285 = true then (railplanref11_Check.l0 k2 (wrap64 (x3_2 + 1)) a0_0 l0_1 l0_2) else (some false)))))))) else (some false)) = some r := H
                  have A15 := Aside0.mk A150
                  clear A150
                  by_cases c16 : t284 = true
                  · subst c16
                    have H1 : (if ((rd_T30 l0_2 x3_2).f1) = ((rd_T30 l0_2 x3_2).f2) then (some false) else (if ((rd_T30 l0_2 x3_2).f3) < (-65536) then (some false) else (if ((rd_T30 l0_2 x3_2).f4) > 65536 then (some false) else (if ((rd_T30 l0_2 x3_2).f3) > ((rd_T30 l0_2 x3_2).f4) then (some false) else (if (wrap64 (((rd_T30 l0_2 x3_2).f4) - ((rd_T30 l0_2 x3_2).f3))) ≥ a0_0 then (some false) else ((railplanref11_in.f ((rd_T30 l0_2 x3_2).f5) 0 1048576).bind fun t285 => (if t285 = true then (railplanref11_Check.l0 k2 (wrap64 (x3_2 + 1)) a0_0 l0_1 l0_2) else (some false)))))))) = some r := by rw [if_pos rfl] at H; exact H
                    clear H
                    have H := H1
                    clear H1
                    by_cases c17 : ((rd_T30 l0_2 x3_2).f1) = ((rd_T30 l0_2 x3_2).f2)
                    · rw [if_pos c17] at H
                      have c17b0 : (((rd_T30 l0_2 x3_2).f1) == ((rd_T30 l0_2 x3_2).f2)) = true := beq_iff_eq.mpr c17
                      have c17b1 : (((rd_T30 l0_2 x3_2).f1) != ((rd_T30 l0_2 x3_2).f2)) = false := bne_eq_false_iff_eq.mpr c17
                      clear c17
                      obtain rfl := Option.some.inj H
                      have hcz18_0 : wr.cell? ⟨gb279, 0, none⟩ = some (.int .i64 a0_0) := (blk_cell BK279.out 0).trans rfl
                      have hcz18_1 : wr.cell? ⟨gb279, 1, none⟩ = some (.slice A0_1 l0_1.length c0_1) := (blk_cell BK279.out 1).trans rfl
                      have hcz18_2 : wr.cell? ⟨gb279, 2, none⟩ = some (.slice A0_2 l0_2.length c0_2) := (blk_cell BK279.out 2).trans rfl
                      have hfz18_0 := blk_frozen BK279.out 0
                      have hfz18_1 := blk_frozen BK279.out 1
                      have hfz18_2 := blk_frozen BK279.out 2
                      have p281 : 0 ≤ (x3_2 : Int) := of_decide_eq_true (by first | (with_reducible assumption) | assumption)
                      have q281 : x3_2 < (l0_2.length : Int) := of_decide_eq_true (by first | (with_reducible assumption) | assumption)
                      obtain ⟨ad281, e281, hx281_0, hx281_1, hx281_2, hx281_3, hx281_4, hx281_5⟩ := at_T30 HR0_2.out x3_2 p281 q281
                      cases e281
                      replace hx281_0 := (HB.out.cell (World.block_lt_of_cell? w _ hx281_0)).trans hx281_0
                      replace hx281_1 := (HB.out.cell (World.block_lt_of_cell? w _ hx281_1)).trans hx281_1
                      replace hx281_2 := (HB.out.cell (World.block_lt_of_cell? w _ hx281_2)).trans hx281_2
                      replace hx281_3 := (HB.out.cell (World.block_lt_of_cell? w _ hx281_3)).trans hx281_3
                      replace hx281_4 := (HB.out.cell (World.block_lt_of_cell? w _ hx281_4)).trans hx281_4
                      replace hx281_5 := (HB.out.cell (World.block_lt_of_cell? w _ hx281_5)).trans hx281_5
                      replace p281 := eq_true p281
                      replace q281 := eq_true q281
                      go_wp2_with (first | ((with_reducible refine gate_dst (N := 4) rfl ?_); (try (refine gate_guard (by rfl) ?_; dsimp only)); refine box_event ?hg (N := 4) ?hd (cs := #[.int .i64 0, .int .i64 0, .int .i64 0, .int .i64 0, .int .i64 0, .int .i64 0]) (t := 30) ?hr ?_; (case hd => rfl); (case hg => rfl); (case hr => first | (go_simp; done) | (go_simp; rfl)); intro gb282 hg w19 hbox hb; have n0_ := Aside0.mk (blk_below (g := gb279) (o := .cells #[.int .i64 a0_0, .slice A0_1 l0_1.length c0_1, .slice (some ad281) l0_2.length c0_2] 25 (0, 0)) (by (with_reducible repeat (first | refine blk_drewN ?_ _ | refine blk_drew ?_ | refine blk_alloc ?_ _)); exact BK279.out) hb); have n1_ := Aside0.mk (below_step (by repeat (first | (with_reducible first | exact HB.out | apply below_alloc | apply pw_below_drewN | apply below_drew1 | refine below_set ?_ GE279.out) | exact HB.out)) hb); have n2_ := Aside0.mk (hbox); have n3_ := Aside0.mk ((by rw [hg]; exact (below_size (by repeat (first | (with_reducible first | exact HB.out | apply below_alloc | apply pw_below_drewN | apply below_drew1 | refine below_set ?_ GE279.out) | exact HB.out))) : w.heap.size ≤ gb282)); have n4_ := Aside0.mk ((by rw [hg]; exact (below_size (by repeat (first | (with_reducible first | exact HB.out | apply below_alloc | apply pw_below_drewN | apply below_drew1 | refine below_set ?_ GE279.out) | exact HB.out))) : w.heap.size ≤ gb282)); have n5_ := Aside0.mk ((by rw [hg]; exact Nat.ne_of_lt (blk_lt (g := gb279) (o := .cells #[.int .i64 a0_0, .slice A0_1 l0_1.length c0_1, .slice (some ad281) l0_2.length c0_2] 25 (0, 0)) (by (with_reducible repeat (first | refine blk_drewN ?_ _ | refine blk_drew ?_ | refine blk_alloc ?_ _)); exact BK279.out)) : gb279 ≠ gb282)); have n6_ := Aside0.mk ((by rw [hg]; exact Nat.ne_of_gt (blk_lt (g := gb279) (o := .cells #[.int .i64 a0_0, .slice A0_1 l0_1.length c0_1, .slice (some ad281) l0_2.length c0_2] 25 (0, 0)) (by (with_reducible repeat (first | refine blk_drewN ?_ _ | refine blk_drew ?_ | refine blk_alloc ?_ _)); exact BK279.out)) : gb282 ≠ gb279)); clear BK279; clear HB; have BK279 := n0_; have HB := n1_; have BK282 := n2_; have GW282 := n3_; have GE282 := n4_; have NB279_282 := n5_; have NB282_279 := n6_; clear n0_ n1_ n2_ n3_ n4_ n5_ n6_; clear hb hbox hg; have hnb20 := NB282_279.out; have hnc20 := NB279_282.out; have hcz21_0 : w19.cell? ⟨gb282, 0, none⟩ = some (.int .i64 0) := (blk_cell BK282.out 0).trans rfl; have hcz21_1 : w19.cell? ⟨gb282, 1, none⟩ = some (.int .i64 0) := (blk_cell BK282.out 1).trans rfl; have hcz21_2 : w19.cell? ⟨gb282, 2, none⟩ = some (.int .i64 0) := (blk_cell BK282.out 2).trans rfl; have hcz21_3 : w19.cell? ⟨gb282, 3, none⟩ = some (.int .i64 0) := (blk_cell BK282.out 3).trans rfl; have hcz21_4 : w19.cell? ⟨gb282, 4, none⟩ = some (.int .i64 0) := (blk_cell BK282.out 4).trans rfl; have hcz21_5 : w19.cell? ⟨gb282, 5, none⟩ = some (.int .i64 0) := (blk_cell BK282.out 5).trans rfl; have hfz21_0 := blk_frozen BK282.out 0; have hfz21_1 := blk_frozen BK282.out 1; have hfz21_2 := blk_frozen BK282.out 2; have hfz21_3 := blk_frozen BK282.out 3; have hfz21_4 := blk_frozen BK282.out 4; have hfz21_5 := blk_frozen BK282.out 5; have hcz22_0 : w19.cell? ⟨gb279, 0, none⟩ = some (.int .i64 a0_0) := (blk_cell BK279.out 0).trans rfl; have hcz22_1 : w19.cell? ⟨gb279, 1, none⟩ = some (.slice A0_1 l0_1.length c0_1) := (blk_cell BK279.out 1).trans rfl; have hcz22_2 : w19.cell? ⟨gb279, 2, none⟩ = some (.slice (some ad281) l0_2.length c0_2) := (blk_cell BK279.out 2).trans rfl; have hfz22_0 := blk_frozen BK279.out 0; have hfz22_1 := blk_frozen BK279.out 1; have hfz22_2 := blk_frozen BK279.out 2) | ((with_reducible refine gate_callee (f := 39) rfl ?_); refine goesL_ (some 39) rfl rfl Try.func39 (by kernel_rfl) rfl #[.int .i64 ((rd_T30 l0_2 x3_2).f1), .int .i64 0, .int .i64 (wrap64 ((l0_1.length : Int) - 1))] rfl (by (try simp only [List.map_toArray, List.map_cons, List.map_nil]); first | done | rfl | (simp only [List.length_drop, List.length_take]; rfl)) ?_; (with_reducible refine (railplanref11_in.calls ((rd_T30 l0_2 x3_2).f1) 0 (wrap64 ((l0_1.length : Int) - 1)) true _ A13.out).mono ?_); rintro e w' ⟨rfl, ⟨nd, rfl⟩⟩; refine ⟨_, rfl, ?_⟩) | (go_at_call 39; (with_reducible refine (railplanref11_in.calls ((rd_T30 l0_2 x3_2).f2) 0 (wrap64 ((l0_1.length : Int) - 1)) true _ A15.out).mono ?_); rintro e w' ⟨rfl, ⟨nd, rfl⟩⟩))
                      go_ret
                      exact ⟨by first | rfl | (simp [errW_none, errW_some] <;> rfl) | (simp [*, errW_none, errW_some] <;> rfl), by repeat (first | (with_reducible first | exact HB.out | apply below_alloc | apply pw_below_drewN | apply below_drew1 | refine below_set ?_ GE279.out | refine below_set ?_ GE282.out) | exact HB.out)⟩
                    · rw [if_neg c17] at H
                      have c17b0 : (((rd_T30 l0_2 x3_2).f1) == ((rd_T30 l0_2 x3_2).f2)) = false := beq_eq_false_iff_ne.mpr c17
                      have c17b1 : (((rd_T30 l0_2 x3_2).f1) != ((rd_T30 l0_2 x3_2).f2)) = true := bne_iff_ne.mpr c17
                      by_cases c23 : ((rd_T30 l0_2 x3_2).f3) < (-65536)
                      · rw [if_pos c23] at H
                        have c23b0 : decide (((rd_T30 l0_2 x3_2).f3) < (-65536)) = true := decide_eq_true c23
                        clear c23
                        obtain rfl := Option.some.inj H
                        have hcz24_0 : wr.cell? ⟨gb279, 0, none⟩ = some (.int .i64 a0_0) := (blk_cell BK279.out 0).trans rfl
                        have hcz24_1 : wr.cell? ⟨gb279, 1, none⟩ = some (.slice A0_1 l0_1.length c0_1) := (blk_cell BK279.out 1).trans rfl
                        have hcz24_2 : wr.cell? ⟨gb279, 2, none⟩ = some (.slice A0_2 l0_2.length c0_2) := (blk_cell BK279.out 2).trans rfl
                        have hfz24_0 := blk_frozen BK279.out 0
                        have hfz24_1 := blk_frozen BK279.out 1
                        have hfz24_2 := blk_frozen BK279.out 2
                        have p281 : 0 ≤ (x3_2 : Int) := of_decide_eq_true (by first | (with_reducible assumption) | assumption)
                        have q281 : x3_2 < (l0_2.length : Int) := of_decide_eq_true (by first | (with_reducible assumption) | assumption)
                        obtain ⟨ad281, e281, hx281_0, hx281_1, hx281_2, hx281_3, hx281_4, hx281_5⟩ := at_T30 HR0_2.out x3_2 p281 q281
                        cases e281
                        replace hx281_0 := (HB.out.cell (World.block_lt_of_cell? w _ hx281_0)).trans hx281_0
                        replace hx281_1 := (HB.out.cell (World.block_lt_of_cell? w _ hx281_1)).trans hx281_1
                        replace hx281_2 := (HB.out.cell (World.block_lt_of_cell? w _ hx281_2)).trans hx281_2
                        replace hx281_3 := (HB.out.cell (World.block_lt_of_cell? w _ hx281_3)).trans hx281_3
                        replace hx281_4 := (HB.out.cell (World.block_lt_of_cell? w _ hx281_4)).trans hx281_4
                        replace hx281_5 := (HB.out.cell (World.block_lt_of_cell? w _ hx281_5)).trans hx281_5
                        replace p281 := eq_true p281
                        replace q281 := eq_true q281
                        go_wp2_with (first | ((with_reducible refine gate_dst (N := 4) rfl ?_); (try (refine gate_guard (by rfl) ?_; dsimp only)); refine box_event ?hg (N := 4) ?hd (cs := #[.int .i64 0, .int .i64 0, .int .i64 0, .int .i64 0, .int .i64 0, .int .i64 0]) (t := 30) ?hr ?_; (case hd => rfl); (case hg => rfl); (case hr => first | (go_simp; done) | (go_simp; rfl)); intro gb282 hg w25 hbox hb; have n0_ := Aside0.mk (blk_below (g := gb279) (o := .cells #[.int .i64 a0_0, .slice A0_1 l0_1.length c0_1, .slice (some ad281) l0_2.length c0_2] 25 (0, 0)) (by (with_reducible repeat (first | refine blk_drewN ?_ _ | refine blk_drew ?_ | refine blk_alloc ?_ _)); exact BK279.out) hb); have n1_ := Aside0.mk (below_step (by repeat (first | (with_reducible first | exact HB.out | apply below_alloc | apply pw_below_drewN | apply below_drew1 | refine below_set ?_ GE279.out) | exact HB.out)) hb); have n2_ := Aside0.mk (hbox); have n3_ := Aside0.mk ((by rw [hg]; exact (below_size (by repeat (first | (with_reducible first | exact HB.out | apply below_alloc | apply pw_below_drewN | apply below_drew1 | refine below_set ?_ GE279.out) | exact HB.out))) : w.heap.size ≤ gb282)); have n4_ := Aside0.mk ((by rw [hg]; exact (below_size (by repeat (first | (with_reducible first | exact HB.out | apply below_alloc | apply pw_below_drewN | apply below_drew1 | refine below_set ?_ GE279.out) | exact HB.out))) : w.heap.size ≤ gb282)); have n5_ := Aside0.mk ((by rw [hg]; exact Nat.ne_of_lt (blk_lt (g := gb279) (o := .cells #[.int .i64 a0_0, .slice A0_1 l0_1.length c0_1, .slice (some ad281) l0_2.length c0_2] 25 (0, 0)) (by (with_reducible repeat (first | refine blk_drewN ?_ _ | refine blk_drew ?_ | refine blk_alloc ?_ _)); exact BK279.out)) : gb279 ≠ gb282)); have n6_ := Aside0.mk ((by rw [hg]; exact Nat.ne_of_gt (blk_lt (g := gb279) (o := .cells #[.int .i64 a0_0, .slice A0_1 l0_1.length c0_1, .slice (some ad281) l0_2.length c0_2] 25 (0, 0)) (by (with_reducible repeat (first | refine blk_drewN ?_ _ | refine blk_drew ?_ | refine blk_alloc ?_ _)); exact BK279.out)) : gb282 ≠ gb279)); clear BK279; clear HB; have BK279 := n0_; have HB := n1_; have BK282 := n2_; have GW282 := n3_; have GE282 := n4_; have NB279_282 := n5_; have NB282_279 := n6_; clear n0_ n1_ n2_ n3_ n4_ n5_ n6_; clear hb hbox hg; have hnb26 := NB282_279.out; have hnc26 := NB279_282.out; have hcz27_0 : w25.cell? ⟨gb282, 0, none⟩ = some (.int .i64 0) := (blk_cell BK282.out 0).trans rfl; have hcz27_1 : w25.cell? ⟨gb282, 1, none⟩ = some (.int .i64 0) := (blk_cell BK282.out 1).trans rfl; have hcz27_2 : w25.cell? ⟨gb282, 2, none⟩ = some (.int .i64 0) := (blk_cell BK282.out 2).trans rfl; have hcz27_3 : w25.cell? ⟨gb282, 3, none⟩ = some (.int .i64 0) := (blk_cell BK282.out 3).trans rfl; have hcz27_4 : w25.cell? ⟨gb282, 4, none⟩ = some (.int .i64 0) := (blk_cell BK282.out 4).trans rfl; have hcz27_5 : w25.cell? ⟨gb282, 5, none⟩ = some (.int .i64 0) := (blk_cell BK282.out 5).trans rfl; have hfz27_0 := blk_frozen BK282.out 0; have hfz27_1 := blk_frozen BK282.out 1; have hfz27_2 := blk_frozen BK282.out 2; have hfz27_3 := blk_frozen BK282.out 3; have hfz27_4 := blk_frozen BK282.out 4; have hfz27_5 := blk_frozen BK282.out 5; have hcz28_0 : w25.cell? ⟨gb279, 0, none⟩ = some (.int .i64 a0_0) := (blk_cell BK279.out 0).trans rfl; have hcz28_1 : w25.cell? ⟨gb279, 1, none⟩ = some (.slice A0_1 l0_1.length c0_1) := (blk_cell BK279.out 1).trans rfl; have hcz28_2 : w25.cell? ⟨gb279, 2, none⟩ = some (.slice (some ad281) l0_2.length c0_2) := (blk_cell BK279.out 2).trans rfl; have hfz28_0 := blk_frozen BK279.out 0; have hfz28_1 := blk_frozen BK279.out 1; have hfz28_2 := blk_frozen BK279.out 2) | ((with_reducible refine gate_callee (f := 39) rfl ?_); refine goesL_ (some 39) rfl rfl Try.func39 (by kernel_rfl) rfl #[.int .i64 ((rd_T30 l0_2 x3_2).f1), .int .i64 0, .int .i64 (wrap64 ((l0_1.length : Int) - 1))] rfl (by (try simp only [List.map_toArray, List.map_cons, List.map_nil]); first | done | rfl | (simp only [List.length_drop, List.length_take]; rfl)) ?_; (with_reducible refine (railplanref11_in.calls ((rd_T30 l0_2 x3_2).f1) 0 (wrap64 ((l0_1.length : Int) - 1)) true _ A13.out).mono ?_); rintro e w' ⟨rfl, ⟨nd, rfl⟩⟩; refine ⟨_, rfl, ?_⟩) | (go_at_call 39; (with_reducible refine (railplanref11_in.calls ((rd_T30 l0_2 x3_2).f2) 0 (wrap64 ((l0_1.length : Int) - 1)) true _ A15.out).mono ?_); rintro e w' ⟨rfl, ⟨nd, rfl⟩⟩))
                        go_ret
                        exact ⟨by first | rfl | (simp [errW_none, errW_some] <;> rfl) | (simp [*, errW_none, errW_some] <;> rfl), by repeat (first | (with_reducible first | exact HB.out | apply below_alloc | apply pw_below_drewN | apply below_drew1 | refine below_set ?_ GE279.out | refine below_set ?_ GE282.out) | exact HB.out)⟩
                      · rw [if_neg c23] at H
                        have c23b0 : decide (((rd_T30 l0_2 x3_2).f3) < (-65536)) = false := decide_eq_false c23
                        clear c23
                        by_cases c29 : ((rd_T30 l0_2 x3_2).f4) > 65536
                        · rw [if_pos c29] at H
                          have c29b0 : decide (65536 < ((rd_T30 l0_2 x3_2).f4)) = true := decide_eq_true c29
                          clear c29
                          obtain rfl := Option.some.inj H
                          have hcz30_0 : wr.cell? ⟨gb279, 0, none⟩ = some (.int .i64 a0_0) := (blk_cell BK279.out 0).trans rfl
                          have hcz30_1 : wr.cell? ⟨gb279, 1, none⟩ = some (.slice A0_1 l0_1.length c0_1) := (blk_cell BK279.out 1).trans rfl
                          have hcz30_2 : wr.cell? ⟨gb279, 2, none⟩ = some (.slice A0_2 l0_2.length c0_2) := (blk_cell BK279.out 2).trans rfl
                          have hfz30_0 := blk_frozen BK279.out 0
                          have hfz30_1 := blk_frozen BK279.out 1
                          have hfz30_2 := blk_frozen BK279.out 2
                          have p281 : 0 ≤ (x3_2 : Int) := of_decide_eq_true (by first | (with_reducible assumption) | assumption)
                          have q281 : x3_2 < (l0_2.length : Int) := of_decide_eq_true (by first | (with_reducible assumption) | assumption)
                          obtain ⟨ad281, e281, hx281_0, hx281_1, hx281_2, hx281_3, hx281_4, hx281_5⟩ := at_T30 HR0_2.out x3_2 p281 q281
                          cases e281
                          replace hx281_0 := (HB.out.cell (World.block_lt_of_cell? w _ hx281_0)).trans hx281_0
                          replace hx281_1 := (HB.out.cell (World.block_lt_of_cell? w _ hx281_1)).trans hx281_1
                          replace hx281_2 := (HB.out.cell (World.block_lt_of_cell? w _ hx281_2)).trans hx281_2
                          replace hx281_3 := (HB.out.cell (World.block_lt_of_cell? w _ hx281_3)).trans hx281_3
                          replace hx281_4 := (HB.out.cell (World.block_lt_of_cell? w _ hx281_4)).trans hx281_4
                          replace hx281_5 := (HB.out.cell (World.block_lt_of_cell? w _ hx281_5)).trans hx281_5
                          replace p281 := eq_true p281
                          replace q281 := eq_true q281
                          go_wp2_with (first | ((with_reducible refine gate_dst (N := 4) rfl ?_); (try (refine gate_guard (by rfl) ?_; dsimp only)); refine box_event ?hg (N := 4) ?hd (cs := #[.int .i64 0, .int .i64 0, .int .i64 0, .int .i64 0, .int .i64 0, .int .i64 0]) (t := 30) ?hr ?_; (case hd => rfl); (case hg => rfl); (case hr => first | (go_simp; done) | (go_simp; rfl)); intro gb282 hg w31 hbox hb; have n0_ := Aside0.mk (blk_below (g := gb279) (o := .cells #[.int .i64 a0_0, .slice A0_1 l0_1.length c0_1, .slice (some ad281) l0_2.length c0_2] 25 (0, 0)) (by (with_reducible repeat (first | refine blk_drewN ?_ _ | refine blk_drew ?_ | refine blk_alloc ?_ _)); exact BK279.out) hb); have n1_ := Aside0.mk (below_step (by repeat (first | (with_reducible first | exact HB.out | apply below_alloc | apply pw_below_drewN | apply below_drew1 | refine below_set ?_ GE279.out) | exact HB.out)) hb); have n2_ := Aside0.mk (hbox); have n3_ := Aside0.mk ((by rw [hg]; exact (below_size (by repeat (first | (with_reducible first | exact HB.out | apply below_alloc | apply pw_below_drewN | apply below_drew1 | refine below_set ?_ GE279.out) | exact HB.out))) : w.heap.size ≤ gb282)); have n4_ := Aside0.mk ((by rw [hg]; exact (below_size (by repeat (first | (with_reducible first | exact HB.out | apply below_alloc | apply pw_below_drewN | apply below_drew1 | refine below_set ?_ GE279.out) | exact HB.out))) : w.heap.size ≤ gb282)); have n5_ := Aside0.mk ((by rw [hg]; exact Nat.ne_of_lt (blk_lt (g := gb279) (o := .cells #[.int .i64 a0_0, .slice A0_1 l0_1.length c0_1, .slice (some ad281) l0_2.length c0_2] 25 (0, 0)) (by (with_reducible repeat (first | refine blk_drewN ?_ _ | refine blk_drew ?_ | refine blk_alloc ?_ _)); exact BK279.out)) : gb279 ≠ gb282)); have n6_ := Aside0.mk ((by rw [hg]; exact Nat.ne_of_gt (blk_lt (g := gb279) (o := .cells #[.int .i64 a0_0, .slice A0_1 l0_1.length c0_1, .slice (some ad281) l0_2.length c0_2] 25 (0, 0)) (by (with_reducible repeat (first | refine blk_drewN ?_ _ | refine blk_drew ?_ | refine blk_alloc ?_ _)); exact BK279.out)) : gb282 ≠ gb279)); clear BK279; clear HB; have BK279 := n0_; have HB := n1_; have BK282 := n2_; have GW282 := n3_; have GE282 := n4_; have NB279_282 := n5_; have NB282_279 := n6_; clear n0_ n1_ n2_ n3_ n4_ n5_ n6_; clear hb hbox hg; have hnb32 := NB282_279.out; have hnc32 := NB279_282.out; have hcz33_0 : w31.cell? ⟨gb282, 0, none⟩ = some (.int .i64 0) := (blk_cell BK282.out 0).trans rfl; have hcz33_1 : w31.cell? ⟨gb282, 1, none⟩ = some (.int .i64 0) := (blk_cell BK282.out 1).trans rfl; have hcz33_2 : w31.cell? ⟨gb282, 2, none⟩ = some (.int .i64 0) := (blk_cell BK282.out 2).trans rfl; have hcz33_3 : w31.cell? ⟨gb282, 3, none⟩ = some (.int .i64 0) := (blk_cell BK282.out 3).trans rfl; have hcz33_4 : w31.cell? ⟨gb282, 4, none⟩ = some (.int .i64 0) := (blk_cell BK282.out 4).trans rfl; have hcz33_5 : w31.cell? ⟨gb282, 5, none⟩ = some (.int .i64 0) := (blk_cell BK282.out 5).trans rfl; have hfz33_0 := blk_frozen BK282.out 0; have hfz33_1 := blk_frozen BK282.out 1; have hfz33_2 := blk_frozen BK282.out 2; have hfz33_3 := blk_frozen BK282.out 3; have hfz33_4 := blk_frozen BK282.out 4; have hfz33_5 := blk_frozen BK282.out 5; have hcz34_0 : w31.cell? ⟨gb279, 0, none⟩ = some (.int .i64 a0_0) := (blk_cell BK279.out 0).trans rfl; have hcz34_1 : w31.cell? ⟨gb279, 1, none⟩ = some (.slice A0_1 l0_1.length c0_1) := (blk_cell BK279.out 1).trans rfl; have hcz34_2 : w31.cell? ⟨gb279, 2, none⟩ = some (.slice (some ad281) l0_2.length c0_2) := (blk_cell BK279.out 2).trans rfl; have hfz34_0 := blk_frozen BK279.out 0; have hfz34_1 := blk_frozen BK279.out 1; have hfz34_2 := blk_frozen BK279.out 2) | ((with_reducible refine gate_callee (f := 39) rfl ?_); refine goesL_ (some 39) rfl rfl Try.func39 (by kernel_rfl) rfl #[.int .i64 ((rd_T30 l0_2 x3_2).f1), .int .i64 0, .int .i64 (wrap64 ((l0_1.length : Int) - 1))] rfl (by (try simp only [List.map_toArray, List.map_cons, List.map_nil]); first | done | rfl | (simp only [List.length_drop, List.length_take]; rfl)) ?_; (with_reducible refine (railplanref11_in.calls ((rd_T30 l0_2 x3_2).f1) 0 (wrap64 ((l0_1.length : Int) - 1)) true _ A13.out).mono ?_); rintro e w' ⟨rfl, ⟨nd, rfl⟩⟩; refine ⟨_, rfl, ?_⟩) | (go_at_call 39; (with_reducible refine (railplanref11_in.calls ((rd_T30 l0_2 x3_2).f2) 0 (wrap64 ((l0_1.length : Int) - 1)) true _ A15.out).mono ?_); rintro e w' ⟨rfl, ⟨nd, rfl⟩⟩))
                          go_ret
                          exact ⟨by first | rfl | (simp [errW_none, errW_some] <;> rfl) | (simp [*, errW_none, errW_some] <;> rfl), by repeat (first | (with_reducible first | exact HB.out | apply below_alloc | apply pw_below_drewN | apply below_drew1 | refine below_set ?_ GE279.out | refine below_set ?_ GE282.out) | exact HB.out)⟩
                        · rw [if_neg c29] at H
                          have c29b0 : decide (65536 < ((rd_T30 l0_2 x3_2).f4)) = false := decide_eq_false c29
                          clear c29
                          by_cases c35 : ((rd_T30 l0_2 x3_2).f3) > ((rd_T30 l0_2 x3_2).f4)
                          · rw [if_pos c35] at H
                            have c35b0 : decide (((rd_T30 l0_2 x3_2).f4) < ((rd_T30 l0_2 x3_2).f3)) = true := decide_eq_true c35
                            clear c35
                            obtain rfl := Option.some.inj H
                            have hcz36_0 : wr.cell? ⟨gb279, 0, none⟩ = some (.int .i64 a0_0) := (blk_cell BK279.out 0).trans rfl
                            have hcz36_1 : wr.cell? ⟨gb279, 1, none⟩ = some (.slice A0_1 l0_1.length c0_1) := (blk_cell BK279.out 1).trans rfl
                            have hcz36_2 : wr.cell? ⟨gb279, 2, none⟩ = some (.slice A0_2 l0_2.length c0_2) := (blk_cell BK279.out 2).trans rfl
                            have hfz36_0 := blk_frozen BK279.out 0
                            have hfz36_1 := blk_frozen BK279.out 1
                            have hfz36_2 := blk_frozen BK279.out 2
                            have p281 : 0 ≤ (x3_2 : Int) := of_decide_eq_true (by first | (with_reducible assumption) | assumption)
                            have q281 : x3_2 < (l0_2.length : Int) := of_decide_eq_true (by first | (with_reducible assumption) | assumption)
                            obtain ⟨ad281, e281, hx281_0, hx281_1, hx281_2, hx281_3, hx281_4, hx281_5⟩ := at_T30 HR0_2.out x3_2 p281 q281
                            cases e281
                            replace hx281_0 := (HB.out.cell (World.block_lt_of_cell? w _ hx281_0)).trans hx281_0
                            replace hx281_1 := (HB.out.cell (World.block_lt_of_cell? w _ hx281_1)).trans hx281_1
                            replace hx281_2 := (HB.out.cell (World.block_lt_of_cell? w _ hx281_2)).trans hx281_2
                            replace hx281_3 := (HB.out.cell (World.block_lt_of_cell? w _ hx281_3)).trans hx281_3
                            replace hx281_4 := (HB.out.cell (World.block_lt_of_cell? w _ hx281_4)).trans hx281_4
                            replace hx281_5 := (HB.out.cell (World.block_lt_of_cell? w _ hx281_5)).trans hx281_5
                            replace p281 := eq_true p281
                            replace q281 := eq_true q281
                            go_wp2_with (first | ((with_reducible refine gate_dst (N := 4) rfl ?_); (try (refine gate_guard (by rfl) ?_; dsimp only)); refine box_event ?hg (N := 4) ?hd (cs := #[.int .i64 0, .int .i64 0, .int .i64 0, .int .i64 0, .int .i64 0, .int .i64 0]) (t := 30) ?hr ?_; (case hd => rfl); (case hg => rfl); (case hr => first | (go_simp; done) | (go_simp; rfl)); intro gb282 hg w37 hbox hb; have n0_ := Aside0.mk (blk_below (g := gb279) (o := .cells #[.int .i64 a0_0, .slice A0_1 l0_1.length c0_1, .slice (some ad281) l0_2.length c0_2] 25 (0, 0)) (by (with_reducible repeat (first | refine blk_drewN ?_ _ | refine blk_drew ?_ | refine blk_alloc ?_ _)); exact BK279.out) hb); have n1_ := Aside0.mk (below_step (by repeat (first | (with_reducible first | exact HB.out | apply below_alloc | apply pw_below_drewN | apply below_drew1 | refine below_set ?_ GE279.out) | exact HB.out)) hb); have n2_ := Aside0.mk (hbox); have n3_ := Aside0.mk ((by rw [hg]; exact (below_size (by repeat (first | (with_reducible first | exact HB.out | apply below_alloc | apply pw_below_drewN | apply below_drew1 | refine below_set ?_ GE279.out) | exact HB.out))) : w.heap.size ≤ gb282)); have n4_ := Aside0.mk ((by rw [hg]; exact (below_size (by repeat (first | (with_reducible first | exact HB.out | apply below_alloc | apply pw_below_drewN | apply below_drew1 | refine below_set ?_ GE279.out) | exact HB.out))) : w.heap.size ≤ gb282)); have n5_ := Aside0.mk ((by rw [hg]; exact Nat.ne_of_lt (blk_lt (g := gb279) (o := .cells #[.int .i64 a0_0, .slice A0_1 l0_1.length c0_1, .slice (some ad281) l0_2.length c0_2] 25 (0, 0)) (by (with_reducible repeat (first | refine blk_drewN ?_ _ | refine blk_drew ?_ | refine blk_alloc ?_ _)); exact BK279.out)) : gb279 ≠ gb282)); have n6_ := Aside0.mk ((by rw [hg]; exact Nat.ne_of_gt (blk_lt (g := gb279) (o := .cells #[.int .i64 a0_0, .slice A0_1 l0_1.length c0_1, .slice (some ad281) l0_2.length c0_2] 25 (0, 0)) (by (with_reducible repeat (first | refine blk_drewN ?_ _ | refine blk_drew ?_ | refine blk_alloc ?_ _)); exact BK279.out)) : gb282 ≠ gb279)); clear BK279; clear HB; have BK279 := n0_; have HB := n1_; have BK282 := n2_; have GW282 := n3_; have GE282 := n4_; have NB279_282 := n5_; have NB282_279 := n6_; clear n0_ n1_ n2_ n3_ n4_ n5_ n6_; clear hb hbox hg; have hnb38 := NB282_279.out; have hnc38 := NB279_282.out; have hcz39_0 : w37.cell? ⟨gb282, 0, none⟩ = some (.int .i64 0) := (blk_cell BK282.out 0).trans rfl; have hcz39_1 : w37.cell? ⟨gb282, 1, none⟩ = some (.int .i64 0) := (blk_cell BK282.out 1).trans rfl; have hcz39_2 : w37.cell? ⟨gb282, 2, none⟩ = some (.int .i64 0) := (blk_cell BK282.out 2).trans rfl; have hcz39_3 : w37.cell? ⟨gb282, 3, none⟩ = some (.int .i64 0) := (blk_cell BK282.out 3).trans rfl; have hcz39_4 : w37.cell? ⟨gb282, 4, none⟩ = some (.int .i64 0) := (blk_cell BK282.out 4).trans rfl; have hcz39_5 : w37.cell? ⟨gb282, 5, none⟩ = some (.int .i64 0) := (blk_cell BK282.out 5).trans rfl; have hfz39_0 := blk_frozen BK282.out 0; have hfz39_1 := blk_frozen BK282.out 1; have hfz39_2 := blk_frozen BK282.out 2; have hfz39_3 := blk_frozen BK282.out 3; have hfz39_4 := blk_frozen BK282.out 4; have hfz39_5 := blk_frozen BK282.out 5; have hcz40_0 : w37.cell? ⟨gb279, 0, none⟩ = some (.int .i64 a0_0) := (blk_cell BK279.out 0).trans rfl; have hcz40_1 : w37.cell? ⟨gb279, 1, none⟩ = some (.slice A0_1 l0_1.length c0_1) := (blk_cell BK279.out 1).trans rfl; have hcz40_2 : w37.cell? ⟨gb279, 2, none⟩ = some (.slice (some ad281) l0_2.length c0_2) := (blk_cell BK279.out 2).trans rfl; have hfz40_0 := blk_frozen BK279.out 0; have hfz40_1 := blk_frozen BK279.out 1; have hfz40_2 := blk_frozen BK279.out 2) | ((with_reducible refine gate_callee (f := 39) rfl ?_); refine goesL_ (some 39) rfl rfl Try.func39 (by kernel_rfl) rfl #[.int .i64 ((rd_T30 l0_2 x3_2).f1), .int .i64 0, .int .i64 (wrap64 ((l0_1.length : Int) - 1))] rfl (by (try simp only [List.map_toArray, List.map_cons, List.map_nil]); first | done | rfl | (simp only [List.length_drop, List.length_take]; rfl)) ?_; (with_reducible refine (railplanref11_in.calls ((rd_T30 l0_2 x3_2).f1) 0 (wrap64 ((l0_1.length : Int) - 1)) true _ A13.out).mono ?_); rintro e w' ⟨rfl, ⟨nd, rfl⟩⟩; refine ⟨_, rfl, ?_⟩) | (go_at_call 39; (with_reducible refine (railplanref11_in.calls ((rd_T30 l0_2 x3_2).f2) 0 (wrap64 ((l0_1.length : Int) - 1)) true _ A15.out).mono ?_); rintro e w' ⟨rfl, ⟨nd, rfl⟩⟩))
                            go_ret
                            exact ⟨by first | rfl | (simp [errW_none, errW_some] <;> rfl) | (simp [*, errW_none, errW_some] <;> rfl), by repeat (first | (with_reducible first | exact HB.out | apply below_alloc | apply pw_below_drewN | apply below_drew1 | refine below_set ?_ GE279.out | refine below_set ?_ GE282.out) | exact HB.out)⟩
                          · rw [if_neg c35] at H
                            have c35b0 : decide (((rd_T30 l0_2 x3_2).f4) < ((rd_T30 l0_2 x3_2).f3)) = false := decide_eq_false c35
                            clear c35
                            by_cases c41 : (wrap64 (((rd_T30 l0_2 x3_2).f4) - ((rd_T30 l0_2 x3_2).f3))) ≥ a0_0
                            · rw [if_pos c41] at H
                              have c41b0 : decide (a0_0 ≤ (wrap64 (((rd_T30 l0_2 x3_2).f4) - ((rd_T30 l0_2 x3_2).f3)))) = true := decide_eq_true c41
                              clear c41
                              obtain rfl := Option.some.inj H
                              have hcz42_0 : wr.cell? ⟨gb279, 0, none⟩ = some (.int .i64 a0_0) := (blk_cell BK279.out 0).trans rfl
                              have hcz42_1 : wr.cell? ⟨gb279, 1, none⟩ = some (.slice A0_1 l0_1.length c0_1) := (blk_cell BK279.out 1).trans rfl
                              have hcz42_2 : wr.cell? ⟨gb279, 2, none⟩ = some (.slice A0_2 l0_2.length c0_2) := (blk_cell BK279.out 2).trans rfl
                              have hfz42_0 := blk_frozen BK279.out 0
                              have hfz42_1 := blk_frozen BK279.out 1
                              have hfz42_2 := blk_frozen BK279.out 2
                              have p281 : 0 ≤ (x3_2 : Int) := of_decide_eq_true (by first | (with_reducible assumption) | assumption)
                              have q281 : x3_2 < (l0_2.length : Int) := of_decide_eq_true (by first | (with_reducible assumption) | assumption)
                              obtain ⟨ad281, e281, hx281_0, hx281_1, hx281_2, hx281_3, hx281_4, hx281_5⟩ := at_T30 HR0_2.out x3_2 p281 q281
                              cases e281
                              replace hx281_0 := (HB.out.cell (World.block_lt_of_cell? w _ hx281_0)).trans hx281_0
                              replace hx281_1 := (HB.out.cell (World.block_lt_of_cell? w _ hx281_1)).trans hx281_1
                              replace hx281_2 := (HB.out.cell (World.block_lt_of_cell? w _ hx281_2)).trans hx281_2
                              replace hx281_3 := (HB.out.cell (World.block_lt_of_cell? w _ hx281_3)).trans hx281_3
                              replace hx281_4 := (HB.out.cell (World.block_lt_of_cell? w _ hx281_4)).trans hx281_4
                              replace hx281_5 := (HB.out.cell (World.block_lt_of_cell? w _ hx281_5)).trans hx281_5
                              replace p281 := eq_true p281
                              replace q281 := eq_true q281
                              go_wp2_with (first | ((with_reducible refine gate_dst (N := 4) rfl ?_); (try (refine gate_guard (by rfl) ?_; dsimp only)); refine box_event ?hg (N := 4) ?hd (cs := #[.int .i64 0, .int .i64 0, .int .i64 0, .int .i64 0, .int .i64 0, .int .i64 0]) (t := 30) ?hr ?_; (case hd => rfl); (case hg => rfl); (case hr => first | (go_simp; done) | (go_simp; rfl)); intro gb282 hg w43 hbox hb; have n0_ := Aside0.mk (blk_below (g := gb279) (o := .cells #[.int .i64 a0_0, .slice A0_1 l0_1.length c0_1, .slice (some ad281) l0_2.length c0_2] 25 (0, 0)) (by (with_reducible repeat (first | refine blk_drewN ?_ _ | refine blk_drew ?_ | refine blk_alloc ?_ _)); exact BK279.out) hb); have n1_ := Aside0.mk (below_step (by repeat (first | (with_reducible first | exact HB.out | apply below_alloc | apply pw_below_drewN | apply below_drew1 | refine below_set ?_ GE279.out) | exact HB.out)) hb); have n2_ := Aside0.mk (hbox); have n3_ := Aside0.mk ((by rw [hg]; exact (below_size (by repeat (first | (with_reducible first | exact HB.out | apply below_alloc | apply pw_below_drewN | apply below_drew1 | refine below_set ?_ GE279.out) | exact HB.out))) : w.heap.size ≤ gb282)); have n4_ := Aside0.mk ((by rw [hg]; exact (below_size (by repeat (first | (with_reducible first | exact HB.out | apply below_alloc | apply pw_below_drewN | apply below_drew1 | refine below_set ?_ GE279.out) | exact HB.out))) : w.heap.size ≤ gb282)); have n5_ := Aside0.mk ((by rw [hg]; exact Nat.ne_of_lt (blk_lt (g := gb279) (o := .cells #[.int .i64 a0_0, .slice A0_1 l0_1.length c0_1, .slice (some ad281) l0_2.length c0_2] 25 (0, 0)) (by (with_reducible repeat (first | refine blk_drewN ?_ _ | refine blk_drew ?_ | refine blk_alloc ?_ _)); exact BK279.out)) : gb279 ≠ gb282)); have n6_ := Aside0.mk ((by rw [hg]; exact Nat.ne_of_gt (blk_lt (g := gb279) (o := .cells #[.int .i64 a0_0, .slice A0_1 l0_1.length c0_1, .slice (some ad281) l0_2.length c0_2] 25 (0, 0)) (by (with_reducible repeat (first | refine blk_drewN ?_ _ | refine blk_drew ?_ | refine blk_alloc ?_ _)); exact BK279.out)) : gb282 ≠ gb279)); clear BK279; clear HB; have BK279 := n0_; have HB := n1_; have BK282 := n2_; have GW282 := n3_; have GE282 := n4_; have NB279_282 := n5_; have NB282_279 := n6_; clear n0_ n1_ n2_ n3_ n4_ n5_ n6_; clear hb hbox hg; have hnb44 := NB282_279.out; have hnc44 := NB279_282.out; have hcz45_0 : w43.cell? ⟨gb282, 0, none⟩ = some (.int .i64 0) := (blk_cell BK282.out 0).trans rfl; have hcz45_1 : w43.cell? ⟨gb282, 1, none⟩ = some (.int .i64 0) := (blk_cell BK282.out 1).trans rfl; have hcz45_2 : w43.cell? ⟨gb282, 2, none⟩ = some (.int .i64 0) := (blk_cell BK282.out 2).trans rfl; have hcz45_3 : w43.cell? ⟨gb282, 3, none⟩ = some (.int .i64 0) := (blk_cell BK282.out 3).trans rfl; have hcz45_4 : w43.cell? ⟨gb282, 4, none⟩ = some (.int .i64 0) := (blk_cell BK282.out 4).trans rfl; have hcz45_5 : w43.cell? ⟨gb282, 5, none⟩ = some (.int .i64 0) := (blk_cell BK282.out 5).trans rfl; have hfz45_0 := blk_frozen BK282.out 0; have hfz45_1 := blk_frozen BK282.out 1; have hfz45_2 := blk_frozen BK282.out 2; have hfz45_3 := blk_frozen BK282.out 3; have hfz45_4 := blk_frozen BK282.out 4; have hfz45_5 := blk_frozen BK282.out 5; have hcz46_0 : w43.cell? ⟨gb279, 0, none⟩ = some (.int .i64 a0_0) := (blk_cell BK279.out 0).trans rfl; have hcz46_1 : w43.cell? ⟨gb279, 1, none⟩ = some (.slice A0_1 l0_1.length c0_1) := (blk_cell BK279.out 1).trans rfl; have hcz46_2 : w43.cell? ⟨gb279, 2, none⟩ = some (.slice (some ad281) l0_2.length c0_2) := (blk_cell BK279.out 2).trans rfl; have hfz46_0 := blk_frozen BK279.out 0; have hfz46_1 := blk_frozen BK279.out 1; have hfz46_2 := blk_frozen BK279.out 2) | ((with_reducible refine gate_callee (f := 39) rfl ?_); refine goesL_ (some 39) rfl rfl Try.func39 (by kernel_rfl) rfl #[.int .i64 ((rd_T30 l0_2 x3_2).f1), .int .i64 0, .int .i64 (wrap64 ((l0_1.length : Int) - 1))] rfl (by (try simp only [List.map_toArray, List.map_cons, List.map_nil]); first | done | rfl | (simp only [List.length_drop, List.length_take]; rfl)) ?_; (with_reducible refine (railplanref11_in.calls ((rd_T30 l0_2 x3_2).f1) 0 (wrap64 ((l0_1.length : Int) - 1)) true _ A13.out).mono ?_); rintro e w' ⟨rfl, ⟨nd, rfl⟩⟩; refine ⟨_, rfl, ?_⟩) | (go_at_call 39; (with_reducible refine (railplanref11_in.calls ((rd_T30 l0_2 x3_2).f2) 0 (wrap64 ((l0_1.length : Int) - 1)) true _ A15.out).mono ?_); rintro e w' ⟨rfl, ⟨nd, rfl⟩⟩))
                              go_ret
                              exact ⟨by first | rfl | (simp [errW_none, errW_some] <;> rfl) | (simp [*, errW_none, errW_some] <;> rfl), by repeat (first | (with_reducible first | exact HB.out | apply below_alloc | apply pw_below_drewN | apply below_drew1 | refine below_set ?_ GE279.out | refine below_set ?_ GE282.out) | exact HB.out)⟩
                            · rw [if_neg c41] at H
                              have c41b0 : decide (a0_0 ≤ (wrap64 (((rd_T30 l0_2 x3_2).f4) - ((rd_T30 l0_2 x3_2).f3)))) = false := decide_eq_false c41
                              clear c41
                              replace H := Option.bind_eq_some_iff.mp H
                              obtain ⟨t285, A470, H⟩ := H
                              replace H : (if t285 = true then (railplanref11_Check.l0 k2 (wrap64 (x3_2 + 1)) a0_0 l0_1 l0_2) else (some false)) = some r := H
                              have A47 := Aside0.mk A470
                              clear A470
                              by_cases c48 : t285 = true
                              · subst c48
                                have H1 : (railplanref11_Check.l0 k2 (wrap64 (x3_2 + 1)) a0_0 l0_1 l0_2) = some r := by rw [if_pos rfl] at H; exact H
                                clear H
                                have H := H1
                                clear H1
                                have H' := Aside0.mk H
                                clear H
                                have hcz49_0 : wr.cell? ⟨gb279, 0, none⟩ = some (.int .i64 a0_0) := (blk_cell BK279.out 0).trans rfl
                                have hcz49_1 : wr.cell? ⟨gb279, 1, none⟩ = some (.slice A0_1 l0_1.length c0_1) := (blk_cell BK279.out 1).trans rfl
                                have hcz49_2 : wr.cell? ⟨gb279, 2, none⟩ = some (.slice A0_2 l0_2.length c0_2) := (blk_cell BK279.out 2).trans rfl
                                have hfz49_0 := blk_frozen BK279.out 0
                                have hfz49_1 := blk_frozen BK279.out 1
                                have hfz49_2 := blk_frozen BK279.out 2
                                have p281 : 0 ≤ (x3_2 : Int) := of_decide_eq_true (by first | (with_reducible assumption) | assumption)
                                have q281 : x3_2 < (l0_2.length : Int) := of_decide_eq_true (by first | (with_reducible assumption) | assumption)
                                obtain ⟨ad281, e281, hx281_0, hx281_1, hx281_2, hx281_3, hx281_4, hx281_5⟩ := at_T30 HR0_2.out x3_2 p281 q281
                                cases e281
                                replace hx281_0 := (HB.out.cell (World.block_lt_of_cell? w _ hx281_0)).trans hx281_0
                                replace hx281_1 := (HB.out.cell (World.block_lt_of_cell? w _ hx281_1)).trans hx281_1
                                replace hx281_2 := (HB.out.cell (World.block_lt_of_cell? w _ hx281_2)).trans hx281_2
                                replace hx281_3 := (HB.out.cell (World.block_lt_of_cell? w _ hx281_3)).trans hx281_3
                                replace hx281_4 := (HB.out.cell (World.block_lt_of_cell? w _ hx281_4)).trans hx281_4
                                replace hx281_5 := (HB.out.cell (World.block_lt_of_cell? w _ hx281_5)).trans hx281_5
                                replace p281 := eq_true p281
                                replace q281 := eq_true q281
                                go_wp2_with (first | ((with_reducible refine gate_dst (N := 4) rfl ?_); (try (refine gate_guard (by rfl) ?_; dsimp only)); refine box_event ?hg (N := 4) ?hd (cs := #[.int .i64 0, .int .i64 0, .int .i64 0, .int .i64 0, .int .i64 0, .int .i64 0]) (t := 30) ?hr ?_; (case hd => rfl); (case hg => rfl); (case hr => first | (go_simp; done) | (go_simp; rfl)); intro gb282 hg w50 hbox hb; have n0_ := Aside0.mk (blk_below (g := gb279) (o := .cells #[.int .i64 a0_0, .slice A0_1 l0_1.length c0_1, .slice (some ad281) l0_2.length c0_2] 25 (0, 0)) (by (with_reducible repeat (first | refine blk_drewN ?_ _ | refine blk_drew ?_ | refine blk_alloc ?_ _)); exact BK279.out) hb); have n1_ := Aside0.mk (below_step (by repeat (first | (with_reducible first | exact HB.out | apply below_alloc | apply pw_below_drewN | apply below_drew1 | refine below_set ?_ GE279.out) | exact HB.out)) hb); have n2_ := Aside0.mk (hbox); have n3_ := Aside0.mk ((by rw [hg]; exact (below_size (by repeat (first | (with_reducible first | exact HB.out | apply below_alloc | apply pw_below_drewN | apply below_drew1 | refine below_set ?_ GE279.out) | exact HB.out))) : w.heap.size ≤ gb282)); have n4_ := Aside0.mk ((by rw [hg]; exact (below_size (by repeat (first | (with_reducible first | exact HB.out | apply below_alloc | apply pw_below_drewN | apply below_drew1 | refine below_set ?_ GE279.out) | exact HB.out))) : w.heap.size ≤ gb282)); have n5_ := Aside0.mk ((by rw [hg]; exact Nat.ne_of_lt (blk_lt (g := gb279) (o := .cells #[.int .i64 a0_0, .slice A0_1 l0_1.length c0_1, .slice (some ad281) l0_2.length c0_2] 25 (0, 0)) (by (with_reducible repeat (first | refine blk_drewN ?_ _ | refine blk_drew ?_ | refine blk_alloc ?_ _)); exact BK279.out)) : gb279 ≠ gb282)); have n6_ := Aside0.mk ((by rw [hg]; exact Nat.ne_of_gt (blk_lt (g := gb279) (o := .cells #[.int .i64 a0_0, .slice A0_1 l0_1.length c0_1, .slice (some ad281) l0_2.length c0_2] 25 (0, 0)) (by (with_reducible repeat (first | refine blk_drewN ?_ _ | refine blk_drew ?_ | refine blk_alloc ?_ _)); exact BK279.out)) : gb282 ≠ gb279)); clear BK279; clear HB; have BK279 := n0_; have HB := n1_; have BK282 := n2_; have GW282 := n3_; have GE282 := n4_; have NB279_282 := n5_; have NB282_279 := n6_; clear n0_ n1_ n2_ n3_ n4_ n5_ n6_; clear hb hbox hg; have hnb51 := NB282_279.out; have hnc51 := NB279_282.out; have hcz52_0 : w50.cell? ⟨gb282, 0, none⟩ = some (.int .i64 0) := (blk_cell BK282.out 0).trans rfl; have hcz52_1 : w50.cell? ⟨gb282, 1, none⟩ = some (.int .i64 0) := (blk_cell BK282.out 1).trans rfl; have hcz52_2 : w50.cell? ⟨gb282, 2, none⟩ = some (.int .i64 0) := (blk_cell BK282.out 2).trans rfl; have hcz52_3 : w50.cell? ⟨gb282, 3, none⟩ = some (.int .i64 0) := (blk_cell BK282.out 3).trans rfl; have hcz52_4 : w50.cell? ⟨gb282, 4, none⟩ = some (.int .i64 0) := (blk_cell BK282.out 4).trans rfl; have hcz52_5 : w50.cell? ⟨gb282, 5, none⟩ = some (.int .i64 0) := (blk_cell BK282.out 5).trans rfl; have hfz52_0 := blk_frozen BK282.out 0; have hfz52_1 := blk_frozen BK282.out 1; have hfz52_2 := blk_frozen BK282.out 2; have hfz52_3 := blk_frozen BK282.out 3; have hfz52_4 := blk_frozen BK282.out 4; have hfz52_5 := blk_frozen BK282.out 5; have hcz53_0 : w50.cell? ⟨gb279, 0, none⟩ = some (.int .i64 a0_0) := (blk_cell BK279.out 0).trans rfl; have hcz53_1 : w50.cell? ⟨gb279, 1, none⟩ = some (.slice A0_1 l0_1.length c0_1) := (blk_cell BK279.out 1).trans rfl; have hcz53_2 : w50.cell? ⟨gb279, 2, none⟩ = some (.slice (some ad281) l0_2.length c0_2) := (blk_cell BK279.out 2).trans rfl; have hfz53_0 := blk_frozen BK279.out 0; have hfz53_1 := blk_frozen BK279.out 1; have hfz53_2 := blk_frozen BK279.out 2) | ((with_reducible refine gate_callee (f := 39) rfl ?_); refine goesL_ (some 39) rfl rfl Try.func39 (by kernel_rfl) rfl #[.int .i64 ((rd_T30 l0_2 x3_2).f1), .int .i64 0, .int .i64 (wrap64 ((l0_1.length : Int) - 1))] rfl (by (try simp only [List.map_toArray, List.map_cons, List.map_nil]); first | done | rfl | (simp only [List.length_drop, List.length_take]; rfl)) ?_; (with_reducible refine (railplanref11_in.calls ((rd_T30 l0_2 x3_2).f1) 0 (wrap64 ((l0_1.length : Int) - 1)) true _ A13.out).mono ?_); rintro e w' ⟨rfl, ⟨nd, rfl⟩⟩; refine ⟨_, rfl, ?_⟩) | (go_at_call 39; (with_reducible refine (railplanref11_in.calls ((rd_T30 l0_2 x3_2).f2) 0 (wrap64 ((l0_1.length : Int) - 1)) true _ A15.out).mono ?_); rintro e w' ⟨rfl, ⟨nd, rfl⟩⟩) | (go_at_call 39; (with_reducible refine (railplanref11_in.calls ((rd_T30 l0_2 x3_2).f5) 0 1048576 true _ A47.out).mono ?_); rintro e w' ⟨rfl, ⟨nd, rfl⟩⟩))
                                go_roundg k2
                                case measure => have := HJ1.out; have := HK2.out; omega
                                case rel => exact ⟨(wrap64 (x3_2 + 1)), (by first | rfl | (simp; done) | (simp [*]; done)), H', ⟨by have := HJ1.out; have := HK2.out; omega⟩, ⟨by (with_reducible repeat (first | refine blk_drewN ?_ _ | refine blk_drew ?_ | refine blk_alloc ?_ _)); refine blk_far ?_ NB279_282.out _; (with_reducible repeat (first | refine blk_drewN ?_ _ | refine blk_drew ?_ | refine blk_alloc ?_ _)); refine blk_far ?_ NB279_282.out _; (with_reducible repeat (first | refine blk_drewN ?_ _ | refine blk_drew ?_ | refine blk_alloc ?_ _)); refine blk_far ?_ NB279_282.out _; (with_reducible repeat (first | refine blk_drewN ?_ _ | refine blk_drew ?_ | refine blk_alloc ?_ _)); refine blk_far ?_ NB279_282.out _; (with_reducible repeat (first | refine blk_drewN ?_ _ | refine blk_drew ?_ | refine blk_alloc ?_ _)); refine blk_far ?_ NB279_282.out _; (with_reducible repeat (first | refine blk_drewN ?_ _ | refine blk_drew ?_ | refine blk_alloc ?_ _)); refine blk_far ?_ NB279_282.out _; (with_reducible repeat (first | refine blk_drewN ?_ _ | refine blk_drew ?_ | refine blk_alloc ?_ _)); exact BK279.out⟩, ⟨by repeat (first | (with_reducible first | exact HB.out | apply below_alloc | apply pw_below_drewN | apply below_drew1 | refine below_set ?_ GE279.out | refine below_set ?_ GE282.out) | exact HB.out)⟩⟩
                              · replace c48 := Bool.eq_false_iff.mpr c48
                                subst c48
                                have H1 : (some false) = some r := by rw [if_neg (show ¬ (false = true) by decide)] at H; exact H
                                clear H
                                have H := H1
                                clear H1
                                obtain rfl := Option.some.inj H
                                have hcz54_0 : wr.cell? ⟨gb279, 0, none⟩ = some (.int .i64 a0_0) := (blk_cell BK279.out 0).trans rfl
                                have hcz54_1 : wr.cell? ⟨gb279, 1, none⟩ = some (.slice A0_1 l0_1.length c0_1) := (blk_cell BK279.out 1).trans rfl
                                have hcz54_2 : wr.cell? ⟨gb279, 2, none⟩ = some (.slice A0_2 l0_2.length c0_2) := (blk_cell BK279.out 2).trans rfl
                                have hfz54_0 := blk_frozen BK279.out 0
                                have hfz54_1 := blk_frozen BK279.out 1
                                have hfz54_2 := blk_frozen BK279.out 2
                                have p281 : 0 ≤ (x3_2 : Int) := of_decide_eq_true (by first | (with_reducible assumption) | assumption)
                                have q281 : x3_2 < (l0_2.length : Int) := of_decide_eq_true (by first | (with_reducible assumption) | assumption)
                                obtain ⟨ad281, e281, hx281_0, hx281_1, hx281_2, hx281_3, hx281_4, hx281_5⟩ := at_T30 HR0_2.out x3_2 p281 q281
                                cases e281
                                replace hx281_0 := (HB.out.cell (World.block_lt_of_cell? w _ hx281_0)).trans hx281_0
                                replace hx281_1 := (HB.out.cell (World.block_lt_of_cell? w _ hx281_1)).trans hx281_1
                                replace hx281_2 := (HB.out.cell (World.block_lt_of_cell? w _ hx281_2)).trans hx281_2
                                replace hx281_3 := (HB.out.cell (World.block_lt_of_cell? w _ hx281_3)).trans hx281_3
                                replace hx281_4 := (HB.out.cell (World.block_lt_of_cell? w _ hx281_4)).trans hx281_4
                                replace hx281_5 := (HB.out.cell (World.block_lt_of_cell? w _ hx281_5)).trans hx281_5
                                replace p281 := eq_true p281
                                replace q281 := eq_true q281
                                go_wp2_with (first | ((with_reducible refine gate_dst (N := 4) rfl ?_); (try (refine gate_guard (by rfl) ?_; dsimp only)); refine box_event ?hg (N := 4) ?hd (cs := #[.int .i64 0, .int .i64 0, .int .i64 0, .int .i64 0, .int .i64 0, .int .i64 0]) (t := 30) ?hr ?_; (case hd => rfl); (case hg => rfl); (case hr => first | (go_simp; done) | (go_simp; rfl)); intro gb282 hg w55 hbox hb; have n0_ := Aside0.mk (blk_below (g := gb279) (o := .cells #[.int .i64 a0_0, .slice A0_1 l0_1.length c0_1, .slice (some ad281) l0_2.length c0_2] 25 (0, 0)) (by (with_reducible repeat (first | refine blk_drewN ?_ _ | refine blk_drew ?_ | refine blk_alloc ?_ _)); exact BK279.out) hb); have n1_ := Aside0.mk (below_step (by repeat (first | (with_reducible first | exact HB.out | apply below_alloc | apply pw_below_drewN | apply below_drew1 | refine below_set ?_ GE279.out) | exact HB.out)) hb); have n2_ := Aside0.mk (hbox); have n3_ := Aside0.mk ((by rw [hg]; exact (below_size (by repeat (first | (with_reducible first | exact HB.out | apply below_alloc | apply pw_below_drewN | apply below_drew1 | refine below_set ?_ GE279.out) | exact HB.out))) : w.heap.size ≤ gb282)); have n4_ := Aside0.mk ((by rw [hg]; exact (below_size (by repeat (first | (with_reducible first | exact HB.out | apply below_alloc | apply pw_below_drewN | apply below_drew1 | refine below_set ?_ GE279.out) | exact HB.out))) : w.heap.size ≤ gb282)); have n5_ := Aside0.mk ((by rw [hg]; exact Nat.ne_of_lt (blk_lt (g := gb279) (o := .cells #[.int .i64 a0_0, .slice A0_1 l0_1.length c0_1, .slice (some ad281) l0_2.length c0_2] 25 (0, 0)) (by (with_reducible repeat (first | refine blk_drewN ?_ _ | refine blk_drew ?_ | refine blk_alloc ?_ _)); exact BK279.out)) : gb279 ≠ gb282)); have n6_ := Aside0.mk ((by rw [hg]; exact Nat.ne_of_gt (blk_lt (g := gb279) (o := .cells #[.int .i64 a0_0, .slice A0_1 l0_1.length c0_1, .slice (some ad281) l0_2.length c0_2] 25 (0, 0)) (by (with_reducible repeat (first | refine blk_drewN ?_ _ | refine blk_drew ?_ | refine blk_alloc ?_ _)); exact BK279.out)) : gb282 ≠ gb279)); clear BK279; clear HB; have BK279 := n0_; have HB := n1_; have BK282 := n2_; have GW282 := n3_; have GE282 := n4_; have NB279_282 := n5_; have NB282_279 := n6_; clear n0_ n1_ n2_ n3_ n4_ n5_ n6_; clear hb hbox hg; have hnb56 := NB282_279.out; have hnc56 := NB279_282.out; have hcz57_0 : w55.cell? ⟨gb282, 0, none⟩ = some (.int .i64 0) := (blk_cell BK282.out 0).trans rfl; have hcz57_1 : w55.cell? ⟨gb282, 1, none⟩ = some (.int .i64 0) := (blk_cell BK282.out 1).trans rfl; have hcz57_2 : w55.cell? ⟨gb282, 2, none⟩ = some (.int .i64 0) := (blk_cell BK282.out 2).trans rfl; have hcz57_3 : w55.cell? ⟨gb282, 3, none⟩ = some (.int .i64 0) := (blk_cell BK282.out 3).trans rfl; have hcz57_4 : w55.cell? ⟨gb282, 4, none⟩ = some (.int .i64 0) := (blk_cell BK282.out 4).trans rfl; have hcz57_5 : w55.cell? ⟨gb282, 5, none⟩ = some (.int .i64 0) := (blk_cell BK282.out 5).trans rfl; have hfz57_0 := blk_frozen BK282.out 0; have hfz57_1 := blk_frozen BK282.out 1; have hfz57_2 := blk_frozen BK282.out 2; have hfz57_3 := blk_frozen BK282.out 3; have hfz57_4 := blk_frozen BK282.out 4; have hfz57_5 := blk_frozen BK282.out 5; have hcz58_0 : w55.cell? ⟨gb279, 0, none⟩ = some (.int .i64 a0_0) := (blk_cell BK279.out 0).trans rfl; have hcz58_1 : w55.cell? ⟨gb279, 1, none⟩ = some (.slice A0_1 l0_1.length c0_1) := (blk_cell BK279.out 1).trans rfl; have hcz58_2 : w55.cell? ⟨gb279, 2, none⟩ = some (.slice (some ad281) l0_2.length c0_2) := (blk_cell BK279.out 2).trans rfl; have hfz58_0 := blk_frozen BK279.out 0; have hfz58_1 := blk_frozen BK279.out 1; have hfz58_2 := blk_frozen BK279.out 2) | ((with_reducible refine gate_callee (f := 39) rfl ?_); refine goesL_ (some 39) rfl rfl Try.func39 (by kernel_rfl) rfl #[.int .i64 ((rd_T30 l0_2 x3_2).f1), .int .i64 0, .int .i64 (wrap64 ((l0_1.length : Int) - 1))] rfl (by (try simp only [List.map_toArray, List.map_cons, List.map_nil]); first | done | rfl | (simp only [List.length_drop, List.length_take]; rfl)) ?_; (with_reducible refine (railplanref11_in.calls ((rd_T30 l0_2 x3_2).f1) 0 (wrap64 ((l0_1.length : Int) - 1)) true _ A13.out).mono ?_); rintro e w' ⟨rfl, ⟨nd, rfl⟩⟩; refine ⟨_, rfl, ?_⟩) | (go_at_call 39; (with_reducible refine (railplanref11_in.calls ((rd_T30 l0_2 x3_2).f2) 0 (wrap64 ((l0_1.length : Int) - 1)) true _ A15.out).mono ?_); rintro e w' ⟨rfl, ⟨nd, rfl⟩⟩) | (go_at_call 39; (with_reducible refine (railplanref11_in.calls ((rd_T30 l0_2 x3_2).f5) 0 1048576 false _ A47.out).mono ?_); rintro e w' ⟨rfl, ⟨nd, rfl⟩⟩))
                                go_ret
                                exact ⟨by first | rfl | (simp [errW_none, errW_some] <;> rfl) | (simp [*, errW_none, errW_some] <;> rfl), by repeat (first | (with_reducible first | exact HB.out | apply below_alloc | apply pw_below_drewN | apply below_drew1 | refine below_set ?_ GE279.out | refine below_set ?_ GE282.out) | exact HB.out)⟩
                  · replace c16 := Bool.eq_false_iff.mpr c16
                    subst c16
                    have H1 : (some false) = some r := by rw [if_neg (show ¬ (false = true) by decide)] at H; exact H
                    clear H
                    have H := H1
                    clear H1
                    obtain rfl := Option.some.inj H
                    have hcz59_0 : wr.cell? ⟨gb279, 0, none⟩ = some (.int .i64 a0_0) := (blk_cell BK279.out 0).trans rfl
                    have hcz59_1 : wr.cell? ⟨gb279, 1, none⟩ = some (.slice A0_1 l0_1.length c0_1) := (blk_cell BK279.out 1).trans rfl
                    have hcz59_2 : wr.cell? ⟨gb279, 2, none⟩ = some (.slice A0_2 l0_2.length c0_2) := (blk_cell BK279.out 2).trans rfl
                    have hfz59_0 := blk_frozen BK279.out 0
                    have hfz59_1 := blk_frozen BK279.out 1
                    have hfz59_2 := blk_frozen BK279.out 2
                    have p281 : 0 ≤ (x3_2 : Int) := of_decide_eq_true (by first | (with_reducible assumption) | assumption)
                    have q281 : x3_2 < (l0_2.length : Int) := of_decide_eq_true (by first | (with_reducible assumption) | assumption)
                    obtain ⟨ad281, e281, hx281_0, hx281_1, hx281_2, hx281_3, hx281_4, hx281_5⟩ := at_T30 HR0_2.out x3_2 p281 q281
                    cases e281
                    replace hx281_0 := (HB.out.cell (World.block_lt_of_cell? w _ hx281_0)).trans hx281_0
                    replace hx281_1 := (HB.out.cell (World.block_lt_of_cell? w _ hx281_1)).trans hx281_1
                    replace hx281_2 := (HB.out.cell (World.block_lt_of_cell? w _ hx281_2)).trans hx281_2
                    replace hx281_3 := (HB.out.cell (World.block_lt_of_cell? w _ hx281_3)).trans hx281_3
                    replace hx281_4 := (HB.out.cell (World.block_lt_of_cell? w _ hx281_4)).trans hx281_4
                    replace hx281_5 := (HB.out.cell (World.block_lt_of_cell? w _ hx281_5)).trans hx281_5
                    replace p281 := eq_true p281
                    replace q281 := eq_true q281
                    go_wp2_with (first | ((with_reducible refine gate_dst (N := 4) rfl ?_); (try (refine gate_guard (by rfl) ?_; dsimp only)); refine box_event ?hg (N := 4) ?hd (cs := #[.int .i64 0, .int .i64 0, .int .i64 0, .int .i64 0, .int .i64 0, .int .i64 0]) (t := 30) ?hr ?_; (case hd => rfl); (case hg => rfl); (case hr => first | (go_simp; done) | (go_simp; rfl)); intro gb282 hg w60 hbox hb; have n0_ := Aside0.mk (blk_below (g := gb279) (o := .cells #[.int .i64 a0_0, .slice A0_1 l0_1.length c0_1, .slice (some ad281) l0_2.length c0_2] 25 (0, 0)) (by (with_reducible repeat (first | refine blk_drewN ?_ _ | refine blk_drew ?_ | refine blk_alloc ?_ _)); exact BK279.out) hb); have n1_ := Aside0.mk (below_step (by repeat (first | (with_reducible first | exact HB.out | apply below_alloc | apply pw_below_drewN | apply below_drew1 | refine below_set ?_ GE279.out) | exact HB.out)) hb); have n2_ := Aside0.mk (hbox); have n3_ := Aside0.mk ((by rw [hg]; exact (below_size (by repeat (first | (with_reducible first | exact HB.out | apply below_alloc | apply pw_below_drewN | apply below_drew1 | refine below_set ?_ GE279.out) | exact HB.out))) : w.heap.size ≤ gb282)); have n4_ := Aside0.mk ((by rw [hg]; exact (below_size (by repeat (first | (with_reducible first | exact HB.out | apply below_alloc | apply pw_below_drewN | apply below_drew1 | refine below_set ?_ GE279.out) | exact HB.out))) : w.heap.size ≤ gb282)); have n5_ := Aside0.mk ((by rw [hg]; exact Nat.ne_of_lt (blk_lt (g := gb279) (o := .cells #[.int .i64 a0_0, .slice A0_1 l0_1.length c0_1, .slice (some ad281) l0_2.length c0_2] 25 (0, 0)) (by (with_reducible repeat (first | refine blk_drewN ?_ _ | refine blk_drew ?_ | refine blk_alloc ?_ _)); exact BK279.out)) : gb279 ≠ gb282)); have n6_ := Aside0.mk ((by rw [hg]; exact Nat.ne_of_gt (blk_lt (g := gb279) (o := .cells #[.int .i64 a0_0, .slice A0_1 l0_1.length c0_1, .slice (some ad281) l0_2.length c0_2] 25 (0, 0)) (by (with_reducible repeat (first | refine blk_drewN ?_ _ | refine blk_drew ?_ | refine blk_alloc ?_ _)); exact BK279.out)) : gb282 ≠ gb279)); clear BK279; clear HB; have BK279 := n0_; have HB := n1_; have BK282 := n2_; have GW282 := n3_; have GE282 := n4_; have NB279_282 := n5_; have NB282_279 := n6_; clear n0_ n1_ n2_ n3_ n4_ n5_ n6_; clear hb hbox hg; have hnb61 := NB282_279.out; have hnc61 := NB279_282.out; have hcz62_0 : w60.cell? ⟨gb282, 0, none⟩ = some (.int .i64 0) := (blk_cell BK282.out 0).trans rfl; have hcz62_1 : w60.cell? ⟨gb282, 1, none⟩ = some (.int .i64 0) := (blk_cell BK282.out 1).trans rfl; have hcz62_2 : w60.cell? ⟨gb282, 2, none⟩ = some (.int .i64 0) := (blk_cell BK282.out 2).trans rfl; have hcz62_3 : w60.cell? ⟨gb282, 3, none⟩ = some (.int .i64 0) := (blk_cell BK282.out 3).trans rfl; have hcz62_4 : w60.cell? ⟨gb282, 4, none⟩ = some (.int .i64 0) := (blk_cell BK282.out 4).trans rfl; have hcz62_5 : w60.cell? ⟨gb282, 5, none⟩ = some (.int .i64 0) := (blk_cell BK282.out 5).trans rfl; have hfz62_0 := blk_frozen BK282.out 0; have hfz62_1 := blk_frozen BK282.out 1; have hfz62_2 := blk_frozen BK282.out 2; have hfz62_3 := blk_frozen BK282.out 3; have hfz62_4 := blk_frozen BK282.out 4; have hfz62_5 := blk_frozen BK282.out 5; have hcz63_0 : w60.cell? ⟨gb279, 0, none⟩ = some (.int .i64 a0_0) := (blk_cell BK279.out 0).trans rfl; have hcz63_1 : w60.cell? ⟨gb279, 1, none⟩ = some (.slice A0_1 l0_1.length c0_1) := (blk_cell BK279.out 1).trans rfl; have hcz63_2 : w60.cell? ⟨gb279, 2, none⟩ = some (.slice (some ad281) l0_2.length c0_2) := (blk_cell BK279.out 2).trans rfl; have hfz63_0 := blk_frozen BK279.out 0; have hfz63_1 := blk_frozen BK279.out 1; have hfz63_2 := blk_frozen BK279.out 2) | ((with_reducible refine gate_callee (f := 39) rfl ?_); refine goesL_ (some 39) rfl rfl Try.func39 (by kernel_rfl) rfl #[.int .i64 ((rd_T30 l0_2 x3_2).f1), .int .i64 0, .int .i64 (wrap64 ((l0_1.length : Int) - 1))] rfl (by (try simp only [List.map_toArray, List.map_cons, List.map_nil]); first | done | rfl | (simp only [List.length_drop, List.length_take]; rfl)) ?_; (with_reducible refine (railplanref11_in.calls ((rd_T30 l0_2 x3_2).f1) 0 (wrap64 ((l0_1.length : Int) - 1)) true _ A13.out).mono ?_); rintro e w' ⟨rfl, ⟨nd, rfl⟩⟩; refine ⟨_, rfl, ?_⟩) | (go_at_call 39; (with_reducible refine (railplanref11_in.calls ((rd_T30 l0_2 x3_2).f2) 0 (wrap64 ((l0_1.length : Int) - 1)) false _ A15.out).mono ?_); rintro e w' ⟨rfl, ⟨nd, rfl⟩⟩))
                    go_ret
                    exact ⟨by first | rfl | (simp [errW_none, errW_some] <;> rfl) | (simp [*, errW_none, errW_some] <;> rfl), by repeat (first | (with_reducible first | exact HB.out | apply below_alloc | apply pw_below_drewN | apply below_drew1 | refine below_set ?_ GE279.out | refine below_set ?_ GE282.out) | exact HB.out)⟩
                · replace c14 := Bool.eq_false_iff.mpr c14
                  subst c14
                  have H1 : (some false) = some r := by rw [if_neg (show ¬ (false = true) by decide)] at H; exact H
                  clear H
                  have H := H1
                  clear H1
                  obtain rfl := Option.some.inj H
                  have hcz64_0 : wr.cell? ⟨gb279, 0, none⟩ = some (.int .i64 a0_0) := (blk_cell BK279.out 0).trans rfl
                  have hcz64_1 : wr.cell? ⟨gb279, 1, none⟩ = some (.slice A0_1 l0_1.length c0_1) := (blk_cell BK279.out 1).trans rfl
                  have hcz64_2 : wr.cell? ⟨gb279, 2, none⟩ = some (.slice A0_2 l0_2.length c0_2) := (blk_cell BK279.out 2).trans rfl
                  have hfz64_0 := blk_frozen BK279.out 0
                  have hfz64_1 := blk_frozen BK279.out 1
                  have hfz64_2 := blk_frozen BK279.out 2
                  have p281 : 0 ≤ (x3_2 : Int) := of_decide_eq_true (by first | (with_reducible assumption) | assumption)
                  have q281 : x3_2 < (l0_2.length : Int) := of_decide_eq_true (by first | (with_reducible assumption) | assumption)
                  obtain ⟨ad281, e281, hx281_0, hx281_1, hx281_2, hx281_3, hx281_4, hx281_5⟩ := at_T30 HR0_2.out x3_2 p281 q281
                  cases e281
                  replace hx281_0 := (HB.out.cell (World.block_lt_of_cell? w _ hx281_0)).trans hx281_0
                  replace hx281_1 := (HB.out.cell (World.block_lt_of_cell? w _ hx281_1)).trans hx281_1
                  replace hx281_2 := (HB.out.cell (World.block_lt_of_cell? w _ hx281_2)).trans hx281_2
                  replace hx281_3 := (HB.out.cell (World.block_lt_of_cell? w _ hx281_3)).trans hx281_3
                  replace hx281_4 := (HB.out.cell (World.block_lt_of_cell? w _ hx281_4)).trans hx281_4
                  replace hx281_5 := (HB.out.cell (World.block_lt_of_cell? w _ hx281_5)).trans hx281_5
                  replace p281 := eq_true p281
                  replace q281 := eq_true q281
                  go_wp2_with (first | ((with_reducible refine gate_dst (N := 4) rfl ?_); (try (refine gate_guard (by rfl) ?_; dsimp only)); refine box_event ?hg (N := 4) ?hd (cs := #[.int .i64 0, .int .i64 0, .int .i64 0, .int .i64 0, .int .i64 0, .int .i64 0]) (t := 30) ?hr ?_; (case hd => rfl); (case hg => rfl); (case hr => first | (go_simp; done) | (go_simp; rfl)); intro gb282 hg w65 hbox hb; have n0_ := Aside0.mk (blk_below (g := gb279) (o := .cells #[.int .i64 a0_0, .slice A0_1 l0_1.length c0_1, .slice (some ad281) l0_2.length c0_2] 25 (0, 0)) (by (with_reducible repeat (first | refine blk_drewN ?_ _ | refine blk_drew ?_ | refine blk_alloc ?_ _)); exact BK279.out) hb); have n1_ := Aside0.mk (below_step (by repeat (first | (with_reducible first | exact HB.out | apply below_alloc | apply pw_below_drewN | apply below_drew1 | refine below_set ?_ GE279.out) | exact HB.out)) hb); have n2_ := Aside0.mk (hbox); have n3_ := Aside0.mk ((by rw [hg]; exact (below_size (by repeat (first | (with_reducible first | exact HB.out | apply below_alloc | apply pw_below_drewN | apply below_drew1 | refine below_set ?_ GE279.out) | exact HB.out))) : w.heap.size ≤ gb282)); have n4_ := Aside0.mk ((by rw [hg]; exact (below_size (by repeat (first | (with_reducible first | exact HB.out | apply below_alloc | apply pw_below_drewN | apply below_drew1 | refine below_set ?_ GE279.out) | exact HB.out))) : w.heap.size ≤ gb282)); have n5_ := Aside0.mk ((by rw [hg]; exact Nat.ne_of_lt (blk_lt (g := gb279) (o := .cells #[.int .i64 a0_0, .slice A0_1 l0_1.length c0_1, .slice (some ad281) l0_2.length c0_2] 25 (0, 0)) (by (with_reducible repeat (first | refine blk_drewN ?_ _ | refine blk_drew ?_ | refine blk_alloc ?_ _)); exact BK279.out)) : gb279 ≠ gb282)); have n6_ := Aside0.mk ((by rw [hg]; exact Nat.ne_of_gt (blk_lt (g := gb279) (o := .cells #[.int .i64 a0_0, .slice A0_1 l0_1.length c0_1, .slice (some ad281) l0_2.length c0_2] 25 (0, 0)) (by (with_reducible repeat (first | refine blk_drewN ?_ _ | refine blk_drew ?_ | refine blk_alloc ?_ _)); exact BK279.out)) : gb282 ≠ gb279)); clear BK279; clear HB; have BK279 := n0_; have HB := n1_; have BK282 := n2_; have GW282 := n3_; have GE282 := n4_; have NB279_282 := n5_; have NB282_279 := n6_; clear n0_ n1_ n2_ n3_ n4_ n5_ n6_; clear hb hbox hg; have hnb66 := NB282_279.out; have hnc66 := NB279_282.out; have hcz67_0 : w65.cell? ⟨gb282, 0, none⟩ = some (.int .i64 0) := (blk_cell BK282.out 0).trans rfl; have hcz67_1 : w65.cell? ⟨gb282, 1, none⟩ = some (.int .i64 0) := (blk_cell BK282.out 1).trans rfl; have hcz67_2 : w65.cell? ⟨gb282, 2, none⟩ = some (.int .i64 0) := (blk_cell BK282.out 2).trans rfl; have hcz67_3 : w65.cell? ⟨gb282, 3, none⟩ = some (.int .i64 0) := (blk_cell BK282.out 3).trans rfl; have hcz67_4 : w65.cell? ⟨gb282, 4, none⟩ = some (.int .i64 0) := (blk_cell BK282.out 4).trans rfl; have hcz67_5 : w65.cell? ⟨gb282, 5, none⟩ = some (.int .i64 0) := (blk_cell BK282.out 5).trans rfl; have hfz67_0 := blk_frozen BK282.out 0; have hfz67_1 := blk_frozen BK282.out 1; have hfz67_2 := blk_frozen BK282.out 2; have hfz67_3 := blk_frozen BK282.out 3; have hfz67_4 := blk_frozen BK282.out 4; have hfz67_5 := blk_frozen BK282.out 5; have hcz68_0 : w65.cell? ⟨gb279, 0, none⟩ = some (.int .i64 a0_0) := (blk_cell BK279.out 0).trans rfl; have hcz68_1 : w65.cell? ⟨gb279, 1, none⟩ = some (.slice A0_1 l0_1.length c0_1) := (blk_cell BK279.out 1).trans rfl; have hcz68_2 : w65.cell? ⟨gb279, 2, none⟩ = some (.slice (some ad281) l0_2.length c0_2) := (blk_cell BK279.out 2).trans rfl; have hfz68_0 := blk_frozen BK279.out 0; have hfz68_1 := blk_frozen BK279.out 1; have hfz68_2 := blk_frozen BK279.out 2) | ((with_reducible refine gate_callee (f := 39) rfl ?_); refine goesL_ (some 39) rfl rfl Try.func39 (by kernel_rfl) rfl #[.int .i64 ((rd_T30 l0_2 x3_2).f1), .int .i64 0, .int .i64 (wrap64 ((l0_1.length : Int) - 1))] rfl (by (try simp only [List.map_toArray, List.map_cons, List.map_nil]); first | done | rfl | (simp only [List.length_drop, List.length_take]; rfl)) ?_; (with_reducible refine (railplanref11_in.calls ((rd_T30 l0_2 x3_2).f1) 0 (wrap64 ((l0_1.length : Int) - 1)) false _ A13.out).mono ?_); rintro e w' ⟨rfl, ⟨nd, rfl⟩⟩; refine ⟨_, rfl, ?_⟩))
                  go_ret
                  exact ⟨by first | rfl | (simp [errW_none, errW_some] <;> rfl) | (simp [*, errW_none, errW_some] <;> rfl), by repeat (first | (with_reducible first | exact HB.out | apply below_alloc | apply pw_below_drewN | apply below_drew1 | refine below_set ?_ GE279.out | refine below_set ?_ GE282.out) | exact HB.out)⟩
              · rw [if_neg c12] at H
                exact absurd H (by simp)
            · rw [if_neg c11] at H
              have c11b0 : decide (x3_2 < (l0_2.length : Int)) = false := decide_eq_false c11
              clear c11
              obtain rfl := Option.some.inj H
              have hcz69_0 : wr.cell? ⟨gb279, 0, none⟩ = some (.int .i64 a0_0) := (blk_cell BK279.out 0).trans rfl
              have hcz69_1 : wr.cell? ⟨gb279, 1, none⟩ = some (.slice A0_1 l0_1.length c0_1) := (blk_cell BK279.out 1).trans rfl
              have hcz69_2 : wr.cell? ⟨gb279, 2, none⟩ = some (.slice A0_2 l0_2.length c0_2) := (blk_cell BK279.out 2).trans rfl
              have hfz69_0 := blk_frozen BK279.out 0
              have hfz69_1 := blk_frozen BK279.out 1
              have hfz69_2 := blk_frozen BK279.out 2
              go_wp2
              go_ret
              exact ⟨by first | rfl | (simp [errW_none, errW_some] <;> rfl) | (simp [*, errW_none, errW_some] <;> rfl), by repeat (first | (with_reducible first | exact HB.out | apply below_alloc | apply pw_below_drewN | apply below_drew1 | refine below_set ?_ GE279.out) | exact HB.out)⟩

end Go.Proofs.Ytkbcgahpekmlbaa.PPg

namespace Go.Proofs.Ytkbcgahpekmlbaa.PPg
open Go.RowKit Go.Proofs.YtkbcgahpekmlbaaW.PrintWords Go.Proofs.YtkbcgahpekmlbaaW.PrintLast Go.Proofs.YtkbcgahpekmlbaaW.PrintMore
attribute [local go_sem] max2_int min2_int max_two min_two max_three min_three max_four min_four   -- for this text's walks alone
set_option linter.unusedVariables false
set_option linter.unusedSimpArgs false

/-! ### railplanref11_Good: function 47 -/
mutual
def railplanref11_Good.j0 : Nat → List Int → Bool → Int → List (S65) → List (S30) → Option (Bool)
  | 0, _, _, _, _, _ => none
  | k + 1, x1, x16, x287000, x287001, x287002 => if x16 = true then (some false) else (railplanref11_Good.l0 k x1 0 x287000 x287001 x287002)
def railplanref11_Good.l0 : Nat → List Int → Int → Int → List (S65) → List (S30) → Option (Bool)
  | 0, _, _, _, _, _ => none
  | k + 1, x1, x5, x287000, x287001, x287002 => if x5 < (x1.length : Int) then (if 0 ≤ x5 then ((railplanref11_in.f (rd x1 x5) 0 (wrap64 (x287000 - 1))).bind fun t289 => (if t289 = true then (railplanref11_Good.l0 k x1 (wrap64 (x5 + 1)) x287000 x287001 x287002) else (some false))) else (none)) else (some true)
end
def railplanref11_Good.f (k : Nat) (a0_0 : Int) (l0_1 : List (S65)) (l0_2 : List (S30)) (l1 : List Int) : Option (Bool) := (railplanref11_Check.f k a0_0 l0_1 l0_2).bind fun t287 => (if t287 = true then (railplanref11_Good.j0 k l1 ((l1.length : Int) != (l0_1.length : Int)) a0_0 l0_1 l0_2) else (railplanref11_Good.j0 k l1 true a0_0 l0_1 l0_2))
theorem railplanref11_Good.mono_l : ∀ k, (∀ y0 y1 y2 y3 y4, LeO (railplanref11_Good.j0 k y0 y1 y2 y3 y4) (railplanref11_Good.j0 (k + 1) y0 y1 y2 y3 y4)) ∧ (∀ y0 y1 y2 y3 y4, LeO (railplanref11_Good.l0 k y0 y1 y2 y3 y4) (railplanref11_Good.l0 (k + 1) y0 y1 y2 y3 y4))
  | 0 => ⟨fun _ _ _ _ _ r h => by simp [railplanref11_Good.j0] at h, fun _ _ _ _ _ r h => by simp [railplanref11_Good.l0] at h⟩
  | k + 1 => by
    obtain ⟨ih0, ih1⟩ := railplanref11_Good.mono_l k
    refine ⟨?_, ?_⟩
    · intro y0 y1 y2 y3 y4
      unfold railplanref11_Good.j0
      repeat' first
      | (with_reducible exact ih0 _ _ _ _ _)
      | (with_reducible exact ih1 _ _ _ _ _)
      | (with_reducible exact railplanref11_Check.mono _ _ _ _)
      | (with_reducible exact LeO.refl _)
      | (with_reducible exact LeO.none _)
      | (with_reducible refine LeO.ite ?_ ?_)
      | (with_reducible refine LeO.bind ?_ (fun _ => ?_))
      | exact ih0 _ _ _ _ _
      | exact ih1 _ _ _ _ _
      | exact railplanref11_Check.mono _ _ _ _
      | exact LeO.none _
      | refine LeO.ite ?_ ?_
      | refine LeO.bind ?_ (fun _ => ?_)
    · intro y0 y1 y2 y3 y4
      unfold railplanref11_Good.l0
      repeat' first
      | (with_reducible exact ih0 _ _ _ _ _)
      | (with_reducible exact ih1 _ _ _ _ _)
      | (with_reducible exact railplanref11_Check.mono _ _ _ _)
      | (with_reducible exact LeO.refl _)
      | (with_reducible exact LeO.none _)
      | (with_reducible refine LeO.ite ?_ ?_)
      | (with_reducible refine LeO.bind ?_ (fun _ => ?_))
      | exact ih0 _ _ _ _ _
      | exact ih1 _ _ _ _ _
      | exact railplanref11_Check.mono _ _ _ _
      | exact LeO.none _
      | refine LeO.ite ?_ ?_
      | refine LeO.bind ?_ (fun _ => ?_)
theorem railplanref11_Good.mono : ∀ a0 a1 a2 a3 k, LeO (railplanref11_Good.f k a0 a1 a2 a3) (railplanref11_Good.f (k + 1) a0 a1 a2 a3) := by
  intro a0 a1 a2 a3 k
  obtain ⟨ih0, ih1⟩ := railplanref11_Good.mono_l k
  unfold railplanref11_Good.f
  repeat' first
      | (with_reducible exact ih0 _ _ _ _ _)
      | (with_reducible exact ih1 _ _ _ _ _)
      | (with_reducible exact railplanref11_Check.mono _ _ _ _)
      | (with_reducible exact LeO.refl _)
      | (with_reducible exact LeO.none _)
      | (with_reducible refine LeO.ite ?_ ?_)
      | (with_reducible refine LeO.bind ?_ (fun _ => ?_))
      | exact ih0 _ _ _ _ _
      | exact ih1 _ _ _ _ _
      | exact railplanref11_Check.mono _ _ _ _
      | exact LeO.none _
      | refine LeO.ite ?_ ?_
      | refine LeO.bind ?_ (fun _ => ?_)
set_option maxHeartbeats 8000000 in
set_option maxRecDepth 100000 in
theorem railplanref11_Good.calls (k : Nat) (a0_0 : Int) (A0_1 : Option Addr) (c0_1 : Nat) (l0_1 : List (S65)) (A0_2 : Option Addr) (c0_2 : Nat) (l0_2 : List (S30)) (A1 : Option Addr) (c1 : Nat) (l1 : List Int) (r : Bool) (w : World) (hr0_1 : Kd.C k65 w A0_1 l0_1.length l0_1) (hc0_1 : l0_1.length ≤ c0_1) (hr0_2 : Kd.C k30 w A0_2 l0_2.length l0_2) (hc0_2 : l0_2.length ≤ c0_2) (hr1 : Kd.C (Kd.int .i64) w A1 l1.length l1) (hc1 : l1.length ≤ c1) (h : railplanref11_Good.f k a0_0 l0_1 l0_2 l1 = some r) :
    Calls Try.prog 47 #[.agg #[.int .i64 a0_0, .slice A0_1 l0_1.length c0_1, .slice A0_2 l0_2.length c0_2], .slice A1 l1.length c1] w fun e w' => e = .returned (.bool r) ∧ Below w.heap.size w w' := by
  have hu25 := Try.underlying25
  have HR0_1 := Aside0.mk hr0_1
  have HC0_1 := Aside0.mk hc0_1
  clear hr0_1 hc0_1
  have HR0_2 := Aside0.mk hr0_2
  have HC0_2 := Aside0.mk hc0_2
  clear hr0_2 hc0_2
  have HR1 := Aside0.mk hr1
  have HC1 := Aside0.mk hc1
  clear hr1 hc1
  have HB := Aside0.mk (Below.refl w.heap.size w)
  have H : ((railplanref11_Check.f k a0_0 l0_1 l0_2).bind fun t287 => (if t287 = true then (railplanref11_Good.j0 k l1 ((l1.length : Int) != (l0_1.length : Int)) a0_0 l0_1 l0_2) else (railplanref11_Good.j0 k l1 true a0_0 l0_1 l0_2))) = some r := h
  clear h
  have HC3 := Aside0.mk H
  clear H
  go_enter Try.func47, Try.ntmps47
  go_upto_region 1 with (first | ((with_reducible refine gate_dst (N := 2) rfl ?_); (try (refine gate_guard (by rfl) ?_; dsimp only)); refine box_event ?hg (N := 2) ?hd (cs := #[.int .i64 a0_0, .slice A0_1 l0_1.length c0_1, .slice A0_2 l0_2.length c0_2]) (t := 25) ?hr ?_; (case hd => rfl); (case hg => rfl); (case hr => first | (go_simp; done) | (go_simp; rfl)); intro gb286 hg w4 hbox hb; have n0_ := Aside0.mk (below_step (by repeat (first | (with_reducible first | exact HB.out | apply below_alloc | apply pw_below_drewN | apply below_drew1) | exact HB.out)) hb); have n1_ := Aside0.mk (hbox); have n2_ := Aside0.mk ((by rw [hg]; exact (below_size (by repeat (first | (with_reducible first | exact HB.out | apply below_alloc | apply pw_below_drewN | apply below_drew1) | exact HB.out))) : w.heap.size ≤ gb286)); have n3_ := Aside0.mk ((by rw [hg]; exact (below_size (by repeat (first | (with_reducible first | exact HB.out | apply below_alloc | apply pw_below_drewN | apply below_drew1) | exact HB.out))) : w.heap.size ≤ gb286)); clear HB; have HB := n0_; have BK286 := n1_; have GW286 := n2_; have GE286 := n3_; clear n0_ n1_ n2_ n3_; clear hb hbox hg))
  repeat (go_quiet (first | ((with_reducible refine gate_dst (N := 2) rfl ?_); (try (refine gate_guard (by rfl) ?_; dsimp only)); refine box_event ?hg (N := 2) ?hd (cs := #[.int .i64 a0_0, .slice A0_1 l0_1.length c0_1, .slice A0_2 l0_2.length c0_2]) (t := 25) ?hr ?_; (case hd => rfl); (case hg => rfl); (case hr => first | (go_simp; done) | (go_simp; rfl)); intro gb286 hg w4 hbox hb; have n0_ := Aside0.mk (below_step (by repeat (first | (with_reducible first | exact HB.out | apply below_alloc | apply pw_below_drewN | apply below_drew1) | exact HB.out)) hb); have n1_ := Aside0.mk (hbox); have n2_ := Aside0.mk ((by rw [hg]; exact (below_size (by repeat (first | (with_reducible first | exact HB.out | apply below_alloc | apply pw_below_drewN | apply below_drew1) | exact HB.out))) : w.heap.size ≤ gb286)); have n3_ := Aside0.mk ((by rw [hg]; exact (below_size (by repeat (first | (with_reducible first | exact HB.out | apply below_alloc | apply pw_below_drewN | apply below_drew1) | exact HB.out))) : w.heap.size ≤ gb286)); clear HB; have HB := n0_; have BK286 := n1_; have GW286 := n2_; have GE286 := n3_; clear n0_ n1_ n2_ n3_; clear hb hbox hg)); go_upto_region 1 with (first | ((with_reducible refine gate_dst (N := 2) rfl ?_); (try (refine gate_guard (by rfl) ?_; dsimp only)); refine box_event ?hg (N := 2) ?hd (cs := #[.int .i64 a0_0, .slice A0_1 l0_1.length c0_1, .slice A0_2 l0_2.length c0_2]) (t := 25) ?hr ?_; (case hd => rfl); (case hg => rfl); (case hr => first | (go_simp; done) | (go_simp; rfl)); intro gb286 hg w4 hbox hb; have n0_ := Aside0.mk (below_step (by repeat (first | (with_reducible first | exact HB.out | apply below_alloc | apply pw_below_drewN | apply below_drew1) | exact HB.out)) hb); have n1_ := Aside0.mk (hbox); have n2_ := Aside0.mk ((by rw [hg]; exact (below_size (by repeat (first | (with_reducible first | exact HB.out | apply below_alloc | apply pw_below_drewN | apply below_drew1) | exact HB.out))) : w.heap.size ≤ gb286)); have n3_ := Aside0.mk ((by rw [hg]; exact (below_size (by repeat (first | (with_reducible first | exact HB.out | apply below_alloc | apply pw_below_drewN | apply below_drew1) | exact HB.out))) : w.heap.size ≤ gb286)); clear HB; have HB := n0_; have BK286 := n1_; have GW286 := n2_; have GE286 := n3_; clear n0_ n1_ n2_ n3_; clear hb hbox hg)))
  (try simp only [Act.put, List.setIfInBounds_toArray, List.set_cons_zero, List.set_cons_succ])
  go_cut [16] (fun v16 wc => ∃ (kq : Nat) (x16_2 : Bool), v16 = .bool x16_2 ∧ Aside0 (railplanref11_Good.j0 kq l1 x16_2 a0_0 l0_1 l0_2 = some r) ∧ Aside0 (kq ≤ k) ∧ Aside0 (wc.heap[gb286]? = some (.cells #[.int .i64 a0_0, (.slice A0_1 l0_1.length c0_1), (.slice A0_2 l0_2.length c0_2)] 25 (0, 0))) ∧ Aside0 (Below w.heap.size w wc))
  case first =>
    have H := HC3.out
    clear HC3
    replace H := Option.bind_eq_some_iff.mp H
    obtain ⟨t287, A50, H⟩ := H
    replace H : (if t287 = true then (railplanref11_Good.j0 k l1 ((l1.length : Int) != (l0_1.length : Int)) a0_0 l0_1 l0_2) else (railplanref11_Good.j0 k l1 true a0_0 l0_1 l0_2)) = some r := H
    have A5 := Aside0.mk A50
    clear A50
    by_cases c6 : t287 = true
    · subst c6
      have H1 : (railplanref11_Good.j0 k l1 ((l1.length : Int) != (l0_1.length : Int)) a0_0 l0_1 l0_2) = some r := by rw [if_pos rfl] at H; exact H
      clear H
      have H := H1
      clear H1
      have H' := Aside0.mk H
      clear H
      have hcz7_0 : w4.cell? ⟨gb286, 0, none⟩ = some (.int .i64 a0_0) := (blk_cell BK286.out 0).trans rfl
      have hcz7_1 : w4.cell? ⟨gb286, 1, none⟩ = some (.slice A0_1 l0_1.length c0_1) := (blk_cell BK286.out 1).trans rfl
      have hcz7_2 : w4.cell? ⟨gb286, 2, none⟩ = some (.slice A0_2 l0_2.length c0_2) := (blk_cell BK286.out 2).trans rfl
      have hfz7_0 := blk_frozen BK286.out 0
      have hfz7_1 := blk_frozen BK286.out 1
      have hfz7_2 := blk_frozen BK286.out 2
      go_wp2_with (first | (go_at_call 15; (with_reducible refine (railplanref11_Check.calls k a0_0 _ _ l0_1 _ _ l0_2 true _ ?side1 ?side2 ?side3 ?side4 A5.out).mono ?_); (case side1 => repeat (first | exact (Kd.C_below HR0_1.out HB.out) | (with_reducible refine Kd.C_alloc ?_ _) | (with_reducible refine Kd.C_drewN ?_ _) | (with_reducible refine Kd.C_drew ?_))); (case side2 => exact HC0_1.out); (case side3 => repeat (first | exact (Kd.C_below HR0_2.out HB.out) | (with_reducible refine Kd.C_alloc ?_ _) | (with_reducible refine Kd.C_drewN ?_ _) | (with_reducible refine Kd.C_drew ?_))); (case side4 => exact HC0_2.out); rintro e w8 ⟨rfl, hb⟩; have n0_ := Aside0.mk (blk_below (g := gb286) (o := .cells #[.int .i64 a0_0, .slice A0_1 l0_1.length c0_1, .slice A0_2 l0_2.length c0_2] 25 (0, 0)) (by (with_reducible repeat (first | refine blk_drewN ?_ _ | refine blk_drew ?_ | refine blk_alloc ?_ _)); exact BK286.out) hb); have n1_ := Aside0.mk (below_step (by repeat (first | (with_reducible first | exact HB.out | apply below_alloc | apply pw_below_drewN | apply below_drew1 | refine below_set ?_ GE286.out) | exact HB.out)) hb); clear BK286; clear HB; have BK286 := n0_; have HB := n1_; clear n0_ n1_; (try clear hb); (try clear hb2); (try clear hk); (try clear hi); have hcz9_0 : w8.cell? ⟨gb286, 0, none⟩ = some (.int .i64 a0_0) := (blk_cell BK286.out 0).trans rfl; have hcz9_1 : w8.cell? ⟨gb286, 1, none⟩ = some (.slice A0_1 l0_1.length c0_1) := (blk_cell BK286.out 1).trans rfl; have hcz9_2 : w8.cell? ⟨gb286, 2, none⟩ = some (.slice A0_2 l0_2.length c0_2) := (blk_cell BK286.out 2).trans rfl; have hfz9_0 := blk_frozen BK286.out 0; have hfz9_1 := blk_frozen BK286.out 1; have hfz9_2 := blk_frozen BK286.out 2))
      repeat (go_quiet (first | (go_at_call 15; (with_reducible refine (railplanref11_Check.calls k a0_0 _ _ l0_1 _ _ l0_2 true _ ?side1 ?side2 ?side3 ?side4 A5.out).mono ?_); (case side1 => repeat (first | exact (Kd.C_below HR0_1.out HB.out) | (with_reducible refine Kd.C_alloc ?_ _) | (with_reducible refine Kd.C_drewN ?_ _) | (with_reducible refine Kd.C_drew ?_))); (case side2 => exact HC0_1.out); (case side3 => repeat (first | exact (Kd.C_below HR0_2.out HB.out) | (with_reducible refine Kd.C_alloc ?_ _) | (with_reducible refine Kd.C_drewN ?_ _) | (with_reducible refine Kd.C_drew ?_))); (case side4 => exact HC0_2.out); rintro e w8 ⟨rfl, hb⟩; have n0_ := Aside0.mk (blk_below (g := gb286) (o := .cells #[.int .i64 a0_0, .slice A0_1 l0_1.length c0_1, .slice A0_2 l0_2.length c0_2] 25 (0, 0)) (by (with_reducible repeat (first | refine blk_drewN ?_ _ | refine blk_drew ?_ | refine blk_alloc ?_ _)); exact BK286.out) hb); have n1_ := Aside0.mk (below_step (by repeat (first | (with_reducible first | exact HB.out | apply below_alloc | apply pw_below_drewN | apply below_drew1 | refine below_set ?_ GE286.out) | exact HB.out)) hb); clear BK286; clear HB; have BK286 := n0_; have HB := n1_; clear n0_ n1_; (try clear hb); (try clear hb2); (try clear hk); (try clear hi); have hcz9_0 : w8.cell? ⟨gb286, 0, none⟩ = some (.int .i64 a0_0) := (blk_cell BK286.out 0).trans rfl; have hcz9_1 : w8.cell? ⟨gb286, 1, none⟩ = some (.slice A0_1 l0_1.length c0_1) := (blk_cell BK286.out 1).trans rfl; have hcz9_2 : w8.cell? ⟨gb286, 2, none⟩ = some (.slice A0_2 l0_2.length c0_2) := (blk_cell BK286.out 2).trans rfl; have hfz9_0 := blk_frozen BK286.out 0; have hfz9_1 := blk_frozen BK286.out 1; have hfz9_2 := blk_frozen BK286.out 2)); try go_wp2_with (first | (go_at_call 15; (with_reducible refine (railplanref11_Check.calls k a0_0 _ _ l0_1 _ _ l0_2 true _ ?side1 ?side2 ?side3 ?side4 A5.out).mono ?_); (case side1 => repeat (first | exact (Kd.C_below HR0_1.out HB.out) | (with_reducible refine Kd.C_alloc ?_ _) | (with_reducible refine Kd.C_drewN ?_ _) | (with_reducible refine Kd.C_drew ?_))); (case side2 => exact HC0_1.out); (case side3 => repeat (first | exact (Kd.C_below HR0_2.out HB.out) | (with_reducible refine Kd.C_alloc ?_ _) | (with_reducible refine Kd.C_drewN ?_ _) | (with_reducible refine Kd.C_drew ?_))); (case side4 => exact HC0_2.out); rintro e w8 ⟨rfl, hb⟩; have n0_ := Aside0.mk (blk_below (g := gb286) (o := .cells #[.int .i64 a0_0, .slice A0_1 l0_1.length c0_1, .slice A0_2 l0_2.length c0_2] 25 (0, 0)) (by (with_reducible repeat (first | refine blk_drewN ?_ _ | refine blk_drew ?_ | refine blk_alloc ?_ _)); exact BK286.out) hb); have n1_ := Aside0.mk (below_step (by repeat (first | (with_reducible first | exact HB.out | apply below_alloc | apply pw_below_drewN | apply below_drew1 | refine below_set ?_ GE286.out) | exact HB.out)) hb); clear BK286; clear HB; have BK286 := n0_; have HB := n1_; clear n0_ n1_; (try clear hb); (try clear hb2); (try clear hk); (try clear hi); have hcz9_0 : w8.cell? ⟨gb286, 0, none⟩ = some (.int .i64 a0_0) := (blk_cell BK286.out 0).trans rfl; have hcz9_1 : w8.cell? ⟨gb286, 1, none⟩ = some (.slice A0_1 l0_1.length c0_1) := (blk_cell BK286.out 1).trans rfl; have hcz9_2 : w8.cell? ⟨gb286, 2, none⟩ = some (.slice A0_2 l0_2.length c0_2) := (blk_cell BK286.out 2).trans rfl; have hfz9_0 := blk_frozen BK286.out 0; have hfz9_1 := blk_frozen BK286.out 1; have hfz9_2 := blk_frozen BK286.out 2)))
      go_meet
      case rel => exact ⟨_, (((l1.length : Int) != (l0_1.length : Int))), (by first | rfl | (simp; done) | (simp [*]; done)), H', ⟨by first | omega | exact Nat.le_refl _⟩, ⟨by (with_reducible repeat (first | refine blk_drewN ?_ _ | refine blk_drew ?_ | refine blk_alloc ?_ _)); exact BK286.out⟩, ⟨by repeat (first | (with_reducible first | exact HB.out | apply below_alloc | apply pw_below_drewN | apply below_drew1 | refine below_set ?_ GE286.out) | exact HB.out)⟩⟩
    · replace c6 := Bool.eq_false_iff.mpr c6
      subst c6
      have H1 : (railplanref11_Good.j0 k l1 true a0_0 l0_1 l0_2) = some r := by rw [if_neg (show ¬ (false = true) by decide)] at H; exact H
      clear H
      have H := H1
      clear H1
      have H' := Aside0.mk H
      clear H
      have hcz10_0 : w4.cell? ⟨gb286, 0, none⟩ = some (.int .i64 a0_0) := (blk_cell BK286.out 0).trans rfl
      have hcz10_1 : w4.cell? ⟨gb286, 1, none⟩ = some (.slice A0_1 l0_1.length c0_1) := (blk_cell BK286.out 1).trans rfl
      have hcz10_2 : w4.cell? ⟨gb286, 2, none⟩ = some (.slice A0_2 l0_2.length c0_2) := (blk_cell BK286.out 2).trans rfl
      have hfz10_0 := blk_frozen BK286.out 0
      have hfz10_1 := blk_frozen BK286.out 1
      have hfz10_2 := blk_frozen BK286.out 2
      go_wp2_with (first | (go_at_call 15; (with_reducible refine (railplanref11_Check.calls k a0_0 _ _ l0_1 _ _ l0_2 false _ ?side1 ?side2 ?side3 ?side4 A5.out).mono ?_); (case side1 => repeat (first | exact (Kd.C_below HR0_1.out HB.out) | (with_reducible refine Kd.C_alloc ?_ _) | (with_reducible refine Kd.C_drewN ?_ _) | (with_reducible refine Kd.C_drew ?_))); (case side2 => exact HC0_1.out); (case side3 => repeat (first | exact (Kd.C_below HR0_2.out HB.out) | (with_reducible refine Kd.C_alloc ?_ _) | (with_reducible refine Kd.C_drewN ?_ _) | (with_reducible refine Kd.C_drew ?_))); (case side4 => exact HC0_2.out); rintro e w11 ⟨rfl, hb⟩; have n0_ := Aside0.mk (blk_below (g := gb286) (o := .cells #[.int .i64 a0_0, .slice A0_1 l0_1.length c0_1, .slice A0_2 l0_2.length c0_2] 25 (0, 0)) (by (with_reducible repeat (first | refine blk_drewN ?_ _ | refine blk_drew ?_ | refine blk_alloc ?_ _)); exact BK286.out) hb); have n1_ := Aside0.mk (below_step (by repeat (first | (with_reducible first | exact HB.out | apply below_alloc | apply pw_below_drewN | apply below_drew1 | refine below_set ?_ GE286.out) | exact HB.out)) hb); clear BK286; clear HB; have BK286 := n0_; have HB := n1_; clear n0_ n1_; (try clear hb); (try clear hb2); (try clear hk); (try clear hi)))
      repeat (go_quiet (first | (go_at_call 15; (with_reducible refine (railplanref11_Check.calls k a0_0 _ _ l0_1 _ _ l0_2 false _ ?side1 ?side2 ?side3 ?side4 A5.out).mono ?_); (case side1 => repeat (first | exact (Kd.C_below HR0_1.out HB.out) | (with_reducible refine Kd.C_alloc ?_ _) | (with_reducible refine Kd.C_drewN ?_ _) | (with_reducible refine Kd.C_drew ?_))); (case side2 => exact HC0_1.out); (case side3 => repeat (first | exact (Kd.C_below HR0_2.out HB.out) | (with_reducible refine Kd.C_alloc ?_ _) | (with_reducible refine Kd.C_drewN ?_ _) | (with_reducible refine Kd.C_drew ?_))); (case side4 => exact HC0_2.out); rintro e w11 ⟨rfl, hb⟩; have n0_ := Aside0.mk (blk_below (g := gb286) (o := .cells #[.int .i64 a0_0, .slice A0_1 l0_1.length c0_1, .slice A0_2 l0_2.length c0_2] 25 (0, 0)) (by (with_reducible repeat (first | refine blk_drewN ?_ _ | refine blk_drew ?_ | refine blk_alloc ?_ _)); exact BK286.out) hb); have n1_ := Aside0.mk (below_step (by repeat (first | (with_reducible first | exact HB.out | apply below_alloc | apply pw_below_drewN | apply below_drew1 | refine below_set ?_ GE286.out) | exact HB.out)) hb); clear BK286; clear HB; have BK286 := n0_; have HB := n1_; clear n0_ n1_; (try clear hb); (try clear hb2); (try clear hk); (try clear hi))); try go_wp2_with (first | (go_at_call 15; (with_reducible refine (railplanref11_Check.calls k a0_0 _ _ l0_1 _ _ l0_2 false _ ?side1 ?side2 ?side3 ?side4 A5.out).mono ?_); (case side1 => repeat (first | exact (Kd.C_below HR0_1.out HB.out) | (with_reducible refine Kd.C_alloc ?_ _) | (with_reducible refine Kd.C_drewN ?_ _) | (with_reducible refine Kd.C_drew ?_))); (case side2 => exact HC0_1.out); (case side3 => repeat (first | exact (Kd.C_below HR0_2.out HB.out) | (with_reducible refine Kd.C_alloc ?_ _) | (with_reducible refine Kd.C_drewN ?_ _) | (with_reducible refine Kd.C_drew ?_))); (case side4 => exact HC0_2.out); rintro e w11 ⟨rfl, hb⟩; have n0_ := Aside0.mk (blk_below (g := gb286) (o := .cells #[.int .i64 a0_0, .slice A0_1 l0_1.length c0_1, .slice A0_2 l0_2.length c0_2] 25 (0, 0)) (by (with_reducible repeat (first | refine blk_drewN ?_ _ | refine blk_drew ?_ | refine blk_alloc ?_ _)); exact BK286.out) hb); have n1_ := Aside0.mk (below_step (by repeat (first | (with_reducible first | exact HB.out | apply below_alloc | apply pw_below_drewN | apply below_drew1 | refine below_set ?_ GE286.out) | exact HB.out)) hb); clear BK286; clear HB; have BK286 := n0_; have HB := n1_; clear n0_ n1_; (try clear hb); (try clear hb2); (try clear hk); (try clear hi))))
      go_meet
      case rel => exact ⟨_, (true), (by first | rfl | (simp; done) | (simp [*]; done)), H', ⟨by first | omega | exact Nat.le_refl _⟩, ⟨by (with_reducible repeat (first | refine blk_drewN ?_ _ | refine blk_drew ?_ | refine blk_alloc ?_ _)); exact BK286.out⟩, ⟨by repeat (first | (with_reducible first | exact HB.out | apply below_alloc | apply pw_below_drewN | apply below_drew1 | refine below_set ?_ GE286.out) | exact HB.out)⟩⟩
  case rest =>
    clear HC3
    try clear c1
    try clear p2
    try clear c4
    try clear c6
    try clear hcz10_0
    try clear hcz10_1
    try clear hcz10_2
    try clear hcz7_0
    try clear hcz7_1
    try clear hcz7_2
    try clear hcz9_0
    try clear hcz9_1
    try clear hcz9_2
    try clear hfz10_0
    try clear hfz10_1
    try clear hfz10_2
    try clear hfz7_0
    try clear hfz7_1
    try clear hfz7_2
    try clear hfz9_0
    try clear hfz9_1
    try clear hfz9_2
    obtain ⟨kq, x16_2, rfl, HA, HJ2, BK286, HB⟩ := hcut
    cases kq with
    | zero => exact absurd HA.out (by simp [railplanref11_Good.j0])
    | succ kj2 =>
      have H := HA.out
      clear HA
      simp only [railplanref11_Good.j0] at H
      by_cases c12 : x16_2 = true
      · subst c12
        have H1 : (some false) = some r := by rw [if_pos rfl] at H; exact H
        clear H
        have H := H1
        clear H1
        obtain rfl := Option.some.inj H
        go_wp2
        repeat (go_quiet (fail); try go_wp2)
        go_ret
        exact ⟨by first | rfl | (simp [errW_none, errW_some] <;> rfl) | (simp [*, errW_none, errW_some] <;> rfl), by repeat (first | (with_reducible first | exact HB.out | apply below_alloc | apply pw_below_drewN | apply below_drew1 | refine below_set ?_ GE286.out) | exact HB.out)⟩
      · replace c12 := Bool.eq_false_iff.mpr c12
        subst c12
        have H1 : (railplanref11_Good.l0 kj2 l1 0 a0_0 l0_1 l0_2) = some r := by rw [if_neg (show ¬ (false = true) by decide)] at H; exact H
        clear H
        have H := H1
        clear H1
        have H' := Aside0.mk H
        clear H
        go_wp2
        repeat (go_quiet (fail); try go_wp2)
        go_loopg [5] kj2 (fun kq v5 w' => ∃ (x5_2 : Int), v5 = .int .i64 x5_2 ∧ Aside0 (railplanref11_Good.l0 kq l1 x5_2 a0_0 l0_1 l0_2 = some r) ∧ Aside0 (kq ≤ kj2) ∧ Aside0 (w'.heap[gb286]? = some (.cells #[.int .i64 a0_0, (.slice A0_1 l0_1.length c0_1), (.slice A0_2 l0_2.length c0_2)] 25 (0, 0))) ∧ Aside0 (Below w.heap.size w w'))
        case atStart => exact ⟨(0), (by first | rfl | (simp; done) | (simp [*]; done)), H', ⟨Nat.le_refl _⟩, ⟨by (with_reducible repeat (first | refine blk_drewN ?_ _ | refine blk_drew ?_ | refine blk_alloc ?_ _)); exact BK286.out⟩, ⟨by repeat (first | (with_reducible first | exact HB.out | apply below_alloc | apply pw_below_drewN | apply below_drew1 | refine below_set ?_ GE286.out) | exact HB.out)⟩⟩
        case round =>
          clear H'
          try clear c1
          try clear p2
          try clear c4
          try clear c6
          try clear c12
          try clear hcz10_0
          try clear hcz10_1
          try clear hcz10_2
          try clear hcz7_0
          try clear hcz7_1
          try clear hcz7_2
          try clear hcz9_0
          try clear hcz9_1
          try clear hcz9_2
          try clear hfz10_0
          try clear hfz10_1
          try clear hfz10_2
          try clear hfz7_0
          try clear hfz7_1
          try clear hfz7_2
          try clear hfz9_0
          try clear hfz9_1
          try clear hfz9_2
          try clear p2
          obtain ⟨x5_2, rfl, HA, HK2, BK286, HB⟩ := hrel
          cases gk with
          | zero => exact absurd HA.out (by simp [railplanref11_Good.l0])
          | succ k2 =>
            have H := HA.out
            clear HA
            simp only [railplanref11_Good.l0] at H
            by_cases c13 : x5_2 < (l1.length : Int)
            · rw [if_pos c13] at H
              have c13b0 : decide (x5_2 < (l1.length : Int)) = true := decide_eq_true c13
              clear c13
              by_cases c14 : 0 ≤ x5_2
              · rw [if_pos c14] at H
                have c14b0 : decide (0 ≤ x5_2) = true := decide_eq_true c14
                clear c14
                replace H := Option.bind_eq_some_iff.mp H
                obtain ⟨t289, A150, H⟩ := H
                replace H : (if t289 = true then (railplanref11_Good.l0 k2 l1 (wrap64 (x5_2 + 1)) a0_0 l0_1 l0_2) else (some false)) = some r := H
                have A15 := Aside0.mk A150
                clear A150
                by_cases c16 : t289 = true
                · subst c16
                  have H1 : (railplanref11_Good.l0 k2 l1 (wrap64 (x5_2 + 1)) a0_0 l0_1 l0_2) = some r := by rw [if_pos rfl] at H; exact H
                  clear H
                  have H := H1
                  clear H1
                  have H' := Aside0.mk H
                  clear H
                  have p288 : 0 ≤ (x5_2 : Int) := of_decide_eq_true (by first | (with_reducible assumption) | assumption)
                  have q288 : x5_2 < (l1.length : Int) := of_decide_eq_true (by first | (with_reducible assumption) | assumption)
                  obtain ⟨ad288, e288, hx288_0⟩ := Kd.at_int HR1.out x5_2 p288 q288
                  cases e288
                  replace hx288_0 := (HB.out.cell (World.block_lt_of_cell? w _ hx288_0)).trans hx288_0
                  replace p288 := eq_true p288
                  replace q288 := eq_true q288
                  have hcz17_0 : wr.cell? ⟨gb286, 0, none⟩ = some (.int .i64 a0_0) := (blk_cell BK286.out 0).trans rfl
                  have hcz17_1 : wr.cell? ⟨gb286, 1, none⟩ = some (.slice A0_1 l0_1.length c0_1) := (blk_cell BK286.out 1).trans rfl
                  have hcz17_2 : wr.cell? ⟨gb286, 2, none⟩ = some (.slice A0_2 l0_2.length c0_2) := (blk_cell BK286.out 2).trans rfl
                  have hfz17_0 := blk_frozen BK286.out 0
                  have hfz17_1 := blk_frozen BK286.out 1
                  have hfz17_2 := blk_frozen BK286.out 2
                  go_wp2_with (first | (go_at_call 39; (with_reducible refine (railplanref11_in.calls (rd l1 x5_2) 0 (wrap64 (a0_0 - 1)) true _ A15.out).mono ?_); rintro e w' ⟨rfl, ⟨nd, rfl⟩⟩; (try first | exact ⟨rfl, _, World.drewN_drewN _ _ _⟩ | exact ⟨rfl, _, Eq.trans (World.drewN_drewN _ _ _) (congrArg (World.drewN _) (Nat.add_assoc _ _ _))⟩)))
                  repeat (go_quiet (first | (go_at_call 39; (with_reducible refine (railplanref11_in.calls (rd l1 x5_2) 0 (wrap64 (a0_0 - 1)) true _ A15.out).mono ?_); rintro e w' ⟨rfl, ⟨nd, rfl⟩⟩; (try first | exact ⟨rfl, _, World.drewN_drewN _ _ _⟩ | exact ⟨rfl, _, Eq.trans (World.drewN_drewN _ _ _) (congrArg (World.drewN _) (Nat.add_assoc _ _ _))⟩))); try go_wp2_with (first | (go_at_call 39; (with_reducible refine (railplanref11_in.calls (rd l1 x5_2) 0 (wrap64 (a0_0 - 1)) true _ A15.out).mono ?_); rintro e w' ⟨rfl, ⟨nd, rfl⟩⟩; (try first | exact ⟨rfl, _, World.drewN_drewN _ _ _⟩ | exact ⟨rfl, _, Eq.trans (World.drewN_drewN _ _ _) (congrArg (World.drewN _) (Nat.add_assoc _ _ _))⟩))))
                  go_roundg k2
                  case measure => have := HJ2.out; have := HK2.out; omega
                  case rel => exact ⟨(wrap64 (x5_2 + 1)), (by first | rfl | (simp; done) | (simp [*]; done)), H', ⟨by have := HJ2.out; have := HK2.out; omega⟩, ⟨by (with_reducible repeat (first | refine blk_drewN ?_ _ | refine blk_drew ?_ | refine blk_alloc ?_ _)); exact BK286.out⟩, ⟨by repeat (first | (with_reducible first | exact HB.out | apply below_alloc | apply pw_below_drewN | apply below_drew1 | refine below_set ?_ GE286.out) | exact HB.out)⟩⟩
                · replace c16 := Bool.eq_false_iff.mpr c16
                  subst c16
                  have H1 : (some false) = some r := by rw [if_neg (show ¬ (false = true) by decide)] at H; exact H
                  clear H
                  have H := H1
                  clear H1
                  obtain rfl := Option.some.inj H
                  have p288 : 0 ≤ (x5_2 : Int) := of_decide_eq_true (by first | (with_reducible assumption) | assumption)
                  have q288 : x5_2 < (l1.length : Int) := of_decide_eq_true (by first | (with_reducible assumption) | assumption)
                  obtain ⟨ad288, e288, hx288_0⟩ := Kd.at_int HR1.out x5_2 p288 q288
                  cases e288
                  replace hx288_0 := (HB.out.cell (World.block_lt_of_cell? w _ hx288_0)).trans hx288_0
                  replace p288 := eq_true p288
                  replace q288 := eq_true q288
                  have hcz18_0 : wr.cell? ⟨gb286, 0, none⟩ = some (.int .i64 a0_0) := (blk_cell BK286.out 0).trans rfl
                  have hcz18_1 : wr.cell? ⟨gb286, 1, none⟩ = some (.slice A0_1 l0_1.length c0_1) := (blk_cell BK286.out 1).trans rfl
                  have hcz18_2 : wr.cell? ⟨gb286, 2, none⟩ = some (.slice A0_2 l0_2.length c0_2) := (blk_cell BK286.out 2).trans rfl
                  have hfz18_0 := blk_frozen BK286.out 0
                  have hfz18_1 := blk_frozen BK286.out 1
                  have hfz18_2 := blk_frozen BK286.out 2
                  go_wp2_with (first | (go_at_call 39; (with_reducible refine (railplanref11_in.calls (rd l1 x5_2) 0 (wrap64 (a0_0 - 1)) false _ A15.out).mono ?_); rintro e w' ⟨rfl, ⟨nd, rfl⟩⟩; (try first | exact ⟨rfl, _, World.drewN_drewN _ _ _⟩ | exact ⟨rfl, _, Eq.trans (World.drewN_drewN _ _ _) (congrArg (World.drewN _) (Nat.add_assoc _ _ _))⟩)))
                  repeat (go_quiet (first | (go_at_call 39; (with_reducible refine (railplanref11_in.calls (rd l1 x5_2) 0 (wrap64 (a0_0 - 1)) false _ A15.out).mono ?_); rintro e w' ⟨rfl, ⟨nd, rfl⟩⟩; (try first | exact ⟨rfl, _, World.drewN_drewN _ _ _⟩ | exact ⟨rfl, _, Eq.trans (World.drewN_drewN _ _ _) (congrArg (World.drewN _) (Nat.add_assoc _ _ _))⟩))); try go_wp2_with (first | (go_at_call 39; (with_reducible refine (railplanref11_in.calls (rd l1 x5_2) 0 (wrap64 (a0_0 - 1)) false _ A15.out).mono ?_); rintro e w' ⟨rfl, ⟨nd, rfl⟩⟩; (try first | exact ⟨rfl, _, World.drewN_drewN _ _ _⟩ | exact ⟨rfl, _, Eq.trans (World.drewN_drewN _ _ _) (congrArg (World.drewN _) (Nat.add_assoc _ _ _))⟩))))
                  go_ret
                  exact ⟨by first | rfl | (simp [errW_none, errW_some] <;> rfl) | (simp [*, errW_none, errW_some] <;> rfl), by repeat (first | (with_reducible first | exact HB.out | apply below_alloc | apply pw_below_drewN | apply below_drew1 | refine below_set ?_ GE286.out) | exact HB.out)⟩
              · rw [if_neg c14] at H
                exact absurd H (by simp)
            · rw [if_neg c13] at H
              have c13b0 : decide (x5_2 < (l1.length : Int)) = false := decide_eq_false c13
              clear c13
              obtain rfl := Option.some.inj H
              go_wp2
              repeat (go_quiet (fail); try go_wp2)
              go_ret
              exact ⟨by first | rfl | (simp [errW_none, errW_some] <;> rfl) | (simp [*, errW_none, errW_some] <;> rfl), by repeat (first | (with_reducible first | exact HB.out | apply below_alloc | apply pw_below_drewN | apply below_drew1 | refine below_set ?_ GE286.out) | exact HB.out)⟩

end Go.Proofs.Ytkbcgahpekmlbaa.PPg

namespace Go.Proofs.Ytkbcgahpekmlbaa.PPg
open Go.RowKit Go.Proofs.YtkbcgahpekmlbaaW.PrintWords Go.Proofs.YtkbcgahpekmlbaaW.PrintLast Go.Proofs.YtkbcgahpekmlbaaW.PrintMore
attribute [local go_sem] max2_int min2_int max_two min_two max_three min_three max_four min_four   -- for this text's walks alone
set_option linter.unusedVariables false
set_option linter.unusedSimpArgs false

/-! ### railplanref11_Lasts: function 67 -/
def railplanref11_Lasts.f (a0_0 : Int) (l0_1 : List (S65)) (l0_2 : List (S30)) (l1 : List Int) (a2_0 : Int) (a2_1 : Int) (a2_2 : Int) (a2_3 : Int) (a2_4 : Int) (a2_5 : Int) : Option (Int) := if 0 ≤ a2_2 then (if a2_2 < (l1.length : Int) then (if 0 ≤ a2_1 then (if a2_1 < (l1.length : Int) then ((railplanref1_Mod.f (wrap64 ((wrap64 ((rd l1 a2_2) - (rd l1 a2_1))) - a2_3)) a0_0).bind fun t294 => (some (wrap64 (a2_3 + t294)))) else (none)) else (none)) else (none)) else (none)
set_option maxHeartbeats 8000000 in
set_option maxRecDepth 100000 in
theorem railplanref11_Lasts.calls (a0_0 : Int) (A0_1 : Option Addr) (c0_1 : Nat) (l0_1 : List (S65)) (A0_2 : Option Addr) (c0_2 : Nat) (l0_2 : List (S30)) (A1 : Option Addr) (c1 : Nat) (l1 : List Int) (a2_0 : Int) (a2_1 : Int) (a2_2 : Int) (a2_3 : Int) (a2_4 : Int) (a2_5 : Int) (r : Int) (w : World) (hr0_1 : Kd.C k65 w A0_1 l0_1.length l0_1) (hc0_1 : l0_1.length ≤ c0_1) (hr0_2 : Kd.C k30 w A0_2 l0_2.length l0_2) (hc0_2 : l0_2.length ≤ c0_2) (hr1 : Kd.C (Kd.int .i64) w A1 l1.length l1) (hc1 : l1.length ≤ c1) (h : railplanref11_Lasts.f a0_0 l0_1 l0_2 l1 a2_0 a2_1 a2_2 a2_3 a2_4 a2_5 = some r) :
    Calls Try.prog 67 #[.agg #[.int .i64 a0_0, .slice A0_1 l0_1.length c0_1, .slice A0_2 l0_2.length c0_2], .slice A1 l1.length c1, .agg #[.int .i64 a2_0, .int .i64 a2_1, .int .i64 a2_2, .int .i64 a2_3, .int .i64 a2_4, .int .i64 a2_5]] w fun e w' => e = .returned (.int .i64 r) ∧ Below w.heap.size w w' := by
  have hu25 := Try.underlying25
  have hu30 := Try.underlying30
  have HR0_1 := Aside0.mk hr0_1
  have HC0_1 := Aside0.mk hc0_1
  clear hr0_1 hc0_1
  have HR0_2 := Aside0.mk hr0_2
  have HC0_2 := Aside0.mk hc0_2
  clear hr0_2 hc0_2
  have HR1 := Aside0.mk hr1
  have HC1 := Aside0.mk hc1
  clear hr1 hc1
  have HB := Aside0.mk (Below.refl w.heap.size w)
  have H : (if 0 ≤ a2_2 then (if a2_2 < (l1.length : Int) then (if 0 ≤ a2_1 then (if a2_1 < (l1.length : Int) then ((railplanref1_Mod.f (wrap64 ((wrap64 ((rd l1 a2_2) - (rd l1 a2_1))) - a2_3)) a0_0).bind fun t294 => (some (wrap64 (a2_3 + t294)))) else (none)) else (none)) else (none)) else (none)) = some r := h
  clear h
  by_cases c4 : 0 ≤ a2_2
  · rw [if_pos c4] at H
    have c4b0 : decide (0 ≤ a2_2) = true := decide_eq_true c4
    clear c4
    by_cases c5 : a2_2 < (l1.length : Int)
    · rw [if_pos c5] at H
      have c5b0 : decide (a2_2 < (l1.length : Int)) = true := decide_eq_true c5
      clear c5
      by_cases c6 : 0 ≤ a2_1
      · rw [if_pos c6] at H
        have c6b0 : decide (0 ≤ a2_1) = true := decide_eq_true c6
        clear c6
        by_cases c7 : a2_1 < (l1.length : Int)
        · rw [if_pos c7] at H
          have c7b0 : decide (a2_1 < (l1.length : Int)) = true := decide_eq_true c7
          clear c7
          replace H := Option.bind_eq_some_iff.mp H
          obtain ⟨t294, A80, H⟩ := H
          replace H : (some (wrap64 (a2_3 + t294))) = some r := H
          have A8 := Aside0.mk A80
          clear A80
          obtain rfl := Option.some.inj H
          go_enter Try.func67, Try.ntmps67
          go_wp2_with (first | ((with_reducible refine gate_dst (N := 3) rfl ?_); refine box_event ?hg (N := 3) ?hd (cs := #[.int .i64 a0_0, .slice A0_1 l0_1.length c0_1, .slice A0_2 l0_2.length c0_2]) (t := 25) ?hr ?_; (case hd => rfl); (case hg => rfl); (case hr => first | (go_simp; done) | (go_simp; rfl)); intro gb290 hg w9 hbox hb; have n0_ := Aside0.mk (below_step (by repeat (first | (with_reducible first | exact HB.out | apply below_alloc | apply pw_below_drewN | apply below_drew1) | exact HB.out)) hb); have n1_ := Aside0.mk (hbox); have n2_ := Aside0.mk ((by rw [hg]; exact (below_size (by repeat (first | (with_reducible first | exact HB.out | apply below_alloc | apply pw_below_drewN | apply below_drew1) | exact HB.out))) : w.heap.size ≤ gb290)); have n3_ := Aside0.mk ((by rw [hg]; exact (below_size (by repeat (first | (with_reducible first | exact HB.out | apply below_alloc | apply pw_below_drewN | apply below_drew1) | exact HB.out))) : w.heap.size ≤ gb290)); clear HB; have HB := n0_; have BK290 := n1_; have GW290 := n2_; have GE290 := n3_; clear n0_ n1_ n2_ n3_; clear hb hbox hg) | ((with_reducible refine gate_dst (N := 5) rfl ?_); refine box_event ?hg (N := 5) ?hd (cs := #[.int .i64 a2_0, .int .i64 a2_1, .int .i64 a2_2, .int .i64 a2_3, .int .i64 a2_4, .int .i64 a2_5]) (t := 30) ?hr ?_; (case hd => rfl); (case hg => rfl); (case hr => first | (go_simp; done) | (go_simp; rfl)); intro gb291 hg w10 hbox hb; have n0_ := Aside0.mk (blk_below (g := gb290) (o := .cells #[.int .i64 a0_0, .slice A0_1 l0_1.length c0_1, .slice A0_2 l0_2.length c0_2] 25 (0, 0)) (by (with_reducible repeat (first | refine blk_drewN ?_ _ | refine blk_drew ?_ | refine blk_alloc ?_ _)); exact BK290.out) hb); have n1_ := Aside0.mk (below_step (by repeat (first | (with_reducible first | exact HB.out | apply below_alloc | apply pw_below_drewN | apply below_drew1 | refine below_set ?_ GE290.out) | exact HB.out)) hb); have n2_ := Aside0.mk (hbox); have n3_ := Aside0.mk ((by rw [hg]; exact (below_size (by repeat (first | (with_reducible first | exact HB.out | apply below_alloc | apply pw_below_drewN | apply below_drew1 | refine below_set ?_ GE290.out) | exact HB.out))) : w.heap.size ≤ gb291)); have n4_ := Aside0.mk ((by rw [hg]; exact (below_size (by repeat (first | (with_reducible first | exact HB.out | apply below_alloc | apply pw_below_drewN | apply below_drew1 | refine below_set ?_ GE290.out) | exact HB.out))) : w.heap.size ≤ gb291)); have n5_ := Aside0.mk ((by rw [hg]; exact Nat.ne_of_lt (blk_lt (g := gb290) (o := .cells #[.int .i64 a0_0, .slice A0_1 l0_1.length c0_1, .slice A0_2 l0_2.length c0_2] 25 (0, 0)) (by (with_reducible repeat (first | refine blk_drewN ?_ _ | refine blk_drew ?_ | refine blk_alloc ?_ _)); exact BK290.out)) : gb290 ≠ gb291)); have n6_ := Aside0.mk ((by rw [hg]; exact Nat.ne_of_gt (blk_lt (g := gb290) (o := .cells #[.int .i64 a0_0, .slice A0_1 l0_1.length c0_1, .slice A0_2 l0_2.length c0_2] 25 (0, 0)) (by (with_reducible repeat (first | refine blk_drewN ?_ _ | refine blk_drew ?_ | refine blk_alloc ?_ _)); exact BK290.out)) : gb291 ≠ gb290)); clear BK290; clear HB; have BK290 := n0_; have HB := n1_; have BK291 := n2_; have GW291 := n3_; have GE291 := n4_; have NB290_291 := n5_; have NB291_290 := n6_; clear n0_ n1_ n2_ n3_ n4_ n5_ n6_; clear hb hbox hg; have hnb11 := NB291_290.out; have hnc11 := NB290_291.out; have hcz12_0 : w10.cell? ⟨gb291, 0, none⟩ = some (.int .i64 a2_0) := (blk_cell BK291.out 0).trans rfl; have hcz12_1 : w10.cell? ⟨gb291, 1, none⟩ = some (.int .i64 a2_1) := (blk_cell BK291.out 1).trans rfl; have hcz12_2 : w10.cell? ⟨gb291, 2, none⟩ = some (.int .i64 a2_2) := (blk_cell BK291.out 2).trans rfl; have hcz12_3 : w10.cell? ⟨gb291, 3, none⟩ = some (.int .i64 a2_3) := (blk_cell BK291.out 3).trans rfl; have hcz12_4 : w10.cell? ⟨gb291, 4, none⟩ = some (.int .i64 a2_4) := (blk_cell BK291.out 4).trans rfl; have hcz12_5 : w10.cell? ⟨gb291, 5, none⟩ = some (.int .i64 a2_5) := (blk_cell BK291.out 5).trans rfl; have hfz12_0 := blk_frozen BK291.out 0; have hfz12_1 := blk_frozen BK291.out 1; have hfz12_2 := blk_frozen BK291.out 2; have hfz12_3 := blk_frozen BK291.out 3; have hfz12_4 := blk_frozen BK291.out 4; have hfz12_5 := blk_frozen BK291.out 5; have p292 : 0 ≤ (a2_2 : Int) := of_decide_eq_true (by first | (with_reducible assumption) | assumption); have q292 : a2_2 < (l1.length : Int) := of_decide_eq_true (by first | (with_reducible assumption) | assumption); obtain ⟨ad292, e292, hx292_0⟩ := Kd.at_int HR1.out a2_2 p292 q292; cases e292; replace hx292_0 := (HB.out.cell (World.block_lt_of_cell? w _ hx292_0)).trans hx292_0; replace p292 := eq_true p292; replace q292 := eq_true q292; have p293 : 0 ≤ (a2_1 : Int) := of_decide_eq_true (by first | (with_reducible assumption) | assumption); have q293 : a2_1 < (l1.length : Int) := of_decide_eq_true (by first | (with_reducible assumption) | assumption); obtain ⟨ad293, e293, hx293_0⟩ := Kd.at_int HR1.out a2_1 p293 q293; obtain rfl : ad292 = ad293 := (by injection e293); replace hx293_0 := (HB.out.cell (World.block_lt_of_cell? w _ hx293_0)).trans hx293_0; replace p293 := eq_true p293; replace q293 := eq_true q293; have hcz13_0 : w10.cell? ⟨gb290, 0, none⟩ = some (.int .i64 a0_0) := (blk_cell BK290.out 0).trans rfl; have hcz13_1 : w10.cell? ⟨gb290, 1, none⟩ = some (.slice A0_1 l0_1.length c0_1) := (blk_cell BK290.out 1).trans rfl; have hcz13_2 : w10.cell? ⟨gb290, 2, none⟩ = some (.slice A0_2 l0_2.length c0_2) := (blk_cell BK290.out 2).trans rfl; have hfz13_0 := blk_frozen BK290.out 0; have hfz13_1 := blk_frozen BK290.out 1; have hfz13_2 := blk_frozen BK290.out 2) | (go_at_call 44; (with_reducible refine (railplanref1_Mod.calls (wrap64 ((wrap64 ((rd l1 a2_2) - (rd l1 a2_1))) - a2_3)) a0_0 t294 _ A8.out).mono ?_); rintro e w' ⟨rfl, ⟨nd, rfl⟩⟩; (try first | exact ⟨rfl, _, World.drewN_drewN _ _ _⟩ | exact ⟨rfl, _, Eq.trans (World.drewN_drewN _ _ _) (congrArg (World.drewN _) (Nat.add_assoc _ _ _))⟩)))
          repeat (go_quiet (first | ((with_reducible refine gate_dst (N := 3) rfl ?_); refine box_event ?hg (N := 3) ?hd (cs := #[.int .i64 a0_0, .slice A0_1 l0_1.length c0_1, .slice A0_2 l0_2.length c0_2]) (t := 25) ?hr ?_; (case hd => rfl); (case hg => rfl); (case hr => first | (go_simp; done) | (go_simp; rfl)); intro gb290 hg w9 hbox hb; have n0_ := Aside0.mk (below_step (by repeat (first | (with_reducible first | exact HB.out | apply below_alloc | apply pw_below_drewN | apply below_drew1) | exact HB.out)) hb); have n1_ := Aside0.mk (hbox); have n2_ := Aside0.mk ((by rw [hg]; exact (below_size (by repeat (first | (with_reducible first | exact HB.out | apply below_alloc | apply pw_below_drewN | apply below_drew1) | exact HB.out))) : w.heap.size ≤ gb290)); have n3_ := Aside0.mk ((by rw [hg]; exact (below_size (by repeat (first | (with_reducible first | exact HB.out | apply below_alloc | apply pw_below_drewN | apply below_drew1) | exact HB.out))) : w.heap.size ≤ gb290)); clear HB; have HB := n0_; have BK290 := n1_; have GW290 := n2_; have GE290 := n3_; clear n0_ n1_ n2_ n3_; clear hb hbox hg) | ((with_reducible refine gate_dst (N := 5) rfl ?_); refine box_event ?hg (N := 5) ?hd (cs := #[.int .i64 a2_0, .int .i64 a2_1, .int .i64 a2_2, .int .i64 a2_3, .int .i64 a2_4, .int .i64 a2_5]) (t := 30) ?hr ?_; (case hd => rfl); (case hg => rfl); (case hr => first | (go_simp; done) | (go_simp; rfl)); intro gb291 hg w10 hbox hb; have n0_ := Aside0.mk (blk_below (g := gb290) (o := .cells #[.int .i64 a0_0, .slice A0_1 l0_1.length c0_1, .slice A0_2 l0_2.length c0_2] 25 (0, 0)) (by (with_reducible repeat (first | refine blk_drewN ?_ _ | refine blk_drew ?_ | refine blk_alloc ?_ _)); exact BK290.out) hb); have n1_ := Aside0.mk (below_step (by repeat (first | (with_reducible first | exact HB.out | apply below_alloc | apply pw_below_drewN | apply below_drew1 | refine below_set ?_ GE290.out) | exact HB.out)) hb); have n2_ := Aside0.mk (hbox); have n3_ := Aside0.mk ((by rw [hg]; exact (below_size (by repeat (first | (with_reducible first | exact HB.out | apply below_alloc | apply pw_below_drewN | apply below_drew1 | refine below_set ?_ GE290.out) | exact HB.out))) : w.heap.size ≤ gb291)); have n4_ := Aside0.mk ((by rw [hg]; exact (below_size (by repeat (first | (with_reducible first | exact HB.out | apply below_alloc | apply pw_below_drewN | apply below_drew1 | refine below_set ?_ GE290.out) | exact HB.out))) : w.heap.size ≤ gb291)); have n5_ := Aside0.mk ((by rw [hg]; exact Nat.ne_of_lt (blk_lt (g := gb290) (o := .cells #[.int .i64 a0_0, .slice A0_1 l0_1.length c0_1, .slice A0_2 l0_2.length c0_2] 25 (0, 0)) (by (with_reducible repeat (first | refine blk_drewN ?_ _ | refine blk_drew ?_ | refine blk_alloc ?_ _)); exact BK290.out)) : gb290 ≠ gb291)); have n6_ := Aside0.mk ((by rw [hg]; exact Nat.ne_of_gt (blk_lt (g := gb290) (o := .cells #[.int .i64 a0_0, .slice A0_1 l0_1.length c0_1, .slice A0_2 l0_2.length c0_2] 25 (0, 0)) (by (with_reducible repeat (first | refine blk_drewN ?_ _ | refine blk_drew ?_ | refine blk_alloc ?_ _)); exact BK290.out)) : gb291 ≠ gb290)); clear BK290; clear HB; have BK290 := n0_; have HB := n1_; have BK291 := n2_; have GW291 := n3_; have GE291 := n4_; have NB290_291 := n5_; have NB291_290 := n6_; clear n0_ n1_ n2_ n3_ n4_ n5_ n6_; clear hb hbox hg; have hnb11 := NB291_290.out; have hnc11 := NB290_291.out; have hcz12_0 : w10.cell? ⟨gb291, 0, none⟩ = some (.int .i64 a2_0) := (blk_cell BK291.out 0).trans rfl; have hcz12_1 : w10.cell? ⟨gb291, 1, none⟩ = some (.int .i64 a2_1) := (blk_cell BK291.out 1).trans rfl; have hcz12_2 : w10.cell? ⟨gb291, 2, none⟩ = some (.int .i64 a2_2) := (blk_cell BK291.out 2).trans rfl; have hcz12_3 : w10.cell? ⟨gb291, 3, none⟩ = some (.int .i64 a2_3) := (blk_cell BK291.out 3).trans rfl; have hcz12_4 : w10.cell? ⟨gb291, 4, none⟩ = some (.int .i64 a2_4) := (blk_cell BK291.out 4).trans rfl; have hcz12_5 : w10.cell? ⟨gb291, 5, none⟩ = some (.int .i64 a2_5) := (blk_cell BK291.out 5).trans rfl; have hfz12_0 := blk_frozen BK291.out 0; have hfz12_1 := blk_frozen BK291.out 1; have hfz12_2 := blk_frozen BK291.out 2; have hfz12_3 := blk_frozen BK291.out 3; have hfz12_4 := blk_frozen BK291.out 4; have hfz12_5 := blk_frozen BK291.out 5; have p292 : 0 ≤ (a2_2 : Int) := of_decide_eq_true (by first | (with_reducible assumption) | assumption); have q292 : a2_2 < (l1.length : Int) := of_decide_eq_true (by first | (with_reducible assumption) | assumption); obtain ⟨ad292, e292, hx292_0⟩ := Kd.at_int HR1.out a2_2 p292 q292; cases e292; replace hx292_0 := (HB.out.cell (World.block_lt_of_cell? w _ hx292_0)).trans hx292_0; replace p292 := eq_true p292; replace q292 := eq_true q292; have p293 : 0 ≤ (a2_1 : Int) := of_decide_eq_true (by first | (with_reducible assumption) | assumption); have q293 : a2_1 < (l1.length : Int) := of_decide_eq_true (by first | (with_reducible assumption) | assumption); obtain ⟨ad293, e293, hx293_0⟩ := Kd.at_int HR1.out a2_1 p293 q293; obtain rfl : ad292 = ad293 := (by injection e293); replace hx293_0 := (HB.out.cell (World.block_lt_of_cell? w _ hx293_0)).trans hx293_0; replace p293 := eq_true p293; replace q293 := eq_true q293; have hcz13_0 : w10.cell? ⟨gb290, 0, none⟩ = some (.int .i64 a0_0) := (blk_cell BK290.out 0).trans rfl; have hcz13_1 : w10.cell? ⟨gb290, 1, none⟩ = some (.slice A0_1 l0_1.length c0_1) := (blk_cell BK290.out 1).trans rfl; have hcz13_2 : w10.cell? ⟨gb290, 2, none⟩ = some (.slice A0_2 l0_2.length c0_2) := (blk_cell BK290.out 2).trans rfl; have hfz13_0 := blk_frozen BK290.out 0; have hfz13_1 := blk_frozen BK290.out 1; have hfz13_2 := blk_frozen BK290.out 2) | (go_at_call 44; (with_reducible refine (railplanref1_Mod.calls (wrap64 ((wrap64 ((rd l1 a2_2) - (rd l1 a2_1))) - a2_3)) a0_0 t294 _ A8.out).mono ?_); rintro e w' ⟨rfl, ⟨nd, rfl⟩⟩; (try first | exact ⟨rfl, _, World.drewN_drewN _ _ _⟩ | exact ⟨rfl, _, Eq.trans (World.drewN_drewN _ _ _) (congrArg (World.drewN _) (Nat.add_assoc _ _ _))⟩))); try go_wp2_with (first | ((with_reducible refine gate_dst (N := 3) rfl ?_); refine box_event ?hg (N := 3) ?hd (cs := #[.int .i64 a0_0, .slice A0_1 l0_1.length c0_1, .slice A0_2 l0_2.length c0_2]) (t := 25) ?hr ?_; (case hd => rfl); (case hg => rfl); (case hr => first | (go_simp; done) | (go_simp; rfl)); intro gb290 hg w9 hbox hb; have n0_ := Aside0.mk (below_step (by repeat (first | (with_reducible first | exact HB.out | apply below_alloc | apply pw_below_drewN | apply below_drew1) | exact HB.out)) hb); have n1_ := Aside0.mk (hbox); have n2_ := Aside0.mk ((by rw [hg]; exact (below_size (by repeat (first | (with_reducible first | exact HB.out | apply below_alloc | apply pw_below_drewN | apply below_drew1) | exact HB.out))) : w.heap.size ≤ gb290)); have n3_ := Aside0.mk ((by rw [hg]; exact (below_size (by repeat (first | (with_reducible first | exact HB.out | apply below_alloc | apply pw_below_drewN | apply below_drew1) | exact HB.out))) : w.heap.size ≤ gb290)); clear HB; have HB := n0_; have BK290 := n1_; have GW290 := n2_; have GE290 := n3_; clear n0_ n1_ n2_ n3_; clear hb hbox hg) | ((with_reducible refine gate_dst (N := 5) rfl ?_); refine box_event ?hg (N := 5) ?hd (cs := #[.int .i64 a2_0, .int .i64 a2_1, .int .i64 a2_2, .int .i64 a2_3, .int .i64 a2_4, .int .i64 a2_5]) (t := 30) ?hr ?_; (case hd => rfl); (case hg => rfl); (case hr => first | (go_simp; done) | (go_simp; rfl)); intro gb291 hg w10 hbox hb; have n0_ := Aside0.mk (blk_below (g := gb290) (o := .cells #[.int .i64 a0_0, .slice A0_1 l0_1.length c0_1, .slice A0_2 l0_2.length c0_2] 25 (0, 0)) (by (with_reducible repeat (first | refine blk_drewN ?_ _ | refine blk_drew ?_ | refine blk_alloc ?_ _)); exact BK290.out) hb); have n1_ := Aside0.mk (below_step (by repeat (first | (with_reducible first | exact HB.out | apply below_alloc | apply pw_below_drewN | apply below_drew1 | refine below_set ?_ GE290.out) | exact HB.out)) hb); have n2_ := Aside0.mk (hbox); have n3_ := Aside0.mk ((by rw [hg]; exact (below_size (by repeat (first | (with_reducible first | exact HB.out | apply below_alloc | apply pw_below_drewN | apply below_drew1 | refine below_set ?_ GE290.out) | exact HB.out))) : w.heap.size ≤ gb291)); have n4_ := Aside0.mk ((by rw [hg]; exact (below_size (by repeat (first | (with_reducible first | exact HB.out | apply below_alloc | apply pw_below_drewN | apply below_drew1 | refine below_set ?_ GE290.out) | exact HB.out))) : w.heap.size ≤ gb291)); have n5_ := Aside0.mk ((by rw [hg]; exact Nat.ne_of_lt (blk_lt (g := gb290) (o := .cells #[.int .i64 a0_0, .slice A0_1 l0_1.length c0_1, .slice A0_2 l0_2.length c0_2] 25 (0, 0)) (by (with_reducible repeat (first | refine blk_drewN ?_ _ | refine blk_drew ?_ | refine blk_alloc ?_ _)); exact BK290.out)) : gb290 ≠ gb291)); have n6_ := Aside0.mk ((by rw [hg]; exact Nat.ne_of_gt (blk_lt (g := gb290) (o := .cells #[.int .i64 a0_0, .slice A0_1 l0_1.length c0_1, .slice A0_2 l0_2.length c0_2] 25 (0, 0)) (by (with_reducible repeat (first | refine blk_drewN ?_ _ | refine blk_drew ?_ | refine blk_alloc ?_ _)); exact BK290.out)) : gb291 ≠ gb290)); clear BK290; clear HB; have BK290 := n0_; have HB := n1_; have BK291 := n2_; have GW291 := n3_; have GE291 := n4_; have NB290_291 := n5_; have NB291_290 := n6_; clear n0_ n1_ n2_ n3_ n4_ n5_ n6_; clear hb hbox hg; have hnb11 := NB291_290.out; have hnc11 := NB290_291.out; have hcz12_0 : w10.cell? ⟨gb291, 0, none⟩ = some (.int .i64 a2_0) := (blk_cell BK291.out 0).trans rfl; have hcz12_1 : w10.cell? ⟨gb291, 1, none⟩ = some (.int .i64 a2_1) := (blk_cell BK291.out 1).trans rfl; have hcz12_2 : w10.cell? ⟨gb291, 2, none⟩ = some (.int .i64 a2_2) := (blk_cell BK291.out 2).trans rfl; have hcz12_3 : w10.cell? ⟨gb291, 3, none⟩ = some (.int .i64 a2_3) := (blk_cell BK291.out 3).trans rfl; have hcz12_4 : w10.cell? ⟨gb291, 4, none⟩ = some (.int .i64 a2_4) := (blk_cell BK291.out 4).trans rfl; have hcz12_5 : w10.cell? ⟨gb291, 5, none⟩ = some (.int .i64 a2_5) := (blk_cell BK291.out 5).trans rfl; have hfz12_0 := blk_frozen BK291.out 0; have hfz12_1 := blk_frozen BK291.out 1; have hfz12_2 := blk_frozen BK291.out 2; have hfz12_3 := blk_frozen BK291.out 3; have hfz12_4 := blk_frozen BK291.out 4; have hfz12_5 := blk_frozen BK291.out 5; have p292 : 0 ≤ (a2_2 : Int) := of_decide_eq_true (by first | (with_reducible assumption) | assumption); have q292 : a2_2 < (l1.length : Int) := of_decide_eq_true (by first | (with_reducible assumption) | assumption); obtain ⟨ad292, e292, hx292_0⟩ := Kd.at_int HR1.out a2_2 p292 q292; cases e292; replace hx292_0 := (HB.out.cell (World.block_lt_of_cell? w _ hx292_0)).trans hx292_0; replace p292 := eq_true p292; replace q292 := eq_true q292; have p293 : 0 ≤ (a2_1 : Int) := of_decide_eq_true (by first | (with_reducible assumption) | assumption); have q293 : a2_1 < (l1.length : Int) := of_decide_eq_true (by first | (with_reducible assumption) | assumption); obtain ⟨ad293, e293, hx293_0⟩ := Kd.at_int HR1.out a2_1 p293 q293; obtain rfl : ad292 = ad293 := (by injection e293); replace hx293_0 := (HB.out.cell (World.block_lt_of_cell? w _ hx293_0)).trans hx293_0; replace p293 := eq_true p293; replace q293 := eq_true q293; have hcz13_0 : w10.cell? ⟨gb290, 0, none⟩ = some (.int .i64 a0_0) := (blk_cell BK290.out 0).trans rfl; have hcz13_1 : w10.cell? ⟨gb290, 1, none⟩ = some (.slice A0_1 l0_1.length c0_1) := (blk_cell BK290.out 1).trans rfl; have hcz13_2 : w10.cell? ⟨gb290, 2, none⟩ = some (.slice A0_2 l0_2.length c0_2) := (blk_cell BK290.out 2).trans rfl; have hfz13_0 := blk_frozen BK290.out 0; have hfz13_1 := blk_frozen BK290.out 1; have hfz13_2 := blk_frozen BK290.out 2) | (go_at_call 44; (with_reducible refine (railplanref1_Mod.calls (wrap64 ((wrap64 ((rd l1 a2_2) - (rd l1 a2_1))) - a2_3)) a0_0 t294 _ A8.out).mono ?_); rintro e w' ⟨rfl, ⟨nd, rfl⟩⟩; (try first | exact ⟨rfl, _, World.drewN_drewN _ _ _⟩ | exact ⟨rfl, _, Eq.trans (World.drewN_drewN _ _ _) (congrArg (World.drewN _) (Nat.add_assoc _ _ _))⟩))))
          go_ret
          exact ⟨by first | rfl | (simp [errW_none, errW_some] <;> rfl) | (simp [*, errW_none, errW_some] <;> rfl), by repeat (first | (with_reducible first | exact HB.out | apply below_alloc | apply pw_below_drewN | apply below_drew1 | refine below_set ?_ GE290.out | refine below_set ?_ GE291.out) | exact HB.out)⟩
        · rw [if_neg c7] at H
          exact absurd H (by simp)
      · rw [if_neg c6] at H
        exact absurd H (by simp)
    · rw [if_neg c5] at H
      exact absurd H (by simp)
  · rw [if_neg c4] at H
    exact absurd H (by simp)

end Go.Proofs.Ytkbcgahpekmlbaa.PPg

namespace Go.Proofs.Ytkbcgahpekmlbaa.PPg
open Go.RowKit Go.Proofs.YtkbcgahpekmlbaaW.PrintWords Go.Proofs.YtkbcgahpekmlbaaW.PrintLast Go.Proofs.YtkbcgahpekmlbaaW.PrintMore
attribute [local go_sem] max2_int min2_int max_two min_two max_three min_three max_four min_four   -- for this text's walks alone
set_option linter.unusedVariables false
set_option linter.unusedSimpArgs false

/-! ### railplanref11_First: function 46 -/
def railplanref11_First.l0 : Nat → List Int → Int → Int → List (S65) → List (S30) → Option (Int × Bool)
  | 0, _, _, _, _, _ => none
  | k + 1, x1, x6, x296000, x296001, x296002 => if x6 < (x296002.length : Int) then (if 0 ≤ x6 then ((railplanref11_Lasts.f x296000 x296001 x296002 x1 ((rd_T30 x296002 x6).f0) ((rd_T30 x296002 x6).f1) ((rd_T30 x296002 x6).f2) ((rd_T30 x296002 x6).f3) ((rd_T30 x296002 x6).f4) ((rd_T30 x296002 x6).f5)).bind fun t298 => (if t298 > ((rd_T30 x296002 x6).f4) then (some (x6, true)) else (railplanref11_First.l0 k x1 (wrap64 (x6 + 1)) x296000 x296001 x296002))) else (none)) else (some (0, false))
def railplanref11_First.f (k : Nat) (a0_0 : Int) (l0_1 : List (S65)) (l0_2 : List (S30)) (l1 : List Int) : Option (Int × Bool) := (railplanref11_Good.f k a0_0 l0_1 l0_2 l1).bind fun t296 => (if t296 = true then (railplanref11_First.l0 k l1 0 a0_0 l0_1 l0_2) else (some (0, false)))
theorem railplanref11_First.mono_l : ∀ k, (∀ y0 y1 y2 y3 y4, LeO (railplanref11_First.l0 k y0 y1 y2 y3 y4) (railplanref11_First.l0 (k + 1) y0 y1 y2 y3 y4))
  | 0 => fun _ _ _ _ _ r h => by simp [railplanref11_First.l0] at h
  | k + 1 => by
    have ih0 := railplanref11_First.mono_l k
    · intro y0 y1 y2 y3 y4
      unfold railplanref11_First.l0
      repeat' first
      | (with_reducible exact ih0 _ _ _ _ _)
      | (with_reducible exact railplanref11_Good.mono _ _ _ _ _)
      | (with_reducible exact LeO.refl _)
      | (with_reducible exact LeO.none _)
      | (with_reducible refine LeO.ite ?_ ?_)
      | (with_reducible refine LeO.bind ?_ (fun _ => ?_))
      | exact ih0 _ _ _ _ _
      | exact railplanref11_Good.mono _ _ _ _ _
      | exact LeO.none _
      | refine LeO.ite ?_ ?_
      | refine LeO.bind ?_ (fun _ => ?_)
theorem railplanref11_First.mono : ∀ a0 a1 a2 a3 k, LeO (railplanref11_First.f k a0 a1 a2 a3) (railplanref11_First.f (k + 1) a0 a1 a2 a3) := by
  intro a0 a1 a2 a3 k
  have ih0 := railplanref11_First.mono_l k
  unfold railplanref11_First.f
  repeat' first
      | (with_reducible exact ih0 _ _ _ _ _)
      | (with_reducible exact railplanref11_Good.mono _ _ _ _ _)
      | (with_reducible exact LeO.refl _)
      | (with_reducible exact LeO.none _)
      | (with_reducible refine LeO.ite ?_ ?_)
      | (with_reducible refine LeO.bind ?_ (fun _ => ?_))
      | exact ih0 _ _ _ _ _
      | exact railplanref11_Good.mono _ _ _ _ _
      | exact LeO.none _
      | refine LeO.ite ?_ ?_
      | refine LeO.bind ?_ (fun _ => ?_)
def railplanref11_First.T6 : Bool × List (List Nat × List Nat) := (true, [([], []), ([], []), ([], []), ([2], [2]), ([], []), ([3, 4], [3, 4]), ([5], [5]), ([0, 1, 6], [0, 1, 6]), ([], []), ([8], [8]), ([], []), ([9, 10], [9, 10]), ([11], [11]), ([12], [12]), ([7, 13], [7, 13])])
def railplanref11_First.B6 : List Nat := [0, 0, 0, 4, 0, 28, 60, 127, 0, 256, 0, 1792, 3840, 7936, 16383]
theorem railplanref11_First.tab6 : rtab .any (opsOf Try.f46 6) = railplanref11_First.T6 := by kernel_rfl
theorem railplanref11_First.bits6 : waitsOk railplanref11_First.T6.2 railplanref11_First.B6 = true := by kernel_rfl
set_option maxHeartbeats 8000000 in
set_option maxRecDepth 100000 in
theorem railplanref11_First.calls (k : Nat) (a0_0 : Int) (A0_1 : Option Addr) (c0_1 : Nat) (l0_1 : List (S65)) (A0_2 : Option Addr) (c0_2 : Nat) (l0_2 : List (S30)) (A1 : Option Addr) (c1 : Nat) (l1 : List Int) (r1 : Int) (r2 : Bool) (w : World) (hr0_1 : Kd.C k65 w A0_1 l0_1.length l0_1) (hc0_1 : l0_1.length ≤ c0_1) (hr0_2 : Kd.C k30 w A0_2 l0_2.length l0_2) (hc0_2 : l0_2.length ≤ c0_2) (hr1 : Kd.C (Kd.int .i64) w A1 l1.length l1) (hc1 : l1.length ≤ c1) (h : railplanref11_First.f k a0_0 l0_1 l0_2 l1 = some (r1, r2)) :
    Calls Try.prog 46 #[.agg #[.int .i64 a0_0, .slice A0_1 l0_1.length c0_1, .slice A0_2 l0_2.length c0_2], .slice A1 l1.length c1] w fun e w' => e = .returned (.tuple #[.int .i64 r1, .bool r2]) ∧ Below w.heap.size w w' := by
  have hu25 := Try.underlying25
  have hu30 := Try.underlying30
  have HR0_1 := Aside0.mk hr0_1
  have HC0_1 := Aside0.mk hc0_1
  clear hr0_1 hc0_1
  have HR0_2 := Aside0.mk hr0_2
  have HC0_2 := Aside0.mk hc0_2
  clear hr0_2 hc0_2
  have HR1 := Aside0.mk hr1
  have HC1 := Aside0.mk hc1
  clear hr1 hc1
  have HB := Aside0.mk (Below.refl w.heap.size w)
  have H : ((railplanref11_Good.f k a0_0 l0_1 l0_2 l1).bind fun t296 => (if t296 = true then (railplanref11_First.l0 k l1 0 a0_0 l0_1 l0_2) else (some (0, false)))) = some (r1, r2) := h
  clear h
  replace H := Option.bind_eq_some_iff.mp H
  obtain ⟨t296, A30, H⟩ := H
  replace H : (if t296 = true then (railplanref11_First.l0 k l1 0 a0_0 l0_1 l0_2) else (some (0, false))) = some (r1, r2) := H
  have A3 := Aside0.mk A30
  clear A30
  by_cases c4 : t296 = true
  · subst c4
    have H1 : (railplanref11_First.l0 k l1 0 a0_0 l0_1 l0_2) = some (r1, r2) := by rw [if_pos rfl] at H; exact H
    clear H
    have H := H1
    clear H1
    have H' := Aside0.mk H
    clear H
    go_enter Try.func46, Try.ntmps46
    go_wp2_with (first | ((with_reducible refine gate_dst (N := 2) rfl ?_); refine box_event ?hg (N := 2) ?hd (cs := #[.int .i64 a0_0, .slice A0_1 l0_1.length c0_1, .slice A0_2 l0_2.length c0_2]) (t := 25) ?hr ?_; (case hd => rfl); (case hg => rfl); (case hr => first | (go_simp; done) | (go_simp; rfl)); intro gb295 hg w5 hbox hb; have n0_ := Aside0.mk (below_step (by repeat (first | (with_reducible first | exact HB.out | apply below_alloc | apply pw_below_drewN | apply below_drew1) | exact HB.out)) hb); have n1_ := Aside0.mk (hbox); have n2_ := Aside0.mk ((by rw [hg]; exact (below_size (by repeat (first | (with_reducible first | exact HB.out | apply below_alloc | apply pw_below_drewN | apply below_drew1) | exact HB.out))) : w.heap.size ≤ gb295)); have n3_ := Aside0.mk ((by rw [hg]; exact (below_size (by repeat (first | (with_reducible first | exact HB.out | apply below_alloc | apply pw_below_drewN | apply below_drew1) | exact HB.out))) : w.heap.size ≤ gb295)); clear HB; have HB := n0_; have BK295 := n1_; have GW295 := n2_; have GE295 := n3_; clear n0_ n1_ n2_ n3_; clear hb hbox hg; have hcz6_0 : w5.cell? ⟨gb295, 0, none⟩ = some (.int .i64 a0_0) := (blk_cell BK295.out 0).trans rfl; have hcz6_1 : w5.cell? ⟨gb295, 1, none⟩ = some (.slice A0_1 l0_1.length c0_1) := (blk_cell BK295.out 1).trans rfl; have hcz6_2 : w5.cell? ⟨gb295, 2, none⟩ = some (.slice A0_2 l0_2.length c0_2) := (blk_cell BK295.out 2).trans rfl; have hfz6_0 := blk_frozen BK295.out 0; have hfz6_1 := blk_frozen BK295.out 1; have hfz6_2 := blk_frozen BK295.out 2) | ((with_reducible refine gate_callee (f := 47) rfl ?_); refine goesL_ (some 9) rfl rfl Try.func47 (by kernel_rfl) rfl #[.agg #[.int .i64 a0_0, .slice A0_1 l0_1.length c0_1, .slice A0_2 l0_2.length c0_2], .slice A1 l1.length c1] rfl (by (try simp only [List.map_toArray, List.map_cons, List.map_nil]); first | done | rfl | (simp only [List.length_drop, List.length_take]; rfl)) ?_; (with_reducible refine (railplanref11_Good.calls k a0_0 _ _ l0_1 _ _ l0_2 _ _ l1 true _ ?side1 ?side2 ?side3 ?side4 ?side5 ?side6 A3.out).mono ?_); (case side1 => repeat (first | exact (Kd.C_below HR0_1.out HB.out) | (with_reducible refine Kd.C_alloc ?_ _) | (with_reducible refine Kd.C_drewN ?_ _) | (with_reducible refine Kd.C_drew ?_))); (case side2 => exact HC0_1.out); (case side3 => repeat (first | exact (Kd.C_below HR0_2.out HB.out) | (with_reducible refine Kd.C_alloc ?_ _) | (with_reducible refine Kd.C_drewN ?_ _) | (with_reducible refine Kd.C_drew ?_))); (case side4 => exact HC0_2.out); (case side5 => repeat (first | exact (Kd.C_below HR1.out HB.out) | (with_reducible refine Kd.C_alloc ?_ _) | (with_reducible refine Kd.C_drewN ?_ _) | (with_reducible refine Kd.C_drew ?_))); (case side6 => exact HC1.out); rintro e w7 ⟨rfl, hb⟩; refine ⟨_, rfl, ?_⟩; have n0_ := Aside0.mk (blk_below (g := gb295) (o := .cells #[.int .i64 a0_0, .slice A0_1 l0_1.length c0_1, .slice A0_2 l0_2.length c0_2] 25 (0, 0)) (by (with_reducible repeat (first | refine blk_drewN ?_ _ | refine blk_drew ?_ | refine blk_alloc ?_ _)); exact BK295.out) hb); have n1_ := Aside0.mk (below_step (by repeat (first | (with_reducible first | exact HB.out | apply below_alloc | apply pw_below_drewN | apply below_drew1 | refine below_set ?_ GE295.out) | exact HB.out)) hb); clear BK295; clear HB; have BK295 := n0_; have HB := n1_; clear n0_ n1_; (try clear hb); (try clear hb2); (try clear hk); (try clear hi)))
    go_loopg [6] k (fun kq v6 w' => ∃ (x6_1 : Int), v6 = .int .i64 x6_1 ∧ Aside0 (railplanref11_First.l0 kq l1 x6_1 a0_0 l0_1 l0_2 = some (r1, r2)) ∧ Aside0 (kq ≤ k) ∧ Aside0 (w'.heap[gb295]? = some (.cells #[.int .i64 a0_0, (.slice A0_1 l0_1.length c0_1), (.slice A0_2 l0_2.length c0_2)] 25 (0, 0))) ∧ Aside0 (Below w.heap.size w w'))
    case atStart => exact ⟨(0), (by first | rfl | (simp; done) | (simp [*]; done)), H', ⟨Nat.le_refl _⟩, ⟨by (with_reducible repeat (first | refine blk_drewN ?_ _ | refine blk_drew ?_ | refine blk_alloc ?_ _)); exact BK295.out⟩, ⟨by repeat (first | (with_reducible first | exact HB.out | apply below_alloc | apply pw_below_drewN | apply below_drew1 | refine below_set ?_ GE295.out) | exact HB.out)⟩⟩
    case round =>
      clear H'
      try clear c1
      try clear p2
      try clear c4
      try clear hcz6_0
      try clear hcz6_1
      try clear hcz6_2
      try clear hfz6_0
      try clear hfz6_1
      try clear hfz6_2
      obtain ⟨x6_1, rfl, HA, HK1, BK295, HB⟩ := hrel
      cases gk with
      | zero => exact absurd HA.out (by simp [railplanref11_First.l0])
      | succ k1 =>
        have H := HA.out
        clear HA
        simp only [railplanref11_First.l0] at H
        by_cases c8 : x6_1 < (l0_2.length : Int)
        · rw [if_pos c8] at H
          have c8b0 : decide (x6_1 < (l0_2.length : Int)) = true := decide_eq_true c8
          clear c8
          by_cases c9 : 0 ≤ x6_1
          · rw [if_pos c9] at H
            have c9b0 : decide (0 ≤ x6_1) = true := decide_eq_true c9
            clear c9
            replace H := Option.bind_eq_some_iff.mp H
            obtain ⟨t298, A100, H⟩ := H
            replace H : (if t298 > ((rd_T30 l0_2 x6_1).f4) then (some (x6_1, true)) else (railplanref11_First.l0 k1 l1 (wrap64 (x6_1 + 1)) a0_0 l0_1 l0_2)) = some (r1, r2) := H
            have A10 := Aside0.mk A100
            clear A100
            by_cases c11 : t298 > ((rd_T30 l0_2 x6_1).f4)
            · rw [if_pos c11] at H
              have c11b0 : decide (((rd_T30 l0_2 x6_1).f4) < t298) = true := decide_eq_true c11
              clear c11
              simp only [Option.some.injEq, Prod.mk.injEq] at H
              obtain ⟨rfl, rfl⟩ := H
              have hcz12_0 : wr.cell? ⟨gb295, 0, none⟩ = some (.int .i64 a0_0) := (blk_cell BK295.out 0).trans rfl
              have hcz12_1 : wr.cell? ⟨gb295, 1, none⟩ = some (.slice A0_1 l0_1.length c0_1) := (blk_cell BK295.out 1).trans rfl
              have hcz12_2 : wr.cell? ⟨gb295, 2, none⟩ = some (.slice A0_2 l0_2.length c0_2) := (blk_cell BK295.out 2).trans rfl
              have hfz12_0 := blk_frozen BK295.out 0
              have hfz12_1 := blk_frozen BK295.out 1
              have hfz12_2 := blk_frozen BK295.out 2
              try go_wp2
              have n0_ := Aside0.mk (blk_drew BK295.out)
              have n1_ := Aside0.mk (below_drew1 HB.out)
              clear BK295
              clear HB
              have BK295 := n0_
              have HB := n1_
              clear n0_ n1_
              have p297 : 0 ≤ (x6_1 : Int) := of_decide_eq_true (by first | (with_reducible assumption) | assumption)
              have q297 : x6_1 < (l0_2.length : Int) := of_decide_eq_true (by first | (with_reducible assumption) | assumption)
              obtain ⟨ad297, e297, hx297_0, hx297_1, hx297_2, hx297_3, hx297_4, hx297_5⟩ := at_T30 HR0_2.out x6_1 p297 q297
              have hw297_5 := hx297_5
              have hw297_4 := hx297_4
              have hw297_3 := hx297_3
              have hw297_2 := hx297_2
              have hw297_1 := hx297_1
              have hw297_0 := hx297_0
              cases e297
              replace hx297_0 := (HB.out.cell (World.block_lt_of_cell? w _ hx297_0)).trans hx297_0
              replace hx297_1 := (HB.out.cell (World.block_lt_of_cell? w _ hx297_1)).trans hx297_1
              replace hx297_2 := (HB.out.cell (World.block_lt_of_cell? w _ hx297_2)).trans hx297_2
              replace hx297_3 := (HB.out.cell (World.block_lt_of_cell? w _ hx297_3)).trans hx297_3
              replace hx297_4 := (HB.out.cell (World.block_lt_of_cell? w _ hx297_4)).trans hx297_4
              replace hx297_5 := (HB.out.cell (World.block_lt_of_cell? w _ hx297_5)).trans hx297_5
              replace p297 := eq_true p297
              replace q297 := eq_true q297
              have p299 : 0 ≤ (x6_1 : Int) := of_decide_eq_true (by first | (with_reducible assumption) | assumption)
              have q299 : x6_1 < (l0_2.length : Int) := of_decide_eq_true (by first | (with_reducible assumption) | assumption)
              obtain ⟨ad299, e299, hx299_0, hx299_1, hx299_2, hx299_3, hx299_4, hx299_5⟩ := at_T30 HR0_2.out x6_1 p299 q299
              have hw299_5 := hx299_5
              have hw299_4 := hx299_4
              have hw299_3 := hx299_3
              have hw299_2 := hx299_2
              have hw299_1 := hx299_1
              have hw299_0 := hx299_0
              obtain rfl : ad297 = ad299 := (by injection e299)
              replace hx299_0 := (HB.out.cell (World.block_lt_of_cell? w _ hx299_0)).trans hx299_0
              replace hx299_1 := (HB.out.cell (World.block_lt_of_cell? w _ hx299_1)).trans hx299_1
              replace hx299_2 := (HB.out.cell (World.block_lt_of_cell? w _ hx299_2)).trans hx299_2
              replace hx299_3 := (HB.out.cell (World.block_lt_of_cell? w _ hx299_3)).trans hx299_3
              replace hx299_4 := (HB.out.cell (World.block_lt_of_cell? w _ hx299_4)).trans hx299_4
              replace hx299_5 := (HB.out.cell (World.block_lt_of_cell? w _ hx299_5)).trans hx299_5
              replace p299 := eq_true p299
              replace q299 := eq_true q299
              refine start_ (n := 15) (S := fun w' => w'.cell? ⟨gb295, 0, none⟩ = some (.int .i64 a0_0) ∧ w'.cell? ⟨gb295, 1, none⟩ = some (.slice A0_1 l0_1.length c0_1) ∧ w'.cell? ⟨gb295, 2, none⟩ = some (.slice (some ad297) l0_2.length c0_2) ∧ w'.cell? (ad297.add ((x6_1).toNat * 6)) = some (.int .i64 ((rd_T30 l0_2 x6_1).f0)) ∧ w'.cell? ⟨(ad297.add ((x6_1).toNat * 6)).block, (ad297.add ((x6_1).toNat * 6)).off + 1, none⟩ = some (.int .i64 ((rd_T30 l0_2 x6_1).f1)) ∧ w'.cell? ⟨(ad297.add ((x6_1).toNat * 6)).block, (ad297.add ((x6_1).toNat * 6)).off + 2, none⟩ = some (.int .i64 ((rd_T30 l0_2 x6_1).f2)) ∧ w'.cell? ⟨(ad297.add ((x6_1).toNat * 6)).block, (ad297.add ((x6_1).toNat * 6)).off + 3, none⟩ = some (.int .i64 ((rd_T30 l0_2 x6_1).f3)) ∧ w'.cell? ⟨(ad297.add ((x6_1).toNat * 6)).block, (ad297.add ((x6_1).toNat * 6)).off + 4, none⟩ = some (.int .i64 ((rd_T30 l0_2 x6_1).f4)) ∧ w'.cell? ⟨(ad297.add ((x6_1).toNat * 6)).block, (ad297.add ((x6_1).toNat * 6)).off + 5, none⟩ = some (.int .i64 ((rd_T30 l0_2 x6_1).f5)) ∧ w'.cell? (ad297.add ((x6_1).toNat * 6)) = some (.int .i64 ((rd_T30 l0_2 x6_1).f0)) ∧ w'.cell? ⟨(ad297.add ((x6_1).toNat * 6)).block, (ad297.add ((x6_1).toNat * 6)).off + 1, none⟩ = some (.int .i64 ((rd_T30 l0_2 x6_1).f1)) ∧ w'.cell? ⟨(ad297.add ((x6_1).toNat * 6)).block, (ad297.add ((x6_1).toNat * 6)).off + 2, none⟩ = some (.int .i64 ((rd_T30 l0_2 x6_1).f2)) ∧ w'.cell? ⟨(ad297.add ((x6_1).toNat * 6)).block, (ad297.add ((x6_1).toNat * 6)).off + 3, none⟩ = some (.int .i64 ((rd_T30 l0_2 x6_1).f3)) ∧ w'.cell? ⟨(ad297.add ((x6_1).toNat * 6)).block, (ad297.add ((x6_1).toNat * 6)).off + 4, none⟩ = some (.int .i64 ((rd_T30 l0_2 x6_1).f4)) ∧ w'.cell? ⟨(ad297.add ((x6_1).toNat * 6)).block, (ad297.add ((x6_1).toNat * 6)).off + 5, none⟩ = some (.int .i64 ((rd_T30 l0_2 x6_1).f5))) (ds := []) #[false, false, false, false, false, false, false, false, false, false, false, false, false, false, false] (by kernel_rfl) rfl rfl ⟨(blk_cell BK295.out 0).trans rfl, (blk_cell BK295.out 1).trans rfl, (blk_cell BK295.out 2).trans rfl, ((HB.out.cell (World.block_lt_of_cell? w _ hw297_0)).trans hw297_0), ((HB.out.cell (World.block_lt_of_cell? w _ hw297_1)).trans hw297_1), ((HB.out.cell (World.block_lt_of_cell? w _ hw297_2)).trans hw297_2), ((HB.out.cell (World.block_lt_of_cell? w _ hw297_3)).trans hw297_3), ((HB.out.cell (World.block_lt_of_cell? w _ hw297_4)).trans hw297_4), ((HB.out.cell (World.block_lt_of_cell? w _ hw297_5)).trans hw297_5), ((HB.out.cell (World.block_lt_of_cell? w _ hw299_0)).trans hw299_0), ((HB.out.cell (World.block_lt_of_cell? w _ hw299_1)).trans hw299_1), ((HB.out.cell (World.block_lt_of_cell? w _ hw299_2)).trans hw299_2), ((HB.out.cell (World.block_lt_of_cell? w _ hw299_3)).trans hw299_3), ((HB.out.cell (World.block_lt_of_cell? w _ hw299_4)).trans hw299_4), ((HB.out.cell (World.block_lt_of_cell? w _ hw299_5)).trans hw299_5)⟩ (fun hHeld => ?_); refine with_tabW railplanref11_First.tab6 railplanref11_First.bits6 (fun HT_ HW_ => ?_)
              generalize wr.drew = w13 at BK295 HB hx297_0 hx297_1 hx297_2 hx297_3 hx297_4 hx297_5 hx299_0 hx299_1 hx299_2 hx299_3 hx299_4 hx299_5 hHeld ⊢
              refine pure_ (i := 1) (N := some 19) (v := ?_) (a' := ?_) #[false, true, false, false, false, false, false, false, false, false, false, false, false, false, false] rfl rfl (any_of HT_.out (by kernel_rfl)) (fun _ _ _ h => h) (Or.inl ⟨by rfl, ?_⟩) ?_ ?_
              rotate_left
              · intro w'
                go_simp
                with_reducible rfl
              rotate_left
              · simp only [Act.put, List.setIfInBounds_toArray, List.set_cons_zero, List.set_cons_succ, i64_w, i32_w]
                rfl
              refine pure_ (i := 2) (N := some 20) (v := ?_) (a' := ?_) #[false, true, true, false, false, false, false, false, false, false, false, false, false, false, false] rfl rfl (any_of HT_.out (by kernel_rfl)) (fun _ _ _ h => h) (Or.inl ⟨by rfl, ?_⟩) ?_ ?_
              rotate_left
              · intro w'
                go_simp
                with_reducible rfl
              rotate_left
              · simp only [Act.put, List.setIfInBounds_toArray, List.set_cons_zero, List.set_cons_succ, i64_w, i32_w]
                rfl
              refine pure_ (i := 4) (N := some 22) (v := ?_) (a' := ?_) #[false, true, true, false, true, false, false, false, false, false, false, false, false, false, false] rfl rfl (any_of HT_.out (by kernel_rfl)) (fun _ _ _ h => h) (Or.inl ⟨by rfl, ?_⟩) ?_ ?_
              rotate_left
              · intro w'
                go_simp
                with_reducible rfl
              rotate_left
              · simp only [Act.put, List.setIfInBounds_toArray, List.set_cons_zero, List.set_cons_succ, i64_w, i32_w]
                rfl
              refine pure_ (i := 8) (N := some 26) (v := ?_) (a' := ?_) #[false, true, true, false, true, false, false, false, true, false, false, false, false, false, false] rfl rfl (any_of HT_.out (by kernel_rfl)) (fun _ _ _ h => h) (Or.inl ⟨by rfl, ?_⟩) ?_ ?_
              rotate_left
              · intro w'
                go_simp
                with_reducible rfl
              rotate_left
              · simp only [Act.put, List.setIfInBounds_toArray, List.set_cons_zero, List.set_cons_succ, i64_w, i32_w]
                rfl
              refine pure_ (i := 10) (N := some 28) (v := ?_) (a' := ?_) #[false, true, true, false, true, false, false, false, true, false, true, false, false, false, false] rfl rfl (any_of HT_.out (by kernel_rfl)) (fun _ _ _ h => h) (Or.inl ⟨by rfl, ?_⟩) ?_ ?_
              rotate_left
              · intro w'
                go_simp
                with_reducible rfl
              rotate_left
              · simp only [Act.put, List.setIfInBounds_toArray, List.set_cons_zero, List.set_cons_succ, i64_w, i32_w]
                rfl
              refine take_ (i := 0) (N := some 18) (v := ?_) (a' := ?_) #[true, true, true, false, true, false, false, false, true, false, true, false, false, false, false] rfl rfl (take_ofW HT_.out HW_.out (by kernel_rfl)) (fun _ _ _ h => h) (Or.inl ⟨by rfl, ?_⟩) hHeld ?_ ?_
              rotate_left
              · rintro w' ⟨s0, s1, s2, s3, s4, s5, s6, s7, s8, s9, s10, s11, s12, s13, s14⟩
                go_simp
                with_reducible rfl
              rotate_left
              · simp only [Act.put, List.setIfInBounds_toArray, List.set_cons_zero, List.set_cons_succ, i64_w, i32_w]
                rfl
              refine take_ (i := 3) (N := some 21) (v := ?_) (a' := ?_) #[true, true, true, true, true, false, false, false, true, false, true, false, false, false, false] rfl rfl (take_ofW HT_.out HW_.out (by kernel_rfl)) (fun _ _ _ h => h) (Or.inl ⟨by rfl, ?_⟩) hHeld ?_ ?_
              rotate_left
              · rintro w' ⟨s0, s1, s2, s3, s4, s5, s6, s7, s8, s9, s10, s11, s12, s13, s14⟩
                go_simp
                with_reducible rfl
              rotate_left
              · simp only [Act.put, List.setIfInBounds_toArray, List.set_cons_zero, List.set_cons_succ, i64_w, i32_w]
                rfl
              refine pure_ (i := 5) (N := some 23) (v := ?_) (a' := ?_) #[true, true, true, true, true, true, false, false, true, false, true, false, false, false, false] rfl rfl (any_of HT_.out (by kernel_rfl)) (fun _ _ _ h => h) (Or.inl ⟨by rfl, ?_⟩) ?_ ?_
              rotate_left
              · intro w'
                go_simp
                with_reducible rfl
              rotate_left
              · simp only [Act.put, List.setIfInBounds_toArray, List.set_cons_zero, List.set_cons_succ, i64_w, i32_w]
                rfl
              refine take_ (i := 6) (N := some 24) (v := ?_) (a' := ?_) #[true, true, true, true, true, true, true, false, true, false, true, false, false, false, false] rfl rfl (take_ofW HT_.out HW_.out (by kernel_rfl)) (fun _ _ _ h => h) (Or.inl ⟨by rfl, ?_⟩) hHeld ?_ ?_
              rotate_left
              · rintro w' ⟨s0, s1, s2, s3, s4, s5, s6, s7, s8, s9, s10, s11, s12, s13, s14⟩
                go_simp
                with_reducible rfl
              rotate_left
              · simp only [Act.put, List.setIfInBounds_toArray, List.set_cons_zero, List.set_cons_succ, i64_w, i32_w]
                rfl
              refine take_ (i := 9) (N := some 27) (v := ?_) (a' := ?_) #[true, true, true, true, true, true, true, false, true, true, true, false, false, false, false] rfl rfl (take_ofW HT_.out HW_.out (by kernel_rfl)) (fun _ _ _ h => h) (Or.inl ⟨by rfl, ?_⟩) hHeld ?_ ?_
              rotate_left
              · rintro w' ⟨s0, s1, s2, s3, s4, s5, s6, s7, s8, s9, s10, s11, s12, s13, s14⟩
                go_simp
                with_reducible rfl
              rotate_left
              · simp only [Act.put, List.setIfInBounds_toArray, List.set_cons_zero, List.set_cons_succ, i64_w, i32_w]
                rfl
              refine pure_ (i := 11) (N := some 29) (v := ?_) (a' := ?_) #[true, true, true, true, true, true, true, false, true, true, true, true, false, false, false] rfl rfl (any_of HT_.out (by kernel_rfl)) (fun _ _ _ h => h) (Or.inl ⟨by rfl, ?_⟩) ?_ ?_
              rotate_left
              · intro w'
                go_simp
                with_reducible rfl
              rotate_left
              · simp only [Act.put, List.setIfInBounds_toArray, List.set_cons_zero, List.set_cons_succ, i64_w, i32_w]
                rfl
              refine pure_ (i := 12) (N := some 30) (v := ?_) (a' := ?_) #[true, true, true, true, true, true, true, false, true, true, true, true, true, false, false] rfl rfl (any_of HT_.out (by kernel_rfl)) (fun _ _ _ h => h) (Or.inl ⟨by rfl, ?_⟩) ?_ ?_
              rotate_left
              · intro w'
                go_simp
                with_reducible rfl
              rotate_left
              · simp only [Act.put, List.setIfInBounds_toArray, List.set_cons_zero, List.set_cons_succ, i64_w, i32_w]
                rfl
              refine take_ (i := 13) (N := some 31) (v := ?_) (a' := ?_) #[true, true, true, true, true, true, true, false, true, true, true, true, true, true, false] rfl rfl (take_ofW HT_.out HW_.out (by kernel_rfl)) (fun _ _ _ h => h) (Or.inl ⟨by rfl, ?_⟩) hHeld ?_ ?_
              rotate_left
              · rintro w' ⟨s0, s1, s2, s3, s4, s5, s6, s7, s8, s9, s10, s11, s12, s13, s14⟩
                go_simp
                with_reducible rfl
              rotate_left
              · simp only [Act.put, List.setIfInBounds_toArray, List.set_cons_zero, List.set_cons_succ, i64_w, i32_w]
                rfl
              refine one_ (i := 7) (N := some 25) #[true, true, true, true, true, true, true, true, true, true, true, true, true, true, false] rfl rfl (one_of HT_.out (by kernel_rfl)) (by decide) (fun K hK => ?_)
              refine goes_ Try.func67 (by kernel_rfl) rfl #[.agg #[.int .i64 a0_0, .slice A0_1 l0_1.length c0_1, .slice (some ad297) l0_2.length c0_2], .slice A1 l1.length c1, .agg #[.int .i64 ((rd_T30 l0_2 x6_1).f0), .int .i64 ((rd_T30 l0_2 x6_1).f1), .int .i64 ((rd_T30 l0_2 x6_1).f2), .int .i64 ((rd_T30 l0_2 x6_1).f3), .int .i64 ((rd_T30 l0_2 x6_1).f4), .int .i64 ((rd_T30 l0_2 x6_1).f5)]] (by rfl) rfl rfl (by (try simp only [List.map_toArray, List.map_cons, List.map_nil]); first | done | rfl | (simp only [List.length_drop, List.length_take]; rfl)) ?_
              with_reducible refine (railplanref11_Lasts.calls a0_0 _ _ l0_1 _ _ l0_2 _ _ l1 ((rd_T30 l0_2 x6_1).f0) ((rd_T30 l0_2 x6_1).f1) ((rd_T30 l0_2 x6_1).f2) ((rd_T30 l0_2 x6_1).f3) ((rd_T30 l0_2 x6_1).f4) ((rd_T30 l0_2 x6_1).f5) t298 _ ?side1 ?side2 ?side3 ?side4 ?side5 ?side6 A10.out).mono ?_
              (case side1 => repeat (first | exact (Kd.C_below HR0_1.out HB.out) | (with_reducible refine Kd.C_alloc ?_ _) | (with_reducible refine Kd.C_drewN ?_ _) | (with_reducible refine Kd.C_drew ?_)))
              (case side2 => exact HC0_1.out)
              (case side3 => repeat (first | exact (Kd.C_below HR0_2.out HB.out) | (with_reducible refine Kd.C_alloc ?_ _) | (with_reducible refine Kd.C_drewN ?_ _) | (with_reducible refine Kd.C_drew ?_)))
              (case side4 => exact HC0_2.out)
              (case side5 => repeat (first | exact (Kd.C_below HR1.out HB.out) | (with_reducible refine Kd.C_alloc ?_ _) | (with_reducible refine Kd.C_drewN ?_ _) | (with_reducible refine Kd.C_drew ?_)))
              (case side6 => exact HC1.out)
              rintro e w14 ⟨rfl, hb⟩
              refine ⟨_, rfl, ?_⟩
              have n0_ := Aside0.mk (blk_below (g := gb295) (o := .cells #[.int .i64 a0_0, .slice A0_1 l0_1.length c0_1, .slice (some ad297) l0_2.length c0_2] 25 (0, 0)) (by (with_reducible repeat (first | refine blk_drewN ?_ _ | refine blk_drew ?_ | refine blk_alloc ?_ _)); exact BK295.out) hb)
              have n1_ := Aside0.mk (below_step (by repeat (first | (with_reducible first | exact HB.out | apply below_alloc | apply pw_below_drewN | apply below_drew1 | refine below_set ?_ GE295.out) | exact HB.out)) hb)
              clear BK295
              clear HB
              have BK295 := n0_
              have HB := n1_
              clear n0_ n1_
              (try clear hb)
              (try clear hb2)
              (try clear hk)
              (try clear hi)
              refine hK.out _ _ ⟨(blk_cell BK295.out 0).trans rfl, (blk_cell BK295.out 1).trans rfl, (blk_cell BK295.out 2).trans rfl, ((HB.out.cell (World.block_lt_of_cell? w _ hw297_0)).trans hw297_0), ((HB.out.cell (World.block_lt_of_cell? w _ hw297_1)).trans hw297_1), ((HB.out.cell (World.block_lt_of_cell? w _ hw297_2)).trans hw297_2), ((HB.out.cell (World.block_lt_of_cell? w _ hw297_3)).trans hw297_3), ((HB.out.cell (World.block_lt_of_cell? w _ hw297_4)).trans hw297_4), ((HB.out.cell (World.block_lt_of_cell? w _ hw297_5)).trans hw297_5), ((HB.out.cell (World.block_lt_of_cell? w _ hw299_0)).trans hw299_0), ((HB.out.cell (World.block_lt_of_cell? w _ hw299_1)).trans hw299_1), ((HB.out.cell (World.block_lt_of_cell? w _ hw299_2)).trans hw299_2), ((HB.out.cell (World.block_lt_of_cell? w _ hw299_3)).trans hw299_3), ((HB.out.cell (World.block_lt_of_cell? w _ hw299_4)).trans hw299_4), ((HB.out.cell (World.block_lt_of_cell? w _ hw299_5)).trans hw299_5)⟩ (fun hHeld => ?_)
              clear hK K
              refine norm_ (a' := ?_) ?_ ?_
              rotate_left
              · show Act.put _ (some 25) _ = _
                simp only [Act.put, List.setIfInBounds_toArray, List.set_cons_zero, List.set_cons_succ, i64_w, i32_w]
                rfl
              refine pure_ (i := 14) (N := some 32) (v := ?_) (a' := ?_) #[true, true, true, true, true, true, true, true, true, true, true, true, true, true, true] rfl rfl (any_of HT_.out (by kernel_rfl)) (fun _ _ _ h => h) (Or.inl ⟨by rfl, ?_⟩) ?_ ?_
              rotate_left
              · intro w'
                go_simp
                with_reducible rfl
              rotate_left
              · simp only [Act.put, List.setIfInBounds_toArray, List.set_cons_zero, List.set_cons_succ, i64_w, i32_w]
                rfl
              refine done_ (done_of HT_.out (by kernel_rfl)) ?_
              try go_wp2
              go_ret2
              exact ⟨by first | rfl | (simp [errW_none, errW_some] <;> rfl) | (simp [*, errW_none, errW_some] <;> rfl), by repeat (first | (with_reducible first | exact HB.out | apply below_alloc | apply pw_below_drewN | apply below_drew1 | refine below_set ?_ GE295.out) | exact HB.out)⟩
            · rw [if_neg c11] at H
              have c11b0 : decide (((rd_T30 l0_2 x6_1).f4) < t298) = false := decide_eq_false c11
              clear c11
              have H' := Aside0.mk H
              clear H
              have hcz15_0 : wr.cell? ⟨gb295, 0, none⟩ = some (.int .i64 a0_0) := (blk_cell BK295.out 0).trans rfl
              have hcz15_1 : wr.cell? ⟨gb295, 1, none⟩ = some (.slice A0_1 l0_1.length c0_1) := (blk_cell BK295.out 1).trans rfl
              have hcz15_2 : wr.cell? ⟨gb295, 2, none⟩ = some (.slice A0_2 l0_2.length c0_2) := (blk_cell BK295.out 2).trans rfl
              have hfz15_0 := blk_frozen BK295.out 0
              have hfz15_1 := blk_frozen BK295.out 1
              have hfz15_2 := blk_frozen BK295.out 2
              try go_wp2
              have n0_ := Aside0.mk (blk_drew BK295.out)
              have n1_ := Aside0.mk (below_drew1 HB.out)
              clear BK295
              clear HB
              have BK295 := n0_
              have HB := n1_
              clear n0_ n1_
              have p297 : 0 ≤ (x6_1 : Int) := of_decide_eq_true (by first | (with_reducible assumption) | assumption)
              have q297 : x6_1 < (l0_2.length : Int) := of_decide_eq_true (by first | (with_reducible assumption) | assumption)
              obtain ⟨ad297, e297, hx297_0, hx297_1, hx297_2, hx297_3, hx297_4, hx297_5⟩ := at_T30 HR0_2.out x6_1 p297 q297
              have hw297_5 := hx297_5
              have hw297_4 := hx297_4
              have hw297_3 := hx297_3
              have hw297_2 := hx297_2
              have hw297_1 := hx297_1
              have hw297_0 := hx297_0
              cases e297
              replace hx297_0 := (HB.out.cell (World.block_lt_of_cell? w _ hx297_0)).trans hx297_0
              replace hx297_1 := (HB.out.cell (World.block_lt_of_cell? w _ hx297_1)).trans hx297_1
              replace hx297_2 := (HB.out.cell (World.block_lt_of_cell? w _ hx297_2)).trans hx297_2
              replace hx297_3 := (HB.out.cell (World.block_lt_of_cell? w _ hx297_3)).trans hx297_3
              replace hx297_4 := (HB.out.cell (World.block_lt_of_cell? w _ hx297_4)).trans hx297_4
              replace hx297_5 := (HB.out.cell (World.block_lt_of_cell? w _ hx297_5)).trans hx297_5
              replace p297 := eq_true p297
              replace q297 := eq_true q297
              have p299 : 0 ≤ (x6_1 : Int) := of_decide_eq_true (by first | (with_reducible assumption) | assumption)
              have q299 : x6_1 < (l0_2.length : Int) := of_decide_eq_true (by first | (with_reducible assumption) | assumption)
              obtain ⟨ad299, e299, hx299_0, hx299_1, hx299_2, hx299_3, hx299_4, hx299_5⟩ := at_T30 HR0_2.out x6_1 p299 q299
              have hw299_5 := hx299_5
              have hw299_4 := hx299_4
              have hw299_3 := hx299_3
              have hw299_2 := hx299_2
              have hw299_1 := hx299_1
              have hw299_0 := hx299_0
              obtain rfl : ad297 = ad299 := (by injection e299)
              replace hx299_0 := (HB.out.cell (World.block_lt_of_cell? w _ hx299_0)).trans hx299_0
              replace hx299_1 := (HB.out.cell (World.block_lt_of_cell? w _ hx299_1)).trans hx299_1
              replace hx299_2 := (HB.out.cell (World.block_lt_of_cell? w _ hx299_2)).trans hx299_2
              replace hx299_3 := (HB.out.cell (World.block_lt_of_cell? w _ hx299_3)).trans hx299_3
              replace hx299_4 := (HB.out.cell (World.block_lt_of_cell? w _ hx299_4)).trans hx299_4
              replace hx299_5 := (HB.out.cell (World.block_lt_of_cell? w _ hx299_5)).trans hx299_5
              replace p299 := eq_true p299
              replace q299 := eq_true q299
              refine start_ (n := 15) (S := fun w' => w'.cell? ⟨gb295, 0, none⟩ = some (.int .i64 a0_0) ∧ w'.cell? ⟨gb295, 1, none⟩ = some (.slice A0_1 l0_1.length c0_1) ∧ w'.cell? ⟨gb295, 2, none⟩ = some (.slice (some ad297) l0_2.length c0_2) ∧ w'.cell? (ad297.add ((x6_1).toNat * 6)) = some (.int .i64 ((rd_T30 l0_2 x6_1).f0)) ∧ w'.cell? ⟨(ad297.add ((x6_1).toNat * 6)).block, (ad297.add ((x6_1).toNat * 6)).off + 1, none⟩ = some (.int .i64 ((rd_T30 l0_2 x6_1).f1)) ∧ w'.cell? ⟨(ad297.add ((x6_1).toNat * 6)).block, (ad297.add ((x6_1).toNat * 6)).off + 2, none⟩ = some (.int .i64 ((rd_T30 l0_2 x6_1).f2)) ∧ w'.cell? ⟨(ad297.add ((x6_1).toNat * 6)).block, (ad297.add ((x6_1).toNat * 6)).off + 3, none⟩ = some (.int .i64 ((rd_T30 l0_2 x6_1).f3)) ∧ w'.cell? ⟨(ad297.add ((x6_1).toNat * 6)).block, (ad297.add ((x6_1).toNat * 6)).off + 4, none⟩ = some (.int .i64 ((rd_T30 l0_2 x6_1).f4)) ∧ w'.cell? ⟨(ad297.add ((x6_1).toNat * 6)).block, (ad297.add ((x6_1).toNat * 6)).off + 5, none⟩ = some (.int .i64 ((rd_T30 l0_2 x6_1).f5)) ∧ w'.cell? (ad297.add ((x6_1).toNat * 6)) = some (.int .i64 ((rd_T30 l0_2 x6_1).f0)) ∧ w'.cell? ⟨(ad297.add ((x6_1).toNat * 6)).block, (ad297.add ((x6_1).toNat * 6)).off + 1, none⟩ = some (.int .i64 ((rd_T30 l0_2 x6_1).f1)) ∧ w'.cell? ⟨(ad297.add ((x6_1).toNat * 6)).block, (ad297.add ((x6_1).toNat * 6)).off + 2, none⟩ = some (.int .i64 ((rd_T30 l0_2 x6_1).f2)) ∧ w'.cell? ⟨(ad297.add ((x6_1).toNat * 6)).block, (ad297.add ((x6_1).toNat * 6)).off + 3, none⟩ = some (.int .i64 ((rd_T30 l0_2 x6_1).f3)) ∧ w'.cell? ⟨(ad297.add ((x6_1).toNat * 6)).block, (ad297.add ((x6_1).toNat * 6)).off + 4, none⟩ = some (.int .i64 ((rd_T30 l0_2 x6_1).f4)) ∧ w'.cell? ⟨(ad297.add ((x6_1).toNat * 6)).block, (ad297.add ((x6_1).toNat * 6)).off + 5, none⟩ = some (.int .i64 ((rd_T30 l0_2 x6_1).f5))) (ds := []) #[false, false, false, false, false, false, false, false, false, false, false, false, false, false, false] (by kernel_rfl) rfl rfl ⟨(blk_cell BK295.out 0).trans rfl, (blk_cell BK295.out 1).trans rfl, (blk_cell BK295.out 2).trans rfl, ((HB.out.cell (World.block_lt_of_cell? w _ hw297_0)).trans hw297_0), ((HB.out.cell (World.block_lt_of_cell? w _ hw297_1)).trans hw297_1), ((HB.out.cell (World.block_lt_of_cell? w _ hw297_2)).trans hw297_2), ((HB.out.cell (World.block_lt_of_cell? w _ hw297_3)).trans hw297_3), ((HB.out.cell (World.block_lt_of_cell? w _ hw297_4)).trans hw297_4), ((HB.out.cell (World.block_lt_of_cell? w _ hw297_5)).trans hw297_5), ((HB.out.cell (World.block_lt_of_cell? w _ hw299_0)).trans hw299_0), ((HB.out.cell (World.block_lt_of_cell? w _ hw299_1)).trans hw299_1), ((HB.out.cell (World.block_lt_of_cell? w _ hw299_2)).trans hw299_2), ((HB.out.cell (World.block_lt_of_cell? w _ hw299_3)).trans hw299_3), ((HB.out.cell (World.block_lt_of_cell? w _ hw299_4)).trans hw299_4), ((HB.out.cell (World.block_lt_of_cell? w _ hw299_5)).trans hw299_5)⟩ (fun hHeld => ?_); refine with_tabW railplanref11_First.tab6 railplanref11_First.bits6 (fun HT_ HW_ => ?_)
              generalize wr.drew = w16 at BK295 HB hx297_0 hx297_1 hx297_2 hx297_3 hx297_4 hx297_5 hx299_0 hx299_1 hx299_2 hx299_3 hx299_4 hx299_5 hHeld ⊢
              refine pure_ (i := 1) (N := some 19) (v := ?_) (a' := ?_) #[false, true, false, false, false, false, false, false, false, false, false, false, false, false, false] rfl rfl (any_of HT_.out (by kernel_rfl)) (fun _ _ _ h => h) (Or.inl ⟨by rfl, ?_⟩) ?_ ?_
              rotate_left
              · intro w'
                go_simp
                with_reducible rfl
              rotate_left
              · simp only [Act.put, List.setIfInBounds_toArray, List.set_cons_zero, List.set_cons_succ, i64_w, i32_w]
                rfl
              refine pure_ (i := 2) (N := some 20) (v := ?_) (a' := ?_) #[false, true, true, false, false, false, false, false, false, false, false, false, false, false, false] rfl rfl (any_of HT_.out (by kernel_rfl)) (fun _ _ _ h => h) (Or.inl ⟨by rfl, ?_⟩) ?_ ?_
              rotate_left
              · intro w'
                go_simp
                with_reducible rfl
              rotate_left
              · simp only [Act.put, List.setIfInBounds_toArray, List.set_cons_zero, List.set_cons_succ, i64_w, i32_w]
                rfl
              refine pure_ (i := 4) (N := some 22) (v := ?_) (a' := ?_) #[false, true, true, false, true, false, false, false, false, false, false, false, false, false, false] rfl rfl (any_of HT_.out (by kernel_rfl)) (fun _ _ _ h => h) (Or.inl ⟨by rfl, ?_⟩) ?_ ?_
              rotate_left
              · intro w'
                go_simp
                with_reducible rfl
              rotate_left
              · simp only [Act.put, List.setIfInBounds_toArray, List.set_cons_zero, List.set_cons_succ, i64_w, i32_w]
                rfl
              refine pure_ (i := 8) (N := some 26) (v := ?_) (a' := ?_) #[false, true, true, false, true, false, false, false, true, false, false, false, false, false, false] rfl rfl (any_of HT_.out (by kernel_rfl)) (fun _ _ _ h => h) (Or.inl ⟨by rfl, ?_⟩) ?_ ?_
              rotate_left
              · intro w'
                go_simp
                with_reducible rfl
              rotate_left
              · simp only [Act.put, List.setIfInBounds_toArray, List.set_cons_zero, List.set_cons_succ, i64_w, i32_w]
                rfl
              refine pure_ (i := 10) (N := some 28) (v := ?_) (a' := ?_) #[false, true, true, false, true, false, false, false, true, false, true, false, false, false, false] rfl rfl (any_of HT_.out (by kernel_rfl)) (fun _ _ _ h => h) (Or.inl ⟨by rfl, ?_⟩) ?_ ?_
              rotate_left
              · intro w'
                go_simp
                with_reducible rfl
              rotate_left
              · simp only [Act.put, List.setIfInBounds_toArray, List.set_cons_zero, List.set_cons_succ, i64_w, i32_w]
                rfl
              refine take_ (i := 0) (N := some 18) (v := ?_) (a' := ?_) #[true, true, true, false, true, false, false, false, true, false, true, false, false, false, false] rfl rfl (take_ofW HT_.out HW_.out (by kernel_rfl)) (fun _ _ _ h => h) (Or.inl ⟨by rfl, ?_⟩) hHeld ?_ ?_
              rotate_left
              · rintro w' ⟨s0, s1, s2, s3, s4, s5, s6, s7, s8, s9, s10, s11, s12, s13, s14⟩
                go_simp
                with_reducible rfl
              rotate_left
              · simp only [Act.put, List.setIfInBounds_toArray, List.set_cons_zero, List.set_cons_succ, i64_w, i32_w]
                rfl
              refine take_ (i := 3) (N := some 21) (v := ?_) (a' := ?_) #[true, true, true, true, true, false, false, false, true, false, true, false, false, false, false] rfl rfl (take_ofW HT_.out HW_.out (by kernel_rfl)) (fun _ _ _ h => h) (Or.inl ⟨by rfl, ?_⟩) hHeld ?_ ?_
              rotate_left
              · rintro w' ⟨s0, s1, s2, s3, s4, s5, s6, s7, s8, s9, s10, s11, s12, s13, s14⟩
                go_simp
                with_reducible rfl
              rotate_left
              · simp only [Act.put, List.setIfInBounds_toArray, List.set_cons_zero, List.set_cons_succ, i64_w, i32_w]
                rfl
              refine pure_ (i := 5) (N := some 23) (v := ?_) (a' := ?_) #[true, true, true, true, true, true, false, false, true, false, true, false, false, false, false] rfl rfl (any_of HT_.out (by kernel_rfl)) (fun _ _ _ h => h) (Or.inl ⟨by rfl, ?_⟩) ?_ ?_
              rotate_left
              · intro w'
                go_simp
                with_reducible rfl
              rotate_left
              · simp only [Act.put, List.setIfInBounds_toArray, List.set_cons_zero, List.set_cons_succ, i64_w, i32_w]
                rfl
              refine take_ (i := 6) (N := some 24) (v := ?_) (a' := ?_) #[true, true, true, true, true, true, true, false, true, false, true, false, false, false, false] rfl rfl (take_ofW HT_.out HW_.out (by kernel_rfl)) (fun _ _ _ h => h) (Or.inl ⟨by rfl, ?_⟩) hHeld ?_ ?_
              rotate_left
              · rintro w' ⟨s0, s1, s2, s3, s4, s5, s6, s7, s8, s9, s10, s11, s12, s13, s14⟩
                go_simp
                with_reducible rfl
              rotate_left
              · simp only [Act.put, List.setIfInBounds_toArray, List.set_cons_zero, List.set_cons_succ, i64_w, i32_w]
                rfl
              refine take_ (i := 9) (N := some 27) (v := ?_) (a' := ?_) #[true, true, true, true, true, true, true, false, true, true, true, false, false, false, false] rfl rfl (take_ofW HT_.out HW_.out (by kernel_rfl)) (fun _ _ _ h => h) (Or.inl ⟨by rfl, ?_⟩) hHeld ?_ ?_
              rotate_left
              · rintro w' ⟨s0, s1, s2, s3, s4, s5, s6, s7, s8, s9, s10, s11, s12, s13, s14⟩
                go_simp
                with_reducible rfl
              rotate_left
              · simp only [Act.put, List.setIfInBounds_toArray, List.set_cons_zero, List.set_cons_succ, i64_w, i32_w]
                rfl
              refine pure_ (i := 11) (N := some 29) (v := ?_) (a' := ?_) #[true, true, true, true, true, true, true, false, true, true, true, true, false, false, false] rfl rfl (any_of HT_.out (by kernel_rfl)) (fun _ _ _ h => h) (Or.inl ⟨by rfl, ?_⟩) ?_ ?_
              rotate_left
              · intro w'
                go_simp
                with_reducible rfl
              rotate_left
              · simp only [Act.put, List.setIfInBounds_toArray, List.set_cons_zero, List.set_cons_succ, i64_w, i32_w]
                rfl
              refine pure_ (i := 12) (N := some 30) (v := ?_) (a' := ?_) #[true, true, true, true, true, true, true, false, true, true, true, true, true, false, false] rfl rfl (any_of HT_.out (by kernel_rfl)) (fun _ _ _ h => h) (Or.inl ⟨by rfl, ?_⟩) ?_ ?_
              rotate_left
              · intro w'
                go_simp
                with_reducible rfl
              rotate_left
              · simp only [Act.put, List.setIfInBounds_toArray, List.set_cons_zero, List.set_cons_succ, i64_w, i32_w]
                rfl
              refine take_ (i := 13) (N := some 31) (v := ?_) (a' := ?_) #[true, true, true, true, true, true, true, false, true, true, true, true, true, true, false] rfl rfl (take_ofW HT_.out HW_.out (by kernel_rfl)) (fun _ _ _ h => h) (Or.inl ⟨by rfl, ?_⟩) hHeld ?_ ?_
              rotate_left
              · rintro w' ⟨s0, s1, s2, s3, s4, s5, s6, s7, s8, s9, s10, s11, s12, s13, s14⟩
                go_simp
                with_reducible rfl
              rotate_left
              · simp only [Act.put, List.setIfInBounds_toArray, List.set_cons_zero, List.set_cons_succ, i64_w, i32_w]
                rfl
              refine one_ (i := 7) (N := some 25) #[true, true, true, true, true, true, true, true, true, true, true, true, true, true, false] rfl rfl (one_of HT_.out (by kernel_rfl)) (by decide) (fun K hK => ?_)
              refine goes_ Try.func67 (by kernel_rfl) rfl #[.agg #[.int .i64 a0_0, .slice A0_1 l0_1.length c0_1, .slice (some ad297) l0_2.length c0_2], .slice A1 l1.length c1, .agg #[.int .i64 ((rd_T30 l0_2 x6_1).f0), .int .i64 ((rd_T30 l0_2 x6_1).f1), .int .i64 ((rd_T30 l0_2 x6_1).f2), .int .i64 ((rd_T30 l0_2 x6_1).f3), .int .i64 ((rd_T30 l0_2 x6_1).f4), .int .i64 ((rd_T30 l0_2 x6_1).f5)]] (by rfl) rfl rfl (by (try simp only [List.map_toArray, List.map_cons, List.map_nil]); first | done | rfl | (simp only [List.length_drop, List.length_take]; rfl)) ?_
              with_reducible refine (railplanref11_Lasts.calls a0_0 _ _ l0_1 _ _ l0_2 _ _ l1 ((rd_T30 l0_2 x6_1).f0) ((rd_T30 l0_2 x6_1).f1) ((rd_T30 l0_2 x6_1).f2) ((rd_T30 l0_2 x6_1).f3) ((rd_T30 l0_2 x6_1).f4) ((rd_T30 l0_2 x6_1).f5) t298 _ ?side1 ?side2 ?side3 ?side4 ?side5 ?side6 A10.out).mono ?_
              (case side1 => repeat (first | exact (Kd.C_below HR0_1.out HB.out) | (with_reducible refine Kd.C_alloc ?_ _) | (with_reducible refine Kd.C_drewN ?_ _) | (with_reducible refine Kd.C_drew ?_)))
              (case side2 => exact HC0_1.out)
              (case side3 => repeat (first | exact (Kd.C_below HR0_2.out HB.out) | (with_reducible refine Kd.C_alloc ?_ _) | (with_reducible refine Kd.C_drewN ?_ _) | (with_reducible refine Kd.C_drew ?_)))
              (case side4 => exact HC0_2.out)
              (case side5 => repeat (first | exact (Kd.C_below HR1.out HB.out) | (with_reducible refine Kd.C_alloc ?_ _) | (with_reducible refine Kd.C_drewN ?_ _) | (with_reducible refine Kd.C_drew ?_)))
              (case side6 => exact HC1.out)
              rintro e w17 ⟨rfl, hb⟩
              refine ⟨_, rfl, ?_⟩
              have n0_ := Aside0.mk (blk_below (g := gb295) (o := .cells #[.int .i64 a0_0, .slice A0_1 l0_1.length c0_1, .slice (some ad297) l0_2.length c0_2] 25 (0, 0)) (by (with_reducible repeat (first | refine blk_drewN ?_ _ | refine blk_drew ?_ | refine blk_alloc ?_ _)); exact BK295.out) hb)
              have n1_ := Aside0.mk (below_step (by repeat (first | (with_reducible first | exact HB.out | apply below_alloc | apply pw_below_drewN | apply below_drew1 | refine below_set ?_ GE295.out) | exact HB.out)) hb)
              clear BK295
              clear HB
              have BK295 := n0_
              have HB := n1_
              clear n0_ n1_
              (try clear hb)
              (try clear hb2)
              (try clear hk)
              (try clear hi)
              refine hK.out _ _ ⟨(blk_cell BK295.out 0).trans rfl, (blk_cell BK295.out 1).trans rfl, (blk_cell BK295.out 2).trans rfl, ((HB.out.cell (World.block_lt_of_cell? w _ hw297_0)).trans hw297_0), ((HB.out.cell (World.block_lt_of_cell? w _ hw297_1)).trans hw297_1), ((HB.out.cell (World.block_lt_of_cell? w _ hw297_2)).trans hw297_2), ((HB.out.cell (World.block_lt_of_cell? w _ hw297_3)).trans hw297_3), ((HB.out.cell (World.block_lt_of_cell? w _ hw297_4)).trans hw297_4), ((HB.out.cell (World.block_lt_of_cell? w _ hw297_5)).trans hw297_5), ((HB.out.cell (World.block_lt_of_cell? w _ hw299_0)).trans hw299_0), ((HB.out.cell (World.block_lt_of_cell? w _ hw299_1)).trans hw299_1), ((HB.out.cell (World.block_lt_of_cell? w _ hw299_2)).trans hw299_2), ((HB.out.cell (World.block_lt_of_cell? w _ hw299_3)).trans hw299_3), ((HB.out.cell (World.block_lt_of_cell? w _ hw299_4)).trans hw299_4), ((HB.out.cell (World.block_lt_of_cell? w _ hw299_5)).trans hw299_5)⟩ (fun hHeld => ?_)
              clear hK K
              refine norm_ (a' := ?_) ?_ ?_
              rotate_left
              · show Act.put _ (some 25) _ = _
                simp only [Act.put, List.setIfInBounds_toArray, List.set_cons_zero, List.set_cons_succ, i64_w, i32_w]
                rfl
              refine pure_ (i := 14) (N := some 32) (v := ?_) (a' := ?_) #[true, true, true, true, true, true, true, true, true, true, true, true, true, true, true] rfl rfl (any_of HT_.out (by kernel_rfl)) (fun _ _ _ h => h) (Or.inl ⟨by rfl, ?_⟩) ?_ ?_
              rotate_left
              · intro w'
                go_simp
                with_reducible rfl
              rotate_left
              · simp only [Act.put, List.setIfInBounds_toArray, List.set_cons_zero, List.set_cons_succ, i64_w, i32_w]
                rfl
              refine done_ (done_of HT_.out (by kernel_rfl)) ?_
              try go_wp2
              go_roundg k1
              case measure => have := HK1.out; omega
              case rel => exact ⟨(wrap64 (x6_1 + 1)), (by first | rfl | (simp; done) | (simp [*]; done)), H', ⟨by have := HK1.out; omega⟩, ⟨by (with_reducible repeat (first | refine blk_drewN ?_ _ | refine blk_drew ?_ | refine blk_alloc ?_ _)); exact BK295.out⟩, ⟨by repeat (first | (with_reducible first | exact HB.out | apply below_alloc | apply pw_below_drewN | apply below_drew1 | refine below_set ?_ GE295.out) | exact HB.out)⟩⟩
          · rw [if_neg c9] at H
            exact absurd H (by simp)
        · rw [if_neg c8] at H
          have c8b0 : decide (x6_1 < (l0_2.length : Int)) = false := decide_eq_false c8
          clear c8
          simp only [Option.some.injEq, Prod.mk.injEq] at H
          obtain ⟨rfl, rfl⟩ := H
          have hcz18_0 : wr.cell? ⟨gb295, 0, none⟩ = some (.int .i64 a0_0) := (blk_cell BK295.out 0).trans rfl
          have hcz18_1 : wr.cell? ⟨gb295, 1, none⟩ = some (.slice A0_1 l0_1.length c0_1) := (blk_cell BK295.out 1).trans rfl
          have hcz18_2 : wr.cell? ⟨gb295, 2, none⟩ = some (.slice A0_2 l0_2.length c0_2) := (blk_cell BK295.out 2).trans rfl
          have hfz18_0 := blk_frozen BK295.out 0
          have hfz18_1 := blk_frozen BK295.out 1
          have hfz18_2 := blk_frozen BK295.out 2
          go_wp2
          go_ret2
          exact ⟨by first | rfl | (simp [errW_none, errW_some] <;> rfl) | (simp [*, errW_none, errW_some] <;> rfl), by repeat (first | (with_reducible first | exact HB.out | apply below_alloc | apply pw_below_drewN | apply below_drew1 | refine below_set ?_ GE295.out) | exact HB.out)⟩
  · replace c4 := Bool.eq_false_iff.mpr c4
    subst c4
    have H1 : (some (0, false)) = some (r1, r2) := by rw [if_neg (show ¬ (false = true) by decide)] at H; exact H
    clear H
    have H := H1
    clear H1
    simp only [Option.some.injEq, Prod.mk.injEq] at H
    obtain ⟨rfl, rfl⟩ := H
    go_enter Try.func46, Try.ntmps46
    go_wp2_with (first | ((with_reducible refine gate_dst (N := 2) rfl ?_); refine box_event ?hg (N := 2) ?hd (cs := #[.int .i64 a0_0, .slice A0_1 l0_1.length c0_1, .slice A0_2 l0_2.length c0_2]) (t := 25) ?hr ?_; (case hd => rfl); (case hg => rfl); (case hr => first | (go_simp; done) | (go_simp; rfl)); intro gb295 hg w19 hbox hb; have n0_ := Aside0.mk (below_step (by repeat (first | (with_reducible first | exact HB.out | apply below_alloc | apply pw_below_drewN | apply below_drew1) | exact HB.out)) hb); have n1_ := Aside0.mk (hbox); have n2_ := Aside0.mk ((by rw [hg]; exact (below_size (by repeat (first | (with_reducible first | exact HB.out | apply below_alloc | apply pw_below_drewN | apply below_drew1) | exact HB.out))) : w.heap.size ≤ gb295)); have n3_ := Aside0.mk ((by rw [hg]; exact (below_size (by repeat (first | (with_reducible first | exact HB.out | apply below_alloc | apply pw_below_drewN | apply below_drew1) | exact HB.out))) : w.heap.size ≤ gb295)); clear HB; have HB := n0_; have BK295 := n1_; have GW295 := n2_; have GE295 := n3_; clear n0_ n1_ n2_ n3_; clear hb hbox hg; have hcz20_0 : w19.cell? ⟨gb295, 0, none⟩ = some (.int .i64 a0_0) := (blk_cell BK295.out 0).trans rfl; have hcz20_1 : w19.cell? ⟨gb295, 1, none⟩ = some (.slice A0_1 l0_1.length c0_1) := (blk_cell BK295.out 1).trans rfl; have hcz20_2 : w19.cell? ⟨gb295, 2, none⟩ = some (.slice A0_2 l0_2.length c0_2) := (blk_cell BK295.out 2).trans rfl; have hfz20_0 := blk_frozen BK295.out 0; have hfz20_1 := blk_frozen BK295.out 1; have hfz20_2 := blk_frozen BK295.out 2) | ((with_reducible refine gate_callee (f := 47) rfl ?_); refine goesL_ (some 9) rfl rfl Try.func47 (by kernel_rfl) rfl #[.agg #[.int .i64 a0_0, .slice A0_1 l0_1.length c0_1, .slice A0_2 l0_2.length c0_2], .slice A1 l1.length c1] rfl (by (try simp only [List.map_toArray, List.map_cons, List.map_nil]); first | done | rfl | (simp only [List.length_drop, List.length_take]; rfl)) ?_; (with_reducible refine (railplanref11_Good.calls k a0_0 _ _ l0_1 _ _ l0_2 _ _ l1 false _ ?side1 ?side2 ?side3 ?side4 ?side5 ?side6 A3.out).mono ?_); (case side1 => repeat (first | exact (Kd.C_below HR0_1.out HB.out) | (with_reducible refine Kd.C_alloc ?_ _) | (with_reducible refine Kd.C_drewN ?_ _) | (with_reducible refine Kd.C_drew ?_))); (case side2 => exact HC0_1.out); (case side3 => repeat (first | exact (Kd.C_below HR0_2.out HB.out) | (with_reducible refine Kd.C_alloc ?_ _) | (with_reducible refine Kd.C_drewN ?_ _) | (with_reducible refine Kd.C_drew ?_))); (case side4 => exact HC0_2.out); (case side5 => repeat (first | exact (Kd.C_below HR1.out HB.out) | (with_reducible refine Kd.C_alloc ?_ _) | (with_reducible refine Kd.C_drewN ?_ _) | (with_reducible refine Kd.C_drew ?_))); (case side6 => exact HC1.out); rintro e w21 ⟨rfl, hb⟩; refine ⟨_, rfl, ?_⟩; have n0_ := Aside0.mk (blk_below (g := gb295) (o := .cells #[.int .i64 a0_0, .slice A0_1 l0_1.length c0_1, .slice A0_2 l0_2.length c0_2] 25 (0, 0)) (by (with_reducible repeat (first | refine blk_drewN ?_ _ | refine blk_drew ?_ | refine blk_alloc ?_ _)); exact BK295.out) hb); have n1_ := Aside0.mk (below_step (by repeat (first | (with_reducible first | exact HB.out | apply below_alloc | apply pw_below_drewN | apply below_drew1 | refine below_set ?_ GE295.out) | exact HB.out)) hb); clear BK295; clear HB; have BK295 := n0_; have HB := n1_; clear n0_ n1_; (try clear hb); (try clear hb2); (try clear hk); (try clear hi)))
    go_ret2
    exact ⟨by first | rfl | (simp [errW_none, errW_some] <;> rfl) | (simp [*, errW_none, errW_some] <;> rfl), by repeat (first | (with_reducible first | exact HB.out | apply below_alloc | apply pw_below_drewN | apply below_drew1 | refine below_set ?_ GE295.out) | exact HB.out)⟩

end Go.Proofs.Ytkbcgahpekmlbaa.PPg

namespace Go.Proofs.Ytkbcgahpekmlbaa.PPg
open Go.RowKit Go.Proofs.YtkbcgahpekmlbaaW.PrintWords Go.Proofs.YtkbcgahpekmlbaaW.PrintLast Go.Proofs.YtkbcgahpekmlbaaW.PrintMore
attribute [local go_sem] max2_int min2_int max_two min_two max_three min_three max_four min_four   -- for this text's walks alone
set_option linter.unusedVariables false
set_option linter.unusedSimpArgs false

/-! ### railplanref11_Feasible: function 27 -/
def railplanref11_Feasible.f (k : Nat) (a0_0 : Int) (l0_1 : List (S65)) (l0_2 : List (S30)) (l1 : List Int) : Option (Bool) := (railplanref11_First.f k a0_0 l0_1 l0_2 l1).bind fun bt301 => ((railplanref11_Good.f k a0_0 l0_1 l0_2 l1).bind fun t303 => (if t303 = true then (some (!bt301.2)) else (some false)))
theorem railplanref11_Feasible.mono : ∀ a0 a1 a2 a3 k, LeO (railplanref11_Feasible.f k a0 a1 a2 a3) (railplanref11_Feasible.f (k + 1) a0 a1 a2 a3) := by
  intro a0 a1 a2 a3 k
  unfold railplanref11_Feasible.f
  repeat' first
      | (with_reducible exact railplanref11_First.mono _ _ _ _ _)
      | (with_reducible exact railplanref11_Good.mono _ _ _ _ _)
      | (with_reducible exact LeO.refl _)
      | (with_reducible exact LeO.none _)
      | (with_reducible refine LeO.ite ?_ ?_)
      | (with_reducible refine LeO.bind ?_ (fun _ => ?_))
      | exact railplanref11_First.mono _ _ _ _ _
      | exact railplanref11_Good.mono _ _ _ _ _
      | exact LeO.none _
      | refine LeO.ite ?_ ?_
      | refine LeO.bind ?_ (fun _ => ?_)
set_option maxHeartbeats 8000000 in
set_option maxRecDepth 100000 in
theorem railplanref11_Feasible.calls (k : Nat) (a0_0 : Int) (A0_1 : Option Addr) (c0_1 : Nat) (l0_1 : List (S65)) (A0_2 : Option Addr) (c0_2 : Nat) (l0_2 : List (S30)) (A1 : Option Addr) (c1 : Nat) (l1 : List Int) (r : Bool) (w : World) (hr0_1 : Kd.C k65 w A0_1 l0_1.length l0_1) (hc0_1 : l0_1.length ≤ c0_1) (hr0_2 : Kd.C k30 w A0_2 l0_2.length l0_2) (hc0_2 : l0_2.length ≤ c0_2) (hr1 : Kd.C (Kd.int .i64) w A1 l1.length l1) (hc1 : l1.length ≤ c1) (h : railplanref11_Feasible.f k a0_0 l0_1 l0_2 l1 = some r) :
    Calls Try.prog 27 #[.agg #[.int .i64 a0_0, .slice A0_1 l0_1.length c0_1, .slice A0_2 l0_2.length c0_2], .slice A1 l1.length c1] w fun e w' => e = .returned (.bool r) ∧ Below w.heap.size w w' := by
  have hu25 := Try.underlying25
  have HR0_1 := Aside0.mk hr0_1
  have HC0_1 := Aside0.mk hc0_1
  clear hr0_1 hc0_1
  have HR0_2 := Aside0.mk hr0_2
  have HC0_2 := Aside0.mk hc0_2
  clear hr0_2 hc0_2
  have HR1 := Aside0.mk hr1
  have HC1 := Aside0.mk hc1
  clear hr1 hc1
  have HB := Aside0.mk (Below.refl w.heap.size w)
  have H : ((railplanref11_First.f k a0_0 l0_1 l0_2 l1).bind fun bt301 => ((railplanref11_Good.f k a0_0 l0_1 l0_2 l1).bind fun t303 => (if t303 = true then (some (!bt301.2)) else (some false)))) = some r := h
  clear h
  replace H := Option.bind_eq_some_iff.mp H
  obtain ⟨⟨t301, t302⟩, A30, H⟩ := H
  replace H : ((railplanref11_Good.f k a0_0 l0_1 l0_2 l1).bind fun t303 => (if t303 = true then (some (!t302)) else (some false))) = some r := H
  have A3 := Aside0.mk A30
  clear A30
  replace H := Option.bind_eq_some_iff.mp H
  obtain ⟨t303, A40, H⟩ := H
  replace H : (if t303 = true then (some (!t302)) else (some false)) = some r := H
  have A4 := Aside0.mk A40
  clear A40
  by_cases c5 : t303 = true
  · subst c5
    have H1 : (some (!t302)) = some r := by rw [if_pos rfl] at H; exact H
    clear H
    have H := H1
    clear H1
    obtain rfl := Option.some.inj H
    go_enter Try.func27, Try.ntmps27
    go_wp2_with (first | ((with_reducible refine gate_dst (N := 2) rfl ?_); refine box_event ?hg (N := 2) ?hd (cs := #[.int .i64 a0_0, .slice A0_1 l0_1.length c0_1, .slice A0_2 l0_2.length c0_2]) (t := 25) ?hr ?_; (case hd => rfl); (case hg => rfl); (case hr => first | (go_simp; done) | (go_simp; rfl)); intro gb300 hg w6 hbox hb; have n0_ := Aside0.mk (below_step (by repeat (first | (with_reducible first | exact HB.out | apply below_alloc | apply pw_below_drewN | apply below_drew1) | exact HB.out)) hb); have n1_ := Aside0.mk (hbox); have n2_ := Aside0.mk ((by rw [hg]; exact (below_size (by repeat (first | (with_reducible first | exact HB.out | apply below_alloc | apply pw_below_drewN | apply below_drew1) | exact HB.out))) : w.heap.size ≤ gb300)); have n3_ := Aside0.mk ((by rw [hg]; exact (below_size (by repeat (first | (with_reducible first | exact HB.out | apply below_alloc | apply pw_below_drewN | apply below_drew1) | exact HB.out))) : w.heap.size ≤ gb300)); clear HB; have HB := n0_; have BK300 := n1_; have GW300 := n2_; have GE300 := n3_; clear n0_ n1_ n2_ n3_; clear hb hbox hg; have hcz7_0 : w6.cell? ⟨gb300, 0, none⟩ = some (.int .i64 a0_0) := (blk_cell BK300.out 0).trans rfl; have hcz7_1 : w6.cell? ⟨gb300, 1, none⟩ = some (.slice A0_1 l0_1.length c0_1) := (blk_cell BK300.out 1).trans rfl; have hcz7_2 : w6.cell? ⟨gb300, 2, none⟩ = some (.slice A0_2 l0_2.length c0_2) := (blk_cell BK300.out 2).trans rfl; have hfz7_0 := blk_frozen BK300.out 0; have hfz7_1 := blk_frozen BK300.out 1; have hfz7_2 := blk_frozen BK300.out 2) | ((with_reducible refine gate_callee (f := 46) rfl ?_); refine goesL_ (some 10) rfl rfl Try.func46 (by kernel_rfl) rfl #[.agg #[.int .i64 a0_0, .slice A0_1 l0_1.length c0_1, .slice A0_2 l0_2.length c0_2], .slice A1 l1.length c1] rfl (by (try simp only [List.map_toArray, List.map_cons, List.map_nil]); first | done | rfl | (simp only [List.length_drop, List.length_take]; rfl)) ?_; (with_reducible refine (railplanref11_First.calls k a0_0 _ _ l0_1 _ _ l0_2 _ _ l1 t301 t302 _ ?side1 ?side2 ?side3 ?side4 ?side5 ?side6 A3.out).mono ?_); (case side1 => repeat (first | exact (Kd.C_below HR0_1.out HB.out) | (with_reducible refine Kd.C_alloc ?_ _) | (with_reducible refine Kd.C_drewN ?_ _) | (with_reducible refine Kd.C_drew ?_))); (case side2 => exact HC0_1.out); (case side3 => repeat (first | exact (Kd.C_below HR0_2.out HB.out) | (with_reducible refine Kd.C_alloc ?_ _) | (with_reducible refine Kd.C_drewN ?_ _) | (with_reducible refine Kd.C_drew ?_))); (case side4 => exact HC0_2.out); (case side5 => repeat (first | exact (Kd.C_below HR1.out HB.out) | (with_reducible refine Kd.C_alloc ?_ _) | (with_reducible refine Kd.C_drewN ?_ _) | (with_reducible refine Kd.C_drew ?_))); (case side6 => exact HC1.out); rintro e w8 ⟨rfl, hb⟩; refine ⟨_, rfl, ?_⟩; have n0_ := Aside0.mk (blk_below (g := gb300) (o := .cells #[.int .i64 a0_0, .slice A0_1 l0_1.length c0_1, .slice A0_2 l0_2.length c0_2] 25 (0, 0)) (by (with_reducible repeat (first | refine blk_drewN ?_ _ | refine blk_drew ?_ | refine blk_alloc ?_ _)); exact BK300.out) hb); have n1_ := Aside0.mk (below_step (by repeat (first | (with_reducible first | exact HB.out | apply below_alloc | apply pw_below_drewN | apply below_drew1 | refine below_set ?_ GE300.out) | exact HB.out)) hb); clear BK300; clear HB; have BK300 := n0_; have HB := n1_; clear n0_ n1_; (try clear hb); (try clear hb2); (try clear hk); (try clear hi); have hcz9_0 : w8.cell? ⟨gb300, 0, none⟩ = some (.int .i64 a0_0) := (blk_cell BK300.out 0).trans rfl; have hcz9_1 : w8.cell? ⟨gb300, 1, none⟩ = some (.slice A0_1 l0_1.length c0_1) := (blk_cell BK300.out 1).trans rfl; have hcz9_2 : w8.cell? ⟨gb300, 2, none⟩ = some (.slice A0_2 l0_2.length c0_2) := (blk_cell BK300.out 2).trans rfl; have hfz9_0 := blk_frozen BK300.out 0; have hfz9_1 := blk_frozen BK300.out 1; have hfz9_2 := blk_frozen BK300.out 2) | ((with_reducible refine gate_callee (f := 47) rfl ?_); refine goesL_ (some 15) rfl rfl Try.func47 (by kernel_rfl) rfl #[.agg #[.int .i64 a0_0, .slice A0_1 l0_1.length c0_1, .slice A0_2 l0_2.length c0_2], .slice A1 l1.length c1] rfl (by (try simp only [List.map_toArray, List.map_cons, List.map_nil]); first | done | rfl | (simp only [List.length_drop, List.length_take]; rfl)) ?_; (with_reducible refine (railplanref11_Good.calls k a0_0 _ _ l0_1 _ _ l0_2 _ _ l1 true _ ?side1 ?side2 ?side3 ?side4 ?side5 ?side6 A4.out).mono ?_); (case side1 => repeat (first | exact (Kd.C_below HR0_1.out HB.out) | (with_reducible refine Kd.C_alloc ?_ _) | (with_reducible refine Kd.C_drewN ?_ _) | (with_reducible refine Kd.C_drew ?_))); (case side2 => exact HC0_1.out); (case side3 => repeat (first | exact (Kd.C_below HR0_2.out HB.out) | (with_reducible refine Kd.C_alloc ?_ _) | (with_reducible refine Kd.C_drewN ?_ _) | (with_reducible refine Kd.C_drew ?_))); (case side4 => exact HC0_2.out); (case side5 => repeat (first | exact (Kd.C_below HR1.out HB.out) | (with_reducible refine Kd.C_alloc ?_ _) | (with_reducible refine Kd.C_drewN ?_ _) | (with_reducible refine Kd.C_drew ?_))); (case side6 => exact HC1.out); rintro e w10 ⟨rfl, hb⟩; refine ⟨_, rfl, ?_⟩; have n0_ := Aside0.mk (blk_below (g := gb300) (o := .cells #[.int .i64 a0_0, .slice A0_1 l0_1.length c0_1, .slice A0_2 l0_2.length c0_2] 25 (0, 0)) (by (with_reducible repeat (first | refine blk_drewN ?_ _ | refine blk_drew ?_ | refine blk_alloc ?_ _)); exact BK300.out) hb); have n1_ := Aside0.mk (below_step (by repeat (first | (with_reducible first | exact HB.out | apply below_alloc | apply pw_below_drewN | apply below_drew1 | refine below_set ?_ GE300.out) | exact HB.out)) hb); clear BK300; clear HB; have BK300 := n0_; have HB := n1_; clear n0_ n1_; (try clear hb); (try clear hb2); (try clear hk); (try clear hi)))
    go_ret
    exact ⟨by first | rfl | (simp [errW_none, errW_some] <;> rfl) | (simp [*, errW_none, errW_some] <;> rfl), by repeat (first | (with_reducible first | exact HB.out | apply below_alloc | apply pw_below_drewN | apply below_drew1 | refine below_set ?_ GE300.out) | exact HB.out)⟩
  · replace c5 := Bool.eq_false_iff.mpr c5
    subst c5
    have H1 : (some false) = some r := by rw [if_neg (show ¬ (false = true) by decide)] at H; exact H
    clear H
    have H := H1
    clear H1
    obtain rfl := Option.some.inj H
    go_enter Try.func27, Try.ntmps27
    go_wp2_with (first | ((with_reducible refine gate_dst (N := 2) rfl ?_); refine box_event ?hg (N := 2) ?hd (cs := #[.int .i64 a0_0, .slice A0_1 l0_1.length c0_1, .slice A0_2 l0_2.length c0_2]) (t := 25) ?hr ?_; (case hd => rfl); (case hg => rfl); (case hr => first | (go_simp; done) | (go_simp; rfl)); intro gb300 hg w11 hbox hb; have n0_ := Aside0.mk (below_step (by repeat (first | (with_reducible first | exact HB.out | apply below_alloc | apply pw_below_drewN | apply below_drew1) | exact HB.out)) hb); have n1_ := Aside0.mk (hbox); have n2_ := Aside0.mk ((by rw [hg]; exact (below_size (by repeat (first | (with_reducible first | exact HB.out | apply below_alloc | apply pw_below_drewN | apply below_drew1) | exact HB.out))) : w.heap.size ≤ gb300)); have n3_ := Aside0.mk ((by rw [hg]; exact (below_size (by repeat (first | (with_reducible first | exact HB.out | apply below_alloc | apply pw_below_drewN | apply below_drew1) | exact HB.out))) : w.heap.size ≤ gb300)); clear HB; have HB := n0_; have BK300 := n1_; have GW300 := n2_; have GE300 := n3_; clear n0_ n1_ n2_ n3_; clear hb hbox hg; have hcz12_0 : w11.cell? ⟨gb300, 0, none⟩ = some (.int .i64 a0_0) := (blk_cell BK300.out 0).trans rfl; have hcz12_1 : w11.cell? ⟨gb300, 1, none⟩ = some (.slice A0_1 l0_1.length c0_1) := (blk_cell BK300.out 1).trans rfl; have hcz12_2 : w11.cell? ⟨gb300, 2, none⟩ = some (.slice A0_2 l0_2.length c0_2) := (blk_cell BK300.out 2).trans rfl; have hfz12_0 := blk_frozen BK300.out 0; have hfz12_1 := blk_frozen BK300.out 1; have hfz12_2 := blk_frozen BK300.out 2) | ((with_reducible refine gate_callee (f := 46) rfl ?_); refine goesL_ (some 10) rfl rfl Try.func46 (by kernel_rfl) rfl #[.agg #[.int .i64 a0_0, .slice A0_1 l0_1.length c0_1, .slice A0_2 l0_2.length c0_2], .slice A1 l1.length c1] rfl (by (try simp only [List.map_toArray, List.map_cons, List.map_nil]); first | done | rfl | (simp only [List.length_drop, List.length_take]; rfl)) ?_; (with_reducible refine (railplanref11_First.calls k a0_0 _ _ l0_1 _ _ l0_2 _ _ l1 t301 t302 _ ?side1 ?side2 ?side3 ?side4 ?side5 ?side6 A3.out).mono ?_); (case side1 => repeat (first | exact (Kd.C_below HR0_1.out HB.out) | (with_reducible refine Kd.C_alloc ?_ _) | (with_reducible refine Kd.C_drewN ?_ _) | (with_reducible refine Kd.C_drew ?_))); (case side2 => exact HC0_1.out); (case side3 => repeat (first | exact (Kd.C_below HR0_2.out HB.out) | (with_reducible refine Kd.C_alloc ?_ _) | (with_reducible refine Kd.C_drewN ?_ _) | (with_reducible refine Kd.C_drew ?_))); (case side4 => exact HC0_2.out); (case side5 => repeat (first | exact (Kd.C_below HR1.out HB.out) | (with_reducible refine Kd.C_alloc ?_ _) | (with_reducible refine Kd.C_drewN ?_ _) | (with_reducible refine Kd.C_drew ?_))); (case side6 => exact HC1.out); rintro e w13 ⟨rfl, hb⟩; refine ⟨_, rfl, ?_⟩; have n0_ := Aside0.mk (blk_below (g := gb300) (o := .cells #[.int .i64 a0_0, .slice A0_1 l0_1.length c0_1, .slice A0_2 l0_2.length c0_2] 25 (0, 0)) (by (with_reducible repeat (first | refine blk_drewN ?_ _ | refine blk_drew ?_ | refine blk_alloc ?_ _)); exact BK300.out) hb); have n1_ := Aside0.mk (below_step (by repeat (first | (with_reducible first | exact HB.out | apply below_alloc | apply pw_below_drewN | apply below_drew1 | refine below_set ?_ GE300.out) | exact HB.out)) hb); clear BK300; clear HB; have BK300 := n0_; have HB := n1_; clear n0_ n1_; (try clear hb); (try clear hb2); (try clear hk); (try clear hi); have hcz14_0 : w13.cell? ⟨gb300, 0, none⟩ = some (.int .i64 a0_0) := (blk_cell BK300.out 0).trans rfl; have hcz14_1 : w13.cell? ⟨gb300, 1, none⟩ = some (.slice A0_1 l0_1.length c0_1) := (blk_cell BK300.out 1).trans rfl; have hcz14_2 : w13.cell? ⟨gb300, 2, none⟩ = some (.slice A0_2 l0_2.length c0_2) := (blk_cell BK300.out 2).trans rfl; have hfz14_0 := blk_frozen BK300.out 0; have hfz14_1 := blk_frozen BK300.out 1; have hfz14_2 := blk_frozen BK300.out 2) | ((with_reducible refine gate_callee (f := 47) rfl ?_); refine goesL_ (some 15) rfl rfl Try.func47 (by kernel_rfl) rfl #[.agg #[.int .i64 a0_0, .slice A0_1 l0_1.length c0_1, .slice A0_2 l0_2.length c0_2], .slice A1 l1.length c1] rfl (by (try simp only [List.map_toArray, List.map_cons, List.map_nil]); first | done | rfl | (simp only [List.length_drop, List.length_take]; rfl)) ?_; (with_reducible refine (railplanref11_Good.calls k a0_0 _ _ l0_1 _ _ l0_2 _ _ l1 false _ ?side1 ?side2 ?side3 ?side4 ?side5 ?side6 A4.out).mono ?_); (case side1 => repeat (first | exact (Kd.C_below HR0_1.out HB.out) | (with_reducible refine Kd.C_alloc ?_ _) | (with_reducible refine Kd.C_drewN ?_ _) | (with_reducible refine Kd.C_drew ?_))); (case side2 => exact HC0_1.out); (case side3 => repeat (first | exact (Kd.C_below HR0_2.out HB.out) | (with_reducible refine Kd.C_alloc ?_ _) | (with_reducible refine Kd.C_drewN ?_ _) | (with_reducible refine Kd.C_drew ?_))); (case side4 => exact HC0_2.out); (case side5 => repeat (first | exact (Kd.C_below HR1.out HB.out) | (with_reducible refine Kd.C_alloc ?_ _) | (with_reducible refine Kd.C_drewN ?_ _) | (with_reducible refine Kd.C_drew ?_))); (case side6 => exact HC1.out); rintro e w15 ⟨rfl, hb⟩; refine ⟨_, rfl, ?_⟩; have n0_ := Aside0.mk (blk_below (g := gb300) (o := .cells #[.int .i64 a0_0, .slice A0_1 l0_1.length c0_1, .slice A0_2 l0_2.length c0_2] 25 (0, 0)) (by (with_reducible repeat (first | refine blk_drewN ?_ _ | refine blk_drew ?_ | refine blk_alloc ?_ _)); exact BK300.out) hb); have n1_ := Aside0.mk (below_step (by repeat (first | (with_reducible first | exact HB.out | apply below_alloc | apply pw_below_drewN | apply below_drew1 | refine below_set ?_ GE300.out) | exact HB.out)) hb); clear BK300; clear HB; have BK300 := n0_; have HB := n1_; clear n0_ n1_; (try clear hb); (try clear hb2); (try clear hk); (try clear hi)))
    go_ret
    exact ⟨by first | rfl | (simp [errW_none, errW_some] <;> rfl) | (simp [*, errW_none, errW_some] <;> rfl), by repeat (first | (with_reducible first | exact HB.out | apply below_alloc | apply pw_below_drewN | apply below_drew1 | refine below_set ?_ GE300.out) | exact HB.out)⟩

end Go.Proofs.Ytkbcgahpekmlbaa.PPg

namespace Go.Proofs.Ytkbcgahpekmlbaa.PPg
open Go.RowKit Go.Proofs.YtkbcgahpekmlbaaW.PrintWords Go.Proofs.YtkbcgahpekmlbaaW.PrintLast Go.Proofs.YtkbcgahpekmlbaaW.PrintMore
set_option linter.unusedVariables false
/-- A law's memory without a table. -/
structure NS (w0 W : World) (bn n : Nat) (v1 v2 : Value) (ev : List S65) (ac : List S30) : Prop where
  below : Below w0.heap.size w0 W
  net : W.heap[bn]? = some (.cells #[.int .i64 n, v1, v2] 25 (0, 0))
  evs : Kd.R k65 65 W w0.heap.size (fun _ => True) v1 ev
  acs : Kd.R k30 30 W w0.heap.size (fun _ => True) v2 ac
theorem NS_0 {w0 W : World} {bn n : Nat} {v1 v2 : Value} {ev : List S65} {ac : List S30} (h : NS w0 W bn n v1 v2 ev ac) : W.cell? ⟨bn, 0, none⟩ = some (.int .i64 n) := by rw [blk_cell h.net]; rfl
theorem NS_1 {w0 W : World} {bn n : Nat} {v1 v2 : Value} {ev : List S65} {ac : List S30} (h : NS w0 W bn n v1 v2 ev ac) : W.cell? ⟨bn, 1, none⟩ = some v1 := by rw [blk_cell h.net]; rfl
theorem NS_2 {w0 W : World} {bn n : Nat} {v1 v2 : Value} {ev : List S65} {ac : List S30} (h : NS w0 W bn n v1 v2 ev ac) : W.cell? ⟨bn, 2, none⟩ = some v2 := by rw [blk_cell h.net]; rfl
theorem NS_next {w0 W W' : World} {bn n : Nat} {v1 v2 : Value} {ev : List S65} {ac : List S30} (h : NS w0 W bn n v1 v2 ev ac) (hb : Below W.heap.size W W') : NS w0 W' bn n v1 v2 ev ac :=
  ⟨below_step h.below hb, (hb.block bn (blk_lt h.net)).trans h.net, Kd.R_below h.evs hb, Kd.R_below h.acs hb⟩
theorem NS_table {w0 w : World} {bn n : Nat} {v1 v2 : Value} {ev : List S65} {ac : List S30} (h : NS w0 w bn n v1 v2 ev ac) (hok : okN n ev ac = true) :
    Calls Try.prog 20 #[.agg #[.int .i64 n, v1, v2]] w fun e w' => ∃ g q, e = .returned (.pointer (some ⟨g, 0, none⟩)) ∧ LB w0 w' bn g n v1 v2 ev ac q ∧ TabOk n ev ac q ∧ Below w.heap.size w w' := table_c hok h.below h.net h.evs h.acs
end Go.Proofs.Ytkbcgahpekmlbaa.PPg

namespace Go.Proofs.Ytkbcgahpekmlbaa.PPg
open Go.RowKit Go.Proofs.YtkbcgahpekmlbaaW.PrintWords Go.Proofs.YtkbcgahpekmlbaaW.PrintLast Go.Proofs.YtkbcgahpekmlbaaW.PrintMore
set_option linter.unusedVariables false
set_option maxRecDepth 100000
theorem E3 : ∀ q, q ∈ 3 :: (Kd.int .i64).E → q = 3 := fun q hq => by simpa [Kd.int, Kd.scalar] using hq
set_option maxHeartbeats 2000000 in
theorem Times_c {n : Nat} (w : World) (v2 : Value) (A1 A : Option Addr) (m c1 c : Nat) (l : List Int) (h : Kd.C (Kd.int .i64) w A l.length l) (hc : l.length ≤ c) (hl : Fit l) (n1 : 1 ≤ n) (n72 : n ≤ 7200) (m48 : m ≤ 48) :
    Calls Try.prog 26 #[.agg #[.int .i64 n, .slice A1 m c1, v2], .slice A l.length c] w fun e w' => (∃ v xs, e = .returned v ∧ Kd.R (Kd.int .i64) 3 w' w.heap.size (fun _ => True) v xs ∧ xs.length = m ∧ ∀ x ∈ xs, 0 ≤ x ∧ x < (n : Int)) ∧ Below w.heap.size w w' := by
  have H := Aside0.mk h
  have HL := Aside0.mk hl
  clear h hl
  go_enter Try.func26, Try.ntmps26
  go_wp2_with fail
  refine (From_k' (w0 := w) (((Below.refl w.heap.size w).alloc (Nat.le_refl _) _)) H.out hc).mono ?_
  rintro _ w1 ⟨⟨gs, rfl, hs⟩, hb, hb'⟩
  have hn := (hb'.block w.heap.size (by simp)).trans (heap_alloc_new w _)
  have k1 : w1.cell? ⟨w.heap.size, 1, none⟩ = some (.slice A1 m c1) := by rw [blk_cell hn]; rfl
  have HN := Aside0.mk hn
  have HS := Aside0.mk hs
  have HB := Aside0.mk hb
  clear hn hs hb hb'
  go_wp2_with (first | ((with_reducible refine gate_dst (N := 13) rfl ?_); go_loud (refine Kd.R_make (Kd.int .i64) (w0 := w) w.heap.size 3 rfl rfl 26 (.tmp 12) (.tmp 12) rfl (m : Int) rfl rfl Try.underlying26 (.int .i64 0) 8 info3 rfl (by decide) (by omega) (0 : Int) (ok := fun _ => True) (okp := fun _ => True) rfl (fun _ _ => trivial) trivial (by omega) (by omega) HB.out HB.out.size ?_; intro v1 w2 ho hb hg hat; rw [Int.toNat_natCast] at ho; obtain ⟨Ax, cx, ex⟩ := Kd.R_slice ho; rw [List.length_replicate] at ex; subst ex; have HN2 := Aside0.mk (blk_grown HN.out hg (by simp)); have HS2 := Aside0.mk (Src_grown HS.out hg (by simp)); have HR2 := Aside0.mk ho; have HB2 := Aside0.mk hb; clear ho hb hg hat k1 HN HS HB)))
  go_loopw [16] (fun v16 wr => ∃ (i : Nat) (xs : List Int), v16 = .int .i64 i ∧ Aside0 (i ≤ m ∧ xs.length = m ∧ ∀ x ∈ xs, 0 ≤ x ∧ x < (n : Int)) ∧ Aside0 (Kd.R (Kd.int .i64) 3 wr w.heap.size (fun _ => True) (.slice Ax m cx) xs) ∧ Aside0 (wr.heap[w.heap.size]? = some (.cells #[.int .i64 n, .slice A1 m c1, v2] 25 (0, 0))) ∧ Aside0 (Src w wr gs l) ∧ Aside0 (Below w.heap.size w wr)) (fun v16 _ => m - (intOf v16).toNat)
  case atStart => exact ⟨0, List.replicate m 0, rfl, ⟨Nat.zero_le _, by simp, fun x hx => by rw [List.eq_of_mem_replicate hx]; omega⟩, HR2, HN2, HS2, HB2⟩
  case round =>
    clear HN2 HS2 HR2 HB2
    obtain ⟨i, xs, rfl, HI, HR, HN, HS, HB⟩ := hrel
    obtain ⟨i1, i2, i3⟩ := HI.out
    have IN := Aside0.mk i3
    clear HI i3
    by_cases ci : i < m
    · have k0 : wr.cell? ⟨w.heap.size, 0, none⟩ = some (.int .i64 n) := by rw [blk_cell HN.out]; rfl
      obtain ⟨gx, cx', ex, hgx, _, cells, hcx⟩ := Kd.R_form HR.out (by omega)
      injection ex with ex exl ex2
      clear exl
      subst ex ex2
      have XL := Aside0.mk i2
      clear i2 hcx
      go_wp2_with fail
      refine (Next_k HS.out HB.out HL.out (by omega) (by omega)).mono ?_
      rintro _ w3 ⟨⟨r, rfl, r0, r1⟩, hs, hb, hk⟩
      have HN3 := Aside0.mk (hk.2 _ _ _ (by decide) HN.out)
      have HR3 := Aside0.mk (R_Ks HR.out hk (fun q hq => by have := E3 q hq; omega))
      have HS3 := Aside0.mk hs
      have HB3 := Aside0.mk hb
      have hr3 := HR3.out
      rw [← XL.out] at hr3
      obtain ⟨z1, z2⟩ := Kd.R_cell (0 : Int) hr3 (i : Int) (by omega) (by have := XL.out; omega)
      have PUT := Aside0.mk (Kd.R_put hr3 (i : Int) r)
      simp only [Int.toNat_natCast] at z1 z2 PUT
      rw [XL.out] at PUT
      obtain ⟨cl, hcl⟩ : ∃ cl, w3.heap[gx]? = some (.cells cl 3 (0, 0)) := by
        obtain ⟨_, _, ho, _⟩ := HR3.out
        exact own_typed ho gx rfl
      have HCL := Aside0.mk hcl
      clear hs hb hk hr3 k0 HN HR HS HB hcl
      go_wp2_with fail
      go_roundw
      case rel =>
        refine ⟨i + 1, xs.set i r, by go_num, ⟨by omega, by rw [List.length_set]; exact XL.out, fun x hx => ?_⟩, ⟨PUT.out.1⟩, ⟨blk_other HN3.out HCL.out (by decide) i _⟩, ⟨Src_far HS3.out (p := ⟨gx, i, none⟩) (Src_ne HS3.out HCL.out (by decide)) _⟩, ⟨HB3.out.setCell hgx _⟩⟩
        rcases List.mem_or_eq_of_mem_set hx with hx | hx
        · exact IN.out x hx
        · rw [hx]; exact ⟨r0, r1⟩
      case measure => simp [intOf]; omega
    · go_wp2_with fail
      go_ret
      exact ⟨⟨_, xs, rfl, HR.out, i2, IN.out⟩, HB.out⟩
end Go.Proofs.Ytkbcgahpekmlbaa.PPg

namespace Go.Proofs.Ytkbcgahpekmlbaa.PPg
open Go.RowKit Go.Proofs.YtkbcgahpekmlbaaW.PrintWords Go.Proofs.YtkbcgahpekmlbaaW.PrintLast Go.Proofs.YtkbcgahpekmlbaaW.PrintMore
set_option linter.unusedVariables false
set_option maxRecDepth 100000
/-- A time is out of bounds. -/
def badT (P x : Int) : Bool := !decide (0 ≤ x ∧ x ≤ P - 1)
theorem Good1_c (w : World) (x : Int) (bn : Nat) (P : Int) (hP : w.cell? ⟨bn, 0, none⟩ = some (.int .i64 P)) (h0 : -100000 ≤ P) (h1 : P ≤ 100000) :
    Calls Try.prog 69 #[.int .i64 x, .pointer (some ⟨bn, 0, none⟩)] w fun e w' => e = .returned (.bool (badT P x)) ∧ w = w' := by
  obtain ⟨b, hb⟩ : ∃ b, decide (0 ≤ x ∧ x ≤ P - 1) = b := ⟨_, rfl⟩
  have e : badT P x = !b := by unfold badT; rw [hb]
  rw [e]
  have HB := Aside0.mk hb
  clear hb e
  go_enter Try.func69, Try.ntmps69
  go_wp2_with fail
  refine (in_c _ x 0 (P - 1) b HB.out).mono ?_
  rintro _ _ ⟨rfl, rfl⟩
  go_wp2_with fail
  go_ret
  exact ⟨rfl, rfl⟩
theorem drop_i (a : List Int) (i : Int) (h0 : 0 ≤ i) (h1 : i < a.length) : a.drop i.toNat = rd a i :: a.drop (i + 1).toNat := by
  rw [show (i + 1).toNat = i.toNat + 1 by omega]
  unfold rd
  rw [List.getD_eq_getElem?_getD, List.getElem?_eq_getElem (by omega : i.toNat < a.length)]
  exact List.drop_eq_getElem_cons (by omega)
set_option maxHeartbeats 1000000 in
theorem IndexI_c (w : World) (A : Option Addr) (c : Nat) (a : List Int) (ha : Kd.C (Kd.int .i64) w A a.length a) (bn : Nat) (P : Int) (hP : w.cell? ⟨bn, 0, none⟩ = some (.int .i64 P)) (h0 : -100000 ≤ P) (h1 : P ≤ 100000) :
    Calls Try.prog 80 #[.slice A a.length c, .func (.func 69) #[] #[.pointer (some ⟨bn, 0, none⟩)]] w fun e w' => (∃ r : Int, e = .returned (.int .i64 r) ∧ decide (0 ≤ r) = a.any (badT P)) ∧ w = w' := by
  have HA := Aside0.mk ha
  have LA := ha.2.1
  have HP := Aside0.mk hP
  clear ha hP
  go_enter Try.func80, Try.ntmps80
  go_wp2_with fail
  go_loop [8] (fun v8 => ∃ (i : Int), v8 = .int .i64 i ∧ Aside0 (0 ≤ i ∧ i ≤ a.length) ∧ Aside0 ((a.drop i.toNat).any (badT P) = a.any (badT P))) (fun v8 => a.length - (intOf v8).toNat)
  case atStart => exact ⟨0, rfl, ⟨by omega⟩, ⟨rfl⟩⟩
  case round =>
    obtain ⟨i, rfl, HI, HR⟩ := hrel
    obtain ⟨i0, i1⟩ := HI.out
    clear HI
    by_cases ci : i < a.length
    · have DA := Aside0.mk (drop_i a i i0 ci)
      obtain ⟨ada, ea, hx0⟩ := Kd.at_int HA.out i i0 ci
      cases ea
      generalize rd a i = x at *
      cases hx : badT P x with
      | true =>
        have HX := Aside0.mk hx
        clear hx
        go_wp2_with fail
        refine (Good1_c _ x bn P HP.out h0 h1).mono ?_
        rw [HX.out]
        rintro _ _ ⟨rfl, rfl⟩
        go_wp2_with fail
        go_ret
        refine ⟨⟨i, rfl, ?_⟩, rfl⟩
        rw [decide_eq_true i0, ← HR.out, DA.out, List.any_cons, HX.out]; rfl
      | false =>
        have HX := Aside0.mk hx
        clear hx
        go_wp2_with fail
        refine (Good1_c _ x bn P HP.out h0 h1).mono ?_
        rw [HX.out]
        rintro _ _ ⟨rfl, rfl⟩
        go_wp2_with fail
        go_round
        case rel =>
          refine ⟨i + 1, rfl, ⟨by omega⟩, ⟨?_⟩⟩
          have e := HR.out
          rw [DA.out, List.any_cons, HX.out] at e
          exact e
        case measure => simp [intOf]; omega
    · go_wp2_with fail
      go_ret
      refine ⟨⟨-1, rfl, ?_⟩, rfl⟩
      have e := HR.out
      rw [show a.drop i.toNat = [] from List.drop_eq_nil_of_le (by omega)] at e
      rw [← e]; rfl
theorem ContainsI_c (w : World) (A : Option Addr) (c : Nat) (a : List Int) (ha : Kd.C (Kd.int .i64) w A a.length a) (bn : Nat) (P : Int) (hP : w.cell? ⟨bn, 0, none⟩ = some (.int .i64 P)) (h0 : -100000 ≤ P) (h1 : P ≤ 100000) :
    Calls Try.prog 68 #[.slice A a.length c, .func (.func 69) #[] #[.pointer (some ⟨bn, 0, none⟩)]] w fun e w' => e = .returned (.bool (a.any (badT P))) ∧ w = w' := by
  have HA := Aside0.mk ha
  have HP := Aside0.mk hP
  clear ha hP
  go_enter Try.func68, Try.ntmps68
  go_wp2_with fail
  refine (IndexI_c w A c a HA.out bn P HP.out h0 h1).mono ?_
  rintro _ _ ⟨⟨r, rfl, hr⟩, rfl⟩
  have HR := Aside0.mk hr
  clear hr
  go_wp2_with fail
  go_ret
  exact ⟨by rw [← HR.out]; rfl, rfl⟩
/-- Times are good for a network. -/
def okT (P : Int) (ev : List S65) (ac : List S30) (t : List Int) : Bool := okN P ev ac && (decide (t.length = ev.length) && !t.any (badT P))
set_option maxHeartbeats 1000000 in
theorem Good_c (w : World) (P : Int) (A1 A2 A : Option Addr) (c1 c2 c : Nat) (ev : List S65) (ac : List S30) (t : List Int) (h1 : Kd.C k65 w A1 ev.length ev) (h2 : Kd.C k30 w A2 ac.length ac) (h : Kd.C (Kd.int .i64) w A t.length t) :
    Calls Try.prog 48 #[.agg #[.int .i64 P, .slice A1 ev.length c1, .slice A2 ac.length c2], .slice A t.length c] w fun e w' => e = .returned (.bool (okT P ev ac t)) ∧ Below w.heap.size w w' := by
  have m1 := h1.2.1
  have m := h.2.1
  have H1 := Aside0.mk h1
  have H2 := Aside0.mk h2
  have H := Aside0.mk h
  clear h1 h2 h
  cases hok : okN P ev ac with
  | false =>
    have HK : Aside0 (okT P ev ac t = false) := ⟨by unfold okT; rw [hok]; rfl⟩
    have HO := Aside0.mk hok
    clear hok
    go_enter Try.func48, Try.ntmps48
    go_wp2_with fail
    refine (Check_c _ P A1 A2 c1 c2 ev ac (Kd.C_alloc H1.out _) (Kd.C_alloc H2.out _)).mono ?_
    rw [HO.out]
    rintro _ w1 ⟨rfl, hb⟩
    have HB := Aside0.mk (below_step ((Below.refl w.heap.size w).alloc (Nat.le_refl _) _) hb)
    clear hb
    go_wp2_with fail
    go_ret
    exact ⟨by rw [HK.out]; rfl, HB.out⟩
  | true =>
    have hP : 2 ≤ P ∧ P ≤ 7200 := by
      have := hok
      unfold okN at this
      simp only [Bool.and_eq_true, decide_eq_true_eq] at this
      exact this.1
    have HO := Aside0.mk hok
    clear hok
    by_cases ct : t.length = ev.length
    · have HK : Aside0 (okT P ev ac t = !t.any (badT P)) := ⟨by unfold okT; rw [HO.out, decide_eq_true ct]; rfl⟩
      have ct' : ((t.length : Int) == (ev.length : Int)) = true := beq_iff_eq.2 (by omega)
      clear ct
      go_enter Try.func48, Try.ntmps48
      go_wp2_with fail
      refine (Check_c _ P A1 A2 c1 c2 ev ac (Kd.C_alloc H1.out _) (Kd.C_alloc H2.out _)).mono ?_
      rw [HO.out]
      rintro _ w1 ⟨rfl, hb⟩
      have HB := Aside0.mk (below_step ((Below.refl w.heap.size w).alloc (Nat.le_refl _) _) hb)
      have hn := (hb.block w.heap.size (by simp)).trans (heap_alloc_new w _)
      have k1 : w1.cell? ⟨w.heap.size, 1, none⟩ = some (.slice A1 ev.length c1) := by rw [blk_cell hn]; rfl
      have K0 : Aside0 (w1.cell? ⟨w.heap.size, 0, none⟩ = some (.int .i64 P)) := ⟨by rw [blk_cell hn]; rfl⟩
      have HT := Aside0.mk (Kd.C_below (Kd.C_alloc H.out _) hb)
      clear hb hn
      go_wp2_with fail
      refine (ContainsI_c w1 A c t HT.out w.heap.size P K0.out (by omega) (by omega)).mono ?_
      rintro _ _ ⟨rfl, rfl⟩
      go_wp2_with fail
      go_ret
      exact ⟨by rw [HK.out]; rfl, HB.out⟩
    · have HK : Aside0 (okT P ev ac t = false) := ⟨by unfold okT; rw [HO.out, decide_eq_false ct]; rfl⟩
      have ct' : ((t.length : Int) == (ev.length : Int)) = false := beq_eq_false_iff_ne.2 (by omega)
      clear ct
      go_enter Try.func48, Try.ntmps48
      go_wp2_with fail
      refine (Check_c _ P A1 A2 c1 c2 ev ac (Kd.C_alloc H1.out _) (Kd.C_alloc H2.out _)).mono ?_
      rw [HO.out]
      rintro _ w1 ⟨rfl, hb⟩
      have HB := Aside0.mk (below_step ((Below.refl w.heap.size w).alloc (Nat.le_refl _) _) hb)
      have hn := (hb.block w.heap.size (by simp)).trans (heap_alloc_new w _)
      have k1 : w1.cell? ⟨w.heap.size, 1, none⟩ = some (.slice A1 ev.length c1) := by rw [blk_cell hn]; rfl
      clear hb hn
      go_wp2_with fail
      go_ret
      exact ⟨by rw [HK.out]; rfl, HB.out⟩
end Go.Proofs.Ytkbcgahpekmlbaa.PPg

namespace Go.Proofs.Ytkbcgahpekmlbaa.PPg
open Go.RowKit Go.Proofs.YtkbcgahpekmlbaaW.PrintWords Go.Proofs.YtkbcgahpekmlbaaW.PrintLast Go.Proofs.YtkbcgahpekmlbaaW.PrintMore
set_option linter.unusedVariables false
set_option maxRecDepth 100000
/-- The difference of two times is in the set. -/
def okP (n : Nat) (q : Mx) (t : List Int) (i j : Nat) : Bool := q i j ((rd t j - rd t i) % n)
def allowB (n m : Nat) (q : Mx) (t : List Int) : Bool := (List.range m).all fun i => (List.range m).all fun j => okP n q t i j
theorem allowB_iff {n m : Nat} {q : Mx} {t : List Int} : allowB n m q t = true ↔ ∀ i j, i < m → j < m → okP n q t i j = true := by
  unfold allowB
  simp only [List.all_eq_true, List.mem_range]
  exact ⟨fun h i j hi hj => h i hi j hj, fun h i hi j hj => h i j hi hj⟩
theorem has_can {n : Nat} (h1 : 1 ≤ n) (h2 : n ≤ 7200) (p : Int → Bool) (x : Int) : Ev (fun k => residue_Has.f k n (can n p) x) (p (x % n)) := by
  have hv := can_vld p h1 h2
  have h := Has_ev n h1 h2 (can n p) (fit_le (vld_fit hv)) x
  obtain ⟨z0, z1⟩ := em_bound x (show (0 : Int) < n by omega)
  rwa [hv, Bool.true_and, can_in p z0 z1] at h
theorem pHas_e {n : Nat} {p : Int → Bool} {s : List S41} {w : World} {A : Option Addr} {c : Nat} {x : Int} {b : Bool} (hp : can n p = s) (h1 : 1 ≤ n) (h2 : n ≤ 7200) (hb : p (x % n) = b) (hs : VS w (.slice A s.length c) s) :
    Calls Try.prog 49 #[.int .i64 n, .slice A s.length c, .int .i64 x] w fun e w' => e = .returned (.bool b) ∧ Below w.heap.size w w' := by
  subst hp hb
  obtain ⟨K, hK⟩ := (has_can h1 h2 p x).rounds
  exact residue_Has.calls K n A c (can n p) x _ w (VS_C hs) (VS_le hs) hK
theorem okT_mem {P : Int} {ev : List S65} {ac : List S30} {t : List Int} (h : okT P ev ac t = true) : okN P ev ac = true ∧ t.length = ev.length ∧ ∀ i : Int, 0 ≤ i → i < t.length → 0 ≤ rd t i ∧ rd t i < P := by
  unfold okT at h
  simp only [Bool.and_eq_true, decide_eq_true_eq, Bool.not_eq_true'] at h
  obtain ⟨h1, h2, h3⟩ := h
  refine ⟨h1, h2, fun i i0 i1 => ?_⟩
  rw [List.any_eq_false] at h3
  have hm : rd t i ∈ t := by
    unfold rd
    rw [List.getD_eq_getElem?_getD, List.getElem?_eq_getElem (by omega : i.toNat < t.length)]
    exact List.getElem_mem _
  have := h3 _ hm
  unfold badT at this
  simp only [Bool.not_eq_true', decide_eq_false_iff_not, Classical.not_not] at this
  omega
set_option maxHeartbeats 4000000 in
theorem Allows_c {n : Nat} (w : World) (B g : Nat) (ev : List S65) (ac : List S30) (q : Mx) (A : Option Addr) (c : Nat) (t : List Int) (ht : Tb w B g n ev ac ev.length (tabl n ev.length q)) (h : Kd.C (Kd.int .i64) w A t.length t) :
    Calls Try.prog 28 #[.pointer (some ⟨g, 0, none⟩), .slice A t.length c] w fun e w' => e = .returned (.bool (okT n ev ac t && allowB n ev.length q t)) ∧ Below w.heap.size w w' := by
  obtain ⟨A1, c1, A2, c2, k1, k2, l1, hc1, l2, hc2⟩ := Tb_net ht
  have k0 := Tb_P ht
  have mt := h.2.1
  have HT := Aside0.mk ht
  have H := Aside0.mk h
  have HC1 := Aside0.mk hc1
  have HC2 := Aside0.mk hc2
  clear ht h hc1 hc2
  cases hok : okT n ev ac t with
  | false =>
    have HO := Aside0.mk hok
    clear hok
    go_enter Try.func28, Try.ntmps28
    go_wp2_with fail
    refine (Good_c _ n A1 A2 A c1 c2 c ev ac t HC1.out HC2.out H.out).mono ?_
    rw [HO.out]
    rintro _ w1 ⟨rfl, hb⟩
    have HB := Aside0.mk hb
    clear hb k0 k1 k2
    go_wp2_with fail
    go_ret
    exact ⟨rfl, HB.out⟩
  | true =>
    obtain ⟨hn, hl, hr⟩ := okT_mem hok
    have hn' := hn
    unfold okN at hn'
    simp only [Bool.and_eq_true, decide_eq_true_eq] at hn'
    have n1 : 1 ≤ n := by omega
    have n72 : n ≤ 7200 := by omega
    have m48 : ev.length ≤ 48 := hn'.2.1
    have HO := Aside0.mk hok
    have HL := Aside0.mk hl
    have HRD := Aside0.mk hr
    have tl48 : t.length ≤ 48 := by omega
    clear hok hn hn' hl hr
    go_enter Try.func28, Try.ntmps28
    go_wp2_with fail
    refine (Good_c _ n A1 A2 A c1 c2 c ev ac t HC1.out HC2.out H.out).mono ?_
    rw [HO.out]
    rintro _ w1 ⟨rfl, hb⟩
    have HB := Aside0.mk hb
    clear hb k0 k1 k2
    go_wp2_with fail
    go_loopw [18] (fun v18 wr => ∃ i : Nat, v18 = .int .i64 i ∧ Aside0 (i ≤ t.length) ∧ Aside0 (∀ a b, a < i → b < ev.length → okP n q t a b = true) ∧ Aside0 (Below w.heap.size w wr)) (fun v18 _ => t.length - (intOf v18).toNat)
    case atStart => exact ⟨0, rfl, ⟨Nat.zero_le _⟩, ⟨fun a b ha => by omega⟩, HB⟩
    case round =>
      clear HB
      obtain ⟨i, rfl, HI, HA, HB⟩ := hrel
      have i1 := HI.out
      by_cases ci : i < t.length
      · obtain ⟨ada, ea, hx⟩ := Kd.at_int (Kd.C_below H.out HB.out) (i : Int) (by omega) (by omega)
        cases ea
        simp only [Int.toNat_natCast] at hx
        obtain ⟨x0, x1⟩ := HRD.out (i : Int) (by omega) (by omega)
        obtain ⟨x, hxx⟩ : ∃ x, rd t (i : Int) = x := ⟨_, rfl⟩
        rw [hxx] at hx x0 x1
        have HX := Aside0.mk hxx
        clear hxx
        go_wp2_with fail
        clear hx
        go_loopw [25] (fun v25 w2 => ∃ j : Nat, v25 = .int .i64 j ∧ Aside0 (j ≤ t.length) ∧ Aside0 (∀ b, b < j → okP n q t i b = true) ∧ Aside0 (Below w.heap.size w w2)) (fun v25 _ => t.length - (intOf v25).toNat)
        case atStart => exact ⟨0, rfl, ⟨Nat.zero_le _⟩, ⟨fun b hb => by omega⟩, HB⟩
        case round =>
          clear HB
          obtain ⟨j, rfl, HJ, HAJ, HB⟩ := hrel
          have j1 := HJ.out
          by_cases cj : j < t.length
          · obtain ⟨ada', ea, hy⟩ := Kd.at_int (Kd.C_below H.out HB.out) (j : Int) (by omega) (by omega)
            cases ea
            simp only [Int.toNat_natCast] at hy
            obtain ⟨y0, y1⟩ := HRD.out (j : Int) (by omega) (by omega)
            obtain ⟨y, hyy⟩ : ∃ y, rd t (j : Int) = y := ⟨_, rfl⟩
            rw [hyy] at hy y0 y1
            have HY := Aside0.mk hyy
            have hie : i < ev.length := by rw [← HL.out]; exact ci
            have hje : j < ev.length := by rw [← HL.out]; exact cj
            have HTr := Aside0.mk (Tb_below HT.out HB.out)
            obtain ⟨a1, a2, a3, a4, a5, a6, a7⟩ := ix_ok (n := n) q hie hje m48
            obtain ⟨gr, cr, AI, cI', h4, h5, hv, _, _⟩ := Tb_at HTr.out _ a6 a7
            rw [tabl_rd q hie hje] at h5 hv
            have hP := Tb_P HTr.out
            have tm := Tb_m HTr.out
            have A1x := Aside0.mk a1
            have HV := Aside0.mk hv
            obtain ⟨b, hbb⟩ : ∃ b, okP n q t i j = b := ⟨_, rfl⟩
            have HBB : Aside0 (q i j ((y - x) % n) = b) := ⟨by rw [← hbb, okP, HX.out, HY.out]⟩
            have HOK := Aside0.mk hbb
            have g1 : IntKind.i64.wrap (y - x) = y - x := (IntWalk.i64_left _).trans (IntWalk.wrap64_in _ (by omega))
            clear hyy a1 hv hbb hie hje
            generalize hs : can n (q i j) = sI at *
            have HSI := Aside0.mk hs
            clear hs
            generalize hix : ((i * ev.length + j : Nat) : Int) = ix at *
            clear hix
            go_wp2_with fail
            clear hy
            go_region_held3 (fun w' => w'.cell? ⟨g, 0, none⟩ = some (.int .i64 n) ∧ w'.cell? ⟨g, 4, none⟩ = some (.slice (some ⟨gr, 0, none⟩) (tabl n ev.length q).length cr) ∧ w'.cell? ⟨gr, ix.toNat, none⟩ = some (.slice AI sI.length cI')) (go_keep)
              (first
                | ((go_at_call 37; refine (at_d tm A1x.out a2 a3 a4 a5).mono ?_; rintro _ _ ⟨rfl, rfl⟩))
                | ((go_at_call 49; refine (pHas_e HSI.out n1 n72 HBB.out (VS_drew HV.out)).mono ?_; rintro _ w3 ⟨rfl, hb⟩; have z0 := (hb.cell (World.block_lt_of_cell? wr _ hP)).trans hP; have z4 := (hb.cell (World.block_lt_of_cell? wr _ h4)).trans h4; have z5 := (hb.cell (World.block_lt_of_cell? wr _ h5)).trans h5; have HB3 := Aside0.mk (below_step HB.out (below_step (below_drew (Below.refl _ wr)) hb)); clear hb hP h4 h5 tm)))
            clear z0 z4 z5
            cases b with
            | false =>
              go_wp2_with fail
              go_ret
              refine ⟨ret_bool ?_, HB3.out⟩
              rw [Bool.true_and]
              cases ha : allowB n ev.length q t with
              | false => rfl
              | true =>
                have := allowB_iff.1 ha i j (by rw [← HL.out]; exact ci) (by rw [← HL.out]; exact cj)
                rw [HOK.out] at this
                cases this
            | true =>
              go_wp2_with fail
              go_roundw
              case rel =>
                refine ⟨j + 1, by go_num, ⟨by omega⟩, ⟨fun b hb => ?_⟩, HB3⟩
                by_cases hbj : b = j
                · rw [hbj]; exact HOK.out
                · exact HAJ.out b (by omega)
              case measure => simp [intOf]; omega
          · go_wp2_with fail
            go_roundw
            case rel =>
              refine ⟨i + 1, by go_num, ⟨by omega⟩, ⟨fun a b ha hb => ?_⟩, HB⟩
              by_cases hai : a = i
              · rw [hai]; exact HAJ.out b (by have := HL.out; omega)
              · exact HA.out a b (by omega) hb
            case measure => simp [intOf]; omega
      · go_wp2_with fail
        go_ret
        refine ⟨ret_bool ?_, HB.out⟩
        rw [Bool.true_and]
        exact (allowB_iff.2 fun a b ha hb => HA.out a b (by have := HL.out; omega) hb).symm
end Go.Proofs.Ytkbcgahpekmlbaa.PPg

namespace Go.Proofs.Ytkbcgahpekmlbaa.PPg
open Go.RowKit Go.Proofs.YtkbcgahpekmlbaaW.PrintWords Go.Proofs.YtkbcgahpekmlbaaW.PrintLast Go.Proofs.YtkbcgahpekmlbaaW.PrintMore
set_option linter.unusedVariables false
set_option maxRecDepth 100000
theorem adr_block (a : Addr) (i : Nat) : (a.add i).block = a.block := by unfold Addr.add; split <;> rfl
theorem adr_off (a : Addr) (i : Nat) : (a.add i).off = a.off + i := by
  unfold Addr.add
  split
  · rename_i h; rw [h]; rfl
  · rfl
/-- A store into the fifth field of a row's element. -/
theorem R_poke4 {W : World} {base g cap n : Nat} {ok : Nat → Prop} {xs : List S30} (h : Kd.R k30 30 W base ok (.slice (some ⟨g, 0, none⟩) n cap) xs) {i : Nat} (hi : i < n) (v : Int) :
    Kd.R k30 30 (W.setCell ⟨g, i * 6 + 4, none⟩ (.int .i64 v)) base ok (.slice (some ⟨g, 0, none⟩) n cap) (xs.set i { rd_T30 xs i with f4 := v }) ∧ W.grownBy (W.setCell ⟨g, i * 6 + 4, none⟩ (.int .i64 v)) (some g) := by
  obtain ⟨hn, _, hC⟩ := Kd.R_reads' h
  obtain ⟨ad, e, x0, x1, x2, x3, x4, x5⟩ := at_T30 hC (i : Int) (by omega) (by omega)
  injection e with e
  subst e
  rw [Int.toNat_natCast] at x0 x1 x2 x3 x4 x5
  rw [adr_block, adr_off] at x1 x2 x3 x4 x5
  have e0 : (⟨g, 0, none⟩ : Addr).add (i * 6) = ⟨g, i * 6, none⟩ := by
    unfold Addr.add
    split
    · rename_i h; rw [h]
    · rw [Nat.zero_add]
  rw [e0] at x0
  simp only [Nat.zero_add] at x1 x2 x3 x4 x5
  have := Kd.R_seg (d := k30) h (i : Int) (by omega) (by omega) (c := [.int .i64 (rd_T30 xs i).f0, .int .i64 (rd_T30 xs i).f1, .int .i64 (rd_T30 xs i).f2, .int .i64 (rd_T30 xs i).f3, .int .i64 (rd_T30 xs i).f4, .int .i64 (rd_T30 xs i).f5]) (seg := [.int .i64 v]) (j := 4) (x' := { rd_T30 xs i with f4 := v }) (okp := fun _ => False) rfl (fun j u hu => by
    rw [Int.toNat_natCast]
    match j, hu with
    | 0, hu => simp only [List.getElem?_cons_zero, Option.some.injEq] at hu; subst hu; exact x0
    | 1, hu => simp only [List.getElem?_cons_succ, List.getElem?_cons_zero, Option.some.injEq] at hu; subst hu; exact x1
    | 2, hu => simp only [List.getElem?_cons_succ, List.getElem?_cons_zero, Option.some.injEq] at hu; subst hu; exact x2
    | 3, hu => simp only [List.getElem?_cons_succ, List.getElem?_cons_zero, Option.some.injEq] at hu; subst hu; exact x3
    | 4, hu => simp only [List.getElem?_cons_succ, List.getElem?_cons_zero, Option.some.injEq] at hu; subst hu; exact x4
    | 5, hu => simp only [List.getElem?_cons_succ, List.getElem?_cons_zero, Option.some.injEq] at hu; subst hu; exact x5
    | j + 6, hu => simp at hu) (Nat.le_of_ble_eq_true rfl) (k30_mkM _ _ _ { rd_T30 xs i with f4 := v }) (fun _ hk => hk.elim)
  rw [Int.toNat_natCast] at this
  exact this
theorem R_rd {W : World} {base g cap n : Nat} {ok : Nat → Prop} {xs : List S30} (h : Kd.R k30 30 W base ok (.slice (some ⟨g, 0, none⟩) n cap) xs) {i : Nat} (hi : i < n) :
    W.cell? ⟨g, i * 6 + 3, none⟩ = some (.int .i64 (rd_T30 xs i).f3) ∧ W.cell? ⟨g, i * 6 + 4, none⟩ = some (.int .i64 (rd_T30 xs i).f4) := by
  obtain ⟨hn, _, hC⟩ := Kd.R_reads' h
  obtain ⟨ad, e, x0, x1, x2, x3, x4, x5⟩ := at_T30 hC (i : Int) (by omega) (by omega)
  injection e with e
  subst e
  rw [Int.toNat_natCast] at x3 x4
  rw [adr_block, adr_off] at x3 x4
  simp only [Nat.zero_add] at x3 x4
  exact ⟨x3, x4⟩
/-- The memory of Slack's loop. -/
structure SL (w0 W : World) (gn : Nat) (P : Int) (v1 v2 : Value) (ev : List S65) (ac : List S30) : Prop where
  net : W.heap[gn]? = some (.cells #[.int .i64 P, v1, v2] 25 (0, 0))
  res : W.heap[w0.heap.size]? = some (.cells #[.int .i64 0, .slice none 0 0, .slice none 0 0] 25 (0, 0))
  evs : Kd.R k65 65 W w0.heap.size (fun _ => True) v1 ev
  acs : Kd.R k30 30 W w0.heap.size (fun _ => True) v2 ac
  below : Below w0.heap.size w0 W
section
variable {w0 W : World} {gn g K cap : Nat} {P : Int} {v1 v2 : Value} {ev : List S65} {ac : List S30}
theorem SL_drew (h : SL w0 W gn P v1 v2 ev ac) : SL w0 W.drew gn P v1 v2 ev ac :=
  ⟨h.net, h.res, Kd.R_below h.evs (below_drew (Below.refl _ _)), Kd.R_below h.acs (below_drew (Below.refl _ _)), below_drew h.below⟩
theorem SL_poke (h : SL w0 W gn P v1 (.slice (some ⟨g, 0, none⟩) K cap) ev ac) {i : Nat} (hi : i < K) (v : Int) : SL w0 (W.setCell ⟨g, i * 6 + 4, none⟩ (.int .i64 v)) gn P v1 (.slice (some ⟨g, 0, none⟩) K cap) ev (ac.set i { rd_T30 ac i with f4 := v }) := by
  have hn := (Kd.R_reads' h.acs).1
  obtain ⟨g', c', e, hb, _, cells, hc⟩ := Kd.R_form h.acs (by omega)
  injection e with e _ _
  injection e with e
  injection e with e
  subst e
  exact ⟨blk_other h.net hc (by decide) _ _, blk_other h.res hc (by decide) _ _, Kd.R_set h.evs hc (fun q hq => by have := E65 q hq; omega) _ _, (R_poke4 h.acs hi v).1, h.below.setCell (p := ⟨g, i * 6 + 4, none⟩) hb _⟩
end
theorem net_rd {P m : Nat} {ac : List S30} {K i : Nat} (hK : ac.length = K) (h : ∀ a ∈ ac, actNet P m a) (hi : i < K) : actNet P m (rd_T30 ac i) := by
  refine h _ ?_
  unfold rd_T30
  rw [Int.toNat_natCast, List.getD_eq_getElem?_getD, List.getElem?_eq_getElem (by omega : i < ac.length)]
  exact List.getElem_mem _
set_option maxHeartbeats 4000000 in
theorem Slack_c (w : World) (A : Option Addr) (c : Nat) (l : List Int) (h : Kd.C (Kd.int .i64) w A l.length l) (hc : l.length ≤ c) (hl : Fit l) :
    Calls Try.prog 25 #[.slice A l.length c] w fun e w' => NetRes w e w' := by
  have H := Aside0.mk h
  have HL := Aside0.mk hl
  clear h hl
  go_enter Try.func25, Try.ntmps25
  go_wp2_with fail
  refine (Network_c _ A c l (Kd.C_below H.out ((Below.refl w.heap.size w).alloc (Nat.le_refl _) (.cells #[.int .i64 0, .slice none 0 0, .slice none 0 0] 25))) hc HL.out).mono ?_
  rintro _ w1 ⟨⟨n, ev, ac, v1, v2, rfl, h1, h2, hok⟩, hb⟩
  obtain ⟨A1, c1, rfl⟩ := Kd.R_slice h1
  obtain ⟨A2, c2, rfl⟩ := Kd.R_slice h2
  have hB1 := below_step ((Below.refl w.heap.size w).alloc (Nat.le_refl _) (.cells #[.int .i64 0, .slice none 0 0, .slice none 0 0] 25)) hb
  have hs1 := hb.size
  have HSL : Aside0 (SL w (w1.alloc (.cells #[.int .i64 n, .slice A1 ev.length c1, .slice A2 ac.length c2] 25)) w1.heap.size n (.slice A1 ev.length c1) (.slice A2 ac.length c2) ev ac) := ⟨by
    rw [World.size_alloc] at hs1 h1 h2
    refine ⟨heap_alloc_new w1 _, (Below.heap_alloc w1 _ _ (by omega)).trans ((hb.block w.heap.size (by rw [World.size_alloc]; omega)).trans (heap_alloc_new w _)), Kd.R_alloc (Kd.R_lower h1 (Nat.le_succ _)) _, Kd.R_alloc (Kd.R_lower h2 (Nat.le_succ _)) _, hB1.alloc (by omega) _⟩⟩
  have HOK := Aside0.mk hok
  obtain ⟨n2, n9, m1, m5, a8, ha⟩ := hok
  have HAC := Aside0.mk ha
  clear h1 h2 hb hB1 hs1 ha
  generalize hK : ac.length = K at *
  have HK := Aside0.mk hK
  clear hK
  go_wp2_with fail
  generalize w1.alloc (.cells #[.int .i64 n, .slice A1 ev.length c1, .slice A2 K c2] 25) = W at *
  generalize w1.heap.size = gn at *
  go_loopw [11] (fun u11 wr => ∃ (i : Nat) (ac' : List S30), u11 = .int .i64 i ∧ Aside0 (i ≤ K ∧ ac'.length = K ∧ ∀ a ∈ ac', actNet n ev.length a) ∧ Aside0 (SL w wr gn n (.slice A1 ev.length c1) (.slice A2 K c2) ev ac')) (fun u11 _ => K - (intOf u11).toNat)
  case atStart => exact ⟨0, ac, rfl, ⟨Nat.zero_le _, HK.out, HAC.out⟩, HSL⟩
  case round =>
    clear HSL HAC
    obtain ⟨i, ac', rfl, HI, HS⟩ := hrel
    obtain ⟨i1, il, i3⟩ := HI.out
    have IL := Aside0.mk il
    have I3 := Aside0.mk i3
    clear HI il i3
    by_cases ci : i < K
    · obtain ⟨g, cx, ex, hgx, _, cells, hcx⟩ := Kd.R_form HS.out.acs (by have := IL.out; omega)
      injection ex with ex exl exc
      subst ex exc
      clear exl
      have NR := Aside0.mk (net_rd IL.out I3.out ci)
      have FZ := blk_frozen hcx (i * 6 + 4)
      clear hcx hgx
      have SD := Aside0.mk (SL_drew HS.out)
      obtain ⟨x3, x4⟩ := R_rd HS.out.acs ci
      obtain ⟨q3, q4, q5, q6⟩ : -(n : Int) ≤ (rd_T30 ac' i).f3 ∧ (rd_T30 ac' i).f3 < 2 * n ∧ (rd_T30 ac' i).f3 ≤ (rd_T30 ac' i).f4 ∧ (rd_T30 ac' i).f4 < (rd_T30 ac' i).f3 + n := by
        obtain ⟨_, _, _, _, _, h6, h7, h8, h9, _⟩ := NR.out
        exact ⟨h6, h7, h8, h9⟩
      have k2 : wr.cell? ⟨gn, 2, none⟩ = some (.slice (some ⟨g, 0, none⟩) K c2) := (blk_cell HS.out.net 2).trans rfl
      have k0 : wr.cell? ⟨gn, 0, none⟩ = some (.int .i64 n) := (blk_cell HS.out.net 0).trans rfl
      go_wp2_with fail
      have e1 : (n : Int).tdiv 2 = n / 2 := Int.tdiv_eq_ediv_of_nonneg (by omega)
      have e2 : IntKind.i64.wrap ((n : Int) / 2) = n / 2 := (IntWalk.i64_left _).trans (IntWalk.wrap64_in _ (by omega))
      have e3 : IntKind.i64.wrap ((rd_T30 ac' i).f4 + (n : Int) / 2) = (rd_T30 ac' i).f4 + n / 2 := (IntWalk.i64_left _).trans (IntWalk.wrap64_in _ (by omega))
      have e4 : IntKind.i64.wrap ((rd_T30 ac' i).f3 + (n : Int)) = (rd_T30 ac' i).f3 + n := (IntWalk.i64_left _).trans (IntWalk.wrap64_in _ (by omega))
      have e5 : IntKind.i64.wrap ((rd_T30 ac' i).f3 + (n : Int) - 1) = (rd_T30 ac' i).f3 + n - 1 := (IntWalk.i64_left _).trans (IntWalk.wrap64_in _ (by omega))
      clear SD
      go_still_tail 20, (by kernel_rfl)
      obtain ⟨v, hv⟩ : ∃ v, (if (rd_T30 ac' i).f3 + (n : Int) - 1 < (rd_T30 ac' i).f4 + (n : Int) / 2 then (rd_T30 ac' i).f3 + (n : Int) - 1 else (rd_T30 ac' i).f4 + (n : Int) / 2) = v := ⟨_, rfl⟩
      have VB : Aside0 ((rd_T30 ac' i).f3 ≤ v ∧ v < (rd_T30 ac' i).f3 + n) := ⟨by rw [← hv]; split <;> omega⟩
      rw [hv]
      change wpList _ _ _ _ _ wr.drew
      have SD := Aside0.mk (SL_drew HS.out)
      have x4' : wr.drew.cell? ⟨g, i * 6 + 4, none⟩ = some (.int .i64 (rd_T30 ac' i).f4) := x4
      have FZ' : wr.drew.frozen? ⟨g, i * 6 + 4, none⟩ = false := FZ
      clear x3 x4 FZ k0 k2 e1 e2 e3 e4 e5 q3 q4 q5 q6 hv HS
      generalize wr.drew = wd at *
      go_wp2_with fail
      go_roundw
      case rel =>
        refine ⟨i + 1, ac'.set i { rd_T30 ac' i with f4 := v }, by go_num, ⟨by omega, by rw [List.length_set]; exact IL.out, fun a ha => ?_⟩, ⟨SL_poke SD.out ci v⟩⟩
        rcases List.mem_or_eq_of_mem_set ha with ha | rfl
        · exact I3.out a ha
        · obtain ⟨h1, h2, h3, h4, h5, h6, h7, h8, h9, h10⟩ := NR.out
          exact ⟨h1, h2, h3, h4, h5, h6, h7, VB.out.1, VB.out.2, h10⟩
      case measure => simp [intOf]; omega
    · have n0 : wr.cell? ⟨gn, 0, none⟩ = some (.int .i64 n) := (blk_cell HS.out.net 0).trans rfl
      have n1 : wr.cell? ⟨gn, 1, none⟩ = some (.slice A1 ev.length c1) := (blk_cell HS.out.net 1).trans rfl
      have n2' : wr.cell? ⟨gn, 2, none⟩ = some (.slice A2 K c2) := (blk_cell HS.out.net 2).trans rfl
      have r0 : wr.cell? ⟨w.heap.size, 0, none⟩ = some (.int .i64 0) := (blk_cell HS.out.res 0).trans rfl
      have r1 : wr.cell? ⟨w.heap.size, 1, none⟩ = some (.slice none 0 0) := (blk_cell HS.out.res 1).trans rfl
      have r2 : wr.cell? ⟨w.heap.size, 2, none⟩ = some (.slice none 0 0) := (blk_cell HS.out.res 2).trans rfl
      have f0 := blk_frozen HS.out.res 0
      have f1 := blk_frozen HS.out.res 1
      have f2 := blk_frozen HS.out.res 2
      have FIN := Aside0.mk (Net_fin HS.out.res HS.out.evs HS.out.acs HS.out.below I3.out ⟨n2, n9⟩ ⟨m1, m5⟩ (by have := IL.out; omega))
      go_wp2_with fail
      refine bodyPost_ret (results_cell_row rfl _ _ w.heap.size 25 #[.int .i64 n, .slice A1 ev.length c1, .slice A2 K c2] (0, 0) _ rfl FIN.out.1 Try.underlying25 rfl (by kernel_rfl)) rfl ?_
      exact FIN.out.2
end Go.Proofs.Ytkbcgahpekmlbaa.PPg

namespace Go.Proofs.Ytkbcgahpekmlbaa.PPg
open Go.RowKit Go.Proofs.YtkbcgahpekmlbaaW.PrintWords Go.Proofs.YtkbcgahpekmlbaaW.PrintLast Go.Proofs.YtkbcgahpekmlbaaW.PrintMore
set_option linter.unusedVariables false
set_option maxRecDepth 100000
theorem rin_e (x a b : Int) : railplanref11_in.f x a b = some (decide (a ≤ x ∧ x ≤ b)) := by
  unfold railplanref11_in.f
  by_cases h : x ≥ a
  · rw [if_pos h]
    have : a ≤ x := h
    simp [this]
  · rw [if_neg h]
    have : ¬ a ≤ x := h
    simp [this]
theorem chk_round {P : Int} {ev : List S65} {ac : List S30} (k : Nat) {i : Int} (i0 : 0 ≤ i) (i1 : i < ac.length) (hl : ac.length ≤ 512) (hm : ev.length ≤ 48) :
    railplanref11_Check.l0 (k + 1) i P ev ac = if okA ((ev.length : Int) - 1) P (rd_T30 ac i) = true then railplanref11_Check.l0 k (i + 1) P ev ac else some false := by
  have e1 : wrap64 ((ev.length : Int) - 1) = ev.length - 1 := IntWalk.wrap64_in _ (by omega)
  have e2 : wrap64 (i + 1) = i + 1 := IntWalk.wrap64_in _ (by omega)
  simp only [railplanref11_Check.l0]
  rw [if_pos i1, if_pos i0, e1, e2]
  generalize rd_T30 ac i = a
  generalize (ev.length : Int) - 1 = last
  simp only [rin_e, Option.bind_some]
  by_cases ok : okA last P a = true
  · rw [if_pos ok]
    obtain ⟨h1, h2, h3, h4, h5, h6, h7, h8⟩ := okA_iff.1 ok
    rw [if_pos (decide_eq_true h1), if_pos (decide_eq_true h2), if_neg h3, if_neg (by omega), if_neg (by omega), if_neg (by omega), IntWalk.wrap64_in _ (by omega), if_neg (by omega), if_pos (decide_eq_true h8)]
  · rw [if_neg ok]
    by_cases c1 : 0 ≤ a.f1 ∧ a.f1 ≤ last
    · rw [if_pos (decide_eq_true c1)]
      by_cases c2 : 0 ≤ a.f2 ∧ a.f2 ≤ last
      · rw [if_pos (decide_eq_true c2)]
        by_cases c3 : a.f1 = a.f2
        · rw [if_pos c3]
        · rw [if_neg c3]
          by_cases c4 : a.f3 < -65536
          · rw [if_pos c4]
          · rw [if_neg c4]
            by_cases c5 : a.f4 > 65536
            · rw [if_pos c5]
            · rw [if_neg c5]
              by_cases c6 : a.f3 > a.f4
              · rw [if_pos c6]
              · rw [if_neg c6, IntWalk.wrap64_in _ (by omega)]
                by_cases c7 : a.f4 - a.f3 ≥ P
                · rw [if_pos c7]
                · rw [if_neg c7]
                  by_cases c8 : 0 ≤ a.f5 ∧ a.f5 ≤ 1048576
                  · exact absurd (okA_iff.2 ⟨c1, c2, c3, by omega, by omega, by omega, by omega, c8⟩) ok
                  · rw [if_neg (by rw [decide_eq_true_eq]; exact c8)]
      · rw [if_neg (by rw [decide_eq_true_eq]; exact c2)]
    · rw [if_neg (by rw [decide_eq_true_eq]; exact c1)]
theorem chk_l0 {P : Int} {ev : List S65} {ac : List S30} (hl : ac.length ≤ 512) (hm : ev.length ≤ 48) : ∀ (d : Nat) (i : Int), 0 ≤ i → i + d = ac.length → Ev (fun k => railplanref11_Check.l0 k i P ev ac) (!badA ((ev.length : Int) - 1) P (ac.drop i.toNat))
  | 0, i, i0, e => by
    rw [List.drop_eq_nil_of_le (by omega)]
    refine Ev.step (f := fun _ => some true) (fun k => ?_) (Ev.now _)
    simp only [railplanref11_Check.l0]
    rw [if_neg (by omega)]
  | d + 1, i, i0, e => by
    rw [drop_30 ac i i0 (by omega)]
    have ih := chk_l0 (P := P) hl hm d (i + 1) (by omega) (by omega)
    refine Ev.step (fun k => chk_round k i0 (by omega) hl hm) ?_
    unfold badA at *
    rw [List.any_cons]
    cases h : okA ((ev.length : Int) - 1) P (rd_T30 ac i) with
    | true => simp only [if_true, Bool.not_true, Bool.false_or]; exact ih
    | false => simp only [Bool.false_eq_true, if_false, Bool.not_false, Bool.true_or, Bool.not_true]; exact Ev.now _
theorem Check_ev (P : Int) (ev : List S65) (ac : List S30) (hl : Fit ev) (hl' : Fit ac) : Ev (fun k => railplanref11_Check.f k P ev ac) (okN P ev ac) := by
  unfold railplanref11_Check.f okN
  simp only [rin_e, Option.bind_some]
  have hbad : Ev (fun k => railplanref11_Check.j0 k true P ev ac) false := Ev.step (f := fun _ => some false) (fun k => by simp only [railplanref11_Check.j0]; rfl) (Ev.now _)
  by_cases c1 : 2 ≤ P ∧ P ≤ 7200
  · rw [decide_eq_true c1]
    simp only [if_true, Bool.true_and]
    by_cases c2 : (ev.length : Int) > 48
    · rw [decide_eq_false (show ¬ ev.length ≤ 48 by omega)]
      simp only [if_pos c2, Bool.false_and]
      exact hbad
    · rw [decide_eq_true (show ev.length ≤ 48 by omega)]
      simp only [if_neg c2, Bool.true_and]
      by_cases c3 : (ac.length : Int) > 512
      · rw [decide_eq_true c3, decide_eq_false (show ¬ ac.length ≤ 512 by omega)]
        exact hbad
      · rw [decide_eq_false c3, decide_eq_true (show ac.length ≤ 512 by omega), Bool.true_and]
        refine Ev.step (f := fun k => railplanref11_Check.l0 k 0 P ev ac) (fun k => by simp only [railplanref11_Check.j0]; rfl) ?_
        exact chk_l0 (by omega) (by omega) ac.length 0 (by omega) (by omega)
  · rw [decide_eq_false c1]
    simp only [Bool.false_eq_true, if_false, Bool.false_and]
    exact hbad
theorem good_l0 {P : Int} {ev : List S65} {ac : List S30} {t : List Int} (hP : 2 ≤ P ∧ P ≤ 7200) (hl : t.length ≤ 48) : ∀ (d : Nat) (i : Int), 0 ≤ i → i + d = t.length → Ev (fun k => railplanref11_Good.l0 k t i P ev ac) (!(t.drop i.toNat).any (badT P))
  | 0, i, i0, e => by
    rw [List.drop_eq_nil_of_le (by omega)]
    refine Ev.step (f := fun _ => some true) (fun k => ?_) (Ev.now _)
    simp only [railplanref11_Good.l0]
    rw [if_neg (by omega)]
  | d + 1, i, i0, e => by
    rw [drop_i t i i0 (by omega)]
    have ih := good_l0 (ev := ev) (ac := ac) hP hl d (i + 1) (by omega) (by omega)
    have e1 : wrap64 (P - 1) = P - 1 := IntWalk.wrap64_in _ (by omega)
    have e2 : wrap64 (i + 1) = i + 1 := IntWalk.wrap64_in _ (by omega)
    refine Ev.step (f := fun k => if decide (0 ≤ rd t i ∧ rd t i ≤ P - 1) = true then railplanref11_Good.l0 k t (i + 1) P ev ac else some false) (fun k => ?_) ?_
    · simp only [railplanref11_Good.l0]
      rw [if_pos (by omega), if_pos i0, e1, e2, rin_e]
      rfl
    · rw [List.any_cons]
      unfold badT
      cases h : decide (0 ≤ rd t i ∧ rd t i ≤ P - 1) with
      | true => simp only [if_true, Bool.not_true, Bool.false_or]; exact ih
      | false => simp only [Bool.false_eq_true, if_false, Bool.not_false, Bool.true_or, Bool.not_true]; exact Ev.now _
theorem Good_ev (P : Int) (ev : List S65) (ac : List S30) (t : List Int) (hl : Fit ev) (hl' : Fit ac) : Ev (fun k => railplanref11_Good.f k P ev ac t) (okT P ev ac t) := by
  unfold railplanref11_Good.f okT
  have hbad : Ev (fun k => railplanref11_Good.j0 k t true P ev ac) false := Ev.step (f := fun _ => some false) (fun k => by simp only [railplanref11_Good.j0]; rfl) (Ev.now _)
  refine Ev.bind (Check_ev P ev ac hl hl') ?_
  cases hok : okN P ev ac with
  | false => simp only [Bool.false_eq_true, if_false, Bool.false_and]; exact hbad
  | true =>
    simp only [if_true, Bool.true_and]
    unfold okN at hok
    simp only [Bool.and_eq_true, decide_eq_true_eq] at hok
    by_cases c : t.length = ev.length
    · rw [decide_eq_true c, show ((t.length : Int) != (ev.length : Int)) = false by rw [c]; simp, Bool.true_and]
      refine Ev.step (f := fun k => railplanref11_Good.l0 k t 0 P ev ac) (fun k => by simp only [railplanref11_Good.j0]; rfl) ?_
      exact good_l0 hok.1 (by omega) t.length 0 (by omega) (by omega)
    · rw [decide_eq_false c, show ((t.length : Int) != (ev.length : Int)) = true by rw [bne_iff_ne]; omega, Bool.false_and]
      exact hbad
/-- How long an activity lasts under times. -/
def lastA (P : Int) (t : List Int) (a : S30) : Int := a.f3 + (rd t a.f2 - rd t a.f1 - a.f3) % P
def overA (P : Int) (t : List Int) (a : S30) : Bool := decide (a.f4 < lastA P t a)
theorem first_l0 {P : Int} {ev : List S65} {ac : List S30} {t : List Int} (hP : 2 ≤ P ∧ P ≤ 7200) (hl : ac.length ≤ 512) (ht : t.length = ev.length) (hr : ∀ i : Int, 0 ≤ i → i < t.length → 0 ≤ rd t i ∧ rd t i < P) (ha : ∀ a ∈ ac, okA ((ev.length : Int) - 1) P a = true) :
    ∀ (d : Nat) (i : Int), 0 ≤ i → i + d = ac.length → ∃ j, Ev (fun k => railplanref11_First.l0 k t i P ev ac) (j, (ac.drop i.toNat).any (overA P t))
  | 0, i, i0, e => by
    rw [List.drop_eq_nil_of_le (by omega)]
    refine ⟨0, Ev.step (f := fun _ => some (0, false)) (fun k => ?_) (Ev.now _)⟩
    simp only [railplanref11_First.l0]
    rw [if_neg (by omega)]
  | d + 1, i, i0, e => by
    have hm : rd_T30 ac i ∈ ac := by
      have := drop_30 ac i i0 (by omega)
      exact List.mem_of_mem_drop (by rw [this]; exact List.mem_cons_self)
    obtain ⟨h1, h2, h3, h4, h5, h6, h7, h8⟩ := okA_iff.1 (ha _ hm)
    rw [drop_30 ac i i0 (by omega), List.any_cons]
    obtain ⟨j, ih⟩ := first_l0 (ev := ev) hP hl ht hr ha d (i + 1) (by omega) (by omega)
    obtain ⟨t10, t11⟩ := hr (rd_T30 ac i).f1 h1.1 (by omega)
    obtain ⟨t20, t21⟩ := hr (rd_T30 ac i).f2 h2.1 (by omega)
    obtain ⟨z0, z1⟩ := em_bound (rd t (rd_T30 ac i).f2 - rd t (rd_T30 ac i).f1 - (rd_T30 ac i).f3) (show (0 : Int) < P by omega)
    have e1 : railplanref11_Lasts.f P ev ac t (rd_T30 ac i).f0 (rd_T30 ac i).f1 (rd_T30 ac i).f2 (rd_T30 ac i).f3 (rd_T30 ac i).f4 (rd_T30 ac i).f5 = some (lastA P t (rd_T30 ac i)) := by
      unfold railplanref11_Lasts.f lastA
      rw [if_pos h2.1, if_pos (by omega), if_pos h1.1, if_pos (by omega), IntWalk.wrap64_in (rd t (rd_T30 ac i).f2 - rd t (rd_T30 ac i).f1) (by omega), IntWalk.wrap64_in _ (by omega), rMod_eq (by omega) (by omega), Option.bind_some, IntWalk.wrap64_in _ (by omega)]
    have e2 : wrap64 (i + 1) = i + 1 := IntWalk.wrap64_in _ (by omega)
    by_cases c : lastA P t (rd_T30 ac i) > (rd_T30 ac i).f4
    · refine ⟨i, Ev.step (f := fun _ => some (i, true)) (fun k => ?_) ?_⟩
      · simp only [railplanref11_First.l0]
        rw [if_pos (by omega), if_pos i0, e1, Option.bind_some, if_pos c]
      · rw [show overA P t (rd_T30 ac i) = true from decide_eq_true c, Bool.true_or]
        exact Ev.now _
    · refine ⟨j, Ev.step (f := fun k => railplanref11_First.l0 k t (i + 1) P ev ac) (fun k => ?_) ?_⟩
      · simp only [railplanref11_First.l0]
        rw [if_pos (by omega), if_pos i0, e1, Option.bind_some, if_neg c, e2]
      · rw [show overA P t (rd_T30 ac i) = false from decide_eq_false c, Bool.false_or]
        exact ih
theorem okN_ok {P : Int} {ev : List S65} {ac : List S30} (h : okN P ev ac = true) : (2 ≤ P ∧ P ≤ 7200) ∧ ev.length ≤ 48 ∧ ac.length ≤ 512 ∧ ∀ a ∈ ac, okA ((ev.length : Int) - 1) P a = true := by
  unfold okN badA at h
  simp only [Bool.and_eq_true, decide_eq_true_eq, Bool.not_eq_true'] at h
  obtain ⟨h1, h2, h3, h4⟩ := h
  refine ⟨h1, h2, h3, fun a ha => ?_⟩
  rw [List.any_eq_false] at h4
  simpa using h4 a ha
theorem Feasible_ev (P : Int) (ev : List S65) (ac : List S30) (t : List Int) (hl : Fit ev) (hl' : Fit ac) : Ev (fun k => railplanref11_Feasible.f k P ev ac t) (okT P ev ac t && !ac.any (overA P t)) := by
  unfold railplanref11_Feasible.f
  have hg := Good_ev P ev ac t hl hl'
  cases hok : okT P ev ac t with
  | false =>
    rw [hok] at hg
    have hf : Ev (fun k => railplanref11_First.f k P ev ac t) (0, false) := by
      unfold railplanref11_First.f
      refine Ev.bind hg ?_
      exact Ev.now _
    refine Ev.bind hf (Ev.bind hg ?_)
    exact Ev.now _
  | true =>
    rw [hok] at hg
    obtain ⟨hn, ht, hr⟩ := okT_mem hok
    obtain ⟨hP, h48, h512, ha⟩ := okN_ok hn
    obtain ⟨j, hj⟩ := first_l0 (ev := ev) hP h512 ht hr ha ac.length 0 (by omega) (by omega)
    have hf : Ev (fun k => railplanref11_First.f k P ev ac t) (j, ac.any (overA P t)) := by
      unfold railplanref11_First.f
      refine Ev.bind hg ?_
      exact hj
    refine Ev.bind hf (Ev.bind hg ?_)
    exact Ev.now _
end Go.Proofs.Ytkbcgahpekmlbaa.PPg

namespace Go.Proofs.Ytkbcgahpekmlbaa.PPg
open Go.RowKit Go.Proofs.YtkbcgahpekmlbaaW.PrintWords Go.Proofs.YtkbcgahpekmlbaaW.PrintLast Go.Proofs.YtkbcgahpekmlbaaW.PrintMore
set_option linter.unusedVariables false
/-- The matrix of the differences of times. -/
def xM (n : Nat) (t : List Int) : Mx := fun i j x => decide (x = (rd t j - rd t i) % n)
theorem em_l (a b n : Int) : (a % n - b) % n = (a - b) % n := Int.emod_sub_emod ..
theorem xM_WC {n m : Nat} (hn : 1 ≤ n) (t : List Int) : WC n m (xM n t) := by
  intro i j k _ _ _ _ _ _ x x0 x1 hx
  obtain ⟨z0, z1⟩ := em_bound (rd t j - rd t i) (show (0 : Int) < n by omega)
  rw [sumB_iff]
  refine ⟨(rd t j - rd t i) % n, z0, z1, decide_eq_true rfl, decide_eq_true ?_⟩
  rw [of_decide_eq_true hx, em_l, em_sub]
  congr 1; omega
theorem xM_full {n m : Nat} (hn : 1 ≤ n) (t : List Int) : full n m (xM n t) := fun i j _ _ => by
  obtain ⟨z0, z1⟩ := em_bound (rd t j - rd t i) (show (0 : Int) < n by omega)
  exact ⟨_, z0, z1, decide_eq_true rfl⟩
theorem xM_le {n m : Nat} (hn : 1 ≤ n) {ac : List S30} {t : List Int} (ha : ∀ a ∈ ac, okAct n a ∧ 0 ≤ a.f1 ∧ 0 ≤ a.f2) (hf : ac.any (overA n t) = false) : le n m (xM n t) (initM n ac) := by
  intro i j hi hj x x0 x1 hx
  have hx := of_decide_eq_true hx
  rw [initM_iff (fun a h => (ha a h).1.1)]
  refine ⟨?_, fun a hm => ?_⟩
  · unfold q00
    obtain ⟨z0, z1⟩ := em_bound (x - 0) (show (0 : Int) < n by omega)
    by_cases e : i = j
    · rw [if_pos e]
      refine decide_eq_true ?_
      rw [hx, e, Int.sub_zero, Int.sub_self, Int.zero_emod, Int.zero_emod]; omega
    · rw [if_neg e]
      exact decide_eq_true z1
  · obtain ⟨hk, p1, p2⟩ := ha a hm
    have hov : ¬ a.f4 < lastA n t a := by
      have := (List.any_eq_false.1 hf) a hm
      exact fun h => this (decide_eq_true h)
    unfold lastA at hov
    have key : ∀ y : Int, y = (rd t a.f2 - rd t a.f1) % n → there n a y = true := fun y hy => by
      unfold there
      refine decide_eq_true ?_
      rw [hy, em_l]; omega
    have e1 : ((a.f1.toNat : Nat) : Int) = a.f1 := by omega
    have e2 : ((a.f2.toNat : Nat) : Int) = a.f2 := by omega
    constructor
    · rintro ⟨rfl, rfl⟩
      rw [e1, e2] at hx
      exact key x hx
    · rintro ⟨rfl, rfl⟩
      rw [e1, e2] at hx
      rw [back_there hn hk.2.1 hk.2.2 x0 x1]
      refine key _ ?_
      rw [hx, show -((rd t a.f1 - rd t a.f2) % (n : Int)) = 0 - (rd t a.f1 - rd t a.f2) % n by omega, em_sub]
      congr 1; omega
/-- Feasible times are allowed, and no set is empty. -/
theorem sound {n : Nat} {ev : List S65} {ac : List S30} {t : List Int} {q : Mx} (hq : TabOk n ev ac q) (hn : okN n ev ac = true) (hf : ac.any (overA n t) = false) : allowB n ev.length q t = true ∧ full n ev.length q := by
  obtain ⟨hP, h48, h512, ha⟩ := okN_ok hn
  have n1 : 1 ≤ n := by omega
  have hle : le n ev.length (xM n t) (initM n ac) := xM_le n1 (fun a h => by
    have h1 := okN_act hn a h
    obtain ⟨h2, h3, _⟩ := okA_iff.1 (ha a h)
    exact ⟨h1, h2.1, h3.1⟩) hf
  rcases hq with ⟨_, hc⟩ | hc
  · exact absurd (xM_full n1 t) (hc.2 _ (xM_WC n1 t) hle)
  · refine ⟨allowB_iff.2 fun i j hi hj => ?_, hc.full⟩
    obtain ⟨z0, z1⟩ := em_bound (rd t j - rd t i) (show (0 : Int) < n by omega)
    exact hc.most _ (xM_WC n1 t) hle i j hi hj _ z0 z1 (decide_eq_true rfl)
end Go.Proofs.Ytkbcgahpekmlbaa.PPg
