-- PRINTED BY print.sh 35421559b90ae4d0a3588c463048766b98c2df88dd9212a6774a882060cdf62d: not written by this session
import Derived.Test.YtdnileakboefgaaPResidueKeepsArgumentsx0
import Derived.Test.YtdnileakboefgaaPResidueKeepsArgumentsx2
import Derived.Test.YtdnileakboefgaaPResidueKeepsArgumentsx3
namespace Go.Proofs.Ytdnileakboefgaa.PResidueKeepsArguments
open Go.RowKit Go.Proofs.YtdnileakboefgaaW.PrintWords Go.Proofs.YtdnileakboefgaaW.PrintLast Go.Proofs.YtdnileakboefgaaW.PrintMore
attribute [local go_sem] max2_int min2_int max_two min_two max_three min_three max_four min_four   -- for this text's walks alone
set_option linter.unusedVariables false
set_option linter.unusedSimpArgs false

/-! ### residue_marked: function 53 -/
mutual
def residue_marked.l0 : Nat → List Bool → List (S35) → Int → Int → Option (List Bool)
  | 0, _, _, _, _ => none
  | k + 1, x5, x11, x12, x13 => if x13 < x12 then (if 0 ≤ x13 then (if x13 < (x11.length : Int) then (residue_marked.l1 k x5 ((rd_T35 x11 x13).f0) x11 x12 x13 ((rd_T35 x11 x13).f0) ((rd_T35 x11 x13).f1)) else (none)) else (none)) else (some x5)
def residue_marked.l1 : Nat → List Bool → Int → List (S35) → Int → Int → Int → Int → Option (List Bool)
  | 0, _, _, _, _, _, _, _ => none
  | k + 1, x5, x8, x11, x12, x13, x254000, x254001 => if x8 < x254001 then (if 0 ≤ x8 then (if x8 < (x5.length : Int) then (residue_marked.l1 k (x5.set (x8 : Int).toNat true) (wrap64 (x8 + 1)) x11 x12 x13 x254000 x254001) else (none)) else (none)) else (residue_marked.l0 k x5 x11 x12 (wrap64 (x13 + 1)))
end
def residue_marked.f (k : Nat) (a0 : Int) (l1 : List (S35)) : Option (List Bool) := if 0 ≤ a0 then (if (a0 : Int).toNat ≤ 281474976710656 then (residue_marked.l0 k (List.replicate (a0 : Int).toNat false) l1 (l1.length : Int) 0) else (none)) else (none)
theorem residue_marked.mono_l : ∀ k, (∀ y0 y1 y2 y3, LeO (residue_marked.l0 k y0 y1 y2 y3) (residue_marked.l0 (k + 1) y0 y1 y2 y3)) ∧ (∀ y0 y1 y2 y3 y4 y5 y6, LeO (residue_marked.l1 k y0 y1 y2 y3 y4 y5 y6) (residue_marked.l1 (k + 1) y0 y1 y2 y3 y4 y5 y6))
  | 0 => ⟨fun _ _ _ _ r h => by simp [residue_marked.l0] at h, fun _ _ _ _ _ _ _ r h => by simp [residue_marked.l1] at h⟩
  | k + 1 => by
    obtain ⟨ih0, ih1⟩ := residue_marked.mono_l k
    refine ⟨?_, ?_⟩
    · intro y0 y1 y2 y3
      unfold residue_marked.l0
      repeat' first
      | (with_reducible exact ih0 _ _ _ _)
      | (with_reducible exact ih1 _ _ _ _ _ _ _)
      | (with_reducible exact LeO.refl _)
      | (with_reducible exact LeO.none _)
      | (with_reducible refine LeO.ite ?_ ?_)
      | (with_reducible refine LeO.bind ?_ (fun _ => ?_))
      | exact ih0 _ _ _ _
      | exact ih1 _ _ _ _ _ _ _
      | exact LeO.none _
      | refine LeO.ite ?_ ?_
      | refine LeO.bind ?_ (fun _ => ?_)
    · intro y0 y1 y2 y3 y4 y5 y6
      unfold residue_marked.l1
      repeat' first
      | (with_reducible exact ih0 _ _ _ _)
      | (with_reducible exact ih1 _ _ _ _ _ _ _)
      | (with_reducible exact LeO.refl _)
      | (with_reducible exact LeO.none _)
      | (with_reducible refine LeO.ite ?_ ?_)
      | (with_reducible refine LeO.bind ?_ (fun _ => ?_))
      | exact ih0 _ _ _ _
      | exact ih1 _ _ _ _ _ _ _
      | exact LeO.none _
      | refine LeO.ite ?_ ?_
      | refine LeO.bind ?_ (fun _ => ?_)
theorem residue_marked.mono : ∀ a0 a1 k, LeO (residue_marked.f k a0 a1) (residue_marked.f (k + 1) a0 a1) := by
  intro a0 a1 k
  obtain ⟨ih0, ih1⟩ := residue_marked.mono_l k
  unfold residue_marked.f
  repeat' first
      | (with_reducible exact ih0 _ _ _ _)
      | (with_reducible exact ih1 _ _ _ _ _ _ _)
      | (with_reducible exact LeO.refl _)
      | (with_reducible exact LeO.none _)
      | (with_reducible refine LeO.ite ?_ ?_)
      | (with_reducible refine LeO.bind ?_ (fun _ => ?_))
      | exact ih0 _ _ _ _
      | exact ih1 _ _ _ _ _ _ _
      | exact LeO.none _
      | refine LeO.ite ?_ ?_
      | refine LeO.bind ?_ (fun _ => ?_)
set_option maxHeartbeats 8000000 in
set_option maxRecDepth 100000 in
theorem residue_marked.calls (k : Nat) (a0 : Int) (A1 : Option Addr) (c1 : Nat) (l1 : List (S35)) (r : List Bool) (w : World) (hr1 : Kd.C k35 w A1 l1.length l1) (hc1 : l1.length ≤ c1) (h : residue_marked.f k a0 l1 = some r) :
    Calls Try.prog 53 #[.int .i64 a0, .slice A1 l1.length c1] w fun e w' => ∃ v0_ : Value, e = .returned (v0_) ∧ Kd.R Kd.bool 4 w' w.heap.size (fun _ => True) v0_ r ∧ Below w.heap.size w w' := by
  have hu35 := Try.underlying35
  have HR1 := Aside0.mk hr1
  have HC1 := Aside0.mk hc1
  clear hr1 hc1
  have HB := Aside0.mk (Below.refl w.heap.size w)
  have H : (if 0 ≤ a0 then (if (a0 : Int).toNat ≤ 281474976710656 then (residue_marked.l0 k (List.replicate (a0 : Int).toNat false) l1 (l1.length : Int) 0) else (none)) else (none)) = some r := h
  clear h
  by_cases c3 : 0 ≤ a0
  · rw [if_pos c3] at H
    have c3b0 := eq_true c3
    have c3b1 : decide (0 ≤ a0) = true := decide_eq_true c3
    clear c3
    by_cases c4 : (a0 : Int).toNat ≤ 281474976710656
    · rw [if_pos c4] at H
      have c4b0 := eq_true c4
      have c4b1 : decide ((a0 : Int).toNat ≤ 281474976710656) = true := decide_eq_true c4
      clear c4
      obtain ⟨y249, hy249⟩ : ∃ y_ : List Bool, y_ = (List.replicate (a0 : Int).toNat false) := ⟨_, rfl⟩
      replace H : (residue_marked.l0 k y249 l1 (l1.length : Int) 0) = some r := by first | (rw [hy249]; with_reducible exact H) | (have H2_ := (Option.bind_some _ _).symm.trans H; rw [hy249]; with_reducible exact H2_) | (have H2_ := (Option.bind_some _ _).symm.trans H; with_reducible exact H2_) | with_reducible exact H | (rw [hy249]; exact H) | exact H
      have Ny249 := Aside0.mk hy249
      clear hy249
      have H' := Aside0.mk H
      clear H
      go_enter Try.func53, Try.ntmps53
      go_wp2_with (first | ((with_reducible refine gate_dst (N := 10) rfl ?_); refine Kd.R_make Kd.bool _ 4 rfl (N := 10) rfl 59 _ _ rfl a0 rfl rfl Try.underlying59 (.bool false) 1 info4 rfl (by decide) (by omega) false (ok := fun _ => True) (okp := fun _ => True) rfl (fun _ hk => hk) trivial (of_decide_eq_true (by first | (with_reducible assumption) | assumption)) (Nat.le_trans (Nat.mul_le_mul_right _ (of_decide_eq_true (by first | (with_reducible assumption) | assumption) : a0.toNat ≤ 281474976710656)) (by omega)) (Below.refl _ _) (Nat.le_refl _) ?_; intro v250 w5 ho6 hb hg_ hnew_; clear hg_ hnew_; (first | rw [← Ny249.out] at ho6 | (simp only [Int.reduceToNat] at ho6; rw [← Ny249.out] at ho6)); have n0_ := Aside0.mk (Kd.R_lower ho6 (below_size (by repeat (first | (with_reducible first | exact HB.out | apply below_alloc | apply pw_below_drewN | apply below_drew1) | exact HB.out)))); have n1_ := Aside0.mk (below_step (by repeat (first | (with_reducible first | exact HB.out | apply below_alloc | apply pw_below_drewN | apply below_drew1) | exact HB.out)) hb); clear HB; have HO251 := n0_; have HB := n1_; clear n0_ n1_; clear hb ho6))
      go_loopg [13] k (fun kq v13 w' => ∃ (x5_1 : List Bool) (x13_1 : Int), v13 = .int .i64 x13_1 ∧ Aside0 (residue_marked.l0 kq x5_1 l1 (l1.length : Int) x13_1 = some r) ∧ Aside0 (kq ≤ k) ∧ Aside0 (Kd.R Kd.bool 4 w' w.heap.size (fun _ => True) v250 x5_1) ∧ Aside0 (Below w.heap.size w w'))
      case atStart => exact ⟨(y249), (0), (by first | rfl | (simp; done) | (simp [*]; done)), H', ⟨Nat.le_refl _⟩, ⟨by (with_reducible repeat (first | apply Kd.R_alloc | apply Kd.R_drewN | apply Kd.R_drew)); exact HO251.out⟩, ⟨by repeat (first | (with_reducible first | exact HB.out | apply below_alloc | apply pw_below_drewN | apply below_drew1) | exact HB.out)⟩⟩
      case round =>
        clear H'
        try clear c1
        try clear p2
        try clear c3
        try clear c3b0
        try clear c3b1
        try clear c4
        try clear c4b0
        try clear c4b1
        try clear c5
        obtain ⟨x5_1, x13_1, rfl, HA, HK1, HO_5, HB⟩ := hrel
        cases gk with
        | zero => exact absurd HA.out (by simp [residue_marked.l0])
        | succ k1 =>
          have H := HA.out
          clear HA
          simp only [residue_marked.l0] at H
          by_cases c7 : x13_1 < (l1.length : Int)
          · rw [if_pos c7] at H
            have c7b0 : decide (x13_1 < (l1.length : Int)) = true := decide_eq_true c7
            clear c7
            by_cases c8 : 0 ≤ x13_1
            · rw [if_pos c8] at H
              have c8b0 : decide (0 ≤ x13_1) = true := decide_eq_true c8
              clear c8
              by_cases c9 : x13_1 < (l1.length : Int)
              · rw [if_pos c9] at H
                have c9b0 : decide (x13_1 < (l1.length : Int)) = true := decide_eq_true c9
                clear c9
                have H' := Aside0.mk H
                clear H
                have p252 : 0 ≤ (x13_1 : Int) := of_decide_eq_true (by first | (with_reducible assumption) | assumption)
                have q252 : x13_1 < (l1.length : Int) := of_decide_eq_true (by first | (with_reducible assumption) | assumption)
                obtain ⟨ad252, e252, hx252_0, hx252_1⟩ := at_T35 HR1.out x13_1 p252 q252
                cases e252
                replace hx252_0 := (HB.out.cell (World.block_lt_of_cell? w _ hx252_0)).trans hx252_0
                replace hx252_1 := (HB.out.cell (World.block_lt_of_cell? w _ hx252_1)).trans hx252_1
                replace p252 := eq_true p252
                replace q252 := eq_true q252
                go_wp2_with (first | ((with_reducible refine gate_dst (N := 7) rfl ?_); refine box_event ?hg (N := 7) ?hd (cs := #[.int .i64 0, .int .i64 0]) (t := 35) ?hr ?_; (case hd => rfl); (case hg => rfl); (case hr => first | (go_simp; done) | (go_simp; rfl)); intro gb253 hg w10 hbox hb; have n0_ := Aside0.mk (Kd.R_below (by (with_reducible repeat (first | apply Kd.R_alloc | apply Kd.R_drewN | apply Kd.R_drew)); exact HO_5.out) hb); have n1_ := Aside0.mk (below_step (by repeat (first | (with_reducible first | exact HB.out | apply below_alloc | apply pw_below_drewN | apply below_drew1) | exact HB.out)) hb); have n2_ := Aside0.mk (hbox); have n3_ := Aside0.mk ((by rw [hg]; exact (below_size (by repeat (first | (with_reducible first | exact HB.out | apply below_alloc | apply pw_below_drewN | apply below_drew1) | exact HB.out))) : w.heap.size ≤ gb253)); have n4_ := Aside0.mk ((by rw [hg]; exact (below_size (by repeat (first | (with_reducible first | exact HB.out | apply below_alloc | apply pw_below_drewN | apply below_drew1) | exact HB.out))) : w.heap.size ≤ gb253)); clear HO_5; clear HB; have HO_5 := n0_; have HB := n1_; have BK253 := n2_; have GW253 := n3_; have GE253 := n4_; clear n0_ n1_ n2_ n3_ n4_; clear hb hbox hg; have hcz11_0 : w10.cell? ⟨gb253, 0, none⟩ = some (.int .i64 0) := (blk_cell BK253.out 0).trans rfl; have hcz11_1 : w10.cell? ⟨gb253, 1, none⟩ = some (.int .i64 0) := (blk_cell BK253.out 1).trans rfl; have hfz11_0 := blk_frozen BK253.out 0; have hfz11_1 := blk_frozen BK253.out 1))
                go_loopg [8] k1 (fun kq v8 w' => ∃ (x5_2 : List Bool) (x8_2 : Int), v8 = .int .i64 x8_2 ∧ Aside0 (residue_marked.l1 kq x5_2 x8_2 l1 (l1.length : Int) x13_1 ((rd_T35 l1 x13_1).f0) ((rd_T35 l1 x13_1).f1) = some r) ∧ Aside0 (kq ≤ k1) ∧ Aside0 (Kd.R Kd.bool 4 w' w.heap.size (fun _ => True) v250 x5_2) ∧ Aside0 (w'.heap[gb253]? = some (.cells #[.int .i64 ((rd_T35 l1 x13_1).f0), .int .i64 ((rd_T35 l1 x13_1).f1)] 35 (0, 0))) ∧ Aside0 (Below w.heap.size w w'))
                case atStart => exact ⟨(x5_1), ((rd_T35 l1 x13_1).f0), (by first | rfl | (simp; done) | (simp [*]; done)), H', ⟨Nat.le_refl _⟩, ⟨by (with_reducible repeat (first | apply Kd.R_alloc | apply Kd.R_drewN | apply Kd.R_drew)); exact Kd.R_mono (Kd.R_far (p := ⟨gb253, 1, none⟩) (Kd.R_far (p := ⟨gb253, 0, none⟩) (Kd.R_types HO_5.out BK253.out (by decide)) (fun _ hk => hk.2) (.int .i64 ((rd_T35 l1 x13_1).f0))) (fun _ hk => hk.2) (.int .i64 ((rd_T35 l1 x13_1).f1))) (fun _ hk => trivial)⟩, ⟨by (with_reducible repeat (first | refine blk_drewN ?_ _ | refine blk_drew ?_ | refine blk_alloc ?_ _)); refine blk_put (cs := #[.int .i64 ((rd_T35 l1 x13_1).f0), .int .i64 0]) ?_ 1 _ rfl; (with_reducible repeat (first | refine blk_drewN ?_ _ | refine blk_drew ?_ | refine blk_alloc ?_ _)); refine blk_put (cs := #[.int .i64 0, .int .i64 0]) ?_ 0 _ rfl; (with_reducible repeat (first | refine blk_drewN ?_ _ | refine blk_drew ?_ | refine blk_alloc ?_ _)); exact BK253.out⟩, ⟨by repeat (first | (with_reducible first | exact HB.out | apply below_alloc | apply pw_below_drewN | apply below_drew1 | refine below_set ?_ GE253.out) | exact HB.out)⟩⟩
                case round =>
                  clear H'
                  try clear c1
                  try clear p2
                  try clear q2
                  try clear hx2
                  try clear c3
                  try clear c3b0
                  try clear c3b1
                  try clear c4
                  try clear c4b0
                  try clear c4b1
                  try clear c5
                  try clear c7
                  try clear c7b0
                  try clear c8
                  try clear c8b0
                  try clear c9
                  try clear c9b0
                  try clear hcz11_0
                  try clear hcz11_1
                  try clear hfz11_0
                  try clear hfz11_1
                  try clear hx252_0
                  try clear hx252_1
                  try clear p2
                  try clear p252
                  try clear q252
                  obtain ⟨x5_2, x8_2, rfl, HA, HK2, HO_5, BK253, HB⟩ := hrel
                  cases gk with
                  | zero => exact absurd HA.out (by simp [residue_marked.l1])
                  | succ k2 =>
                    have H := HA.out
                    clear HA
                    simp only [residue_marked.l1] at H
                    by_cases c12 : x8_2 < ((rd_T35 l1 x13_1).f1)
                    · rw [if_pos c12] at H
                      have c12b0 : decide (x8_2 < ((rd_T35 l1 x13_1).f1)) = true := decide_eq_true c12
                      clear c12
                      by_cases c13 : 0 ≤ x8_2
                      · rw [if_pos c13] at H
                        have c13b0 : decide (0 ≤ x8_2) = true := decide_eq_true c13
                        clear c13
                        by_cases c14 : x8_2 < (x5_2.length : Int)
                        · rw [if_pos c14] at H
                          have c14b0 : decide (x8_2 < (x5_2.length : Int)) = true := decide_eq_true c14
                          clear c14
                          obtain ⟨y254, hy254⟩ : ∃ y_ : List Bool, y_ = (x5_2.set (x8_2 : Int).toNat true) := ⟨_, rfl⟩
                          replace H : (residue_marked.l1 k2 y254 (wrap64 (x8_2 + 1)) l1 (l1.length : Int) x13_1 ((rd_T35 l1 x13_1).f0) ((rd_T35 l1 x13_1).f1)) = some r := by first | (rw [hy254]; with_reducible exact H) | (have H2_ := (Option.bind_some _ _).symm.trans H; rw [hy254]; with_reducible exact H2_) | (have H2_ := (Option.bind_some _ _).symm.trans H; with_reducible exact H2_) | with_reducible exact H | (rw [hy254]; exact H) | exact H
                          have Ny254 := Aside0.mk hy254
                          clear hy254
                          have H' := Aside0.mk H
                          clear H
                          have hcz16_0 : wr.cell? ⟨gb253, 0, none⟩ = some (.int .i64 ((rd_T35 l1 x13_1).f0)) := (blk_cell BK253.out 0).trans rfl
                          have hcz16_1 : wr.cell? ⟨gb253, 1, none⟩ = some (.int .i64 ((rd_T35 l1 x13_1).f1)) := (blk_cell BK253.out 1).trans rfl
                          have hfz16_0 := blk_frozen BK253.out 0
                          have hfz16_1 := blk_frozen BK253.out 1
                          have p15 : 0 ≤ (x8_2 : Int) := of_decide_eq_true (by first | (with_reducible assumption) | assumption)
                          have q15 : (x8_2 : Int) < ((x5_2.length : Int) : Int) := of_decide_eq_true (by first | (with_reducible assumption) | assumption)
                          obtain ⟨go15, co15, eo15, gb15, gl15, cl15, HG15⟩ := Kd.R_form HO_5.out (by omega)
                          (first | cases eo15 | (injection eo15 with ea_ en_ ec_; (first | subst ea_ | (injection ea_ with ea_; subst ea_)); subst ec_; clear en_))
                          have GB15 := Aside0.mk gb15
                          have GG15 := Aside0.mk HG15
                          clear gb15 gl15 HG15
                          obtain ⟨hx15_0, hf15_0⟩ := Kd.R_celln false HO_5.out (x8_2 : Int) p15 q15
                          replace p15 := eq_true p15
                          replace q15 := eq_true q15
                          have HP17 := Kd.R_putg HO_5.out (x8_2 : Int) true
                          go_wp2_with (first | ((with_reducible refine gate_store (t := 4) (p := 27) rfl ?_); refine store_event (t := 4) (p := 27) (v := ?vo_w18) (w1 := (wr.setCell ⟨go15, (x8_2 : Int).toNat, none⟩ (.bool true))) ?hg ?ho ?hn ?hr ?_; (case ho => rfl); (case hg => rfl); (case hn => rfl); (case hr => first | (go_simp; done) | (go_simp; rfl)); intro w18 hw; have hg : wr.grownBy w18 (some go15) := (by rw [hw]; exact HP17.2); have hp_ : Kd.R Kd.bool 4 w18 w.heap.size (fun _ => True) (.slice (some ⟨go15, 0, none⟩) x5_2.length co15) y254 := (by rw [hw, Ny254.out]; exact HP17.1); clear HP17; have n0_ := Aside0.mk (hp_); have n1_ := Aside0.mk (blk_grown (g := gb253) (o := .cells #[.int .i64 ((rd_T35 l1 x13_1).f0), .int .i64 ((rd_T35 l1 x13_1).f1)] 35 (0, 0)) (by (with_reducible repeat (first | refine blk_drewN ?_ _ | refine blk_drew ?_ | refine blk_alloc ?_ _)); exact BK253.out) hg (Kd.R_ne HO_5.out BK253.out (by decide))); have n2_ := Aside0.mk ((by rw [hw]; exact below_set (HB.out) GB15.out : Below w.heap.size w w18)); clear HO_5; clear BK253; clear HB; have HO_5 := n0_; have BK253 := n1_; have HB := n2_; clear n0_ n1_ n2_; clear hg hw hp_))
                          go_roundg k2
                          case measure => have := HK1.out; have := HK2.out; omega
                          case rel => exact ⟨(y254), (wrap64 (x8_2 + 1)), (by first | rfl | (simp; done) | (simp [*]; done)), H', ⟨by have := HK1.out; have := HK2.out; omega⟩, ⟨by (with_reducible repeat (first | apply Kd.R_alloc | apply Kd.R_drewN | apply Kd.R_drew)); exact HO_5.out⟩, ⟨by (with_reducible repeat (first | refine blk_drewN ?_ _ | refine blk_drew ?_ | refine blk_alloc ?_ _)); exact BK253.out⟩, ⟨by repeat (first | (with_reducible first | exact HB.out | apply below_alloc | apply pw_below_drewN | apply below_drew1 | refine below_set ?_ GE253.out) | exact HB.out)⟩⟩
                        · rw [if_neg c14] at H
                          exact absurd H (by simp)
                      · rw [if_neg c13] at H
                        exact absurd H (by simp)
                    · rw [if_neg c12] at H
                      have c12b0 : decide (x8_2 < ((rd_T35 l1 x13_1).f1)) = false := decide_eq_false c12
                      clear c12
                      have H' := Aside0.mk H
                      clear H
                      have hcz19_0 : wr.cell? ⟨gb253, 0, none⟩ = some (.int .i64 ((rd_T35 l1 x13_1).f0)) := (blk_cell BK253.out 0).trans rfl
                      have hcz19_1 : wr.cell? ⟨gb253, 1, none⟩ = some (.int .i64 ((rd_T35 l1 x13_1).f1)) := (blk_cell BK253.out 1).trans rfl
                      have hfz19_0 := blk_frozen BK253.out 0
                      have hfz19_1 := blk_frozen BK253.out 1
                      go_wp2
                      go_roundg k2
                      case measure => have := HK1.out; have := HK2.out; omega
                      case rel => exact ⟨(x5_2), (wrap64 (x13_1 + 1)), (by first | rfl | (simp; done) | (simp [*]; done)), H', ⟨by have := HK1.out; have := HK2.out; omega⟩, ⟨by (with_reducible repeat (first | apply Kd.R_alloc | apply Kd.R_drewN | apply Kd.R_drew)); exact HO_5.out⟩, ⟨by repeat (first | (with_reducible first | exact HB.out | apply below_alloc | apply pw_below_drewN | apply below_drew1 | refine below_set ?_ GE253.out) | exact HB.out)⟩⟩
              · rw [if_neg c9] at H
                exact absurd H (by simp)
            · rw [if_neg c8] at H
              exact absurd H (by simp)
          · rw [if_neg c7] at H
            have c7b0 : decide (x13_1 < (l1.length : Int)) = false := decide_eq_false c7
            clear c7
            obtain rfl := Option.some.inj H
            go_wp2
            go_ret
            exact ⟨_, by first | rfl | (simp [errW_none, errW_some] <;> rfl) | (simp [*, errW_none, errW_some] <;> rfl), by (with_reducible repeat (first | apply Kd.R_alloc | apply Kd.R_drewN | apply Kd.R_drew)); exact HO_5.out, by repeat (first | (with_reducible first | exact HB.out | apply below_alloc | apply pw_below_drewN | apply below_drew1) | exact HB.out)⟩
    · rw [if_neg c4] at H
      exact absurd H (by simp)
  · rw [if_neg c3] at H
    exact absurd H (by simp)

/-! ### residue_Union: function 35 -/
def residue_Union.l0 : Nat → List Bool → List (S35) → Int → Int → Option ((List (S35)) × Int)
  | 0, _, _, _, _ => none
  | k + 1, x9, x23, x24, x25 => if x25 < x24 then (if 0 ≤ x25 then (if x25 < (x23.length : Int) then ((residue_marks_put.f k x9 ((rd_T35 x23 x25).f0) (wrap64 (((rd_T35 x23 x25).f1) - ((rd_T35 x23 x25).f0)))).bind fun t264 => (residue_Union.l0 k t264 x23 x24 (wrap64 (x25 + 1)))) else (none)) else (none)) else ((residue_marks_list.f k x9).bind fun t265 => (some (t265, 0)))
def residue_Union.f (k : Nat) (a0 : Int) (l1 : List (S35)) (l2 : List (S35)) : Option ((List (S35)) × Int) := (residue_check.f k a0 (([l1, l2] : List (List (S35))))).bind fun t258 => (if t258 = 0 then ((residue_marked.f k a0 l1).bind fun t259 => (residue_Union.l0 k t259 l2 (l2.length : Int) 0)) else (some (([] : List (S35)), t258)))
theorem residue_Union.mono_l : ∀ k, (∀ y0 y1 y2 y3, LeO (residue_Union.l0 k y0 y1 y2 y3) (residue_Union.l0 (k + 1) y0 y1 y2 y3))
  | 0 => fun _ _ _ _ r h => by simp [residue_Union.l0] at h
  | k + 1 => by
    have ih0 := residue_Union.mono_l k
    · intro y0 y1 y2 y3
      unfold residue_Union.l0
      repeat' first
      | (with_reducible exact ih0 _ _ _ _)
      | (with_reducible exact residue_check.mono _ _ _)
      | (with_reducible exact residue_marked.mono _ _ _)
      | (with_reducible exact residue_marks_list.mono _ _)
      | (with_reducible exact residue_marks_put.mono _ _ _ _)
      | (with_reducible exact LeO.refl _)
      | (with_reducible exact LeO.none _)
      | (with_reducible refine LeO.ite ?_ ?_)
      | (with_reducible refine LeO.bind ?_ (fun _ => ?_))
      | exact ih0 _ _ _ _
      | exact residue_check.mono _ _ _
      | exact residue_marked.mono _ _ _
      | exact residue_marks_list.mono _ _
      | exact residue_marks_put.mono _ _ _ _
      | exact LeO.none _
      | refine LeO.ite ?_ ?_
      | refine LeO.bind ?_ (fun _ => ?_)
theorem residue_Union.mono : ∀ a0 a1 a2 k, LeO (residue_Union.f k a0 a1 a2) (residue_Union.f (k + 1) a0 a1 a2) := by
  intro a0 a1 a2 k
  have ih0 := residue_Union.mono_l k
  unfold residue_Union.f
  repeat' first
      | (with_reducible exact ih0 _ _ _ _)
      | (with_reducible exact residue_check.mono _ _ _)
      | (with_reducible exact residue_marked.mono _ _ _)
      | (with_reducible exact residue_marks_list.mono _ _)
      | (with_reducible exact residue_marks_put.mono _ _ _ _)
      | (with_reducible exact LeO.refl _)
      | (with_reducible exact LeO.none _)
      | (with_reducible refine LeO.ite ?_ ?_)
      | (with_reducible refine LeO.bind ?_ (fun _ => ?_))
      | exact ih0 _ _ _ _
      | exact residue_check.mono _ _ _
      | exact residue_marked.mono _ _ _
      | exact residue_marks_list.mono _ _
      | exact residue_marks_put.mono _ _ _ _
      | exact LeO.none _
      | refine LeO.ite ?_ ?_
      | refine LeO.bind ?_ (fun _ => ?_)
set_option maxHeartbeats 8000000 in
set_option maxRecDepth 100000 in
theorem residue_Union.calls (k : Nat) (a0 : Int) (P1_ : Nat → Prop) (A1 : Option Addr) (c1 : Nat) (l1 : List (S35)) (P2_ : Nat → Prop) (A2 : Option Addr) (c2 : Nat) (l2 : List (S35)) (r1 : List (S35)) (r2 : Int) (w : World) (hs1 : Kd.V k35 35 w w.heap.size (fun k_ => P1_ k_) (.slice A1 l1.length c1) l1) (hs2 : Kd.V k35 35 w w.heap.size (fun k_ => P2_ k_) (.slice A2 l2.length c2) l2) (h : residue_Union.f k a0 l1 l2 = some (r1, r2)) :
    Calls Try.prog 35 #[.int .i64 a0, .slice A1 l1.length c1, .slice A2 l2.length c2] w fun e w' => ∃ v0_ : Value, e = .returned (.tuple #[v0_, .int .i64 r2]) ∧ Kd.R k35 35 w' w.heap.size (fun k_ => (w.heap.size ≤ k_)) v0_ r1 ∧ Below w.heap.size w w' := by
  have hu35 := Try.underlying35
  have HO1 := Aside0.mk (show Kd.V k35 35 w w.heap.size (fun k_ => ((P1_ k_ ∨ P2_ k_) ∨ w.heap.size ≤ k_)) (.slice A1 l1.length c1) l1 from Kd.V_mono hs1 (fun k_ hk => .inl (.inl hk)))
  have HO2 := Aside0.mk (show Kd.V k35 35 w w.heap.size (fun k_ => ((P1_ k_ ∨ P2_ k_) ∨ w.heap.size ≤ k_)) (.slice A2 l2.length c2) l2 from Kd.V_mono hs2 (fun k_ hk => .inl (.inr hk)))
  have HB := Aside0.mk (Below.refl w.heap.size w)
  have H : ((residue_check.f k a0 (([l1, l2] : List (List (S35))))).bind fun t258 => (if t258 = 0 then ((residue_marked.f k a0 l1).bind fun t259 => (residue_Union.l0 k t259 l2 (l2.length : Int) 0)) else (some (([] : List (S35)), t258)))) = some (r1, r2) := h
  clear h
  obtain ⟨y255, hy255⟩ : ∃ y_ : List (List (S35)), y_ = (([l1, l2] : List (List (S35)))) := ⟨_, rfl⟩
  replace H : ((residue_check.f k a0 y255).bind fun t258 => (if t258 = 0 then ((residue_marked.f k a0 l1).bind fun t259 => (residue_Union.l0 k t259 l2 (l2.length : Int) 0)) else (some (([] : List (S35)), t258)))) = some (r1, r2) := by first | (rw [hy255]; with_reducible exact H) | (have H2_ := (Option.bind_some _ _).symm.trans H; rw [hy255]; with_reducible exact H2_) | (have H2_ := (Option.bind_some _ _).symm.trans H; with_reducible exact H2_) | with_reducible exact H | (rw [hy255]; exact H) | exact H
  have Ny255 := Aside0.mk hy255
  clear hy255
  replace H := Option.bind_eq_some_iff.mp H
  obtain ⟨t258, A40, H⟩ := H
  replace H : (if t258 = 0 then ((residue_marked.f k a0 l1).bind fun t259 => (residue_Union.l0 k t259 l2 (l2.length : Int) 0)) else (some (([] : List (S35)), t258))) = some (r1, r2) := H
  have A4 := Aside0.mk A40
  clear A40
  by_cases c5 : t258 = 0
  · rw [if_pos c5] at H
    have c5b0 : (t258 == 0) = true := beq_iff_eq.mpr c5
    have c5b1 : (t258 != 0) = false := bne_eq_false_iff_eq.mpr c5
    clear c5
    replace H := Option.bind_eq_some_iff.mp H
    obtain ⟨t259, A60, H⟩ := H
    replace H : (residue_Union.l0 k t259 l2 (l2.length : Int) 0) = some (r1, r2) := H
    have A6 := Aside0.mk A60
    clear A60
    have H' := Aside0.mk H
    clear H
    go_enter Try.func35, Try.ntmps35
    go_wp2_with (first | ((with_reducible refine gate_dst (N := 15) rfl ?_); refine Kd.N_lit (Kd.slice 35 k35) _ 22 ?hg (N' := 15) ?hd (xs := ([l1, l2] : List (List (S35)))) (inner := [.slice A1 l1.length c1, .slice A2 l2.length c2]) (ok := (fun k_ => ((P1_ k_ ∨ P2_ k_) ∨ w.heap.size ≤ k_))) (okp := (fun k_ => ((P1_ k_ ∨ P2_ k_) ∨ w.heap.size ≤ k_))) ?hr ?hp (fun _ hk => hk) ((show ∀ k_, w.heap.size ≤ k_ → (fun k_ => ((P1_ k_ ∨ P2_ k_) ∨ w.heap.size ≤ k_)) k_ from fun k_ hk => (.inr (Nat.le_trans (below_size (by repeat (first | (with_reducible first | exact HB.out | apply below_alloc | apply pw_below_drewN | apply below_drew1) | exact HB.out))) hk))) _ (Nat.le_refl _)) (Below.refl _ _) (Nat.le_refl _) (by simp) ?_; (case hd => rfl); (case hg => rfl); (case hr => first | (go_simp; done) | (go_simp; rfl)); (case hp => exact (Reps.one (show Kd.FK (Kd.slice 35 k35) _ _ l1 [.slice A1 l1.length c1] from (Kd.FK_slice_mk (Kd.V_reads' (Kd.V_mono (ok' := (fun k_ => ((P1_ k_ ∨ P2_ k_) ∨ w.heap.size ≤ k_))) (HO1.out) (fun k_ hk => hk))).2.1 (Kd.V_F (Kd.V_mono (ok' := (fun k_ => ((P1_ k_ ∨ P2_ k_) ∨ w.heap.size ≤ k_))) (HO1.out) (fun k_ hk => hk))))) (Reps.one (show Kd.FK (Kd.slice 35 k35) _ _ l2 [.slice A2 l2.length c2] from (Kd.FK_slice_mk (Kd.V_reads' (Kd.V_mono (ok' := (fun k_ => ((P1_ k_ ∨ P2_ k_) ∨ w.heap.size ≤ k_))) (HO2.out) (fun k_ hk => hk))).2.1 (Kd.V_F (Kd.V_mono (ok' := (fun k_ => ((P1_ k_ ∨ P2_ k_) ∨ w.heap.size ≤ k_))) (HO2.out) (fun k_ hk => hk))))) (Reps.none _ _)))); intro v256 w7 ho8 hb hg_ hnew_; clear hg_ hnew_; (first | rw [← Ny255.out] at ho8 | (simp only [Int.reduceToNat] at ho8; rw [← Ny255.out] at ho8)); have n0_ := Aside0.mk (Kd.V_elder' (by (with_reducible repeat (first | apply Kd.V_alloc | apply Kd.V_drewN | apply Kd.V_drew)); exact HO1.out) (Kd.N_base ho8) hb); have n1_ := Aside0.mk (Kd.V_elder' (by (with_reducible repeat (first | apply Kd.V_alloc | apply Kd.V_drewN | apply Kd.V_drew)); exact HO2.out) (Kd.N_base ho8) hb); have n2_ := Aside0.mk (Kd.N_lower ho8 (below_size (by repeat (first | (with_reducible first | exact HB.out | apply below_alloc | apply pw_below_drewN | apply below_drew1) | exact HB.out)))); have n3_ := Aside0.mk (below_step (by repeat (first | (with_reducible first | exact HB.out | apply below_alloc | apply pw_below_drewN | apply below_drew1) | exact HB.out)) hb); clear HO1; clear HO2; clear HB; have HO1 := n0_; have HO2 := n1_; have HO257 := n2_; have HB := n3_; clear n0_ n1_ n2_ n3_; clear hb ho8; obtain ⟨Ao9, co9, eo9⟩ := Kd.N_slice HO257.out; subst eo9) | ((with_reducible refine gate_callee (f := 45) rfl ?_); refine goesL_ (some 16) rfl rfl Try.func45 (by kernel_rfl) rfl #[.int .i64 a0, .slice Ao9 y255.length co9] rfl (by (try simp only [List.map_toArray, List.map_cons, List.map_nil]); first | done | rfl | (simp only [List.length_drop, List.length_take]; rfl)) ?_; (with_reducible refine (residue_check.calls k a0 _ _ y255 t258 _ ?side1 ?side2 A4.out).mono ?_); (case side1 => repeat (first | exact (Kd.N_reads' HO257.out).2.2 | (with_reducible refine Kd.C_alloc ?_ _) | (with_reducible refine Kd.C_drewN ?_ _) | (with_reducible refine Kd.C_drew ?_))); (case side2 => exact (Kd.N_reads' HO257.out).2.1); rintro e w10 ⟨rfl, hb⟩; refine ⟨_, rfl, ?_⟩; have n0_ := Aside0.mk (Kd.V_below (by (with_reducible repeat (first | apply Kd.V_alloc | apply Kd.V_drewN | apply Kd.V_drew)); exact HO1.out) hb); have n1_ := Aside0.mk (Kd.V_below (by (with_reducible repeat (first | apply Kd.V_alloc | apply Kd.V_drewN | apply Kd.V_drew)); exact HO2.out) hb); have n2_ := Aside0.mk (Kd.N_below (by (with_reducible repeat (first | apply Kd.N_alloc | apply Kd.N_drewN | apply Kd.N_drew)); exact HO257.out) hb); have n3_ := Aside0.mk (below_step (by repeat (first | (with_reducible first | exact HB.out | apply below_alloc | apply pw_below_drewN | apply below_drew1) | exact HB.out)) hb); clear HO1; clear HO2; clear HO257; clear HB; have HO1 := n0_; have HO2 := n1_; have HO257 := n2_; have HB := n3_; clear n0_ n1_ n2_ n3_; (try clear hb); (try clear hb2); (try clear hk); (try clear hi)) | ((with_reducible refine gate_callee (f := 53) rfl ?_); refine goesL_ (some 22) rfl rfl Try.func53 (by kernel_rfl) rfl #[.int .i64 a0, .slice A1 l1.length c1] rfl (by (try simp only [List.map_toArray, List.map_cons, List.map_nil]); first | done | rfl | (simp only [List.length_drop, List.length_take]; rfl)) ?_; (with_reducible refine (residue_marked.calls k a0 _ _ l1 t259 _ ?side1 ?side2 A6.out).mono ?_); (case side1 => repeat (first | exact (Kd.V_reads' HO1.out).2.2 | (with_reducible refine Kd.C_alloc ?_ _) | (with_reducible refine Kd.C_drewN ?_ _) | (with_reducible refine Kd.C_drew ?_))); (case side2 => exact (Kd.V_reads' HO1.out).2.1); rintro e w11 ⟨v260, rfl, ho0, hb⟩; refine ⟨_, rfl, ?_⟩; have n0_ := Aside0.mk (Kd.V_elder' (by (with_reducible repeat (first | apply Kd.V_alloc | apply Kd.V_drewN | apply Kd.V_drew)); exact HO1.out) (Kd.R_base ho0) hb); have n1_ := Aside0.mk (Kd.V_elder' (by (with_reducible repeat (first | apply Kd.V_alloc | apply Kd.V_drewN | apply Kd.V_drew)); exact HO2.out) (Kd.R_base ho0) hb); have n2_ := Aside0.mk (Kd.N_elder' (by (with_reducible repeat (first | apply Kd.N_alloc | apply Kd.N_drewN | apply Kd.N_drew)); exact HO257.out) (Kd.R_base ho0) hb); have n3_ := Aside0.mk (Kd.R_lower (Kd.R_newM (M := fun k_ => (w.heap.size ≤ k_)) ho0 (below_size (by repeat (first | (with_reducible first | exact HB.out | apply below_alloc | apply pw_below_drewN | apply below_drew1) | exact HB.out))) (fun k_ h_ => h_)) (below_size (by repeat (first | (with_reducible first | exact HB.out | apply below_alloc | apply pw_below_drewN | apply below_drew1) | exact HB.out)))); have n4_ := Aside0.mk (below_step (by repeat (first | (with_reducible first | exact HB.out | apply below_alloc | apply pw_below_drewN | apply below_drew1) | exact HB.out)) hb); clear HO1; clear HO2; clear HO257; clear HB; have HO1 := n0_; have HO2 := n1_; have HO257 := n2_; have HO261 := n3_; have HB := n4_; clear n0_ n1_ n2_ n3_ n4_; (try clear hb); (try clear hb2); (try clear hk); (try clear hi); (try clear ho0)))
    go_loopg [25] k (fun kq v25 w' => ∃ (x9_1 : List Bool) (x25_1 : Int), v25 = .int .i64 x25_1 ∧ Aside0 (residue_Union.l0 kq x9_1 l2 (l2.length : Int) x25_1 = some (r1, r2)) ∧ Aside0 (kq ≤ k) ∧ Aside0 (Kd.R Kd.bool 4 w' w.heap.size (fun k_ => (w.heap.size ≤ k_)) v260 x9_1) ∧ Aside0 (Kd.V k35 35 w' w.heap.size (fun k_ => ((P1_ k_ ∨ P2_ k_) ∨ w.heap.size ≤ k_) ∧ some k_ ≠ (v260 : Value).ownBlock) (.slice A2 l2.length c2) l2) ∧ Aside0 (Below w.heap.size w w'))
    case atStart => exact ⟨(t259), (0), (by first | rfl | (simp; done) | (simp [*]; done)), H', ⟨Nat.le_refl _⟩, ⟨by (with_reducible repeat (first | apply Kd.R_alloc | apply Kd.R_drewN | apply Kd.R_drew)); exact Kd.R_mono HO261.out (fun _ hk => hk.1)⟩, ⟨by (with_reducible repeat (first | apply Kd.V_alloc | apply Kd.V_drewN | apply Kd.V_drew)); exact Kd.V_mono HO2.out (fun _ hk => ⟨hk.1.1, hk.2⟩)⟩, ⟨by repeat (first | (with_reducible first | exact HB.out | apply below_alloc | apply pw_below_drewN | apply below_drew1) | exact HB.out)⟩⟩
    case round =>
      clear H'
      try clear c1
      try clear c2
      try clear p2
      try clear c3
      try clear c4
      try clear c5
      try clear c5b0
      try clear c5b1
      obtain ⟨x9_1, x25_1, rfl, HA, HK1, HO_9, HO_23, HB⟩ := hrel
      cases gk with
      | zero => exact absurd HA.out (by simp [residue_Union.l0])
      | succ k1 =>
        have H := HA.out
        clear HA
        simp only [residue_Union.l0] at H
        by_cases c12 : x25_1 < (l2.length : Int)
        · rw [if_pos c12] at H
          have c12b0 : decide (x25_1 < (l2.length : Int)) = true := decide_eq_true c12
          clear c12
          by_cases c13 : 0 ≤ x25_1
          · rw [if_pos c13] at H
            have c13b0 : decide (0 ≤ x25_1) = true := decide_eq_true c13
            clear c13
            by_cases c14 : x25_1 < (l2.length : Int)
            · rw [if_pos c14] at H
              have c14b0 : decide (x25_1 < (l2.length : Int)) = true := decide_eq_true c14
              clear c14
              replace H := Option.bind_eq_some_iff.mp H
              obtain ⟨t264, A150, H⟩ := H
              replace H : (residue_Union.l0 k1 t264 l2 (l2.length : Int) (wrap64 (x25_1 + 1))) = some (r1, r2) := H
              have A15 := Aside0.mk A150
              clear A150
              have H' := Aside0.mk H
              clear H
              have p262 : 0 ≤ (x25_1 : Int) := of_decide_eq_true (by first | (with_reducible assumption) | assumption)
              have q262 : x25_1 < (l2.length : Int) := of_decide_eq_true (by first | (with_reducible assumption) | assumption)
              obtain ⟨ad262, e262, hx262_0, hx262_1⟩ := at_T35 (Kd.V_reads' HO_23.out).2.2 x25_1 p262 q262
              cases e262
              replace p262 := eq_true p262
              replace q262 := eq_true q262
              go_wp2_with (first | ((with_reducible refine gate_dst (N := 11) rfl ?_); refine box_event ?hg (N := 11) ?hd (cs := #[.int .i64 0, .int .i64 0]) (t := 35) ?hr ?_; (case hd => rfl); (case hg => rfl); (case hr => first | (go_simp; done) | (go_simp; rfl)); intro gb263 hg w16 hbox hb; have n0_ := Aside0.mk (Kd.R_below (by (with_reducible repeat (first | apply Kd.R_alloc | apply Kd.R_drewN | apply Kd.R_drew)); exact HO_9.out) hb); have n1_ := Aside0.mk (Kd.V_below (Kd.V_elderB (by (with_reducible repeat (first | apply Kd.V_alloc | apply Kd.V_drewN | apply Kd.V_drew)); exact HO_23.out) gb263 (Nat.le_of_eq hg.symm)) hb); have n2_ := Aside0.mk (below_step (by repeat (first | (with_reducible first | exact HB.out | apply below_alloc | apply pw_below_drewN | apply below_drew1) | exact HB.out)) hb); have n3_ := Aside0.mk (hbox); have n4_ := Aside0.mk ((by rw [hg]; exact (below_size (by repeat (first | (with_reducible first | exact HB.out | apply below_alloc | apply pw_below_drewN | apply below_drew1) | exact HB.out))) : w.heap.size ≤ gb263)); have n5_ := Aside0.mk ((by rw [hg]; exact (below_size (by repeat (first | (with_reducible first | exact HB.out | apply below_alloc | apply pw_below_drewN | apply below_drew1) | exact HB.out))) : w.heap.size ≤ gb263)); clear HO_9; clear HO_23; clear HB; have HO_9 := n0_; have HO_23 := n1_; have HB := n2_; have BK263 := n3_; have GW263 := n4_; have GE263 := n5_; clear n0_ n1_ n2_ n3_ n4_ n5_; clear hb hbox hg; have hcz17_0 : w16.cell? ⟨gb263, 0, none⟩ = some (.int .i64 0) := (blk_cell BK263.out 0).trans rfl; have hcz17_1 : w16.cell? ⟨gb263, 1, none⟩ = some (.int .i64 0) := (blk_cell BK263.out 1).trans rfl; have hfz17_0 := blk_frozen BK263.out 0; have hfz17_1 := blk_frozen BK263.out 1) | ((with_reducible refine gate_store (t := 35) (p := 11) rfl ?_); refine store_event (t := 35) (p := 11) (v := ?vo_w18) (w1 := ((w16.setCell ⟨gb263, 0, none⟩ (.int .i64 ((rd_T35 l2 x25_1).f0))).setCell ⟨gb263, 1, none⟩ (.int .i64 ((rd_T35 l2 x25_1).f1)))) ?hg ?ho ?hn ?hr ?_; (case ho => rfl); (case hg => rfl); (case hn => rfl); (case hr => first | (go_simp; done) | (go_simp; rfl)); intro w18 hw; have n0_ : Aside0 (Kd.R Kd.bool 4 w18 w.heap.size (fun k_ => (w.heap.size ≤ k_)) v260 x9_1) := ⟨(by rw [hw]; exact (by (with_reducible repeat (first | apply Kd.R_alloc | apply Kd.R_drewN | apply Kd.R_drew)); exact Kd.R_mono (Kd.R_far (p := ⟨gb263, 1, none⟩) (Kd.R_far (p := ⟨gb263, 0, none⟩) (Kd.R_types HO_9.out BK263.out (by decide)) (fun _ hk => hk.2) (.int .i64 ((rd_T35 l2 x25_1).f0))) (fun _ hk => hk.2) (.int .i64 ((rd_T35 l2 x25_1).f1))) (fun _ hk => hk.1)))⟩; have n1_ : Aside0 (Kd.V k35 35 w18 w.heap.size (fun k_ => ((P1_ k_ ∨ P2_ k_) ∨ w.heap.size ≤ k_) ∧ some k_ ≠ (v260 : Value).ownBlock ∧ k_ ≠ gb263) (.slice (some ad262) l2.length c2) l2) := ⟨(by rw [hw]; exact (by (with_reducible repeat (first | apply Kd.V_alloc | apply Kd.V_drewN | apply Kd.V_drew)); exact Kd.V_mono (Kd.V_far (p := ⟨gb263, 1, none⟩) (Kd.V_far (p := ⟨gb263, 0, none⟩) (Kd.V_mono HO_23.out (fun k_ hk => (⟨hk, hk.2⟩ : _ ∧ k_ ≠ gb263))) (fun _ hk => hk.2) (.int .i64 ((rd_T35 l2 x25_1).f0))) (fun _ hk => hk.2) (.int .i64 ((rd_T35 l2 x25_1).f1))) (fun _ hk => ⟨hk.1.1.1, ⟨hk.1.1.2, hk.1.2⟩⟩)))⟩; have n2_ : Aside0 (w18.heap[gb263]? = some (.cells #[.int .i64 ((rd_T35 l2 x25_1).f0), .int .i64 ((rd_T35 l2 x25_1).f1)] 35 (0, 0))) := ⟨(by rw [hw]; exact (by (with_reducible repeat (first | refine blk_drewN ?_ _ | refine blk_drew ?_ | refine blk_alloc ?_ _)); refine blk_put (cs := #[.int .i64 ((rd_T35 l2 x25_1).f0), .int .i64 0]) ?_ 1 _ rfl; (with_reducible repeat (first | refine blk_drewN ?_ _ | refine blk_drew ?_ | refine blk_alloc ?_ _)); refine blk_put (cs := #[.int .i64 0, .int .i64 0]) ?_ 0 _ rfl; (with_reducible repeat (first | refine blk_drewN ?_ _ | refine blk_drew ?_ | refine blk_alloc ?_ _)); exact BK263.out))⟩; have n3_ : Aside0 (Below w.heap.size w w18) := ⟨(by rw [hw]; exact (by repeat (first | (with_reducible first | exact HB.out | apply below_alloc | apply pw_below_drewN | apply below_drew1 | refine below_set ?_ GE263.out) | exact HB.out)))⟩; clear hw; clear HO_9; clear HO_23; clear BK263; clear HB; have HO_9 := n0_; have HO_23 := n1_; have BK263 := n2_; have HB := n3_; clear n0_ n1_ n2_ n3_; have hcz19_0 : w18.cell? ⟨gb263, 0, none⟩ = some (.int .i64 ((rd_T35 l2 x25_1).f0)) := (blk_cell BK263.out 0).trans rfl; have hcz19_1 : w18.cell? ⟨gb263, 1, none⟩ = some (.int .i64 ((rd_T35 l2 x25_1).f1)) := (blk_cell BK263.out 1).trans rfl; have hfz19_0 := blk_frozen BK263.out 0; have hfz19_1 := blk_frozen BK263.out 1; obtain ⟨Ao20, co20, eo20⟩ := Kd.R_slice HO_9.out; subst eo20) | ((with_reducible refine gate_callee (f := 46) rfl ?_); refine goesL_ (some 37) rfl rfl Try.func46 (by kernel_rfl) rfl #[.slice Ao20 x9_1.length co20, .int .i64 ((rd_T35 l2 x25_1).f0), .int .i64 (wrap64 (((rd_T35 l2 x25_1).f1) - ((rd_T35 l2 x25_1).f0)))] rfl (by (try simp only [List.map_toArray, List.map_cons, List.map_nil]); first | done | rfl | (simp only [List.length_drop, List.length_take]; rfl)) ?_; (with_reducible refine (residue_marks_put.calls k1 (fun k_ => some k_ = (.slice Ao20 x9_1.length co20 : Value).ownBlock) (.slice Ao20 x9_1.length co20) x9_1 ((rd_T35 l2 x25_1).f0) (wrap64 (((rd_T35 l2 x25_1).f1) - ((rd_T35 l2 x25_1).f0))) t264 w _ ?side1 ?side2 A15.out).mono ?_); (case side1 => repeat (first | (with_reducible first | exact HB.out | apply below_alloc | apply pw_below_drewN | apply below_drew1 | refine below_set ?_ GE263.out) | exact HB.out)); (case side2 => exact Kd.R_tight rfl HO_9.out); rintro e w21 ⟨rfl, hy0, hb, hkp⟩; refine ⟨_, rfl, ?_⟩; have n0_ := Aside0.mk (Kd.R_reok rfl hy0 (fun k_ e_ => HO_9.out.1 k_ e_)); have n1_ := Aside0.mk (Kd.V_mono (ok' := fun k_ => ((P1_ k_ ∨ P2_ k_) ∨ w.heap.size ≤ k_) ∧ some k_ ≠ (.slice Ao20 x9_1.length co20 : Value).ownBlock ∧ k_ ≠ gb263) (Kd.V_keptB (HO_23.out) hkp (fun k_ hk_ hs_ => (hk_.2.1) hs_)) (fun k_ hk_ => ⟨hk_.1.1, hk_.1.2.1, hk_.1.2.2⟩)); have n2_ := Aside0.mk (blk_kept (by (with_reducible repeat (first | refine blk_drewN ?_ _ | refine blk_drew ?_ | refine blk_alloc ?_ _)); exact BK263.out) hkp (fun hs_ => (fun e_ => (Kd.R_ne HO_9.out BK263.out (by decide)) e_) hs_)); have n3_ := Aside0.mk (hb); clear HO_9; clear HO_23; clear BK263; clear HB; have HO_9 := n0_; have HO_23 := n1_; have BK263 := n2_; have HB := n3_; clear n0_ n1_ n2_ n3_; (try clear hb); (try clear hkp); (try clear hy0)))
              go_roundg k1
              case measure => have := HK1.out; omega
              case rel => exact ⟨(t264), (wrap64 (x25_1 + 1)), (by first | rfl | (simp; done) | (simp [*]; done)), H', ⟨by have := HK1.out; omega⟩, ⟨by (with_reducible repeat (first | apply Kd.R_alloc | apply Kd.R_drewN | apply Kd.R_drew)); exact HO_9.out⟩, ⟨by (with_reducible repeat (first | apply Kd.V_alloc | apply Kd.V_drewN | apply Kd.V_drew)); exact Kd.V_mono HO_23.out (fun _ hk => ⟨hk.1, hk.2.1⟩)⟩, ⟨by repeat (first | (with_reducible first | exact HB.out | apply below_alloc | apply pw_below_drewN | apply below_drew1 | refine below_set ?_ GE263.out) | exact HB.out)⟩⟩
            · rw [if_neg c14] at H
              exact absurd H (by simp)
          · rw [if_neg c13] at H
            exact absurd H (by simp)
        · rw [if_neg c12] at H
          have c12b0 : decide (x25_1 < (l2.length : Int)) = false := decide_eq_false c12
          clear c12
          replace H := Option.bind_eq_some_iff.mp H
          obtain ⟨t265, A220, H⟩ := H
          replace H : (some (t265, 0)) = some (r1, r2) := H
          have A22 := Aside0.mk A220
          clear A220
          simp only [Option.some.injEq, Prod.mk.injEq] at H
          obtain ⟨rfl, rfl⟩ := H
          obtain ⟨Ao23, co23, eo23⟩ := Kd.R_slice HO_9.out
          subst eo23
          go_wp2_with (first | ((with_reducible refine gate_callee (f := 47) rfl ?_); refine goesL_ (some 40) rfl rfl Try.func47 (by kernel_rfl) rfl #[.slice Ao23 x9_1.length co23] rfl (by (try simp only [List.map_toArray, List.map_cons, List.map_nil]); first | done | rfl | (simp only [List.length_drop, List.length_take]; rfl)) ?_; (with_reducible refine (residue_marks_list.calls k1 _ _ x9_1 t265 _ ?side1 ?side2 A22.out).mono ?_); (case side1 => repeat (first | exact (Kd.R_reads' HO_9.out).2.2 | (with_reducible refine Kd.C_alloc ?_ _) | (with_reducible refine Kd.C_drewN ?_ _) | (with_reducible refine Kd.C_drew ?_))); (case side2 => exact (Kd.R_reads' HO_9.out).2.1); rintro e w24 ⟨v266, rfl, ho0, hb⟩; refine ⟨_, rfl, ?_⟩; have n0_ := Aside0.mk (Kd.R_below (by (with_reducible repeat (first | apply Kd.R_alloc | apply Kd.R_drewN | apply Kd.R_drew)); exact HO_9.out) hb); have n1_ := Aside0.mk (Kd.V_elder' (by (with_reducible repeat (first | apply Kd.V_alloc | apply Kd.V_drewN | apply Kd.V_drew)); exact HO_23.out) (Kd.R_base ho0) hb); have n2_ := Aside0.mk (Kd.R_lower (Kd.R_newM (M := fun k_ => (w.heap.size ≤ k_)) ho0 (below_size (by repeat (first | (with_reducible first | exact HB.out | apply below_alloc | apply pw_below_drewN | apply below_drew1) | exact HB.out))) (fun k_ h_ => h_)) (below_size (by repeat (first | (with_reducible first | exact HB.out | apply below_alloc | apply pw_below_drewN | apply below_drew1) | exact HB.out)))); have n3_ := Aside0.mk (below_step (by repeat (first | (with_reducible first | exact HB.out | apply below_alloc | apply pw_below_drewN | apply below_drew1) | exact HB.out)) hb); clear HO_9; clear HO_23; clear HB; have HO_9 := n0_; have HO_23 := n1_; have HO267 := n2_; have HB := n3_; clear n0_ n1_ n2_ n3_; (try clear hb); (try clear hb2); (try clear hk); (try clear hi); (try clear ho0)))
          go_ret2
          exact ⟨_, by first | rfl | (simp [errW_none, errW_some] <;> rfl) | (simp [*, errW_none, errW_some] <;> rfl), by (with_reducible repeat (first | apply Kd.R_alloc | apply Kd.R_drewN | apply Kd.R_drew)); exact Kd.R_mono HO267.out (fun _ hk => hk.1), by repeat (first | (with_reducible first | exact HB.out | apply below_alloc | apply pw_below_drewN | apply below_drew1) | exact HB.out)⟩
  · rw [if_neg c5] at H
    have c5b0 : (t258 == 0) = false := beq_eq_false_iff_ne.mpr c5
    have c5b1 : (t258 != 0) = true := bne_iff_ne.mpr c5
    simp only [Option.some.injEq, Prod.mk.injEq] at H
    obtain ⟨rfl, rfl⟩ := H
    go_enter Try.func35, Try.ntmps35
    go_wp2_with (first | ((with_reducible refine gate_dst (N := 15) rfl ?_); refine Kd.N_lit (Kd.slice 35 k35) _ 22 ?hg (N' := 15) ?hd (xs := ([l1, l2] : List (List (S35)))) (inner := [.slice A1 l1.length c1, .slice A2 l2.length c2]) (ok := (fun k_ => ((P1_ k_ ∨ P2_ k_) ∨ w.heap.size ≤ k_))) (okp := (fun k_ => ((P1_ k_ ∨ P2_ k_) ∨ w.heap.size ≤ k_))) ?hr ?hp (fun _ hk => hk) ((show ∀ k_, w.heap.size ≤ k_ → (fun k_ => ((P1_ k_ ∨ P2_ k_) ∨ w.heap.size ≤ k_)) k_ from fun k_ hk => (.inr (Nat.le_trans (below_size (by repeat (first | (with_reducible first | exact HB.out | apply below_alloc | apply pw_below_drewN | apply below_drew1) | exact HB.out))) hk))) _ (Nat.le_refl _)) (Below.refl _ _) (Nat.le_refl _) (by simp) ?_; (case hd => rfl); (case hg => rfl); (case hr => first | (go_simp; done) | (go_simp; rfl)); (case hp => exact (Reps.one (show Kd.FK (Kd.slice 35 k35) _ _ l1 [.slice A1 l1.length c1] from (Kd.FK_slice_mk (Kd.V_reads' (Kd.V_mono (ok' := (fun k_ => ((P1_ k_ ∨ P2_ k_) ∨ w.heap.size ≤ k_))) (HO1.out) (fun k_ hk => hk))).2.1 (Kd.V_F (Kd.V_mono (ok' := (fun k_ => ((P1_ k_ ∨ P2_ k_) ∨ w.heap.size ≤ k_))) (HO1.out) (fun k_ hk => hk))))) (Reps.one (show Kd.FK (Kd.slice 35 k35) _ _ l2 [.slice A2 l2.length c2] from (Kd.FK_slice_mk (Kd.V_reads' (Kd.V_mono (ok' := (fun k_ => ((P1_ k_ ∨ P2_ k_) ∨ w.heap.size ≤ k_))) (HO2.out) (fun k_ hk => hk))).2.1 (Kd.V_F (Kd.V_mono (ok' := (fun k_ => ((P1_ k_ ∨ P2_ k_) ∨ w.heap.size ≤ k_))) (HO2.out) (fun k_ hk => hk))))) (Reps.none _ _)))); intro v256 w25 ho26 hb hg_ hnew_; clear hg_ hnew_; (first | rw [← Ny255.out] at ho26 | (simp only [Int.reduceToNat] at ho26; rw [← Ny255.out] at ho26)); have n0_ := Aside0.mk (Kd.V_elder' (by (with_reducible repeat (first | apply Kd.V_alloc | apply Kd.V_drewN | apply Kd.V_drew)); exact HO1.out) (Kd.N_base ho26) hb); have n1_ := Aside0.mk (Kd.V_elder' (by (with_reducible repeat (first | apply Kd.V_alloc | apply Kd.V_drewN | apply Kd.V_drew)); exact HO2.out) (Kd.N_base ho26) hb); have n2_ := Aside0.mk (Kd.N_lower ho26 (below_size (by repeat (first | (with_reducible first | exact HB.out | apply below_alloc | apply pw_below_drewN | apply below_drew1) | exact HB.out)))); have n3_ := Aside0.mk (below_step (by repeat (first | (with_reducible first | exact HB.out | apply below_alloc | apply pw_below_drewN | apply below_drew1) | exact HB.out)) hb); clear HO1; clear HO2; clear HB; have HO1 := n0_; have HO2 := n1_; have HO257 := n2_; have HB := n3_; clear n0_ n1_ n2_ n3_; clear hb ho26; obtain ⟨Ao27, co27, eo27⟩ := Kd.N_slice HO257.out; subst eo27) | ((with_reducible refine gate_callee (f := 45) rfl ?_); refine goesL_ (some 16) rfl rfl Try.func45 (by kernel_rfl) rfl #[.int .i64 a0, .slice Ao27 y255.length co27] rfl (by (try simp only [List.map_toArray, List.map_cons, List.map_nil]); first | done | rfl | (simp only [List.length_drop, List.length_take]; rfl)) ?_; (with_reducible refine (residue_check.calls k a0 _ _ y255 t258 _ ?side1 ?side2 A4.out).mono ?_); (case side1 => repeat (first | exact (Kd.N_reads' HO257.out).2.2 | (with_reducible refine Kd.C_alloc ?_ _) | (with_reducible refine Kd.C_drewN ?_ _) | (with_reducible refine Kd.C_drew ?_))); (case side2 => exact (Kd.N_reads' HO257.out).2.1); rintro e w28 ⟨rfl, hb⟩; refine ⟨_, rfl, ?_⟩; have n0_ := Aside0.mk (Kd.V_below (by (with_reducible repeat (first | apply Kd.V_alloc | apply Kd.V_drewN | apply Kd.V_drew)); exact HO1.out) hb); have n1_ := Aside0.mk (Kd.V_below (by (with_reducible repeat (first | apply Kd.V_alloc | apply Kd.V_drewN | apply Kd.V_drew)); exact HO2.out) hb); have n2_ := Aside0.mk (Kd.N_below (by (with_reducible repeat (first | apply Kd.N_alloc | apply Kd.N_drewN | apply Kd.N_drew)); exact HO257.out) hb); have n3_ := Aside0.mk (below_step (by repeat (first | (with_reducible first | exact HB.out | apply below_alloc | apply pw_below_drewN | apply below_drew1) | exact HB.out)) hb); clear HO1; clear HO2; clear HO257; clear HB; have HO1 := n0_; have HO2 := n1_; have HO257 := n2_; have HB := n3_; clear n0_ n1_ n2_ n3_; (try clear hb); (try clear hb2); (try clear hk); (try clear hi)))
    go_ret2
    exact ⟨_, by first | rfl | (simp [errW_none, errW_some] <;> rfl) | (simp [*, errW_none, errW_some] <;> rfl), by first | exact Kd.R_nil _ _ _ _ _ | exact Kd.N_nil _ _ _ _ _ | exact Kd.V_nil _ _ _ _ _ | exact Kd.Q_nil _ _ _ _ _ | exact Kd.S_nil _ _ _ _ _, by repeat (first | (with_reducible first | exact HB.out | apply below_alloc | apply pw_below_drewN | apply below_drew1) | exact HB.out)⟩

/-! ### residue_Intersect: function 37 -/
mutual
def residue_Intersect.l0 : Nat → List (S35) → List (S35) → List (S35) → Int → Int → Option ((List (S35)) × Int)
  | 0, _, _, _, _, _ => none
  | k + 1, x1, x2, x9, x10, x11 => if x10 < (x1.length : Int) then (residue_Intersect.j1 k x1 x2 x9 x10 x11 (decide (x11 < (x2.length : Int)))) else (residue_Intersect.j1 k x1 x2 x9 x10 x11 false)
def residue_Intersect.j1 : Nat → List (S35) → List (S35) → List (S35) → Int → Int → Bool → Option ((List (S35)) × Int)
  | 0, _, _, _, _, _, _ => none
  | k + 1, x1, x2, x9, x10, x11, x31 => if x31 = true then (if 0 ≤ x10 then (if x10 < (x1.length : Int) then (if 0 ≤ x11 then (if x11 < (x2.length : Int) then (if (mx ((rd_T35 x1 x10).f0) ((rd_T35 x2 x11).f0)) < (mn ((rd_T35 x1 x10).f1) ((rd_T35 x2 x11).f1)) then (if x9.length < 8796093022208 then ((some (x9 ++ [(⟨mx ((rd_T35 x1 x10).f0) ((rd_T35 x2 x11).f0), mn ((rd_T35 x1 x10).f1) ((rd_T35 x2 x11).f1)⟩ : S35)] : List (S35))).bind fun y276 => (if ((rd_T35 x1 x10).f1) < ((rd_T35 x2 x11).f1) then (residue_Intersect.l0 k x1 x2 y276 (wrap64 (x10 + 1)) x11) else (residue_Intersect.l0 k x1 x2 y276 x10 (wrap64 (x11 + 1))))) else (none)) else (if ((rd_T35 x1 x10).f1) < ((rd_T35 x2 x11).f1) then (residue_Intersect.l0 k x1 x2 x9 (wrap64 (x10 + 1)) x11) else (residue_Intersect.l0 k x1 x2 x9 x10 (wrap64 (x11 + 1))))) else (none)) else (none)) else (none)) else (none)) else (some (x9, 0))
end
def residue_Intersect.f (k : Nat) (a0 : Int) (l1 : List (S35)) (l2 : List (S35)) : Option ((List (S35)) × Int) := (residue_check.f k a0 (([l1, l2] : List (List (S35))))).bind fun t271 => (if t271 = 0 then (residue_Intersect.l0 k l1 l2 ([] : List (S35)) 0 0) else (some (([] : List (S35)), t271)))
theorem residue_Intersect.mono_l : ∀ k, (∀ y0 y1 y2 y3 y4, LeO (residue_Intersect.l0 k y0 y1 y2 y3 y4) (residue_Intersect.l0 (k + 1) y0 y1 y2 y3 y4)) ∧ (∀ y0 y1 y2 y3 y4 y5, LeO (residue_Intersect.j1 k y0 y1 y2 y3 y4 y5) (residue_Intersect.j1 (k + 1) y0 y1 y2 y3 y4 y5))
  | 0 => ⟨fun _ _ _ _ _ r h => by simp [residue_Intersect.l0] at h, fun _ _ _ _ _ _ r h => by simp [residue_Intersect.j1] at h⟩
  | k + 1 => by
    obtain ⟨ih0, ih1⟩ := residue_Intersect.mono_l k
    refine ⟨?_, ?_⟩
    · intro y0 y1 y2 y3 y4
      unfold residue_Intersect.l0
      repeat' first
      | (with_reducible exact ih0 _ _ _ _ _)
      | (with_reducible exact ih1 _ _ _ _ _ _)
      | (with_reducible exact residue_check.mono _ _ _)
      | (with_reducible exact LeO.refl _)
      | (with_reducible exact LeO.none _)
      | (with_reducible refine LeO.ite ?_ ?_)
      | (with_reducible refine LeO.bind ?_ (fun _ => ?_))
      | exact ih0 _ _ _ _ _
      | exact ih1 _ _ _ _ _ _
      | exact residue_check.mono _ _ _
      | exact LeO.none _
      | refine LeO.ite ?_ ?_
      | refine LeO.bind ?_ (fun _ => ?_)
    · intro y0 y1 y2 y3 y4 y5
      unfold residue_Intersect.j1
      repeat' first
      | (with_reducible exact ih0 _ _ _ _ _)
      | (with_reducible exact ih1 _ _ _ _ _ _)
      | (with_reducible exact residue_check.mono _ _ _)
      | (with_reducible exact LeO.refl _)
      | (with_reducible exact LeO.none _)
      | (with_reducible refine LeO.ite ?_ ?_)
      | (with_reducible refine LeO.bind ?_ (fun _ => ?_))
      | exact ih0 _ _ _ _ _
      | exact ih1 _ _ _ _ _ _
      | exact residue_check.mono _ _ _
      | exact LeO.none _
      | refine LeO.ite ?_ ?_
      | refine LeO.bind ?_ (fun _ => ?_)
theorem residue_Intersect.mono : ∀ a0 a1 a2 k, LeO (residue_Intersect.f k a0 a1 a2) (residue_Intersect.f (k + 1) a0 a1 a2) := by
  intro a0 a1 a2 k
  obtain ⟨ih0, ih1⟩ := residue_Intersect.mono_l k
  unfold residue_Intersect.f
  repeat' first
      | (with_reducible exact ih0 _ _ _ _ _)
      | (with_reducible exact ih1 _ _ _ _ _ _)
      | (with_reducible exact residue_check.mono _ _ _)
      | (with_reducible exact LeO.refl _)
      | (with_reducible exact LeO.none _)
      | (with_reducible refine LeO.ite ?_ ?_)
      | (with_reducible refine LeO.bind ?_ (fun _ => ?_))
      | exact ih0 _ _ _ _ _
      | exact ih1 _ _ _ _ _ _
      | exact residue_check.mono _ _ _
      | exact LeO.none _
      | refine LeO.ite ?_ ?_
      | refine LeO.bind ?_ (fun _ => ?_)
set_option maxHeartbeats 8000000 in
set_option maxRecDepth 100000 in
theorem residue_Intersect.calls (k : Nat) (a0 : Int) (P1_ : Nat → Prop) (A1 : Option Addr) (c1 : Nat) (l1 : List (S35)) (P2_ : Nat → Prop) (A2 : Option Addr) (c2 : Nat) (l2 : List (S35)) (r1 : List (S35)) (r2 : Int) (w : World) (hs1 : Kd.V k35 35 w w.heap.size (fun k_ => P1_ k_) (.slice A1 l1.length c1) l1) (hs2 : Kd.V k35 35 w w.heap.size (fun k_ => P2_ k_) (.slice A2 l2.length c2) l2) (h : residue_Intersect.f k a0 l1 l2 = some (r1, r2)) :
    Calls Try.prog 37 #[.int .i64 a0, .slice A1 l1.length c1, .slice A2 l2.length c2] w fun e w' => ∃ v0_ : Value, e = .returned (.tuple #[v0_, .int .i64 r2]) ∧ Kd.R k35 35 w' w.heap.size (fun k_ => (w.heap.size ≤ k_)) v0_ r1 ∧ Below w.heap.size w w' := by
  have hu35 := Try.underlying35
  have HO1 := Aside0.mk (show Kd.V k35 35 w w.heap.size (fun k_ => ((P1_ k_ ∨ P2_ k_) ∨ w.heap.size ≤ k_)) (.slice A1 l1.length c1) l1 from Kd.V_mono hs1 (fun k_ hk => .inl (.inl hk)))
  have HO2 := Aside0.mk (show Kd.V k35 35 w w.heap.size (fun k_ => ((P1_ k_ ∨ P2_ k_) ∨ w.heap.size ≤ k_)) (.slice A2 l2.length c2) l2 from Kd.V_mono hs2 (fun k_ hk => .inl (.inr hk)))
  have HB := Aside0.mk (Below.refl w.heap.size w)
  have H : ((residue_check.f k a0 (([l1, l2] : List (List (S35))))).bind fun t271 => (if t271 = 0 then (residue_Intersect.l0 k l1 l2 ([] : List (S35)) 0 0) else (some (([] : List (S35)), t271)))) = some (r1, r2) := h
  clear h
  obtain ⟨y268, hy268⟩ : ∃ y_ : List (List (S35)), y_ = (([l1, l2] : List (List (S35)))) := ⟨_, rfl⟩
  replace H : ((residue_check.f k a0 y268).bind fun t271 => (if t271 = 0 then (residue_Intersect.l0 k l1 l2 ([] : List (S35)) 0 0) else (some (([] : List (S35)), t271)))) = some (r1, r2) := by first | (rw [hy268]; with_reducible exact H) | (have H2_ := (Option.bind_some _ _).symm.trans H; rw [hy268]; with_reducible exact H2_) | (have H2_ := (Option.bind_some _ _).symm.trans H; with_reducible exact H2_) | with_reducible exact H | (rw [hy268]; exact H) | exact H
  have Ny268 := Aside0.mk hy268
  clear hy268
  replace H := Option.bind_eq_some_iff.mp H
  obtain ⟨t271, A40, H⟩ := H
  replace H : (if t271 = 0 then (residue_Intersect.l0 k l1 l2 ([] : List (S35)) 0 0) else (some (([] : List (S35)), t271))) = some (r1, r2) := H
  have A4 := Aside0.mk A40
  clear A40
  by_cases c5 : t271 = 0
  · rw [if_pos c5] at H
    have c5b0 : (t271 == 0) = true := beq_iff_eq.mpr c5
    have c5b1 : (t271 != 0) = false := bne_eq_false_iff_eq.mpr c5
    clear c5
    have H' := Aside0.mk H
    clear H
    go_enter Try.func37, Try.ntmps37
    go_wp2_with (first | ((with_reducible refine gate_dst (N := 17) rfl ?_); (try (refine gate_guard (by rfl) ?_; dsimp only)); refine Kd.N_lit (Kd.slice 35 k35) _ 22 ?hg (N' := 17) ?hd (xs := ([l1, l2] : List (List (S35)))) (inner := [.slice A1 l1.length c1, .slice A2 l2.length c2]) (ok := (fun k_ => ((P1_ k_ ∨ P2_ k_) ∨ w.heap.size ≤ k_))) (okp := (fun k_ => ((P1_ k_ ∨ P2_ k_) ∨ w.heap.size ≤ k_))) ?hr ?hp (fun _ hk => hk) ((show ∀ k_, w.heap.size ≤ k_ → (fun k_ => ((P1_ k_ ∨ P2_ k_) ∨ w.heap.size ≤ k_)) k_ from fun k_ hk => (.inr (Nat.le_trans (below_size (by repeat (first | (with_reducible first | exact HB.out | apply below_alloc | apply pw_below_drewN | apply below_drew1) | exact HB.out))) hk))) _ (Nat.le_refl _)) (Below.refl _ _) (Nat.le_refl _) (by simp) ?_; (case hd => rfl); (case hg => rfl); (case hr => first | (go_simp; done) | (go_simp; rfl)); (case hp => exact (Reps.one (show Kd.FK (Kd.slice 35 k35) _ _ l1 [.slice A1 l1.length c1] from (Kd.FK_slice_mk (Kd.V_reads' (Kd.V_mono (ok' := (fun k_ => ((P1_ k_ ∨ P2_ k_) ∨ w.heap.size ≤ k_))) (HO1.out) (fun k_ hk => hk))).2.1 (Kd.V_F (Kd.V_mono (ok' := (fun k_ => ((P1_ k_ ∨ P2_ k_) ∨ w.heap.size ≤ k_))) (HO1.out) (fun k_ hk => hk))))) (Reps.one (show Kd.FK (Kd.slice 35 k35) _ _ l2 [.slice A2 l2.length c2] from (Kd.FK_slice_mk (Kd.V_reads' (Kd.V_mono (ok' := (fun k_ => ((P1_ k_ ∨ P2_ k_) ∨ w.heap.size ≤ k_))) (HO2.out) (fun k_ hk => hk))).2.1 (Kd.V_F (Kd.V_mono (ok' := (fun k_ => ((P1_ k_ ∨ P2_ k_) ∨ w.heap.size ≤ k_))) (HO2.out) (fun k_ hk => hk))))) (Reps.none _ _)))); intro v269 w6 ho7 hb hg_ hnew_; clear hg_ hnew_; (first | rw [← Ny268.out] at ho7 | (simp only [Int.reduceToNat] at ho7; rw [← Ny268.out] at ho7)); have n0_ := Aside0.mk (Kd.V_elder' (by (with_reducible repeat (first | apply Kd.V_alloc | apply Kd.V_drewN | apply Kd.V_drew)); exact HO1.out) (Kd.N_base ho7) hb); have n1_ := Aside0.mk (Kd.V_elder' (by (with_reducible repeat (first | apply Kd.V_alloc | apply Kd.V_drewN | apply Kd.V_drew)); exact HO2.out) (Kd.N_base ho7) hb); have n2_ := Aside0.mk (Kd.N_lower ho7 (below_size (by repeat (first | (with_reducible first | exact HB.out | apply below_alloc | apply pw_below_drewN | apply below_drew1) | exact HB.out)))); have n3_ := Aside0.mk (below_step (by repeat (first | (with_reducible first | exact HB.out | apply below_alloc | apply pw_below_drewN | apply below_drew1) | exact HB.out)) hb); clear HO1; clear HO2; clear HB; have HO1 := n0_; have HO2 := n1_; have HO270 := n2_; have HB := n3_; clear n0_ n1_ n2_ n3_; clear hb ho7; obtain ⟨Ao8, co8, eo8⟩ := Kd.N_slice HO270.out; subst eo8) | (go_at_call 45; (with_reducible refine (residue_check.calls k a0 _ _ y268 t271 _ ?side1 ?side2 A4.out).mono ?_); (case side1 => repeat (first | exact (Kd.N_reads' HO270.out).2.2 | (with_reducible refine Kd.C_alloc ?_ _) | (with_reducible refine Kd.C_drewN ?_ _) | (with_reducible refine Kd.C_drew ?_))); (case side2 => exact (Kd.N_reads' HO270.out).2.1); rintro e w9 ⟨rfl, hb⟩; have n0_ := Aside0.mk (Kd.V_below (by (with_reducible repeat (first | apply Kd.V_alloc | apply Kd.V_drewN | apply Kd.V_drew)); exact HO1.out) hb); have n1_ := Aside0.mk (Kd.V_below (by (with_reducible repeat (first | apply Kd.V_alloc | apply Kd.V_drewN | apply Kd.V_drew)); exact HO2.out) hb); have n2_ := Aside0.mk (Kd.N_below (by (with_reducible repeat (first | apply Kd.N_alloc | apply Kd.N_drewN | apply Kd.N_drew)); exact HO270.out) hb); have n3_ := Aside0.mk (below_step (by repeat (first | (with_reducible first | exact HB.out | apply below_alloc | apply pw_below_drewN | apply below_drew1) | exact HB.out)) hb); clear HO1; clear HO2; clear HO270; clear HB; have HO1 := n0_; have HO2 := n1_; have HO270 := n2_; have HB := n3_; clear n0_ n1_ n2_ n3_; (try clear hb); (try clear hb2); (try clear hk); (try clear hi)))
    repeat (go_quiet (first | ((with_reducible refine gate_dst (N := 17) rfl ?_); (try (refine gate_guard (by rfl) ?_; dsimp only)); refine Kd.N_lit (Kd.slice 35 k35) _ 22 ?hg (N' := 17) ?hd (xs := ([l1, l2] : List (List (S35)))) (inner := [.slice A1 l1.length c1, .slice A2 l2.length c2]) (ok := (fun k_ => ((P1_ k_ ∨ P2_ k_) ∨ w.heap.size ≤ k_))) (okp := (fun k_ => ((P1_ k_ ∨ P2_ k_) ∨ w.heap.size ≤ k_))) ?hr ?hp (fun _ hk => hk) ((show ∀ k_, w.heap.size ≤ k_ → (fun k_ => ((P1_ k_ ∨ P2_ k_) ∨ w.heap.size ≤ k_)) k_ from fun k_ hk => (.inr (Nat.le_trans (below_size (by repeat (first | (with_reducible first | exact HB.out | apply below_alloc | apply pw_below_drewN | apply below_drew1) | exact HB.out))) hk))) _ (Nat.le_refl _)) (Below.refl _ _) (Nat.le_refl _) (by simp) ?_; (case hd => rfl); (case hg => rfl); (case hr => first | (go_simp; done) | (go_simp; rfl)); (case hp => exact (Reps.one (show Kd.FK (Kd.slice 35 k35) _ _ l1 [.slice A1 l1.length c1] from (Kd.FK_slice_mk (Kd.V_reads' (Kd.V_mono (ok' := (fun k_ => ((P1_ k_ ∨ P2_ k_) ∨ w.heap.size ≤ k_))) (HO1.out) (fun k_ hk => hk))).2.1 (Kd.V_F (Kd.V_mono (ok' := (fun k_ => ((P1_ k_ ∨ P2_ k_) ∨ w.heap.size ≤ k_))) (HO1.out) (fun k_ hk => hk))))) (Reps.one (show Kd.FK (Kd.slice 35 k35) _ _ l2 [.slice A2 l2.length c2] from (Kd.FK_slice_mk (Kd.V_reads' (Kd.V_mono (ok' := (fun k_ => ((P1_ k_ ∨ P2_ k_) ∨ w.heap.size ≤ k_))) (HO2.out) (fun k_ hk => hk))).2.1 (Kd.V_F (Kd.V_mono (ok' := (fun k_ => ((P1_ k_ ∨ P2_ k_) ∨ w.heap.size ≤ k_))) (HO2.out) (fun k_ hk => hk))))) (Reps.none _ _)))); intro v269 w6 ho7 hb hg_ hnew_; clear hg_ hnew_; (first | rw [← Ny268.out] at ho7 | (simp only [Int.reduceToNat] at ho7; rw [← Ny268.out] at ho7)); have n0_ := Aside0.mk (Kd.V_elder' (by (with_reducible repeat (first | apply Kd.V_alloc | apply Kd.V_drewN | apply Kd.V_drew)); exact HO1.out) (Kd.N_base ho7) hb); have n1_ := Aside0.mk (Kd.V_elder' (by (with_reducible repeat (first | apply Kd.V_alloc | apply Kd.V_drewN | apply Kd.V_drew)); exact HO2.out) (Kd.N_base ho7) hb); have n2_ := Aside0.mk (Kd.N_lower ho7 (below_size (by repeat (first | (with_reducible first | exact HB.out | apply below_alloc | apply pw_below_drewN | apply below_drew1) | exact HB.out)))); have n3_ := Aside0.mk (below_step (by repeat (first | (with_reducible first | exact HB.out | apply below_alloc | apply pw_below_drewN | apply below_drew1) | exact HB.out)) hb); clear HO1; clear HO2; clear HB; have HO1 := n0_; have HO2 := n1_; have HO270 := n2_; have HB := n3_; clear n0_ n1_ n2_ n3_; clear hb ho7; obtain ⟨Ao8, co8, eo8⟩ := Kd.N_slice HO270.out; subst eo8) | (go_at_call 45; (with_reducible refine (residue_check.calls k a0 _ _ y268 t271 _ ?side1 ?side2 A4.out).mono ?_); (case side1 => repeat (first | exact (Kd.N_reads' HO270.out).2.2 | (with_reducible refine Kd.C_alloc ?_ _) | (with_reducible refine Kd.C_drewN ?_ _) | (with_reducible refine Kd.C_drew ?_))); (case side2 => exact (Kd.N_reads' HO270.out).2.1); rintro e w9 ⟨rfl, hb⟩; have n0_ := Aside0.mk (Kd.V_below (by (with_reducible repeat (first | apply Kd.V_alloc | apply Kd.V_drewN | apply Kd.V_drew)); exact HO1.out) hb); have n1_ := Aside0.mk (Kd.V_below (by (with_reducible repeat (first | apply Kd.V_alloc | apply Kd.V_drewN | apply Kd.V_drew)); exact HO2.out) hb); have n2_ := Aside0.mk (Kd.N_below (by (with_reducible repeat (first | apply Kd.N_alloc | apply Kd.N_drewN | apply Kd.N_drew)); exact HO270.out) hb); have n3_ := Aside0.mk (below_step (by repeat (first | (with_reducible first | exact HB.out | apply below_alloc | apply pw_below_drewN | apply below_drew1) | exact HB.out)) hb); clear HO1; clear HO2; clear HO270; clear HB; have HO1 := n0_; have HO2 := n1_; have HO270 := n2_; have HB := n3_; clear n0_ n1_ n2_ n3_; (try clear hb); (try clear hb2); (try clear hk); (try clear hi))); try go_wp2_with (first | ((with_reducible refine gate_dst (N := 17) rfl ?_); (try (refine gate_guard (by rfl) ?_; dsimp only)); refine Kd.N_lit (Kd.slice 35 k35) _ 22 ?hg (N' := 17) ?hd (xs := ([l1, l2] : List (List (S35)))) (inner := [.slice A1 l1.length c1, .slice A2 l2.length c2]) (ok := (fun k_ => ((P1_ k_ ∨ P2_ k_) ∨ w.heap.size ≤ k_))) (okp := (fun k_ => ((P1_ k_ ∨ P2_ k_) ∨ w.heap.size ≤ k_))) ?hr ?hp (fun _ hk => hk) ((show ∀ k_, w.heap.size ≤ k_ → (fun k_ => ((P1_ k_ ∨ P2_ k_) ∨ w.heap.size ≤ k_)) k_ from fun k_ hk => (.inr (Nat.le_trans (below_size (by repeat (first | (with_reducible first | exact HB.out | apply below_alloc | apply pw_below_drewN | apply below_drew1) | exact HB.out))) hk))) _ (Nat.le_refl _)) (Below.refl _ _) (Nat.le_refl _) (by simp) ?_; (case hd => rfl); (case hg => rfl); (case hr => first | (go_simp; done) | (go_simp; rfl)); (case hp => exact (Reps.one (show Kd.FK (Kd.slice 35 k35) _ _ l1 [.slice A1 l1.length c1] from (Kd.FK_slice_mk (Kd.V_reads' (Kd.V_mono (ok' := (fun k_ => ((P1_ k_ ∨ P2_ k_) ∨ w.heap.size ≤ k_))) (HO1.out) (fun k_ hk => hk))).2.1 (Kd.V_F (Kd.V_mono (ok' := (fun k_ => ((P1_ k_ ∨ P2_ k_) ∨ w.heap.size ≤ k_))) (HO1.out) (fun k_ hk => hk))))) (Reps.one (show Kd.FK (Kd.slice 35 k35) _ _ l2 [.slice A2 l2.length c2] from (Kd.FK_slice_mk (Kd.V_reads' (Kd.V_mono (ok' := (fun k_ => ((P1_ k_ ∨ P2_ k_) ∨ w.heap.size ≤ k_))) (HO2.out) (fun k_ hk => hk))).2.1 (Kd.V_F (Kd.V_mono (ok' := (fun k_ => ((P1_ k_ ∨ P2_ k_) ∨ w.heap.size ≤ k_))) (HO2.out) (fun k_ hk => hk))))) (Reps.none _ _)))); intro v269 w6 ho7 hb hg_ hnew_; clear hg_ hnew_; (first | rw [← Ny268.out] at ho7 | (simp only [Int.reduceToNat] at ho7; rw [← Ny268.out] at ho7)); have n0_ := Aside0.mk (Kd.V_elder' (by (with_reducible repeat (first | apply Kd.V_alloc | apply Kd.V_drewN | apply Kd.V_drew)); exact HO1.out) (Kd.N_base ho7) hb); have n1_ := Aside0.mk (Kd.V_elder' (by (with_reducible repeat (first | apply Kd.V_alloc | apply Kd.V_drewN | apply Kd.V_drew)); exact HO2.out) (Kd.N_base ho7) hb); have n2_ := Aside0.mk (Kd.N_lower ho7 (below_size (by repeat (first | (with_reducible first | exact HB.out | apply below_alloc | apply pw_below_drewN | apply below_drew1) | exact HB.out)))); have n3_ := Aside0.mk (below_step (by repeat (first | (with_reducible first | exact HB.out | apply below_alloc | apply pw_below_drewN | apply below_drew1) | exact HB.out)) hb); clear HO1; clear HO2; clear HB; have HO1 := n0_; have HO2 := n1_; have HO270 := n2_; have HB := n3_; clear n0_ n1_ n2_ n3_; clear hb ho7; obtain ⟨Ao8, co8, eo8⟩ := Kd.N_slice HO270.out; subst eo8) | (go_at_call 45; (with_reducible refine (residue_check.calls k a0 _ _ y268 t271 _ ?side1 ?side2 A4.out).mono ?_); (case side1 => repeat (first | exact (Kd.N_reads' HO270.out).2.2 | (with_reducible refine Kd.C_alloc ?_ _) | (with_reducible refine Kd.C_drewN ?_ _) | (with_reducible refine Kd.C_drew ?_))); (case side2 => exact (Kd.N_reads' HO270.out).2.1); rintro e w9 ⟨rfl, hb⟩; have n0_ := Aside0.mk (Kd.V_below (by (with_reducible repeat (first | apply Kd.V_alloc | apply Kd.V_drewN | apply Kd.V_drew)); exact HO1.out) hb); have n1_ := Aside0.mk (Kd.V_below (by (with_reducible repeat (first | apply Kd.V_alloc | apply Kd.V_drewN | apply Kd.V_drew)); exact HO2.out) hb); have n2_ := Aside0.mk (Kd.N_below (by (with_reducible repeat (first | apply Kd.N_alloc | apply Kd.N_drewN | apply Kd.N_drew)); exact HO270.out) hb); have n3_ := Aside0.mk (below_step (by repeat (first | (with_reducible first | exact HB.out | apply below_alloc | apply pw_below_drewN | apply below_drew1) | exact HB.out)) hb); clear HO1; clear HO2; clear HO270; clear HB; have HO1 := n0_; have HO2 := n1_; have HO270 := n2_; have HB := n3_; clear n0_ n1_ n2_ n3_; (try clear hb); (try clear hb2); (try clear hk); (try clear hi))))
    go_loopg [9, 10, 11] k (fun kq v9 v10 v11 w' => ∃ (x9_1 : List (S35)) (x10_1 : Int) (x11_1 : Int), v10 = .int .i64 x10_1 ∧ v11 = .int .i64 x11_1 ∧ Aside0 (residue_Intersect.l0 kq l1 l2 x9_1 x10_1 x11_1 = some (r1, r2)) ∧ Aside0 (kq ≤ k) ∧ Aside0 (Kd.V k35 35 w' w.heap.size (fun k_ => ((P1_ k_ ∨ P2_ k_) ∨ w.heap.size ≤ k_) ∧ some k_ ≠ (v9 : Value).ownBlock) (.slice A1 l1.length c1) l1) ∧ Aside0 (Kd.V k35 35 w' w.heap.size (fun k_ => ((P1_ k_ ∨ P2_ k_) ∨ w.heap.size ≤ k_) ∧ some k_ ≠ (v9 : Value).ownBlock) (.slice A2 l2.length c2) l2) ∧ Aside0 (Kd.R k35 35 w' w.heap.size (fun k_ => (w.heap.size ≤ k_)) v9 x9_1) ∧ Aside0 (Below w.heap.size w w'))
    case atStart => exact ⟨(([] : List (S35))), (0), (0), (by first | rfl | (simp; done) | (simp [*]; done)), (by first | rfl | (simp; done) | (simp [*]; done)), H', ⟨Nat.le_refl _⟩, ⟨by (with_reducible repeat (first | apply Kd.V_alloc | apply Kd.V_drewN | apply Kd.V_drew)); exact Kd.V_mono HO1.out (fun _ hk => ⟨hk.1, (by simp [Value.ownBlock])⟩)⟩, ⟨by (with_reducible repeat (first | apply Kd.V_alloc | apply Kd.V_drewN | apply Kd.V_drew)); exact Kd.V_mono HO2.out (fun _ hk => ⟨hk.1, (by simp [Value.ownBlock])⟩)⟩, ⟨by first | exact Kd.R_nil _ _ _ _ _ | exact Kd.N_nil _ _ _ _ _ | exact Kd.V_nil _ _ _ _ _ | exact Kd.Q_nil _ _ _ _ _ | exact Kd.S_nil _ _ _ _ _⟩, ⟨by repeat (first | (with_reducible first | exact HB.out | apply below_alloc | apply pw_below_drewN | apply below_drew1) | exact HB.out)⟩⟩
    case round =>
      clear H'
      try clear c1
      try clear c2
      try clear p2
      try clear c3
      try clear c5
      try clear c5b0
      try clear c5b1
      obtain ⟨x9_1, x10_1, x11_1, rfl, rfl, HA, HK1, HO_1, HO_2, HO_9, HB⟩ := hrel
      cases gk with
      | zero => exact absurd HA.out (by simp [residue_Intersect.l0])
      | succ k1 =>
        have H := HA.out
        clear HA
        simp only [residue_Intersect.l0] at H
        have HC10 := Aside0.mk H
        clear H
        go_upto_region 6 with (fail)
        repeat (go_quiet (fail); go_upto_region 6 with (fail))
        go_cut [31] (fun v31 wc => ∃ (kq : Nat) (x31_9 : Bool), v31 = .bool x31_9 ∧ Aside0 (residue_Intersect.j1 kq l1 l2 x9_1 x10_1 x11_1 x31_9 = some (r1, r2)) ∧ Aside0 (kq ≤ k1) ∧ Aside0 (Kd.V k35 35 wc w.heap.size (fun k_ => ((P1_ k_ ∨ P2_ k_) ∨ w.heap.size ≤ k_) ∧ some k_ ≠ (u9 : Value).ownBlock) (.slice A1 l1.length c1) l1) ∧ Aside0 (Kd.V k35 35 wc w.heap.size (fun k_ => ((P1_ k_ ∨ P2_ k_) ∨ w.heap.size ≤ k_) ∧ some k_ ≠ (u9 : Value).ownBlock) (.slice A2 l2.length c2) l2) ∧ Aside0 (Kd.R k35 35 wc w.heap.size (fun k_ => (w.heap.size ≤ k_)) u9 x9_1) ∧ Aside0 (Below w.heap.size w wc))
        case first =>
          have H := HC10.out
          clear HC10
          by_cases c11 : x10_1 < (l1.length : Int)
          · rw [if_pos c11] at H
            have c11b0 : decide (x10_1 < (l1.length : Int)) = true := decide_eq_true c11
            clear c11
            (first | rw [c11b0] | (simp only [i64_w, i32_w]; rw [c11b0]) | skip)
            have H' := Aside0.mk H
            clear H
            go_wp2
            repeat (go_quiet (fail); try go_wp2)
            go_meet
            case rel => exact ⟨_, (decide (x11_1 < (l2.length : Int))), (by first | rfl | (simp; done) | (simp [*]; done)), H', ⟨by have := HK1.out; first | omega | exact Nat.le_refl _⟩, ⟨by (with_reducible repeat (first | apply Kd.V_alloc | apply Kd.V_drewN | apply Kd.V_drew)); exact HO_1.out⟩, ⟨by (with_reducible repeat (first | apply Kd.V_alloc | apply Kd.V_drewN | apply Kd.V_drew)); exact HO_2.out⟩, ⟨by (with_reducible repeat (first | apply Kd.R_alloc | apply Kd.R_drewN | apply Kd.R_drew)); exact HO_9.out⟩, ⟨by repeat (first | (with_reducible first | exact HB.out | apply below_alloc | apply pw_below_drewN | apply below_drew1) | exact HB.out)⟩⟩
          · rw [if_neg c11] at H
            have c11b0 : decide (x10_1 < (l1.length : Int)) = false := decide_eq_false c11
            clear c11
            (first | rw [c11b0] | (simp only [i64_w, i32_w]; rw [c11b0]) | skip)
            have H' := Aside0.mk H
            clear H
            go_wp2
            repeat (go_quiet (fail); try go_wp2)
            go_meet
            case rel => exact ⟨_, (false), (by first | rfl | (simp; done) | (simp [*]; done)), H', ⟨by have := HK1.out; first | omega | exact Nat.le_refl _⟩, ⟨by (with_reducible repeat (first | apply Kd.V_alloc | apply Kd.V_drewN | apply Kd.V_drew)); exact HO_1.out⟩, ⟨by (with_reducible repeat (first | apply Kd.V_alloc | apply Kd.V_drewN | apply Kd.V_drew)); exact HO_2.out⟩, ⟨by (with_reducible repeat (first | apply Kd.R_alloc | apply Kd.R_drewN | apply Kd.R_drew)); exact HO_9.out⟩, ⟨by repeat (first | (with_reducible first | exact HB.out | apply below_alloc | apply pw_below_drewN | apply below_drew1) | exact HB.out)⟩⟩
        case rest =>
          clear HC10
          try clear c1
          try clear c2
          try clear p2
          try clear c3
          try clear c5
          try clear c5b0
          try clear c5b1
          try clear c11
          try clear c11b0
          try clear p2
          obtain ⟨kq, x31_9, rfl, HA, HJ9, HO_1, HO_2, HO_9, HB⟩ := hcut
          cases kq with
          | zero => exact absurd HA.out (by simp [residue_Intersect.j1])
          | succ kj9 =>
            have H := HA.out
            clear HA
            simp only [residue_Intersect.j1] at H
            by_cases c12 : x31_9 = true
            · subst c12
              have H1 : (if 0 ≤ x10_1 then (if x10_1 < (l1.length : Int) then (if 0 ≤ x11_1 then (if x11_1 < (l2.length : Int) then (if (mx ((rd_T35 l1 x10_1).f0) ((rd_T35 l2 x11_1).f0)) < (mn ((rd_T35 l1 x10_1).f1) ((rd_T35 l2 x11_1).f1)) then (if x9_1.length < 8796093022208 then ((some (x9_1 ++ [(⟨mx ((rd_T35 l1 x10_1).f0) ((rd_T35 l2 x11_1).f0), mn ((rd_T35 l1 x10_1).f1) ((rd_T35 l2 x11_1).f1)⟩ : S35)] : List (S35))).bind fun y276 => (if ((rd_T35 l1 x10_1).f1) < ((rd_T35 l2 x11_1).f1) then (residue_Intersect.l0 kj9 l1 l2 y276 (wrap64 (x10_1 + 1)) x11_1) else (residue_Intersect.l0 kj9 l1 l2 y276 x10_1 (wrap64 (x11_1 + 1))))) else (none)) else (if ((rd_T35 l1 x10_1).f1) < ((rd_T35 l2 x11_1).f1) then (residue_Intersect.l0 kj9 l1 l2 x9_1 (wrap64 (x10_1 + 1)) x11_1) else (residue_Intersect.l0 kj9 l1 l2 x9_1 x10_1 (wrap64 (x11_1 + 1))))) else (none)) else (none)) else (none)) else (none)) = some (r1, r2) := by rw [if_pos rfl] at H; exact H
              clear H
              have H := H1
              clear H1
              by_cases c13 : 0 ≤ x10_1
              · rw [if_pos c13] at H
                have c13b0 : decide (0 ≤ x10_1) = true := decide_eq_true c13
                clear c13
                by_cases c14 : x10_1 < (l1.length : Int)
                · rw [if_pos c14] at H
                  have c14b0 : decide (x10_1 < (l1.length : Int)) = true := decide_eq_true c14
                  clear c14
                  by_cases c15 : 0 ≤ x11_1
                  · rw [if_pos c15] at H
                    have c15b0 : decide (0 ≤ x11_1) = true := decide_eq_true c15
                    clear c15
                    by_cases c16 : x11_1 < (l2.length : Int)
                    · rw [if_pos c16] at H
                      have c16b0 : decide (x11_1 < (l2.length : Int)) = true := decide_eq_true c16
                      clear c16
                      obtain ⟨ji17, hji17⟩ : ∃ j_ : Int, (mx ((rd_T35 l1 x10_1).f0) ((rd_T35 l2 x11_1).f0)) = j_ := ⟨_, rfl⟩
                      replace H : (if (ji17) < (mn ((rd_T35 l1 x10_1).f1) ((rd_T35 l2 x11_1).f1)) then (if x9_1.length < 8796093022208 then ((some (x9_1 ++ [(⟨ji17, mn ((rd_T35 l1 x10_1).f1) ((rd_T35 l2 x11_1).f1)⟩ : S35)] : List (S35))).bind fun y276 => (if ((rd_T35 l1 x10_1).f1) < ((rd_T35 l2 x11_1).f1) then (residue_Intersect.l0 kj9 l1 l2 y276 (wrap64 (x10_1 + 1)) x11_1) else (residue_Intersect.l0 kj9 l1 l2 y276 x10_1 (wrap64 (x11_1 + 1))))) else (none)) else (if ((rd_T35 l1 x10_1).f1) < ((rd_T35 l2 x11_1).f1) then (residue_Intersect.l0 kj9 l1 l2 x9_1 (wrap64 (x10_1 + 1)) x11_1) else (residue_Intersect.l0 kj9 l1 l2 x9_1 x10_1 (wrap64 (x11_1 + 1))))) = some (r1, r2) := by first | (rw [hji17] at H; exact H) | (simp only [hji17] at H ⊢; exact H)
                      have hji17_ : (if ((rd_T35 l1 x10_1).f0) < ((rd_T35 l2 x11_1).f0) then ((rd_T35 l2 x11_1).f0) else ((rd_T35 l1 x10_1).f0)) = ji17 := hji17
                      obtain ⟨ji18, hji18⟩ : ∃ j_ : Int, (mn ((rd_T35 l1 x10_1).f1) ((rd_T35 l2 x11_1).f1)) = j_ := ⟨_, rfl⟩
                      replace H : (if (ji17) < (ji18) then (if x9_1.length < 8796093022208 then ((some (x9_1 ++ [(⟨ji17, ji18⟩ : S35)] : List (S35))).bind fun y276 => (if ((rd_T35 l1 x10_1).f1) < ((rd_T35 l2 x11_1).f1) then (residue_Intersect.l0 kj9 l1 l2 y276 (wrap64 (x10_1 + 1)) x11_1) else (residue_Intersect.l0 kj9 l1 l2 y276 x10_1 (wrap64 (x11_1 + 1))))) else (none)) else (if ((rd_T35 l1 x10_1).f1) < ((rd_T35 l2 x11_1).f1) then (residue_Intersect.l0 kj9 l1 l2 x9_1 (wrap64 (x10_1 + 1)) x11_1) else (residue_Intersect.l0 kj9 l1 l2 x9_1 x10_1 (wrap64 (x11_1 + 1))))) = some (r1, r2) := by first | (rw [hji18] at H; exact H) | (simp only [hji18] at H ⊢; exact H)
                      have hji18_ : (if ((rd_T35 l2 x11_1).f1) < ((rd_T35 l1 x10_1).f1) then ((rd_T35 l2 x11_1).f1) else ((rd_T35 l1 x10_1).f1)) = ji18 := hji18
                      by_cases c19 : (ji17) < (ji18)
                      · rw [if_pos c19] at H
                        have c19b0 : decide ((ji17) < (ji18)) = true := decide_eq_true c19
                        clear c19
                        by_cases c20 : x9_1.length < 8796093022208
                        · rw [if_pos c20] at H
                          have LMc20 := Aside0.mk c20
                          clear c20
                          obtain ⟨y276, hy276⟩ : ∃ y_ : List (S35), y_ = (x9_1 ++ [(⟨ji17, ji18⟩ : S35)]) := ⟨_, rfl⟩
                          replace H : (if ((rd_T35 l1 x10_1).f1) < ((rd_T35 l2 x11_1).f1) then (residue_Intersect.l0 kj9 l1 l2 y276 (wrap64 (x10_1 + 1)) x11_1) else (residue_Intersect.l0 kj9 l1 l2 y276 x10_1 (wrap64 (x11_1 + 1)))) = some (r1, r2) := by first | (rw [hy276]; with_reducible exact H) | (have H2_ := (Option.bind_some _ _).symm.trans H; rw [hy276]; with_reducible exact H2_) | (have H2_ := (Option.bind_some _ _).symm.trans H; with_reducible exact H2_) | with_reducible exact H | (rw [hy276]; exact H) | exact H
                          have Ny276 := Aside0.mk hy276
                          clear hy276
                          by_cases c21 : ((rd_T35 l1 x10_1).f1) < ((rd_T35 l2 x11_1).f1)
                          · rw [if_pos c21] at H
                            have c21b0 : decide (((rd_T35 l1 x10_1).f1) < ((rd_T35 l2 x11_1).f1)) = true := decide_eq_true c21
                            clear c21
                            have H' := Aside0.mk H
                            clear H
                            have p272 : 0 ≤ (x10_1 : Int) := of_decide_eq_true (by first | (with_reducible assumption) | assumption)
                            have q272 : x10_1 < (l1.length : Int) := of_decide_eq_true (by first | (with_reducible assumption) | assumption)
                            obtain ⟨ad272, e272, hx272_0, hx272_1⟩ := at_T35 (Kd.V_reads' HO_1.out).2.2 x10_1 p272 q272
                            cases e272
                            replace p272 := eq_true p272
                            replace q272 := eq_true q272
                            have p273 : 0 ≤ (x11_1 : Int) := of_decide_eq_true (by first | (with_reducible assumption) | assumption)
                            have q273 : x11_1 < (l2.length : Int) := of_decide_eq_true (by first | (with_reducible assumption) | assumption)
                            obtain ⟨ad273, e273, hx273_0, hx273_1⟩ := at_T35 (Kd.V_reads' HO_2.out).2.2 x11_1 p273 q273
                            cases e273
                            replace p273 := eq_true p273
                            replace q273 := eq_true q273
                            have p274 : 0 ≤ (x10_1 : Int) := of_decide_eq_true (by first | (with_reducible assumption) | assumption)
                            have q274 : x10_1 < (l1.length : Int) := of_decide_eq_true (by first | (with_reducible assumption) | assumption)
                            obtain ⟨ad274, e274, hx274_0, hx274_1⟩ := at_T35 (Kd.V_reads' HO_1.out).2.2 x10_1 p274 q274
                            obtain rfl : ad272 = ad274 := (by injection e274)
                            replace p274 := eq_true p274
                            replace q274 := eq_true q274
                            have p275 : 0 ≤ (x11_1 : Int) := of_decide_eq_true (by first | (with_reducible assumption) | assumption)
                            have q275 : x11_1 < (l2.length : Int) := of_decide_eq_true (by first | (with_reducible assumption) | assumption)
                            obtain ⟨ad275, e275, hx275_0, hx275_1⟩ := at_T35 (Kd.V_reads' HO_2.out).2.2 x11_1 p275 q275
                            obtain rfl : ad273 = ad275 := (by injection e275)
                            replace p275 := eq_true p275
                            replace q275 := eq_true q275
                            go_wp2_with (first | ((with_reducible refine gate_builtin (b := .append) (xs := #[.tmp 57, .tmp 61]) rfl ?_); (try (refine gate_guard (by rfl) ?_; dsimp only)); at_builtin; refine Kd.R_append k35 (w0 := w) w.heap.size rfl (.tmp 57) (.tmp 61) 22 35 (.agg #[(.int .i64 0), (.int .i64 0)]) 16 rfl Try.underlying22 info35 rfl (by decide) (by omega) u9 x9_1 (⟨ji17, ji18⟩ : S35) [.int .i64 ji17, .int .i64 ji18] (fun k_ => (w.heap.size ≤ k_)) (fun _ => False) rfl rfl ?aP (fun _ hk => hk.elim) ?aF ?aO ?aB ?aS ?aL ?_; (case aP => exact k35_mkM _ _ _ (⟨ji17, ji18⟩ : S35)); (case aB => exact (by repeat (first | (with_reducible first | exact HB.out | apply below_alloc | apply pw_below_drewN | apply below_drew1) | exact HB.out))); (case aF => exact (fun k_ hk => (Nat.le_trans (below_size (by repeat (first | (with_reducible first | exact HB.out | apply below_alloc | apply pw_below_drewN | apply below_drew1) | exact HB.out))) hk))); (case aO => exact (by (with_reducible repeat (first | apply Kd.R_alloc | apply Kd.R_drewN | apply Kd.R_drew)); exact HO_9.out)); (case aS => exact (below_size (by repeat (first | (with_reducible first | exact HB.out | apply below_alloc | apply pw_below_drewN | apply below_drew1) | exact HB.out)))); (case aL => have := LMc20.out; omega); intro v277 w22 ho hb hg hat; rw [← Ny276.out] at ho; have n0_ := Aside0.mk (Kd.V_afterv (ok := (fun k_ => ((P1_ k_ ∨ P2_ k_) ∨ w.heap.size ≤ k_))) (by (with_reducible repeat (first | apply Kd.V_alloc | apply Kd.V_drewN | apply Kd.V_drew)); exact HO_1.out) hg hat); have n1_ := Aside0.mk (Kd.V_afterv (ok := (fun k_ => ((P1_ k_ ∨ P2_ k_) ∨ w.heap.size ≤ k_))) (by (with_reducible repeat (first | apply Kd.V_alloc | apply Kd.V_drewN | apply Kd.V_drew)); exact HO_2.out) hg hat); have n2_ := Aside0.mk (hb); have n3_ := Aside0.mk (ho); clear HO_1; clear HO_2; clear HB; clear HO_9; have HO_1 := n0_; have HO_2 := n1_; have HB := n2_; have HO278 := n3_; clear n0_ n1_ n2_ n3_; clear ho hb hg hat; have p279 : 0 ≤ (x10_1 : Int) := of_decide_eq_true (by first | (with_reducible assumption) | assumption); have q279 : x10_1 < (l1.length : Int) := of_decide_eq_true (by first | (with_reducible assumption) | assumption); obtain ⟨ad279, e279, hx279_0, hx279_1⟩ := at_T35 (Kd.V_reads' HO_1.out).2.2 x10_1 p279 q279; obtain rfl : ad272 = ad279 := (by injection e279); replace p279 := eq_true p279; replace q279 := eq_true q279; have p280 : 0 ≤ (x11_1 : Int) := of_decide_eq_true (by first | (with_reducible assumption) | assumption); have q280 : x11_1 < (l2.length : Int) := of_decide_eq_true (by first | (with_reducible assumption) | assumption); obtain ⟨ad280, e280, hx280_0, hx280_1⟩ := at_T35 (Kd.V_reads' HO_2.out).2.2 x11_1 p280 q280; obtain rfl : ad273 = ad280 := (by injection e280); replace p280 := eq_true p280; replace q280 := eq_true q280))
                            repeat (go_quiet (first | ((with_reducible refine gate_builtin (b := .append) (xs := #[.tmp 57, .tmp 61]) rfl ?_); (try (refine gate_guard (by rfl) ?_; dsimp only)); at_builtin; refine Kd.R_append k35 (w0 := w) w.heap.size rfl (.tmp 57) (.tmp 61) 22 35 (.agg #[(.int .i64 0), (.int .i64 0)]) 16 rfl Try.underlying22 info35 rfl (by decide) (by omega) u9 x9_1 (⟨ji17, ji18⟩ : S35) [.int .i64 ji17, .int .i64 ji18] (fun k_ => (w.heap.size ≤ k_)) (fun _ => False) rfl rfl ?aP (fun _ hk => hk.elim) ?aF ?aO ?aB ?aS ?aL ?_; (case aP => exact k35_mkM _ _ _ (⟨ji17, ji18⟩ : S35)); (case aB => exact (by repeat (first | (with_reducible first | exact HB.out | apply below_alloc | apply pw_below_drewN | apply below_drew1) | exact HB.out))); (case aF => exact (fun k_ hk => (Nat.le_trans (below_size (by repeat (first | (with_reducible first | exact HB.out | apply below_alloc | apply pw_below_drewN | apply below_drew1) | exact HB.out))) hk))); (case aO => exact (by (with_reducible repeat (first | apply Kd.R_alloc | apply Kd.R_drewN | apply Kd.R_drew)); exact HO_9.out)); (case aS => exact (below_size (by repeat (first | (with_reducible first | exact HB.out | apply below_alloc | apply pw_below_drewN | apply below_drew1) | exact HB.out)))); (case aL => have := LMc20.out; omega); intro v277 w22 ho hb hg hat; rw [← Ny276.out] at ho; have n0_ := Aside0.mk (Kd.V_afterv (ok := (fun k_ => ((P1_ k_ ∨ P2_ k_) ∨ w.heap.size ≤ k_))) (by (with_reducible repeat (first | apply Kd.V_alloc | apply Kd.V_drewN | apply Kd.V_drew)); exact HO_1.out) hg hat); have n1_ := Aside0.mk (Kd.V_afterv (ok := (fun k_ => ((P1_ k_ ∨ P2_ k_) ∨ w.heap.size ≤ k_))) (by (with_reducible repeat (first | apply Kd.V_alloc | apply Kd.V_drewN | apply Kd.V_drew)); exact HO_2.out) hg hat); have n2_ := Aside0.mk (hb); have n3_ := Aside0.mk (ho); clear HO_1; clear HO_2; clear HB; clear HO_9; have HO_1 := n0_; have HO_2 := n1_; have HB := n2_; have HO278 := n3_; clear n0_ n1_ n2_ n3_; clear ho hb hg hat; have p279 : 0 ≤ (x10_1 : Int) := of_decide_eq_true (by first | (with_reducible assumption) | assumption); have q279 : x10_1 < (l1.length : Int) := of_decide_eq_true (by first | (with_reducible assumption) | assumption); obtain ⟨ad279, e279, hx279_0, hx279_1⟩ := at_T35 (Kd.V_reads' HO_1.out).2.2 x10_1 p279 q279; obtain rfl : ad272 = ad279 := (by injection e279); replace p279 := eq_true p279; replace q279 := eq_true q279; have p280 : 0 ≤ (x11_1 : Int) := of_decide_eq_true (by first | (with_reducible assumption) | assumption); have q280 : x11_1 < (l2.length : Int) := of_decide_eq_true (by first | (with_reducible assumption) | assumption); obtain ⟨ad280, e280, hx280_0, hx280_1⟩ := at_T35 (Kd.V_reads' HO_2.out).2.2 x11_1 p280 q280; obtain rfl : ad273 = ad280 := (by injection e280); replace p280 := eq_true p280; replace q280 := eq_true q280)); try go_wp2_with (first | ((with_reducible refine gate_builtin (b := .append) (xs := #[.tmp 57, .tmp 61]) rfl ?_); (try (refine gate_guard (by rfl) ?_; dsimp only)); at_builtin; refine Kd.R_append k35 (w0 := w) w.heap.size rfl (.tmp 57) (.tmp 61) 22 35 (.agg #[(.int .i64 0), (.int .i64 0)]) 16 rfl Try.underlying22 info35 rfl (by decide) (by omega) u9 x9_1 (⟨ji17, ji18⟩ : S35) [.int .i64 ji17, .int .i64 ji18] (fun k_ => (w.heap.size ≤ k_)) (fun _ => False) rfl rfl ?aP (fun _ hk => hk.elim) ?aF ?aO ?aB ?aS ?aL ?_; (case aP => exact k35_mkM _ _ _ (⟨ji17, ji18⟩ : S35)); (case aB => exact (by repeat (first | (with_reducible first | exact HB.out | apply below_alloc | apply pw_below_drewN | apply below_drew1) | exact HB.out))); (case aF => exact (fun k_ hk => (Nat.le_trans (below_size (by repeat (first | (with_reducible first | exact HB.out | apply below_alloc | apply pw_below_drewN | apply below_drew1) | exact HB.out))) hk))); (case aO => exact (by (with_reducible repeat (first | apply Kd.R_alloc | apply Kd.R_drewN | apply Kd.R_drew)); exact HO_9.out)); (case aS => exact (below_size (by repeat (first | (with_reducible first | exact HB.out | apply below_alloc | apply pw_below_drewN | apply below_drew1) | exact HB.out)))); (case aL => have := LMc20.out; omega); intro v277 w22 ho hb hg hat; rw [← Ny276.out] at ho; have n0_ := Aside0.mk (Kd.V_afterv (ok := (fun k_ => ((P1_ k_ ∨ P2_ k_) ∨ w.heap.size ≤ k_))) (by (with_reducible repeat (first | apply Kd.V_alloc | apply Kd.V_drewN | apply Kd.V_drew)); exact HO_1.out) hg hat); have n1_ := Aside0.mk (Kd.V_afterv (ok := (fun k_ => ((P1_ k_ ∨ P2_ k_) ∨ w.heap.size ≤ k_))) (by (with_reducible repeat (first | apply Kd.V_alloc | apply Kd.V_drewN | apply Kd.V_drew)); exact HO_2.out) hg hat); have n2_ := Aside0.mk (hb); have n3_ := Aside0.mk (ho); clear HO_1; clear HO_2; clear HB; clear HO_9; have HO_1 := n0_; have HO_2 := n1_; have HB := n2_; have HO278 := n3_; clear n0_ n1_ n2_ n3_; clear ho hb hg hat; have p279 : 0 ≤ (x10_1 : Int) := of_decide_eq_true (by first | (with_reducible assumption) | assumption); have q279 : x10_1 < (l1.length : Int) := of_decide_eq_true (by first | (with_reducible assumption) | assumption); obtain ⟨ad279, e279, hx279_0, hx279_1⟩ := at_T35 (Kd.V_reads' HO_1.out).2.2 x10_1 p279 q279; obtain rfl : ad272 = ad279 := (by injection e279); replace p279 := eq_true p279; replace q279 := eq_true q279; have p280 : 0 ≤ (x11_1 : Int) := of_decide_eq_true (by first | (with_reducible assumption) | assumption); have q280 : x11_1 < (l2.length : Int) := of_decide_eq_true (by first | (with_reducible assumption) | assumption); obtain ⟨ad280, e280, hx280_0, hx280_1⟩ := at_T35 (Kd.V_reads' HO_2.out).2.2 x11_1 p280 q280; obtain rfl : ad273 = ad280 := (by injection e280); replace p280 := eq_true p280; replace q280 := eq_true q280)))
                            go_roundg kj9
                            case measure => have := HK1.out; have := HJ9.out; omega
                            case rel => exact ⟨(y276), (wrap64 (x10_1 + 1)), (x11_1), (by first | rfl | (simp; done) | (simp [*]; done)), (by first | rfl | (simp; done) | (simp [*]; done)), H', ⟨by have := HK1.out; have := HJ9.out; omega⟩, ⟨by (with_reducible repeat (first | apply Kd.V_alloc | apply Kd.V_drewN | apply Kd.V_drew)); exact HO_1.out⟩, ⟨by (with_reducible repeat (first | apply Kd.V_alloc | apply Kd.V_drewN | apply Kd.V_drew)); exact HO_2.out⟩, ⟨by (with_reducible repeat (first | apply Kd.R_alloc | apply Kd.R_drewN | apply Kd.R_drew)); exact HO278.out⟩, ⟨by repeat (first | (with_reducible first | exact HB.out | apply below_alloc | apply pw_below_drewN | apply below_drew1) | exact HB.out)⟩⟩
                          · rw [if_neg c21] at H
                            have c21b0 : decide (((rd_T35 l1 x10_1).f1) < ((rd_T35 l2 x11_1).f1)) = false := decide_eq_false c21
                            clear c21
                            have H' := Aside0.mk H
                            clear H
                            have p272 : 0 ≤ (x10_1 : Int) := of_decide_eq_true (by first | (with_reducible assumption) | assumption)
                            have q272 : x10_1 < (l1.length : Int) := of_decide_eq_true (by first | (with_reducible assumption) | assumption)
                            obtain ⟨ad272, e272, hx272_0, hx272_1⟩ := at_T35 (Kd.V_reads' HO_1.out).2.2 x10_1 p272 q272
                            cases e272
                            replace p272 := eq_true p272
                            replace q272 := eq_true q272
                            have p273 : 0 ≤ (x11_1 : Int) := of_decide_eq_true (by first | (with_reducible assumption) | assumption)
                            have q273 : x11_1 < (l2.length : Int) := of_decide_eq_true (by first | (with_reducible assumption) | assumption)
                            obtain ⟨ad273, e273, hx273_0, hx273_1⟩ := at_T35 (Kd.V_reads' HO_2.out).2.2 x11_1 p273 q273
                            cases e273
                            replace p273 := eq_true p273
                            replace q273 := eq_true q273
                            have p274 : 0 ≤ (x10_1 : Int) := of_decide_eq_true (by first | (with_reducible assumption) | assumption)
                            have q274 : x10_1 < (l1.length : Int) := of_decide_eq_true (by first | (with_reducible assumption) | assumption)
                            obtain ⟨ad274, e274, hx274_0, hx274_1⟩ := at_T35 (Kd.V_reads' HO_1.out).2.2 x10_1 p274 q274
                            obtain rfl : ad272 = ad274 := (by injection e274)
                            replace p274 := eq_true p274
                            replace q274 := eq_true q274
                            have p275 : 0 ≤ (x11_1 : Int) := of_decide_eq_true (by first | (with_reducible assumption) | assumption)
                            have q275 : x11_1 < (l2.length : Int) := of_decide_eq_true (by first | (with_reducible assumption) | assumption)
                            obtain ⟨ad275, e275, hx275_0, hx275_1⟩ := at_T35 (Kd.V_reads' HO_2.out).2.2 x11_1 p275 q275
                            obtain rfl : ad273 = ad275 := (by injection e275)
                            replace p275 := eq_true p275
                            replace q275 := eq_true q275
                            go_wp2_with (first | ((with_reducible refine gate_builtin (b := .append) (xs := #[.tmp 57, .tmp 61]) rfl ?_); (try (refine gate_guard (by rfl) ?_; dsimp only)); at_builtin; refine Kd.R_append k35 (w0 := w) w.heap.size rfl (.tmp 57) (.tmp 61) 22 35 (.agg #[(.int .i64 0), (.int .i64 0)]) 16 rfl Try.underlying22 info35 rfl (by decide) (by omega) u9 x9_1 (⟨ji17, ji18⟩ : S35) [.int .i64 ji17, .int .i64 ji18] (fun k_ => (w.heap.size ≤ k_)) (fun _ => False) rfl rfl ?aP (fun _ hk => hk.elim) ?aF ?aO ?aB ?aS ?aL ?_; (case aP => exact k35_mkM _ _ _ (⟨ji17, ji18⟩ : S35)); (case aB => exact (by repeat (first | (with_reducible first | exact HB.out | apply below_alloc | apply pw_below_drewN | apply below_drew1) | exact HB.out))); (case aF => exact (fun k_ hk => (Nat.le_trans (below_size (by repeat (first | (with_reducible first | exact HB.out | apply below_alloc | apply pw_below_drewN | apply below_drew1) | exact HB.out))) hk))); (case aO => exact (by (with_reducible repeat (first | apply Kd.R_alloc | apply Kd.R_drewN | apply Kd.R_drew)); exact HO_9.out)); (case aS => exact (below_size (by repeat (first | (with_reducible first | exact HB.out | apply below_alloc | apply pw_below_drewN | apply below_drew1) | exact HB.out)))); (case aL => have := LMc20.out; omega); intro v277 w23 ho hb hg hat; rw [← Ny276.out] at ho; have n0_ := Aside0.mk (Kd.V_afterv (ok := (fun k_ => ((P1_ k_ ∨ P2_ k_) ∨ w.heap.size ≤ k_))) (by (with_reducible repeat (first | apply Kd.V_alloc | apply Kd.V_drewN | apply Kd.V_drew)); exact HO_1.out) hg hat); have n1_ := Aside0.mk (Kd.V_afterv (ok := (fun k_ => ((P1_ k_ ∨ P2_ k_) ∨ w.heap.size ≤ k_))) (by (with_reducible repeat (first | apply Kd.V_alloc | apply Kd.V_drewN | apply Kd.V_drew)); exact HO_2.out) hg hat); have n2_ := Aside0.mk (hb); have n3_ := Aside0.mk (ho); clear HO_1; clear HO_2; clear HB; clear HO_9; have HO_1 := n0_; have HO_2 := n1_; have HB := n2_; have HO278 := n3_; clear n0_ n1_ n2_ n3_; clear ho hb hg hat; have p279 : 0 ≤ (x10_1 : Int) := of_decide_eq_true (by first | (with_reducible assumption) | assumption); have q279 : x10_1 < (l1.length : Int) := of_decide_eq_true (by first | (with_reducible assumption) | assumption); obtain ⟨ad279, e279, hx279_0, hx279_1⟩ := at_T35 (Kd.V_reads' HO_1.out).2.2 x10_1 p279 q279; obtain rfl : ad272 = ad279 := (by injection e279); replace p279 := eq_true p279; replace q279 := eq_true q279; have p280 : 0 ≤ (x11_1 : Int) := of_decide_eq_true (by first | (with_reducible assumption) | assumption); have q280 : x11_1 < (l2.length : Int) := of_decide_eq_true (by first | (with_reducible assumption) | assumption); obtain ⟨ad280, e280, hx280_0, hx280_1⟩ := at_T35 (Kd.V_reads' HO_2.out).2.2 x11_1 p280 q280; obtain rfl : ad273 = ad280 := (by injection e280); replace p280 := eq_true p280; replace q280 := eq_true q280))
                            repeat (go_quiet (first | ((with_reducible refine gate_builtin (b := .append) (xs := #[.tmp 57, .tmp 61]) rfl ?_); (try (refine gate_guard (by rfl) ?_; dsimp only)); at_builtin; refine Kd.R_append k35 (w0 := w) w.heap.size rfl (.tmp 57) (.tmp 61) 22 35 (.agg #[(.int .i64 0), (.int .i64 0)]) 16 rfl Try.underlying22 info35 rfl (by decide) (by omega) u9 x9_1 (⟨ji17, ji18⟩ : S35) [.int .i64 ji17, .int .i64 ji18] (fun k_ => (w.heap.size ≤ k_)) (fun _ => False) rfl rfl ?aP (fun _ hk => hk.elim) ?aF ?aO ?aB ?aS ?aL ?_; (case aP => exact k35_mkM _ _ _ (⟨ji17, ji18⟩ : S35)); (case aB => exact (by repeat (first | (with_reducible first | exact HB.out | apply below_alloc | apply pw_below_drewN | apply below_drew1) | exact HB.out))); (case aF => exact (fun k_ hk => (Nat.le_trans (below_size (by repeat (first | (with_reducible first | exact HB.out | apply below_alloc | apply pw_below_drewN | apply below_drew1) | exact HB.out))) hk))); (case aO => exact (by (with_reducible repeat (first | apply Kd.R_alloc | apply Kd.R_drewN | apply Kd.R_drew)); exact HO_9.out)); (case aS => exact (below_size (by repeat (first | (with_reducible first | exact HB.out | apply below_alloc | apply pw_below_drewN | apply below_drew1) | exact HB.out)))); (case aL => have := LMc20.out; omega); intro v277 w23 ho hb hg hat; rw [← Ny276.out] at ho; have n0_ := Aside0.mk (Kd.V_afterv (ok := (fun k_ => ((P1_ k_ ∨ P2_ k_) ∨ w.heap.size ≤ k_))) (by (with_reducible repeat (first | apply Kd.V_alloc | apply Kd.V_drewN | apply Kd.V_drew)); exact HO_1.out) hg hat); have n1_ := Aside0.mk (Kd.V_afterv (ok := (fun k_ => ((P1_ k_ ∨ P2_ k_) ∨ w.heap.size ≤ k_))) (by (with_reducible repeat (first | apply Kd.V_alloc | apply Kd.V_drewN | apply Kd.V_drew)); exact HO_2.out) hg hat); have n2_ := Aside0.mk (hb); have n3_ := Aside0.mk (ho); clear HO_1; clear HO_2; clear HB; clear HO_9; have HO_1 := n0_; have HO_2 := n1_; have HB := n2_; have HO278 := n3_; clear n0_ n1_ n2_ n3_; clear ho hb hg hat; have p279 : 0 ≤ (x10_1 : Int) := of_decide_eq_true (by first | (with_reducible assumption) | assumption); have q279 : x10_1 < (l1.length : Int) := of_decide_eq_true (by first | (with_reducible assumption) | assumption); obtain ⟨ad279, e279, hx279_0, hx279_1⟩ := at_T35 (Kd.V_reads' HO_1.out).2.2 x10_1 p279 q279; obtain rfl : ad272 = ad279 := (by injection e279); replace p279 := eq_true p279; replace q279 := eq_true q279; have p280 : 0 ≤ (x11_1 : Int) := of_decide_eq_true (by first | (with_reducible assumption) | assumption); have q280 : x11_1 < (l2.length : Int) := of_decide_eq_true (by first | (with_reducible assumption) | assumption); obtain ⟨ad280, e280, hx280_0, hx280_1⟩ := at_T35 (Kd.V_reads' HO_2.out).2.2 x11_1 p280 q280; obtain rfl : ad273 = ad280 := (by injection e280); replace p280 := eq_true p280; replace q280 := eq_true q280)); try go_wp2_with (first | ((with_reducible refine gate_builtin (b := .append) (xs := #[.tmp 57, .tmp 61]) rfl ?_); (try (refine gate_guard (by rfl) ?_; dsimp only)); at_builtin; refine Kd.R_append k35 (w0 := w) w.heap.size rfl (.tmp 57) (.tmp 61) 22 35 (.agg #[(.int .i64 0), (.int .i64 0)]) 16 rfl Try.underlying22 info35 rfl (by decide) (by omega) u9 x9_1 (⟨ji17, ji18⟩ : S35) [.int .i64 ji17, .int .i64 ji18] (fun k_ => (w.heap.size ≤ k_)) (fun _ => False) rfl rfl ?aP (fun _ hk => hk.elim) ?aF ?aO ?aB ?aS ?aL ?_; (case aP => exact k35_mkM _ _ _ (⟨ji17, ji18⟩ : S35)); (case aB => exact (by repeat (first | (with_reducible first | exact HB.out | apply below_alloc | apply pw_below_drewN | apply below_drew1) | exact HB.out))); (case aF => exact (fun k_ hk => (Nat.le_trans (below_size (by repeat (first | (with_reducible first | exact HB.out | apply below_alloc | apply pw_below_drewN | apply below_drew1) | exact HB.out))) hk))); (case aO => exact (by (with_reducible repeat (first | apply Kd.R_alloc | apply Kd.R_drewN | apply Kd.R_drew)); exact HO_9.out)); (case aS => exact (below_size (by repeat (first | (with_reducible first | exact HB.out | apply below_alloc | apply pw_below_drewN | apply below_drew1) | exact HB.out)))); (case aL => have := LMc20.out; omega); intro v277 w23 ho hb hg hat; rw [← Ny276.out] at ho; have n0_ := Aside0.mk (Kd.V_afterv (ok := (fun k_ => ((P1_ k_ ∨ P2_ k_) ∨ w.heap.size ≤ k_))) (by (with_reducible repeat (first | apply Kd.V_alloc | apply Kd.V_drewN | apply Kd.V_drew)); exact HO_1.out) hg hat); have n1_ := Aside0.mk (Kd.V_afterv (ok := (fun k_ => ((P1_ k_ ∨ P2_ k_) ∨ w.heap.size ≤ k_))) (by (with_reducible repeat (first | apply Kd.V_alloc | apply Kd.V_drewN | apply Kd.V_drew)); exact HO_2.out) hg hat); have n2_ := Aside0.mk (hb); have n3_ := Aside0.mk (ho); clear HO_1; clear HO_2; clear HB; clear HO_9; have HO_1 := n0_; have HO_2 := n1_; have HB := n2_; have HO278 := n3_; clear n0_ n1_ n2_ n3_; clear ho hb hg hat; have p279 : 0 ≤ (x10_1 : Int) := of_decide_eq_true (by first | (with_reducible assumption) | assumption); have q279 : x10_1 < (l1.length : Int) := of_decide_eq_true (by first | (with_reducible assumption) | assumption); obtain ⟨ad279, e279, hx279_0, hx279_1⟩ := at_T35 (Kd.V_reads' HO_1.out).2.2 x10_1 p279 q279; obtain rfl : ad272 = ad279 := (by injection e279); replace p279 := eq_true p279; replace q279 := eq_true q279; have p280 : 0 ≤ (x11_1 : Int) := of_decide_eq_true (by first | (with_reducible assumption) | assumption); have q280 : x11_1 < (l2.length : Int) := of_decide_eq_true (by first | (with_reducible assumption) | assumption); obtain ⟨ad280, e280, hx280_0, hx280_1⟩ := at_T35 (Kd.V_reads' HO_2.out).2.2 x11_1 p280 q280; obtain rfl : ad273 = ad280 := (by injection e280); replace p280 := eq_true p280; replace q280 := eq_true q280)))
                            go_roundg kj9
                            case measure => have := HK1.out; have := HJ9.out; omega
                            case rel => exact ⟨(y276), (x10_1), (wrap64 (x11_1 + 1)), (by first | rfl | (simp; done) | (simp [*]; done)), (by first | rfl | (simp; done) | (simp [*]; done)), H', ⟨by have := HK1.out; have := HJ9.out; omega⟩, ⟨by (with_reducible repeat (first | apply Kd.V_alloc | apply Kd.V_drewN | apply Kd.V_drew)); exact HO_1.out⟩, ⟨by (with_reducible repeat (first | apply Kd.V_alloc | apply Kd.V_drewN | apply Kd.V_drew)); exact HO_2.out⟩, ⟨by (with_reducible repeat (first | apply Kd.R_alloc | apply Kd.R_drewN | apply Kd.R_drew)); exact HO278.out⟩, ⟨by repeat (first | (with_reducible first | exact HB.out | apply below_alloc | apply pw_below_drewN | apply below_drew1) | exact HB.out)⟩⟩
                        · rw [if_neg c20] at H
                          exact absurd H (by simp)
                      · rw [if_neg c19] at H
                        have c19b0 : decide ((ji17) < (ji18)) = false := decide_eq_false c19
                        clear c19
                        by_cases c24 : ((rd_T35 l1 x10_1).f1) < ((rd_T35 l2 x11_1).f1)
                        · rw [if_pos c24] at H
                          have c24b0 : decide (((rd_T35 l1 x10_1).f1) < ((rd_T35 l2 x11_1).f1)) = true := decide_eq_true c24
                          clear c24
                          have H' := Aside0.mk H
                          clear H
                          have p272 : 0 ≤ (x10_1 : Int) := of_decide_eq_true (by first | (with_reducible assumption) | assumption)
                          have q272 : x10_1 < (l1.length : Int) := of_decide_eq_true (by first | (with_reducible assumption) | assumption)
                          obtain ⟨ad272, e272, hx272_0, hx272_1⟩ := at_T35 (Kd.V_reads' HO_1.out).2.2 x10_1 p272 q272
                          cases e272
                          replace p272 := eq_true p272
                          replace q272 := eq_true q272
                          have p273 : 0 ≤ (x11_1 : Int) := of_decide_eq_true (by first | (with_reducible assumption) | assumption)
                          have q273 : x11_1 < (l2.length : Int) := of_decide_eq_true (by first | (with_reducible assumption) | assumption)
                          obtain ⟨ad273, e273, hx273_0, hx273_1⟩ := at_T35 (Kd.V_reads' HO_2.out).2.2 x11_1 p273 q273
                          cases e273
                          replace p273 := eq_true p273
                          replace q273 := eq_true q273
                          have p274 : 0 ≤ (x10_1 : Int) := of_decide_eq_true (by first | (with_reducible assumption) | assumption)
                          have q274 : x10_1 < (l1.length : Int) := of_decide_eq_true (by first | (with_reducible assumption) | assumption)
                          obtain ⟨ad274, e274, hx274_0, hx274_1⟩ := at_T35 (Kd.V_reads' HO_1.out).2.2 x10_1 p274 q274
                          obtain rfl : ad272 = ad274 := (by injection e274)
                          replace p274 := eq_true p274
                          replace q274 := eq_true q274
                          have p275 : 0 ≤ (x11_1 : Int) := of_decide_eq_true (by first | (with_reducible assumption) | assumption)
                          have q275 : x11_1 < (l2.length : Int) := of_decide_eq_true (by first | (with_reducible assumption) | assumption)
                          obtain ⟨ad275, e275, hx275_0, hx275_1⟩ := at_T35 (Kd.V_reads' HO_2.out).2.2 x11_1 p275 q275
                          obtain rfl : ad273 = ad275 := (by injection e275)
                          replace p275 := eq_true p275
                          replace q275 := eq_true q275
                          have p281 : 0 ≤ (x10_1 : Int) := of_decide_eq_true (by first | (with_reducible assumption) | assumption)
                          have q281 : x10_1 < (l1.length : Int) := of_decide_eq_true (by first | (with_reducible assumption) | assumption)
                          obtain ⟨ad281, e281, hx281_0, hx281_1⟩ := at_T35 (Kd.V_reads' HO_1.out).2.2 x10_1 p281 q281
                          obtain rfl : ad272 = ad281 := (by injection e281)
                          replace p281 := eq_true p281
                          replace q281 := eq_true q281
                          have p282 : 0 ≤ (x11_1 : Int) := of_decide_eq_true (by first | (with_reducible assumption) | assumption)
                          have q282 : x11_1 < (l2.length : Int) := of_decide_eq_true (by first | (with_reducible assumption) | assumption)
                          obtain ⟨ad282, e282, hx282_0, hx282_1⟩ := at_T35 (Kd.V_reads' HO_2.out).2.2 x11_1 p282 q282
                          obtain rfl : ad273 = ad282 := (by injection e282)
                          replace p282 := eq_true p282
                          replace q282 := eq_true q282
                          go_wp2
                          repeat (go_quiet (fail); try go_wp2)
                          go_roundg kj9
                          case measure => have := HK1.out; have := HJ9.out; omega
                          case rel => exact ⟨(x9_1), (wrap64 (x10_1 + 1)), (x11_1), (by first | rfl | (simp; done) | (simp [*]; done)), (by first | rfl | (simp; done) | (simp [*]; done)), H', ⟨by have := HK1.out; have := HJ9.out; omega⟩, ⟨by (with_reducible repeat (first | apply Kd.V_alloc | apply Kd.V_drewN | apply Kd.V_drew)); exact HO_1.out⟩, ⟨by (with_reducible repeat (first | apply Kd.V_alloc | apply Kd.V_drewN | apply Kd.V_drew)); exact HO_2.out⟩, ⟨by (with_reducible repeat (first | apply Kd.R_alloc | apply Kd.R_drewN | apply Kd.R_drew)); exact HO_9.out⟩, ⟨by repeat (first | (with_reducible first | exact HB.out | apply below_alloc | apply pw_below_drewN | apply below_drew1) | exact HB.out)⟩⟩
                        · rw [if_neg c24] at H
                          have c24b0 : decide (((rd_T35 l1 x10_1).f1) < ((rd_T35 l2 x11_1).f1)) = false := decide_eq_false c24
                          clear c24
                          have H' := Aside0.mk H
                          clear H
                          have p272 : 0 ≤ (x10_1 : Int) := of_decide_eq_true (by first | (with_reducible assumption) | assumption)
                          have q272 : x10_1 < (l1.length : Int) := of_decide_eq_true (by first | (with_reducible assumption) | assumption)
                          obtain ⟨ad272, e272, hx272_0, hx272_1⟩ := at_T35 (Kd.V_reads' HO_1.out).2.2 x10_1 p272 q272
                          cases e272
                          replace p272 := eq_true p272
                          replace q272 := eq_true q272
                          have p273 : 0 ≤ (x11_1 : Int) := of_decide_eq_true (by first | (with_reducible assumption) | assumption)
                          have q273 : x11_1 < (l2.length : Int) := of_decide_eq_true (by first | (with_reducible assumption) | assumption)
                          obtain ⟨ad273, e273, hx273_0, hx273_1⟩ := at_T35 (Kd.V_reads' HO_2.out).2.2 x11_1 p273 q273
                          cases e273
                          replace p273 := eq_true p273
                          replace q273 := eq_true q273
                          have p274 : 0 ≤ (x10_1 : Int) := of_decide_eq_true (by first | (with_reducible assumption) | assumption)
                          have q274 : x10_1 < (l1.length : Int) := of_decide_eq_true (by first | (with_reducible assumption) | assumption)
                          obtain ⟨ad274, e274, hx274_0, hx274_1⟩ := at_T35 (Kd.V_reads' HO_1.out).2.2 x10_1 p274 q274
                          obtain rfl : ad272 = ad274 := (by injection e274)
                          replace p274 := eq_true p274
                          replace q274 := eq_true q274
                          have p275 : 0 ≤ (x11_1 : Int) := of_decide_eq_true (by first | (with_reducible assumption) | assumption)
                          have q275 : x11_1 < (l2.length : Int) := of_decide_eq_true (by first | (with_reducible assumption) | assumption)
                          obtain ⟨ad275, e275, hx275_0, hx275_1⟩ := at_T35 (Kd.V_reads' HO_2.out).2.2 x11_1 p275 q275
                          obtain rfl : ad273 = ad275 := (by injection e275)
                          replace p275 := eq_true p275
                          replace q275 := eq_true q275
                          have p281 : 0 ≤ (x10_1 : Int) := of_decide_eq_true (by first | (with_reducible assumption) | assumption)
                          have q281 : x10_1 < (l1.length : Int) := of_decide_eq_true (by first | (with_reducible assumption) | assumption)
                          obtain ⟨ad281, e281, hx281_0, hx281_1⟩ := at_T35 (Kd.V_reads' HO_1.out).2.2 x10_1 p281 q281
                          obtain rfl : ad272 = ad281 := (by injection e281)
                          replace p281 := eq_true p281
                          replace q281 := eq_true q281
                          have p282 : 0 ≤ (x11_1 : Int) := of_decide_eq_true (by first | (with_reducible assumption) | assumption)
                          have q282 : x11_1 < (l2.length : Int) := of_decide_eq_true (by first | (with_reducible assumption) | assumption)
                          obtain ⟨ad282, e282, hx282_0, hx282_1⟩ := at_T35 (Kd.V_reads' HO_2.out).2.2 x11_1 p282 q282
                          obtain rfl : ad273 = ad282 := (by injection e282)
                          replace p282 := eq_true p282
                          replace q282 := eq_true q282
                          go_wp2
                          repeat (go_quiet (fail); try go_wp2)
                          go_roundg kj9
                          case measure => have := HK1.out; have := HJ9.out; omega
                          case rel => exact ⟨(x9_1), (x10_1), (wrap64 (x11_1 + 1)), (by first | rfl | (simp; done) | (simp [*]; done)), (by first | rfl | (simp; done) | (simp [*]; done)), H', ⟨by have := HK1.out; have := HJ9.out; omega⟩, ⟨by (with_reducible repeat (first | apply Kd.V_alloc | apply Kd.V_drewN | apply Kd.V_drew)); exact HO_1.out⟩, ⟨by (with_reducible repeat (first | apply Kd.V_alloc | apply Kd.V_drewN | apply Kd.V_drew)); exact HO_2.out⟩, ⟨by (with_reducible repeat (first | apply Kd.R_alloc | apply Kd.R_drewN | apply Kd.R_drew)); exact HO_9.out⟩, ⟨by repeat (first | (with_reducible first | exact HB.out | apply below_alloc | apply pw_below_drewN | apply below_drew1) | exact HB.out)⟩⟩
                    · rw [if_neg c16] at H
                      exact absurd H (by simp)
                  · rw [if_neg c15] at H
                    exact absurd H (by simp)
                · rw [if_neg c14] at H
                  exact absurd H (by simp)
              · rw [if_neg c13] at H
                exact absurd H (by simp)
            · replace c12 := Bool.eq_false_iff.mpr c12
              subst c12
              have H1 : (some (x9_1, 0)) = some (r1, r2) := by rw [if_neg (show ¬ (false = true) by decide)] at H; exact H
              clear H
              have H := H1
              clear H1
              simp only [Option.some.injEq, Prod.mk.injEq] at H
              obtain ⟨rfl, rfl⟩ := H
              go_wp2
              repeat (go_quiet (fail); try go_wp2)
              go_ret2
              exact ⟨_, by first | rfl | (simp [errW_none, errW_some] <;> rfl) | (simp [*, errW_none, errW_some] <;> rfl), by (with_reducible repeat (first | apply Kd.R_alloc | apply Kd.R_drewN | apply Kd.R_drew)); exact HO_9.out, by repeat (first | (with_reducible first | exact HB.out | apply below_alloc | apply pw_below_drewN | apply below_drew1) | exact HB.out)⟩
  · rw [if_neg c5] at H
    have c5b0 : (t271 == 0) = false := beq_eq_false_iff_ne.mpr c5
    have c5b1 : (t271 != 0) = true := bne_iff_ne.mpr c5
    simp only [Option.some.injEq, Prod.mk.injEq] at H
    obtain ⟨rfl, rfl⟩ := H
    go_enter Try.func37, Try.ntmps37
    go_wp2_with (first | ((with_reducible refine gate_dst (N := 17) rfl ?_); (try (refine gate_guard (by rfl) ?_; dsimp only)); refine Kd.N_lit (Kd.slice 35 k35) _ 22 ?hg (N' := 17) ?hd (xs := ([l1, l2] : List (List (S35)))) (inner := [.slice A1 l1.length c1, .slice A2 l2.length c2]) (ok := (fun k_ => ((P1_ k_ ∨ P2_ k_) ∨ w.heap.size ≤ k_))) (okp := (fun k_ => ((P1_ k_ ∨ P2_ k_) ∨ w.heap.size ≤ k_))) ?hr ?hp (fun _ hk => hk) ((show ∀ k_, w.heap.size ≤ k_ → (fun k_ => ((P1_ k_ ∨ P2_ k_) ∨ w.heap.size ≤ k_)) k_ from fun k_ hk => (.inr (Nat.le_trans (below_size (by repeat (first | (with_reducible first | exact HB.out | apply below_alloc | apply pw_below_drewN | apply below_drew1) | exact HB.out))) hk))) _ (Nat.le_refl _)) (Below.refl _ _) (Nat.le_refl _) (by simp) ?_; (case hd => rfl); (case hg => rfl); (case hr => first | (go_simp; done) | (go_simp; rfl)); (case hp => exact (Reps.one (show Kd.FK (Kd.slice 35 k35) _ _ l1 [.slice A1 l1.length c1] from (Kd.FK_slice_mk (Kd.V_reads' (Kd.V_mono (ok' := (fun k_ => ((P1_ k_ ∨ P2_ k_) ∨ w.heap.size ≤ k_))) (HO1.out) (fun k_ hk => hk))).2.1 (Kd.V_F (Kd.V_mono (ok' := (fun k_ => ((P1_ k_ ∨ P2_ k_) ∨ w.heap.size ≤ k_))) (HO1.out) (fun k_ hk => hk))))) (Reps.one (show Kd.FK (Kd.slice 35 k35) _ _ l2 [.slice A2 l2.length c2] from (Kd.FK_slice_mk (Kd.V_reads' (Kd.V_mono (ok' := (fun k_ => ((P1_ k_ ∨ P2_ k_) ∨ w.heap.size ≤ k_))) (HO2.out) (fun k_ hk => hk))).2.1 (Kd.V_F (Kd.V_mono (ok' := (fun k_ => ((P1_ k_ ∨ P2_ k_) ∨ w.heap.size ≤ k_))) (HO2.out) (fun k_ hk => hk))))) (Reps.none _ _)))); intro v269 w25 ho26 hb hg_ hnew_; clear hg_ hnew_; (first | rw [← Ny268.out] at ho26 | (simp only [Int.reduceToNat] at ho26; rw [← Ny268.out] at ho26)); have n0_ := Aside0.mk (Kd.V_elder' (by (with_reducible repeat (first | apply Kd.V_alloc | apply Kd.V_drewN | apply Kd.V_drew)); exact HO1.out) (Kd.N_base ho26) hb); have n1_ := Aside0.mk (Kd.V_elder' (by (with_reducible repeat (first | apply Kd.V_alloc | apply Kd.V_drewN | apply Kd.V_drew)); exact HO2.out) (Kd.N_base ho26) hb); have n2_ := Aside0.mk (Kd.N_lower ho26 (below_size (by repeat (first | (with_reducible first | exact HB.out | apply below_alloc | apply pw_below_drewN | apply below_drew1) | exact HB.out)))); have n3_ := Aside0.mk (below_step (by repeat (first | (with_reducible first | exact HB.out | apply below_alloc | apply pw_below_drewN | apply below_drew1) | exact HB.out)) hb); clear HO1; clear HO2; clear HB; have HO1 := n0_; have HO2 := n1_; have HO270 := n2_; have HB := n3_; clear n0_ n1_ n2_ n3_; clear hb ho26; obtain ⟨Ao27, co27, eo27⟩ := Kd.N_slice HO270.out; subst eo27) | (go_at_call 45; (with_reducible refine (residue_check.calls k a0 _ _ y268 t271 _ ?side1 ?side2 A4.out).mono ?_); (case side1 => repeat (first | exact (Kd.N_reads' HO270.out).2.2 | (with_reducible refine Kd.C_alloc ?_ _) | (with_reducible refine Kd.C_drewN ?_ _) | (with_reducible refine Kd.C_drew ?_))); (case side2 => exact (Kd.N_reads' HO270.out).2.1); rintro e w28 ⟨rfl, hb⟩; have n0_ := Aside0.mk (Kd.V_below (by (with_reducible repeat (first | apply Kd.V_alloc | apply Kd.V_drewN | apply Kd.V_drew)); exact HO1.out) hb); have n1_ := Aside0.mk (Kd.V_below (by (with_reducible repeat (first | apply Kd.V_alloc | apply Kd.V_drewN | apply Kd.V_drew)); exact HO2.out) hb); have n2_ := Aside0.mk (Kd.N_below (by (with_reducible repeat (first | apply Kd.N_alloc | apply Kd.N_drewN | apply Kd.N_drew)); exact HO270.out) hb); have n3_ := Aside0.mk (below_step (by repeat (first | (with_reducible first | exact HB.out | apply below_alloc | apply pw_below_drewN | apply below_drew1) | exact HB.out)) hb); clear HO1; clear HO2; clear HO270; clear HB; have HO1 := n0_; have HO2 := n1_; have HO270 := n2_; have HB := n3_; clear n0_ n1_ n2_ n3_; (try clear hb); (try clear hb2); (try clear hk); (try clear hi)))
    repeat (go_quiet (first | ((with_reducible refine gate_dst (N := 17) rfl ?_); (try (refine gate_guard (by rfl) ?_; dsimp only)); refine Kd.N_lit (Kd.slice 35 k35) _ 22 ?hg (N' := 17) ?hd (xs := ([l1, l2] : List (List (S35)))) (inner := [.slice A1 l1.length c1, .slice A2 l2.length c2]) (ok := (fun k_ => ((P1_ k_ ∨ P2_ k_) ∨ w.heap.size ≤ k_))) (okp := (fun k_ => ((P1_ k_ ∨ P2_ k_) ∨ w.heap.size ≤ k_))) ?hr ?hp (fun _ hk => hk) ((show ∀ k_, w.heap.size ≤ k_ → (fun k_ => ((P1_ k_ ∨ P2_ k_) ∨ w.heap.size ≤ k_)) k_ from fun k_ hk => (.inr (Nat.le_trans (below_size (by repeat (first | (with_reducible first | exact HB.out | apply below_alloc | apply pw_below_drewN | apply below_drew1) | exact HB.out))) hk))) _ (Nat.le_refl _)) (Below.refl _ _) (Nat.le_refl _) (by simp) ?_; (case hd => rfl); (case hg => rfl); (case hr => first | (go_simp; done) | (go_simp; rfl)); (case hp => exact (Reps.one (show Kd.FK (Kd.slice 35 k35) _ _ l1 [.slice A1 l1.length c1] from (Kd.FK_slice_mk (Kd.V_reads' (Kd.V_mono (ok' := (fun k_ => ((P1_ k_ ∨ P2_ k_) ∨ w.heap.size ≤ k_))) (HO1.out) (fun k_ hk => hk))).2.1 (Kd.V_F (Kd.V_mono (ok' := (fun k_ => ((P1_ k_ ∨ P2_ k_) ∨ w.heap.size ≤ k_))) (HO1.out) (fun k_ hk => hk))))) (Reps.one (show Kd.FK (Kd.slice 35 k35) _ _ l2 [.slice A2 l2.length c2] from (Kd.FK_slice_mk (Kd.V_reads' (Kd.V_mono (ok' := (fun k_ => ((P1_ k_ ∨ P2_ k_) ∨ w.heap.size ≤ k_))) (HO2.out) (fun k_ hk => hk))).2.1 (Kd.V_F (Kd.V_mono (ok' := (fun k_ => ((P1_ k_ ∨ P2_ k_) ∨ w.heap.size ≤ k_))) (HO2.out) (fun k_ hk => hk))))) (Reps.none _ _)))); intro v269 w25 ho26 hb hg_ hnew_; clear hg_ hnew_; (first | rw [← Ny268.out] at ho26 | (simp only [Int.reduceToNat] at ho26; rw [← Ny268.out] at ho26)); have n0_ := Aside0.mk (Kd.V_elder' (by (with_reducible repeat (first | apply Kd.V_alloc | apply Kd.V_drewN | apply Kd.V_drew)); exact HO1.out) (Kd.N_base ho26) hb); have n1_ := Aside0.mk (Kd.V_elder' (by (with_reducible repeat (first | apply Kd.V_alloc | apply Kd.V_drewN | apply Kd.V_drew)); exact HO2.out) (Kd.N_base ho26) hb); have n2_ := Aside0.mk (Kd.N_lower ho26 (below_size (by repeat (first | (with_reducible first | exact HB.out | apply below_alloc | apply pw_below_drewN | apply below_drew1) | exact HB.out)))); have n3_ := Aside0.mk (below_step (by repeat (first | (with_reducible first | exact HB.out | apply below_alloc | apply pw_below_drewN | apply below_drew1) | exact HB.out)) hb); clear HO1; clear HO2; clear HB; have HO1 := n0_; have HO2 := n1_; have HO270 := n2_; have HB := n3_; clear n0_ n1_ n2_ n3_; clear hb ho26; obtain ⟨Ao27, co27, eo27⟩ := Kd.N_slice HO270.out; subst eo27) | (go_at_call 45; (with_reducible refine (residue_check.calls k a0 _ _ y268 t271 _ ?side1 ?side2 A4.out).mono ?_); (case side1 => repeat (first | exact (Kd.N_reads' HO270.out).2.2 | (with_reducible refine Kd.C_alloc ?_ _) | (with_reducible refine Kd.C_drewN ?_ _) | (with_reducible refine Kd.C_drew ?_))); (case side2 => exact (Kd.N_reads' HO270.out).2.1); rintro e w28 ⟨rfl, hb⟩; have n0_ := Aside0.mk (Kd.V_below (by (with_reducible repeat (first | apply Kd.V_alloc | apply Kd.V_drewN | apply Kd.V_drew)); exact HO1.out) hb); have n1_ := Aside0.mk (Kd.V_below (by (with_reducible repeat (first | apply Kd.V_alloc | apply Kd.V_drewN | apply Kd.V_drew)); exact HO2.out) hb); have n2_ := Aside0.mk (Kd.N_below (by (with_reducible repeat (first | apply Kd.N_alloc | apply Kd.N_drewN | apply Kd.N_drew)); exact HO270.out) hb); have n3_ := Aside0.mk (below_step (by repeat (first | (with_reducible first | exact HB.out | apply below_alloc | apply pw_below_drewN | apply below_drew1) | exact HB.out)) hb); clear HO1; clear HO2; clear HO270; clear HB; have HO1 := n0_; have HO2 := n1_; have HO270 := n2_; have HB := n3_; clear n0_ n1_ n2_ n3_; (try clear hb); (try clear hb2); (try clear hk); (try clear hi))); try go_wp2_with (first | ((with_reducible refine gate_dst (N := 17) rfl ?_); (try (refine gate_guard (by rfl) ?_; dsimp only)); refine Kd.N_lit (Kd.slice 35 k35) _ 22 ?hg (N' := 17) ?hd (xs := ([l1, l2] : List (List (S35)))) (inner := [.slice A1 l1.length c1, .slice A2 l2.length c2]) (ok := (fun k_ => ((P1_ k_ ∨ P2_ k_) ∨ w.heap.size ≤ k_))) (okp := (fun k_ => ((P1_ k_ ∨ P2_ k_) ∨ w.heap.size ≤ k_))) ?hr ?hp (fun _ hk => hk) ((show ∀ k_, w.heap.size ≤ k_ → (fun k_ => ((P1_ k_ ∨ P2_ k_) ∨ w.heap.size ≤ k_)) k_ from fun k_ hk => (.inr (Nat.le_trans (below_size (by repeat (first | (with_reducible first | exact HB.out | apply below_alloc | apply pw_below_drewN | apply below_drew1) | exact HB.out))) hk))) _ (Nat.le_refl _)) (Below.refl _ _) (Nat.le_refl _) (by simp) ?_; (case hd => rfl); (case hg => rfl); (case hr => first | (go_simp; done) | (go_simp; rfl)); (case hp => exact (Reps.one (show Kd.FK (Kd.slice 35 k35) _ _ l1 [.slice A1 l1.length c1] from (Kd.FK_slice_mk (Kd.V_reads' (Kd.V_mono (ok' := (fun k_ => ((P1_ k_ ∨ P2_ k_) ∨ w.heap.size ≤ k_))) (HO1.out) (fun k_ hk => hk))).2.1 (Kd.V_F (Kd.V_mono (ok' := (fun k_ => ((P1_ k_ ∨ P2_ k_) ∨ w.heap.size ≤ k_))) (HO1.out) (fun k_ hk => hk))))) (Reps.one (show Kd.FK (Kd.slice 35 k35) _ _ l2 [.slice A2 l2.length c2] from (Kd.FK_slice_mk (Kd.V_reads' (Kd.V_mono (ok' := (fun k_ => ((P1_ k_ ∨ P2_ k_) ∨ w.heap.size ≤ k_))) (HO2.out) (fun k_ hk => hk))).2.1 (Kd.V_F (Kd.V_mono (ok' := (fun k_ => ((P1_ k_ ∨ P2_ k_) ∨ w.heap.size ≤ k_))) (HO2.out) (fun k_ hk => hk))))) (Reps.none _ _)))); intro v269 w25 ho26 hb hg_ hnew_; clear hg_ hnew_; (first | rw [← Ny268.out] at ho26 | (simp only [Int.reduceToNat] at ho26; rw [← Ny268.out] at ho26)); have n0_ := Aside0.mk (Kd.V_elder' (by (with_reducible repeat (first | apply Kd.V_alloc | apply Kd.V_drewN | apply Kd.V_drew)); exact HO1.out) (Kd.N_base ho26) hb); have n1_ := Aside0.mk (Kd.V_elder' (by (with_reducible repeat (first | apply Kd.V_alloc | apply Kd.V_drewN | apply Kd.V_drew)); exact HO2.out) (Kd.N_base ho26) hb); have n2_ := Aside0.mk (Kd.N_lower ho26 (below_size (by repeat (first | (with_reducible first | exact HB.out | apply below_alloc | apply pw_below_drewN | apply below_drew1) | exact HB.out)))); have n3_ := Aside0.mk (below_step (by repeat (first | (with_reducible first | exact HB.out | apply below_alloc | apply pw_below_drewN | apply below_drew1) | exact HB.out)) hb); clear HO1; clear HO2; clear HB; have HO1 := n0_; have HO2 := n1_; have HO270 := n2_; have HB := n3_; clear n0_ n1_ n2_ n3_; clear hb ho26; obtain ⟨Ao27, co27, eo27⟩ := Kd.N_slice HO270.out; subst eo27) | (go_at_call 45; (with_reducible refine (residue_check.calls k a0 _ _ y268 t271 _ ?side1 ?side2 A4.out).mono ?_); (case side1 => repeat (first | exact (Kd.N_reads' HO270.out).2.2 | (with_reducible refine Kd.C_alloc ?_ _) | (with_reducible refine Kd.C_drewN ?_ _) | (with_reducible refine Kd.C_drew ?_))); (case side2 => exact (Kd.N_reads' HO270.out).2.1); rintro e w28 ⟨rfl, hb⟩; have n0_ := Aside0.mk (Kd.V_below (by (with_reducible repeat (first | apply Kd.V_alloc | apply Kd.V_drewN | apply Kd.V_drew)); exact HO1.out) hb); have n1_ := Aside0.mk (Kd.V_below (by (with_reducible repeat (first | apply Kd.V_alloc | apply Kd.V_drewN | apply Kd.V_drew)); exact HO2.out) hb); have n2_ := Aside0.mk (Kd.N_below (by (with_reducible repeat (first | apply Kd.N_alloc | apply Kd.N_drewN | apply Kd.N_drew)); exact HO270.out) hb); have n3_ := Aside0.mk (below_step (by repeat (first | (with_reducible first | exact HB.out | apply below_alloc | apply pw_below_drewN | apply below_drew1) | exact HB.out)) hb); clear HO1; clear HO2; clear HO270; clear HB; have HO1 := n0_; have HO2 := n1_; have HO270 := n2_; have HB := n3_; clear n0_ n1_ n2_ n3_; (try clear hb); (try clear hb2); (try clear hk); (try clear hi))))
    go_ret2
    exact ⟨_, by first | rfl | (simp [errW_none, errW_some] <;> rfl) | (simp [*, errW_none, errW_some] <;> rfl), by first | exact Kd.R_nil _ _ _ _ _ | exact Kd.N_nil _ _ _ _ _ | exact Kd.V_nil _ _ _ _ _ | exact Kd.Q_nil _ _ _ _ _ | exact Kd.S_nil _ _ _ _ _, by repeat (first | (with_reducible first | exact HB.out | apply below_alloc | apply pw_below_drewN | apply below_drew1) | exact HB.out)⟩

-- NOT PRINTED: function 40 (api_Span_40)

-- NOT PRINTED: function 41 (api_Span_41)

-- NOT PRINTED: function 14 (railplanlaw2_ResidueKeepsArguments)

end Go.Proofs.Ytdnileakboefgaa.PResidueKeepsArguments
