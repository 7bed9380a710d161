-- (printed by the kit's print.py, called by printmany.sh)
import Derived.Test.YtcdldldknfpkjaaPHwx0
namespace Go.Proofs.Ytcdldldknfpkjaa.PHw
open Go.RowKit Go.Proofs.YtcdldldknfpkjaaW.PrintWords Go.Proofs.YtcdldldknfpkjaaW.PrintLast Go.Proofs.YtcdldldknfpkjaaW.PrintMore
attribute [local go_sem] max2_int min2_int max_two min_two max_three min_three max_four min_four   -- for this text's walks alone
set_option linter.unusedVariables false
set_option linter.unusedSimpArgs false

/-! ### railplanref9_find: function 50 -/
def railplanref9_find.l0 : Nat → List (S41) → Int → Int → Option (Int × Int × Int × Bool)
  | 0, _, _, _ => none
  | k + 1, x0, x1, x6 => if x6 < (x0.length : Int) then (if 0 ≤ x6 then (if ((rd_T41 x0 x6).f0) = x1 then (some ((rd_T41 x0 x6).f0, (rd_T41 x0 x6).f1, (rd_T41 x0 x6).f2, true)) else (railplanref9_find.l0 k x0 x1 (wrap64 (x6 + 1)))) else (none)) else (some (0, 0, 0, false))
def railplanref9_find.f (k : Nat) (l0 : List (S41)) (a1 : Int) : Option (Int × Int × Int × Bool) := railplanref9_find.l0 k l0 a1 0
theorem railplanref9_find.mono_l : ∀ k, (∀ y0 y1 y2, LeO (railplanref9_find.l0 k y0 y1 y2) (railplanref9_find.l0 (k + 1) y0 y1 y2))
  | 0 => fun _ _ _ r h => by simp [railplanref9_find.l0] at h
  | k + 1 => by
    have ih0 := railplanref9_find.mono_l k
    · intro y0 y1 y2
      unfold railplanref9_find.l0
      repeat' first
      | (with_reducible exact ih0 _ _ _)
      | (with_reducible exact LeO.refl _)
      | (with_reducible exact LeO.none _)
      | (with_reducible refine LeO.ite ?_ ?_)
      | (with_reducible refine LeO.bind ?_ (fun _ => ?_))
      | exact ih0 _ _ _
      | exact LeO.none _
      | refine LeO.ite ?_ ?_
      | refine LeO.bind ?_ (fun _ => ?_)
theorem railplanref9_find.mono : ∀ a0 a1 k, LeO (railplanref9_find.f k a0 a1) (railplanref9_find.f (k + 1) a0 a1) := by
  intro a0 a1 k
  have ih0 := railplanref9_find.mono_l k
  unfold railplanref9_find.f
  repeat' first
      | (with_reducible exact ih0 _ _ _)
      | (with_reducible exact LeO.refl _)
      | (with_reducible exact LeO.none _)
      | (with_reducible refine LeO.ite ?_ ?_)
      | (with_reducible refine LeO.bind ?_ (fun _ => ?_))
      | exact ih0 _ _ _
      | exact LeO.none _
      | refine LeO.ite ?_ ?_
      | refine LeO.bind ?_ (fun _ => ?_)
set_option maxHeartbeats 8000000 in
set_option maxRecDepth 100000 in
theorem railplanref9_find.calls (k : Nat) (A0 : Option Addr) (c0 : Nat) (l0 : List (S41)) (a1 : Int) (r1 : Int) (r2 : Int) (r3 : Int) (r4 : Bool) (w : World) (hr0 : Kd.C k41 w A0 l0.length l0) (hc0 : l0.length ≤ c0) (h : railplanref9_find.f k l0 a1 = some (r1, r2, r3, r4)) :
    Calls Try.prog 50 #[.slice A0 l0.length c0, .int .i64 a1] w fun e w' => e = .returned (.tuple #[.agg #[.int .i64 r1, .int .i64 r2, .int .i64 r3], .bool r4]) ∧ Below w.heap.size w w' := by
  have hu41 := Try.underlying41
  have HR0 := Aside0.mk hr0
  have HC0 := Aside0.mk hc0
  clear hr0 hc0
  have HB := Aside0.mk (Below.refl w.heap.size w)
  have H : (railplanref9_find.l0 k l0 a1 0) = some (r1, r2, r3, r4) := h
  clear h
  have H' := Aside0.mk H
  clear H
  go_enter Try.func50, Try.ntmps50
  go_wp2_with (first | ((with_reducible refine gate_dst (N := 4) rfl ?_); refine box_event ?hg (N := 4) ?hd (cs := #[.int .i64 0, .int .i64 0, .int .i64 0]) (t := 41) ?hr ?_; (case hd => rfl); (case hg => rfl); (case hr => first | (go_simp; done) | (go_simp; rfl)); intro gb144 hg w3 hbox hb; have n0_ := Aside0.mk (below_step (by repeat (first | (with_reducible first | exact HB.out | apply below_alloc | apply pw_below_drewN | apply below_drew1) | exact HB.out)) hb); have n1_ := Aside0.mk (hbox); have n2_ := Aside0.mk ((by rw [hg]; exact (below_size (by repeat (first | (with_reducible first | exact HB.out | apply below_alloc | apply pw_below_drewN | apply below_drew1) | exact HB.out))) : w.heap.size ≤ gb144)); have n3_ := Aside0.mk ((by rw [hg]; exact (below_size (by repeat (first | (with_reducible first | exact HB.out | apply below_alloc | apply pw_below_drewN | apply below_drew1) | exact HB.out))) : w.heap.size ≤ gb144)); clear HB; have HB := n0_; have BK144 := n1_; have GW144 := n2_; have GE144 := n3_; clear n0_ n1_ n2_ n3_; clear hb hbox hg))
  go_loopg [6] k (fun kq v6 w' => ∃ (x6_1 : Int) (x145000_1 : Int) (x145001_1 : Int) (x145002_1 : Int), v6 = .int .i64 x6_1 ∧ Aside0 (railplanref9_find.l0 kq l0 a1 x6_1 = some (r1, r2, r3, r4)) ∧ Aside0 (kq ≤ k) ∧ Aside0 (w'.heap[gb144]? = some (.cells #[.int .i64 x145000_1, .int .i64 x145001_1, .int .i64 x145002_1] 41 (0, 0))) ∧ Aside0 (Below w.heap.size w w'))
  case atStart => exact ⟨(0), (0), (0), (0), (by first | rfl | (simp; done) | (simp [*]; done)), H', ⟨Nat.le_refl _⟩, ⟨by (with_reducible repeat (first | refine blk_drewN ?_ _ | refine blk_drew ?_ | refine blk_alloc ?_ _)); exact BK144.out⟩, ⟨by repeat (first | (with_reducible first | exact HB.out | apply below_alloc | apply pw_below_drewN | apply below_drew1 | refine below_set ?_ GE144.out) | exact HB.out)⟩⟩
  case round =>
    clear H'
    try clear p2
    obtain ⟨x6_1, x145000_1, x145001_1, x145002_1, rfl, HA, HK1, BK144, HB⟩ := hrel
    cases gk with
    | zero => exact absurd HA.out (by simp [railplanref9_find.l0])
    | succ k1 =>
      have H := HA.out
      clear HA
      simp only [railplanref9_find.l0] at H
      by_cases c4 : x6_1 < (l0.length : Int)
      · rw [if_pos c4] at H
        have c4b0 : decide (x6_1 < (l0.length : Int)) = true := decide_eq_true c4
        clear c4
        by_cases c5 : 0 ≤ x6_1
        · rw [if_pos c5] at H
          have c5b0 : decide (0 ≤ x6_1) = true := decide_eq_true c5
          clear c5
          by_cases c6 : ((rd_T41 l0 x6_1).f0) = a1
          · rw [if_pos c6] at H
            have c6b0 : (((rd_T41 l0 x6_1).f0) == a1) = true := beq_iff_eq.mpr c6
            have c6b1 : (((rd_T41 l0 x6_1).f0) != a1) = false := bne_eq_false_iff_eq.mpr c6
            clear c6
            simp only [Option.some.injEq, Prod.mk.injEq] at H
            obtain ⟨rfl, rfl, rfl, rfl⟩ := H
            have p145 : 0 ≤ (x6_1 : Int) := of_decide_eq_true (by first | (with_reducible assumption) | assumption)
            have q145 : x6_1 < (l0.length : Int) := of_decide_eq_true (by first | (with_reducible assumption) | assumption)
            obtain ⟨ad145, e145, hx145_0, hx145_1, hx145_2⟩ := at_T41 HR0.out x6_1 p145 q145
            cases e145
            replace hx145_0 := (HB.out.cell (World.block_lt_of_cell? w _ hx145_0)).trans hx145_0
            replace hx145_1 := (HB.out.cell (World.block_lt_of_cell? w _ hx145_1)).trans hx145_1
            replace hx145_2 := (HB.out.cell (World.block_lt_of_cell? w _ hx145_2)).trans hx145_2
            replace p145 := eq_true p145
            replace q145 := eq_true q145
            have p146 : 0 ≤ (x6_1 : Int) := of_decide_eq_true (by first | (with_reducible assumption) | assumption)
            have q146 : x6_1 < (l0.length : Int) := of_decide_eq_true (by first | (with_reducible assumption) | assumption)
            obtain ⟨ad146, e146, hx146_0, hx146_1, hx146_2⟩ := at_T41 HR0.out x6_1 p146 q146
            obtain rfl : ad145 = ad146 := (by injection e146)
            replace hx146_0 := (HB.out.cell (World.block_lt_of_cell? w _ hx146_0)).trans hx146_0
            replace hx146_1 := (HB.out.cell (World.block_lt_of_cell? w _ hx146_1)).trans hx146_1
            replace hx146_2 := (HB.out.cell (World.block_lt_of_cell? w _ hx146_2)).trans hx146_2
            replace p146 := eq_true p146
            replace q146 := eq_true q146
            have hcz7_0 : wr.cell? ⟨gb144, 0, none⟩ = some (.int .i64 x145000_1) := (blk_cell BK144.out 0).trans rfl
            have hcz7_1 : wr.cell? ⟨gb144, 1, none⟩ = some (.int .i64 x145001_1) := (blk_cell BK144.out 1).trans rfl
            have hcz7_2 : wr.cell? ⟨gb144, 2, none⟩ = some (.int .i64 x145002_1) := (blk_cell BK144.out 2).trans rfl
            have hfz7_0 := blk_frozen BK144.out 0
            have hfz7_1 := blk_frozen BK144.out 1
            have hfz7_2 := blk_frozen BK144.out 2
            go_wp2
            refine bodyPost_ret (results_ct rfl _ _ gb144 41 #[.int .i64 ((rd_T41 l0 x6_1).f0), .int .i64 ((rd_T41 l0 x6_1).f1), .int .i64 ((rd_T41 l0 x6_1).f2)] (0, 0) _ rfl (by (with_reducible repeat (first | refine blk_drewN ?_ _ | refine blk_drew ?_ | refine blk_alloc ?_ _)); refine blk_put (cs := #[.int .i64 ((rd_T41 l0 x6_1).f0), .int .i64 ((rd_T41 l0 x6_1).f1), .int .i64 x145002_1]) ?_ 2 _ rfl; (with_reducible repeat (first | refine blk_drewN ?_ _ | refine blk_drew ?_ | refine blk_alloc ?_ _)); refine blk_put (cs := #[.int .i64 ((rd_T41 l0 x6_1).f0), .int .i64 x145001_1, .int .i64 x145002_1]) ?_ 1 _ rfl; (with_reducible repeat (first | refine blk_drewN ?_ _ | refine blk_drew ?_ | refine blk_alloc ?_ _)); refine blk_put (cs := #[.int .i64 x145000_1, .int .i64 x145001_1, .int .i64 x145002_1]) ?_ 0 _ rfl; (with_reducible repeat (first | refine blk_drewN ?_ _ | refine blk_drew ?_ | refine blk_alloc ?_ _)); exact BK144.out) Try.underlying41 rfl (by kernel_rfl)) rfl ?_
            exact ⟨by first | rfl | (simp [errW_none, errW_some] <;> rfl) | (simp [*, errW_none, errW_some] <;> rfl), by repeat (first | (with_reducible first | exact HB.out | apply below_alloc | apply pw_below_drewN | apply below_drew1 | refine below_set ?_ GE144.out) | exact HB.out)⟩
          · rw [if_neg c6] at H
            have c6b0 : (((rd_T41 l0 x6_1).f0) == a1) = false := beq_eq_false_iff_ne.mpr c6
            have c6b1 : (((rd_T41 l0 x6_1).f0) != a1) = true := bne_iff_ne.mpr c6
            have H' := Aside0.mk H
            clear H
            have p145 : 0 ≤ (x6_1 : Int) := of_decide_eq_true (by first | (with_reducible assumption) | assumption)
            have q145 : x6_1 < (l0.length : Int) := of_decide_eq_true (by first | (with_reducible assumption) | assumption)
            obtain ⟨ad145, e145, hx145_0, hx145_1, hx145_2⟩ := at_T41 HR0.out x6_1 p145 q145
            cases e145
            replace hx145_0 := (HB.out.cell (World.block_lt_of_cell? w _ hx145_0)).trans hx145_0
            replace hx145_1 := (HB.out.cell (World.block_lt_of_cell? w _ hx145_1)).trans hx145_1
            replace hx145_2 := (HB.out.cell (World.block_lt_of_cell? w _ hx145_2)).trans hx145_2
            replace p145 := eq_true p145
            replace q145 := eq_true q145
            go_wp2
            go_roundg k1
            case measure => have := HK1.out; omega
            case rel => exact ⟨(wrap64 (x6_1 + 1)), (x145000_1), (x145001_1), (x145002_1), (by first | rfl | (simp; done) | (simp [*]; done)), H', ⟨by have := HK1.out; omega⟩, ⟨by (with_reducible repeat (first | refine blk_drewN ?_ _ | refine blk_drew ?_ | refine blk_alloc ?_ _)); exact BK144.out⟩, ⟨by repeat (first | (with_reducible first | exact HB.out | apply below_alloc | apply pw_below_drewN | apply below_drew1 | refine below_set ?_ GE144.out) | exact HB.out)⟩⟩
        · rw [if_neg c5] at H
          exact absurd H (by simp)
      · rw [if_neg c4] at H
        have c4b0 : decide (x6_1 < (l0.length : Int)) = false := decide_eq_false c4
        clear c4
        simp only [Option.some.injEq, Prod.mk.injEq] at H
        obtain ⟨rfl, rfl, rfl, rfl⟩ := H
        have hcz8_0 : wr.cell? ⟨gb144, 0, none⟩ = some (.int .i64 x145000_1) := (blk_cell BK144.out 0).trans rfl
        have hcz8_1 : wr.cell? ⟨gb144, 1, none⟩ = some (.int .i64 x145001_1) := (blk_cell BK144.out 1).trans rfl
        have hcz8_2 : wr.cell? ⟨gb144, 2, none⟩ = some (.int .i64 x145002_1) := (blk_cell BK144.out 2).trans rfl
        have hfz8_0 := blk_frozen BK144.out 0
        have hfz8_1 := blk_frozen BK144.out 1
        have hfz8_2 := blk_frozen BK144.out 2
        go_wp2
        refine bodyPost_ret (results_ct rfl _ _ gb144 41 #[.int .i64 0, .int .i64 0, .int .i64 0] (0, 0) _ rfl (by (with_reducible repeat (first | refine blk_drewN ?_ _ | refine blk_drew ?_ | refine blk_alloc ?_ _)); refine blk_put (cs := #[.int .i64 0, .int .i64 0, .int .i64 x145002_1]) ?_ 2 _ rfl; (with_reducible repeat (first | refine blk_drewN ?_ _ | refine blk_drew ?_ | refine blk_alloc ?_ _)); refine blk_put (cs := #[.int .i64 0, .int .i64 x145001_1, .int .i64 x145002_1]) ?_ 1 _ rfl; (with_reducible repeat (first | refine blk_drewN ?_ _ | refine blk_drew ?_ | refine blk_alloc ?_ _)); refine blk_put (cs := #[.int .i64 x145000_1, .int .i64 x145001_1, .int .i64 x145002_1]) ?_ 0 _ rfl; (with_reducible repeat (first | refine blk_drewN ?_ _ | refine blk_drew ?_ | refine blk_alloc ?_ _)); exact BK144.out) Try.underlying41 rfl (by kernel_rfl)) rfl ?_
        exact ⟨by first | rfl | (simp [errW_none, errW_some] <;> rfl) | (simp [*, errW_none, errW_some] <;> rfl), by repeat (first | (with_reducible first | exact HB.out | apply below_alloc | apply pw_below_drewN | apply below_drew1 | refine below_set ?_ GE144.out) | exact HB.out)⟩

/-! ### railplanref9_in: function 51 -/
def railplanref9_in.f (a0 : Int) (a1 : Int) (a2 : Int) : Option (Bool) := if a0 ≥ a1 then (some (decide (a0 ≤ a2))) else (some false)
set_option maxHeartbeats 8000000 in
set_option maxRecDepth 100000 in
theorem railplanref9_in.calls (a0 : Int) (a1 : Int) (a2 : Int) (r : Bool) (w : World) (h : railplanref9_in.f a0 a1 a2 = some r) :
    Calls Try.prog 51 #[.int .i64 a0, .int .i64 a1, .int .i64 a2] w fun e w' => e = .returned (.bool r) ∧ Drawn0 w w' := by
  have H : (if a0 ≥ a1 then (some (decide (a0 ≤ a2))) else (some false)) = some r := h
  clear h
  by_cases c4 : a0 ≥ a1
  · rw [if_pos c4] at H
    have c4b0 : decide (a1 ≤ a0) = true := decide_eq_true c4
    clear c4
    obtain rfl := Option.some.inj H
    go_enter Try.func51, Try.ntmps51
    go_wp2
    go_ret
    exact ⟨by first | rfl | (simp; done) | (simp [*]; done), by repeat (first | exact Drawn0.refl _ | apply Drawn0.step)⟩
  · rw [if_neg c4] at H
    have c4b0 : decide (a1 ≤ a0) = false := decide_eq_false c4
    clear c4
    obtain rfl := Option.some.inj H
    go_enter Try.func51, Try.ntmps51
    go_wp2
    go_ret
    exact ⟨by first | rfl | (simp; done) | (simp [*]; done), by repeat (first | exact Drawn0.refl _ | apply Drawn0.step)⟩

end Go.Proofs.Ytcdldldknfpkjaa.PHw
