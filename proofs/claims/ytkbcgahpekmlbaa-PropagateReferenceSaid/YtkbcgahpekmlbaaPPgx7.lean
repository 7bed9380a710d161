-- (printed by the kit's print.py, called by printmany.sh)
import Derived.Test.YtkbcgahpekmlbaaPPgx0
import Derived.Test.YtkbcgahpekmlbaaPPgx6
namespace Go.Proofs.Ytkbcgahpekmlbaa.PPg
open Go.RowKit Go.Proofs.YtkbcgahpekmlbaaW.PrintWords Go.Proofs.YtkbcgahpekmlbaaW.PrintLast Go.Proofs.YtkbcgahpekmlbaaW.PrintMore
attribute [local go_sem] max2_int min2_int max_two min_two max_three min_three max_four min_four   -- for this text's walks alone
set_option linter.unusedVariables false
set_option linter.unusedSimpArgs false

/-! ### residue_marks_put: function 76 -/
def residue_marks_put.l0 : Nat → List Bool → Int → Int → Int → Int → Option (List Bool)
  | 0, _, _, _, _, _ => none
  | k + 1, x0, x6, x7, x15, x16 => if x16 < x15 then (if 0 ≤ x7 then (if x7 < (x0.length : Int) then ((some (x0.set (x7 : Int).toNat true : List Bool)).bind fun y111 => (if (wrap64 (x7 + 1)) = x6 then (residue_marks_put.l0 k y111 x6 0 x15 (wrap64 (x16 + 1))) else (residue_marks_put.l0 k y111 x6 (wrap64 (x7 + 1)) x15 (wrap64 (x16 + 1))))) else (none)) else (none)) else (some x0)
def residue_marks_put.f (k : Nat) (l0 : List Bool) (a1 : Int) (a2 : Int) : Option (List Bool) := (arith_Mod.f a1 (l0.length : Int)).bind fun t110 => (residue_marks_put.l0 k l0 (l0.length : Int) t110 (mn a2 (l0.length : Int)) 0)
theorem residue_marks_put.mono_l : ∀ k, (∀ y0 y1 y2 y3 y4, LeO (residue_marks_put.l0 k y0 y1 y2 y3 y4) (residue_marks_put.l0 (k + 1) y0 y1 y2 y3 y4))
  | 0 => fun _ _ _ _ _ r h => by simp [residue_marks_put.l0] at h
  | k + 1 => by
    have ih0 := residue_marks_put.mono_l k
    · intro y0 y1 y2 y3 y4
      unfold residue_marks_put.l0
      repeat' first
      | (with_reducible exact ih0 _ _ _ _ _)
      | (with_reducible exact LeO.refl _)
      | (with_reducible exact LeO.none _)
      | (with_reducible refine LeO.ite ?_ ?_)
      | (with_reducible refine LeO.bind ?_ (fun _ => ?_))
      | exact ih0 _ _ _ _ _
      | exact LeO.none _
      | refine LeO.ite ?_ ?_
      | refine LeO.bind ?_ (fun _ => ?_)
theorem residue_marks_put.mono : ∀ a0 a1 a2 k, LeO (residue_marks_put.f k a0 a1 a2) (residue_marks_put.f (k + 1) a0 a1 a2) := by
  intro a0 a1 a2 k
  have ih0 := residue_marks_put.mono_l k
  unfold residue_marks_put.f
  repeat' first
      | (with_reducible exact ih0 _ _ _ _ _)
      | (with_reducible exact LeO.refl _)
      | (with_reducible exact LeO.none _)
      | (with_reducible refine LeO.ite ?_ ?_)
      | (with_reducible refine LeO.bind ?_ (fun _ => ?_))
      | exact ih0 _ _ _ _ _
      | exact LeO.none _
      | refine LeO.ite ?_ ?_
      | refine LeO.bind ?_ (fun _ => ?_)
set_option maxHeartbeats 8000000 in
set_option maxRecDepth 100000 in
theorem residue_marks_put.calls (k : Nat) (P0_ : Nat → Prop) (u9000_ : Value) (l0 : List Bool) (a1 : Int) (a2 : Int) (r : List Bool) (w0 w : World) (hB : Below w0.heap.size w0 w) (ho0 : Kd.R Kd.bool 4 w w0.heap.size P0_ u9000_ l0) (h : residue_marks_put.f k l0 a1 a2 = some r) :
    Calls Try.prog 76 #[u9000_, .int .i64 a1, .int .i64 a2] w fun e w' => e = .returned (.tuple #[]) ∧ Kd.R Kd.bool 4 w' w0.heap.size (fun k_ => (P0_ k_ ∨ w.heap.size ≤ k_)) u9000_ r ∧ Below w0.heap.size w0 w' ∧ Kept w w' (fun k_ => P0_ k_) := by
  have HO0 := Aside0.mk (show Kd.R Kd.bool 4 w w0.heap.size (fun k_ => (P0_ k_ ∨ w.heap.size ≤ k_)) u9000_ l0 from Kd.R_mono ho0 (fun k_ hk => (.inl hk)))
  have HK := Aside0.mk (Kept.refl w (fun k_ => P0_ k_))
  have HW0 := Aside0.mk hB.size
  have HB := Aside0.mk hB
  clear hB
  have H : ((arith_Mod.f a1 (l0.length : Int)).bind fun t110 => (residue_marks_put.l0 k l0 (l0.length : Int) t110 (mn a2 (l0.length : Int)) 0)) = some r := h
  clear h
  replace H := Option.bind_eq_some_iff.mp H
  obtain ⟨t110, A40, H⟩ := H
  replace H : (residue_marks_put.l0 k l0 (l0.length : Int) t110 (mn a2 (l0.length : Int)) 0) = some r := H
  have A4 := Aside0.mk A40
  clear A40
  obtain ⟨ji5, hji5⟩ : ∃ j_ : Int, (mn a2 (l0.length : Int)) = j_ := ⟨_, rfl⟩
  replace H : (residue_marks_put.l0 k l0 (l0.length : Int) t110 ji5 0) = some r := by first | (rw [hji5] at H; exact H) | (simp only [hji5] at H ⊢; exact H)
  (try rw [hji5] at A4)
  have hji5_ : (if (l0.length : Int) < a2 then (l0.length : Int) else a2) = ji5 := hji5
  have H' := Aside0.mk H
  clear H
  obtain ⟨Ao6, co6, eo6⟩ := Kd.R_slice HO0.out
  subst eo6
  go_enter Try.func76, Try.ntmps76
  go_wp2_with (first | ((with_reducible refine gate_callee (f := 70) rfl ?_); refine goesL_ (some 12) rfl rfl Try.func70 (by kernel_rfl) rfl #[.int .i64 a1, .int .i64 (l0.length : Int)] rfl (by (try simp only [List.map_toArray, List.map_cons, List.map_nil]); first | done | rfl | (simp only [List.length_drop, List.length_take]; rfl)) ?_; (with_reducible refine (arith_Mod.calls a1 (l0.length : Int) t110 _ A4.out).mono ?_); rintro e w' ⟨rfl, ⟨nd, rfl⟩⟩; refine ⟨_, rfl, ?_⟩))
  go_loopg [7, 16] k (fun kq v7 v16 w' => ∃ (x0_1 : List Bool) (x7_1 : Int) (x16_1 : Int), v7 = .int .i64 x7_1 ∧ v16 = .int .i64 x16_1 ∧ Aside0 (residue_marks_put.l0 kq x0_1 (l0.length : Int) x7_1 ji5 x16_1 = some r) ∧ Aside0 (kq ≤ k) ∧ Aside0 (Kd.R Kd.bool 4 w' w0.heap.size (fun k_ => (P0_ k_ ∨ w.heap.size ≤ k_)) (.slice Ao6 l0.length co6) x0_1) ∧ Aside0 (Kept w w' (fun k_ => P0_ k_)) ∧ Aside0 (Below w0.heap.size w0 w'))
  case atStart => exact ⟨(l0), (t110), (0), (by first | rfl | (simp; done) | (simp [*]; done)), (by first | rfl | (simp; done) | (simp [*]; done)), H', ⟨Nat.le_refl _⟩, ⟨by (with_reducible repeat (first | apply Kd.R_alloc | apply Kd.R_drewN | apply Kd.R_drew)); exact HO0.out⟩, ⟨by repeat (first | (with_reducible first | exact HK.out | apply Kept.alloc | apply Kept.drewN | apply Kept.drew) | exact HK.out)⟩, ⟨by repeat (first | (with_reducible first | exact HB.out | apply below_alloc | apply pw_below_drewN | apply below_drew1) | exact HB.out)⟩⟩
  case round =>
    clear H'
    try clear p2
    obtain ⟨x0_1, x7_1, x16_1, rfl, rfl, HA, HK1, HO_0, HK, HB⟩ := hrel
    have hl0_1 := (Kd.R_reads' HO_0.out).1
    rw [hl0_1] at HO_0
    (try simp only [hl0_1])
    cases gk with
    | zero => exact absurd HA.out (by simp [residue_marks_put.l0])
    | succ k1 =>
      have H := HA.out
      clear HA
      simp only [residue_marks_put.l0] at H
      by_cases c7 : x16_1 < ji5
      · rw [if_pos c7] at H
        have c7b0 : decide (x16_1 < ji5) = true := decide_eq_true c7
        clear c7
        by_cases c8 : 0 ≤ x7_1
        · rw [if_pos c8] at H
          have c8b0 : decide (0 ≤ x7_1) = true := decide_eq_true c8
          clear c8
          by_cases c9 : x7_1 < (x0_1.length : Int)
          · rw [if_pos c9] at H
            have c9b0 : decide (x7_1 < (x0_1.length : Int)) = true := decide_eq_true c9
            clear c9
            obtain ⟨y111, hy111⟩ : ∃ y_ : List Bool, y_ = (x0_1.set (x7_1 : Int).toNat true) := ⟨_, rfl⟩
            replace H : (if (wrap64 (x7_1 + 1)) = (l0.length : Int) then (residue_marks_put.l0 k1 y111 (l0.length : Int) 0 ji5 (wrap64 (x16_1 + 1))) else (residue_marks_put.l0 k1 y111 (l0.length : Int) (wrap64 (x7_1 + 1)) ji5 (wrap64 (x16_1 + 1)))) = some r := by first | (rw [hy111]; with_reducible exact H) | (have H2_ := (Option.bind_some _ _).symm.trans H; rw [hy111]; with_reducible exact H2_) | (have H2_ := (Option.bind_some _ _).symm.trans H; with_reducible exact H2_) | with_reducible exact H | (rw [hy111]; exact H) | exact H
            have Ny111 := Aside0.mk hy111
            clear hy111
            by_cases c11 : (wrap64 (x7_1 + 1)) = (l0.length : Int)
            · rw [if_pos c11] at H
              have c11b0 : ((wrap64 (x7_1 + 1)) == (l0.length : Int)) = true := beq_iff_eq.mpr c11
              have c11b1 : ((wrap64 (x7_1 + 1)) != (l0.length : Int)) = false := bne_eq_false_iff_eq.mpr c11
              clear c11
              have H' := Aside0.mk H
              clear H
              have p10 : 0 ≤ (x7_1 : Int) := of_decide_eq_true (by first | (with_reducible assumption) | assumption)
              have q10 : (x7_1 : Int) < ((x0_1.length : Int) : Int) := of_decide_eq_true (by first | (with_reducible assumption) | assumption)
              obtain ⟨go10, co10, eo10, gb10, gl10, cl10, HG10⟩ := Kd.R_form HO_0.out (by omega)
              (first | cases eo10 | (injection eo10 with ea_ en_ ec_; (first | subst ea_ | (injection ea_ with ea_; subst ea_)); subst ec_; clear en_))
              have GB10 := Aside0.mk gb10
              have GG10 := Aside0.mk HG10
              clear gb10 gl10 HG10
              have HMgo10 := Aside0.mk (show (P0_ go10 ∨ w.heap.size ≤ go10) from (HO_0.out.1 _ rfl))
              obtain ⟨hx10_0, hf10_0⟩ := Kd.R_celln false HO_0.out (x7_1 : Int) p10 q10
              replace p10 := eq_true p10
              replace q10 := eq_true q10
              have HP12 := Kd.R_putg HO_0.out (x7_1 : Int) true
              go_wp2_with (first | ((with_reducible refine gate_store (t := 4) (p := 20) rfl ?_); refine store_event (t := 4) (p := 20) (v := ?vo_w13) (w1 := (wr.setCell ⟨go10, (x7_1 : Int).toNat, none⟩ (.bool true))) ?hg ?ho ?hn ?hr ?_; (case ho => rfl); (case hg => rfl); (case hn => rfl); (case hr => first | (go_simp; done) | (go_simp; rfl)); intro w13 hw; have hg : wr.grownBy w13 (some go10) := (by rw [hw]; exact HP12.2); have hp_ : Kd.R Kd.bool 4 w13 w0.heap.size (fun k_ => (P0_ k_ ∨ w.heap.size ≤ k_)) (.slice (some ⟨go10, 0, none⟩) x0_1.length co6) y111 := (by rw [hw, Ny111.out]; exact HP12.1); clear HP12; have n0_ := Aside0.mk (hp_); have n1_ := Aside0.mk ((by rw [hw]; exact below_set (HB.out) GB10.out : Below w0.heap.size w0 w13)); have n2_ := Aside0.mk (Kept.of_grown (S := (fun k_ => P0_ k_)) hg (by repeat (first | (with_reducible first | exact HK.out | apply Kept.alloc | apply Kept.drewN | apply Kept.drew) | exact HK.out)) (fun k_ e_ => (HO_0.out.1 k_ e_))); clear HO_0; clear HB; clear HK; have HO_0 := n0_; have HB := n1_; have HK := n2_; clear n0_ n1_ n2_; clear hg hw hp_))
              (try simp only [← hl0_1])
              go_roundg k1
              case measure => have := HK1.out; omega
              case rel => exact ⟨(y111), (0), (wrap64 (x16_1 + 1)), (by first | rfl | (simp; done) | (simp [*]; done)), (by first | rfl | (simp; done) | (simp [*]; done)), H', ⟨by have := HK1.out; omega⟩, ⟨by (try simp only [hl0_1]); (with_reducible repeat (first | apply Kd.R_alloc | apply Kd.R_drewN | apply Kd.R_drew)); exact HO_0.out⟩, ⟨by repeat (first | (with_reducible first | exact HK.out | apply Kept.alloc | apply Kept.drewN | apply Kept.drew) | exact HK.out)⟩, ⟨by repeat (first | (with_reducible first | exact HB.out | apply below_alloc | apply pw_below_drewN | apply below_drew1) | exact HB.out)⟩⟩
            · rw [if_neg c11] at H
              have c11b0 : ((wrap64 (x7_1 + 1)) == (l0.length : Int)) = false := beq_eq_false_iff_ne.mpr c11
              have c11b1 : ((wrap64 (x7_1 + 1)) != (l0.length : Int)) = true := bne_iff_ne.mpr c11
              have H' := Aside0.mk H
              clear H
              have p10 : 0 ≤ (x7_1 : Int) := of_decide_eq_true (by first | (with_reducible assumption) | assumption)
              have q10 : (x7_1 : Int) < ((x0_1.length : Int) : Int) := of_decide_eq_true (by first | (with_reducible assumption) | assumption)
              obtain ⟨go10, co10, eo10, gb10, gl10, cl10, HG10⟩ := Kd.R_form HO_0.out (by omega)
              (first | cases eo10 | (injection eo10 with ea_ en_ ec_; (first | subst ea_ | (injection ea_ with ea_; subst ea_)); subst ec_; clear en_))
              have GB10 := Aside0.mk gb10
              have GG10 := Aside0.mk HG10
              clear gb10 gl10 HG10
              have HMgo10 := Aside0.mk (show (P0_ go10 ∨ w.heap.size ≤ go10) from (HO_0.out.1 _ rfl))
              obtain ⟨hx10_0, hf10_0⟩ := Kd.R_celln false HO_0.out (x7_1 : Int) p10 q10
              replace p10 := eq_true p10
              replace q10 := eq_true q10
              have HP14 := Kd.R_putg HO_0.out (x7_1 : Int) true
              go_wp2_with (first | ((with_reducible refine gate_store (t := 4) (p := 20) rfl ?_); refine store_event (t := 4) (p := 20) (v := ?vo_w15) (w1 := (wr.setCell ⟨go10, (x7_1 : Int).toNat, none⟩ (.bool true))) ?hg ?ho ?hn ?hr ?_; (case ho => rfl); (case hg => rfl); (case hn => rfl); (case hr => first | (go_simp; done) | (go_simp; rfl)); intro w15 hw; have hg : wr.grownBy w15 (some go10) := (by rw [hw]; exact HP14.2); have hp_ : Kd.R Kd.bool 4 w15 w0.heap.size (fun k_ => (P0_ k_ ∨ w.heap.size ≤ k_)) (.slice (some ⟨go10, 0, none⟩) x0_1.length co6) y111 := (by rw [hw, Ny111.out]; exact HP14.1); clear HP14; have n0_ := Aside0.mk (hp_); have n1_ := Aside0.mk ((by rw [hw]; exact below_set (HB.out) GB10.out : Below w0.heap.size w0 w15)); have n2_ := Aside0.mk (Kept.of_grown (S := (fun k_ => P0_ k_)) hg (by repeat (first | (with_reducible first | exact HK.out | apply Kept.alloc | apply Kept.drewN | apply Kept.drew) | exact HK.out)) (fun k_ e_ => (HO_0.out.1 k_ e_))); clear HO_0; clear HB; clear HK; have HO_0 := n0_; have HB := n1_; have HK := n2_; clear n0_ n1_ n2_; clear hg hw hp_))
              (try simp only [← hl0_1])
              go_roundg k1
              case measure => have := HK1.out; omega
              case rel => exact ⟨(y111), (wrap64 (x7_1 + 1)), (wrap64 (x16_1 + 1)), (by first | rfl | (simp; done) | (simp [*]; done)), (by first | rfl | (simp; done) | (simp [*]; done)), H', ⟨by have := HK1.out; omega⟩, ⟨by (try simp only [hl0_1]); (with_reducible repeat (first | apply Kd.R_alloc | apply Kd.R_drewN | apply Kd.R_drew)); exact HO_0.out⟩, ⟨by repeat (first | (with_reducible first | exact HK.out | apply Kept.alloc | apply Kept.drewN | apply Kept.drew) | exact HK.out)⟩, ⟨by repeat (first | (with_reducible first | exact HB.out | apply below_alloc | apply pw_below_drewN | apply below_drew1) | exact HB.out)⟩⟩
          · rw [if_neg c9] at H
            exact absurd H (by simp)
        · rw [if_neg c8] at H
          exact absurd H (by simp)
      · rw [if_neg c7] at H
        have c7b0 : decide (x16_1 < ji5) = false := decide_eq_false c7
        clear c7
        obtain rfl := Option.some.inj H
        go_wp2
        first | go_end0 | ((try simp only [Exit.inBlock, Exit.then]); refine bodyPost_ret (results_none rfl _ _ _) rfl ?_)
        exact ⟨by first | rfl | (simp [errW_none, errW_some] <;> rfl) | (simp only [← hji5]; first | rfl | (simp [errW_none, errW_some] <;> rfl)) | (simp [*, errW_none, errW_some] <;> rfl), (by first | exact (by (with_reducible repeat (first | apply Kd.R_alloc | apply Kd.R_drewN | apply Kd.R_drew)); exact HO_0.out) | (simp only [hl0_1]; exact (by (with_reducible repeat (first | apply Kd.R_alloc | apply Kd.R_drewN | apply Kd.R_drew)); exact HO_0.out))), by repeat (first | (with_reducible first | exact HB.out | apply below_alloc | apply pw_below_drewN | apply below_drew1) | exact HB.out), by repeat (first | (with_reducible first | exact HK.out | apply Kept.alloc | apply Kept.drewN | apply Kept.drew) | exact HK.out)⟩

end Go.Proofs.Ytkbcgahpekmlbaa.PPg
