-- PRINTED BY print.sh 35421559b90ae4d0a3588c463048766b98c2df88dd9212a6774a882060cdf62d: not written by this session
import Derived.Test.YtdnileakboefgaaPResidueSetOperationsx0
import Derived.Test.YtdnileakboefgaaPResidueSetOperationsx2
import Derived.Test.YtdnileakboefgaaPResidueSetOperationsx4
import Derived.Test.YtdnileakboefgaaPResidueSetOperationsx5
namespace Go.Proofs.Ytdnileakboefgaa.PResidueSetOperations
open Go.RowKit Go.Proofs.YtdnileakboefgaaW.PrintWords Go.Proofs.YtdnileakboefgaaW.PrintLast Go.Proofs.YtdnileakboefgaaW.PrintMore
attribute [local go_sem] max2_int min2_int max_two min_two max_three min_three max_four min_four   -- for this text's walks alone
set_option linter.unusedVariables false
set_option linter.unusedSimpArgs false

/-! ### residue_Intersect: function 37 -/
mutual
def residue_Intersect.l0 : Nat → List (S35) → List (S35) → List (S35) → Int → Int → Option ((List (S35)) × Int)
  | 0, _, _, _, _, _ => none
  | k + 1, x1, x2, x9, x10, x11 => if x10 < (x1.length : Int) then (residue_Intersect.j1 k x1 x2 x9 x10 x11 (decide (x11 < (x2.length : Int)))) else (residue_Intersect.j1 k x1 x2 x9 x10 x11 false)
def residue_Intersect.j1 : Nat → List (S35) → List (S35) → List (S35) → Int → Int → Bool → Option ((List (S35)) × Int)
  | 0, _, _, _, _, _, _ => none
  | k + 1, x1, x2, x9, x10, x11, x31 => if x31 = true then (if 0 ≤ x10 then (if x10 < (x1.length : Int) then (if 0 ≤ x11 then (if x11 < (x2.length : Int) then (if (mx ((rd_T35 x1 x10).f0) ((rd_T35 x2 x11).f0)) < (mn ((rd_T35 x1 x10).f1) ((rd_T35 x2 x11).f1)) then (if x9.length < 8796093022208 then ((some (x9 ++ [(⟨mx ((rd_T35 x1 x10).f0) ((rd_T35 x2 x11).f0), mn ((rd_T35 x1 x10).f1) ((rd_T35 x2 x11).f1)⟩ : S35)] : List (S35))).bind fun y247 => (if ((rd_T35 x1 x10).f1) < ((rd_T35 x2 x11).f1) then (residue_Intersect.l0 k x1 x2 y247 (wrap64 (x10 + 1)) x11) else (residue_Intersect.l0 k x1 x2 y247 x10 (wrap64 (x11 + 1))))) else (none)) else (if ((rd_T35 x1 x10).f1) < ((rd_T35 x2 x11).f1) then (residue_Intersect.l0 k x1 x2 x9 (wrap64 (x10 + 1)) x11) else (residue_Intersect.l0 k x1 x2 x9 x10 (wrap64 (x11 + 1))))) else (none)) else (none)) else (none)) else (none)) else (some (x9, 0))
end
def residue_Intersect.f (k : Nat) (a0 : Int) (l1 : List (S35)) (l2 : List (S35)) : Option ((List (S35)) × Int) := (residue_check.f k a0 (([l1, l2] : List (List (S35))))).bind fun t242 => (if t242 = 0 then (residue_Intersect.l0 k l1 l2 ([] : List (S35)) 0 0) else (some (([] : List (S35)), t242)))
theorem residue_Intersect.mono_l : ∀ k, (∀ y0 y1 y2 y3 y4, LeO (residue_Intersect.l0 k y0 y1 y2 y3 y4) (residue_Intersect.l0 (k + 1) y0 y1 y2 y3 y4)) ∧ (∀ y0 y1 y2 y3 y4 y5, LeO (residue_Intersect.j1 k y0 y1 y2 y3 y4 y5) (residue_Intersect.j1 (k + 1) y0 y1 y2 y3 y4 y5))
  | 0 => ⟨fun _ _ _ _ _ r h => by simp [residue_Intersect.l0] at h, fun _ _ _ _ _ _ r h => by simp [residue_Intersect.j1] at h⟩
  | k + 1 => by
    obtain ⟨ih0, ih1⟩ := residue_Intersect.mono_l k
    refine ⟨?_, ?_⟩
    · intro y0 y1 y2 y3 y4
      unfold residue_Intersect.l0
      repeat' first
      | (with_reducible exact ih0 _ _ _ _ _)
      | (with_reducible exact ih1 _ _ _ _ _ _)
      | (with_reducible exact residue_check.mono _ _ _)
      | (with_reducible exact LeO.refl _)
      | (with_reducible exact LeO.none _)
      | (with_reducible refine LeO.ite ?_ ?_)
      | (with_reducible refine LeO.bind ?_ (fun _ => ?_))
      | exact ih0 _ _ _ _ _
      | exact ih1 _ _ _ _ _ _
      | exact residue_check.mono _ _ _
      | exact LeO.none _
      | refine LeO.ite ?_ ?_
      | refine LeO.bind ?_ (fun _ => ?_)
    · intro y0 y1 y2 y3 y4 y5
      unfold residue_Intersect.j1
      repeat' first
      | (with_reducible exact ih0 _ _ _ _ _)
      | (with_reducible exact ih1 _ _ _ _ _ _)
      | (with_reducible exact residue_check.mono _ _ _)
      | (with_reducible exact LeO.refl _)
      | (with_reducible exact LeO.none _)
      | (with_reducible refine LeO.ite ?_ ?_)
      | (with_reducible refine LeO.bind ?_ (fun _ => ?_))
      | exact ih0 _ _ _ _ _
      | exact ih1 _ _ _ _ _ _
      | exact residue_check.mono _ _ _
      | exact LeO.none _
      | refine LeO.ite ?_ ?_
      | refine LeO.bind ?_ (fun _ => ?_)
theorem residue_Intersect.mono : ∀ a0 a1 a2 k, LeO (residue_Intersect.f k a0 a1 a2) (residue_Intersect.f (k + 1) a0 a1 a2) := by
  intro a0 a1 a2 k
  obtain ⟨ih0, ih1⟩ := residue_Intersect.mono_l k
  unfold residue_Intersect.f
  repeat' first
      | (with_reducible exact ih0 _ _ _ _ _)
      | (with_reducible exact ih1 _ _ _ _ _ _)
      | (with_reducible exact residue_check.mono _ _ _)
      | (with_reducible exact LeO.refl _)
      | (with_reducible exact LeO.none _)
      | (with_reducible refine LeO.ite ?_ ?_)
      | (with_reducible refine LeO.bind ?_ (fun _ => ?_))
      | exact ih0 _ _ _ _ _
      | exact ih1 _ _ _ _ _ _
      | exact residue_check.mono _ _ _
      | exact LeO.none _
      | refine LeO.ite ?_ ?_
      | refine LeO.bind ?_ (fun _ => ?_)
set_option maxHeartbeats 8000000 in
set_option maxRecDepth 100000 in
theorem residue_Intersect.calls (k : Nat) (a0 : Int) (P1_ : Nat → Prop) (A1 : Option Addr) (c1 : Nat) (l1 : List (S35)) (P2_ : Nat → Prop) (A2 : Option Addr) (c2 : Nat) (l2 : List (S35)) (r1 : List (S35)) (r2 : Int) (w : World) (hs1 : Kd.V k35 35 w w.heap.size (fun k_ => P1_ k_) (.slice A1 l1.length c1) l1) (hs2 : Kd.V k35 35 w w.heap.size (fun k_ => P2_ k_) (.slice A2 l2.length c2) l2) (h : residue_Intersect.f k a0 l1 l2 = some (r1, r2)) :
    Calls Try.prog 37 #[.int .i64 a0, .slice A1 l1.length c1, .slice A2 l2.length c2] w fun e w' => ∃ v0_ : Value, e = .returned (.tuple #[v0_, .int .i64 r2]) ∧ Kd.R k35 35 w' w.heap.size (fun k_ => (w.heap.size ≤ k_)) v0_ r1 ∧ Below w.heap.size w w' := by
  have hu35 := Try.underlying35
  have HO1 := Aside0.mk (show Kd.V k35 35 w w.heap.size (fun k_ => ((P1_ k_ ∨ P2_ k_) ∨ w.heap.size ≤ k_)) (.slice A1 l1.length c1) l1 from Kd.V_mono hs1 (fun k_ hk => .inl (.inl hk)))
  have HO2 := Aside0.mk (show Kd.V k35 35 w w.heap.size (fun k_ => ((P1_ k_ ∨ P2_ k_) ∨ w.heap.size ≤ k_)) (.slice A2 l2.length c2) l2 from Kd.V_mono hs2 (fun k_ hk => .inl (.inr hk)))
  have HB := Aside0.mk (Below.refl w.heap.size w)
  have H : ((residue_check.f k a0 (([l1, l2] : List (List (S35))))).bind fun t242 => (if t242 = 0 then (residue_Intersect.l0 k l1 l2 ([] : List (S35)) 0 0) else (some (([] : List (S35)), t242)))) = some (r1, r2) := h
  clear h
  obtain ⟨y239, hy239⟩ : ∃ y_ : List (List (S35)), y_ = (([l1, l2] : List (List (S35)))) := ⟨_, rfl⟩
  replace H : ((residue_check.f k a0 y239).bind fun t242 => (if t242 = 0 then (residue_Intersect.l0 k l1 l2 ([] : List (S35)) 0 0) else (some (([] : List (S35)), t242)))) = some (r1, r2) := by first | (rw [hy239]; with_reducible exact H) | (have H2_ := (Option.bind_some _ _).symm.trans H; rw [hy239]; with_reducible exact H2_) | (have H2_ := (Option.bind_some _ _).symm.trans H; with_reducible exact H2_) | with_reducible exact H | (rw [hy239]; exact H) | exact H
  have Ny239 := Aside0.mk hy239
  clear hy239
  replace H := Option.bind_eq_some_iff.mp H
  obtain ⟨t242, A40, H⟩ := H
  replace H : (if t242 = 0 then (residue_Intersect.l0 k l1 l2 ([] : List (S35)) 0 0) else (some (([] : List (S35)), t242))) = some (r1, r2) := H
  have A4 := Aside0.mk A40
  clear A40
  by_cases c5 : t242 = 0
  · rw [if_pos c5] at H
    have c5b0 : (t242 == 0) = true := beq_iff_eq.mpr c5
    have c5b1 : (t242 != 0) = false := bne_eq_false_iff_eq.mpr c5
    clear c5
    have H' := Aside0.mk H
    clear H
    go_enter Try.func37, Try.ntmps37
    go_wp2_with (first | ((with_reducible refine gate_dst (N := 17) rfl ?_); (try (refine gate_guard (by rfl) ?_; dsimp only)); refine Kd.N_lit (Kd.slice 35 k35) _ 22 ?hg (N' := 17) ?hd (xs := ([l1, l2] : List (List (S35)))) (inner := [.slice A1 l1.length c1, .slice A2 l2.length c2]) (ok := (fun k_ => ((P1_ k_ ∨ P2_ k_) ∨ w.heap.size ≤ k_))) (okp := (fun k_ => ((P1_ k_ ∨ P2_ k_) ∨ w.heap.size ≤ k_))) ?hr ?hp (fun _ hk => hk) ((show ∀ k_, w.heap.size ≤ k_ → (fun k_ => ((P1_ k_ ∨ P2_ k_) ∨ w.heap.size ≤ k_)) k_ from fun k_ hk => (.inr (Nat.le_trans (below_size (by repeat (first | (with_reducible first | exact HB.out | apply below_alloc | apply pw_below_drewN | apply below_drew1) | exact HB.out))) hk))) _ (Nat.le_refl _)) (Below.refl _ _) (Nat.le_refl _) (by simp) ?_; (case hd => rfl); (case hg => rfl); (case hr => first | (go_simp; done) | (go_simp; rfl)); (case hp => exact (Reps.one (show Kd.FK (Kd.slice 35 k35) _ _ l1 [.slice A1 l1.length c1] from (Kd.FK_slice_mk (Kd.V_reads' (Kd.V_mono (ok' := (fun k_ => ((P1_ k_ ∨ P2_ k_) ∨ w.heap.size ≤ k_))) (HO1.out) (fun k_ hk => hk))).2.1 (Kd.V_F (Kd.V_mono (ok' := (fun k_ => ((P1_ k_ ∨ P2_ k_) ∨ w.heap.size ≤ k_))) (HO1.out) (fun k_ hk => hk))))) (Reps.one (show Kd.FK (Kd.slice 35 k35) _ _ l2 [.slice A2 l2.length c2] from (Kd.FK_slice_mk (Kd.V_reads' (Kd.V_mono (ok' := (fun k_ => ((P1_ k_ ∨ P2_ k_) ∨ w.heap.size ≤ k_))) (HO2.out) (fun k_ hk => hk))).2.1 (Kd.V_F (Kd.V_mono (ok' := (fun k_ => ((P1_ k_ ∨ P2_ k_) ∨ w.heap.size ≤ k_))) (HO2.out) (fun k_ hk => hk))))) (Reps.none _ _)))); intro v240 w6 ho7 hb hg_ hnew_; clear hg_ hnew_; (first | rw [← Ny239.out] at ho7 | (simp only [Int.reduceToNat] at ho7; rw [← Ny239.out] at ho7)); have n0_ := Aside0.mk (Kd.V_elder' (by (with_reducible repeat (first | apply Kd.V_alloc | apply Kd.V_drewN | apply Kd.V_drew)); exact HO1.out) (Kd.N_base ho7) hb); have n1_ := Aside0.mk (Kd.V_elder' (by (with_reducible repeat (first | apply Kd.V_alloc | apply Kd.V_drewN | apply Kd.V_drew)); exact HO2.out) (Kd.N_base ho7) hb); have n2_ := Aside0.mk (Kd.N_lower ho7 (below_size (by repeat (first | (with_reducible first | exact HB.out | apply below_alloc | apply pw_below_drewN | apply below_drew1) | exact HB.out)))); have n3_ := Aside0.mk (below_step (by repeat (first | (with_reducible first | exact HB.out | apply below_alloc | apply pw_below_drewN | apply below_drew1) | exact HB.out)) hb); clear HO1; clear HO2; clear HB; have HO1 := n0_; have HO2 := n1_; have HO241 := n2_; have HB := n3_; clear n0_ n1_ n2_ n3_; clear hb ho7; obtain ⟨Ao8, co8, eo8⟩ := Kd.N_slice HO241.out; subst eo8) | (go_at_call 45; (with_reducible refine (residue_check.calls k a0 _ _ y239 t242 _ ?side1 ?side2 A4.out).mono ?_); (case side1 => repeat (first | exact (Kd.N_reads' HO241.out).2.2 | (with_reducible refine Kd.C_alloc ?_ _) | (with_reducible refine Kd.C_drewN ?_ _) | (with_reducible refine Kd.C_drew ?_))); (case side2 => exact (Kd.N_reads' HO241.out).2.1); rintro e w9 ⟨rfl, hb⟩; have n0_ := Aside0.mk (Kd.V_below (by (with_reducible repeat (first | apply Kd.V_alloc | apply Kd.V_drewN | apply Kd.V_drew)); exact HO1.out) hb); have n1_ := Aside0.mk (Kd.V_below (by (with_reducible repeat (first | apply Kd.V_alloc | apply Kd.V_drewN | apply Kd.V_drew)); exact HO2.out) hb); have n2_ := Aside0.mk (Kd.N_below (by (with_reducible repeat (first | apply Kd.N_alloc | apply Kd.N_drewN | apply Kd.N_drew)); exact HO241.out) hb); have n3_ := Aside0.mk (below_step (by repeat (first | (with_reducible first | exact HB.out | apply below_alloc | apply pw_below_drewN | apply below_drew1) | exact HB.out)) hb); clear HO1; clear HO2; clear HO241; clear HB; have HO1 := n0_; have HO2 := n1_; have HO241 := n2_; have HB := n3_; clear n0_ n1_ n2_ n3_; (try clear hb); (try clear hb2); (try clear hk); (try clear hi)))
    repeat (go_quiet (first | ((with_reducible refine gate_dst (N := 17) rfl ?_); (try (refine gate_guard (by rfl) ?_; dsimp only)); refine Kd.N_lit (Kd.slice 35 k35) _ 22 ?hg (N' := 17) ?hd (xs := ([l1, l2] : List (List (S35)))) (inner := [.slice A1 l1.length c1, .slice A2 l2.length c2]) (ok := (fun k_ => ((P1_ k_ ∨ P2_ k_) ∨ w.heap.size ≤ k_))) (okp := (fun k_ => ((P1_ k_ ∨ P2_ k_) ∨ w.heap.size ≤ k_))) ?hr ?hp (fun _ hk => hk) ((show ∀ k_, w.heap.size ≤ k_ → (fun k_ => ((P1_ k_ ∨ P2_ k_) ∨ w.heap.size ≤ k_)) k_ from fun k_ hk => (.inr (Nat.le_trans (below_size (by repeat (first | (with_reducible first | exact HB.out | apply below_alloc | apply pw_below_drewN | apply below_drew1) | exact HB.out))) hk))) _ (Nat.le_refl _)) (Below.refl _ _) (Nat.le_refl _) (by simp) ?_; (case hd => rfl); (case hg => rfl); (case hr => first | (go_simp; done) | (go_simp; rfl)); (case hp => exact (Reps.one (show Kd.FK (Kd.slice 35 k35) _ _ l1 [.slice A1 l1.length c1] from (Kd.FK_slice_mk (Kd.V_reads' (Kd.V_mono (ok' := (fun k_ => ((P1_ k_ ∨ P2_ k_) ∨ w.heap.size ≤ k_))) (HO1.out) (fun k_ hk => hk))).2.1 (Kd.V_F (Kd.V_mono (ok' := (fun k_ => ((P1_ k_ ∨ P2_ k_) ∨ w.heap.size ≤ k_))) (HO1.out) (fun k_ hk => hk))))) (Reps.one (show Kd.FK (Kd.slice 35 k35) _ _ l2 [.slice A2 l2.length c2] from (Kd.FK_slice_mk (Kd.V_reads' (Kd.V_mono (ok' := (fun k_ => ((P1_ k_ ∨ P2_ k_) ∨ w.heap.size ≤ k_))) (HO2.out) (fun k_ hk => hk))).2.1 (Kd.V_F (Kd.V_mono (ok' := (fun k_ => ((P1_ k_ ∨ P2_ k_) ∨ w.heap.size ≤ k_))) (HO2.out) (fun k_ hk => hk))))) (Reps.none _ _)))); intro v240 w6 ho7 hb hg_ hnew_; clear hg_ hnew_; (first | rw [← Ny239.out] at ho7 | (simp only [Int.reduceToNat] at ho7; rw [← Ny239.out] at ho7)); have n0_ := Aside0.mk (Kd.V_elder' (by (with_reducible repeat (first | apply Kd.V_alloc | apply Kd.V_drewN | apply Kd.V_drew)); exact HO1.out) (Kd.N_base ho7) hb); have n1_ := Aside0.mk (Kd.V_elder' (by (with_reducible repeat (first | apply Kd.V_alloc | apply Kd.V_drewN | apply Kd.V_drew)); exact HO2.out) (Kd.N_base ho7) hb); have n2_ := Aside0.mk (Kd.N_lower ho7 (below_size (by repeat (first | (with_reducible first | exact HB.out | apply below_alloc | apply pw_below_drewN | apply below_drew1) | exact HB.out)))); have n3_ := Aside0.mk (below_step (by repeat (first | (with_reducible first | exact HB.out | apply below_alloc | apply pw_below_drewN | apply below_drew1) | exact HB.out)) hb); clear HO1; clear HO2; clear HB; have HO1 := n0_; have HO2 := n1_; have HO241 := n2_; have HB := n3_; clear n0_ n1_ n2_ n3_; clear hb ho7; obtain ⟨Ao8, co8, eo8⟩ := Kd.N_slice HO241.out; subst eo8) | (go_at_call 45; (with_reducible refine (residue_check.calls k a0 _ _ y239 t242 _ ?side1 ?side2 A4.out).mono ?_); (case side1 => repeat (first | exact (Kd.N_reads' HO241.out).2.2 | (with_reducible refine Kd.C_alloc ?_ _) | (with_reducible refine Kd.C_drewN ?_ _) | (with_reducible refine Kd.C_drew ?_))); (case side2 => exact (Kd.N_reads' HO241.out).2.1); rintro e w9 ⟨rfl, hb⟩; have n0_ := Aside0.mk (Kd.V_below (by (with_reducible repeat (first | apply Kd.V_alloc | apply Kd.V_drewN | apply Kd.V_drew)); exact HO1.out) hb); have n1_ := Aside0.mk (Kd.V_below (by (with_reducible repeat (first | apply Kd.V_alloc | apply Kd.V_drewN | apply Kd.V_drew)); exact HO2.out) hb); have n2_ := Aside0.mk (Kd.N_below (by (with_reducible repeat (first | apply Kd.N_alloc | apply Kd.N_drewN | apply Kd.N_drew)); exact HO241.out) hb); have n3_ := Aside0.mk (below_step (by repeat (first | (with_reducible first | exact HB.out | apply below_alloc | apply pw_below_drewN | apply below_drew1) | exact HB.out)) hb); clear HO1; clear HO2; clear HO241; clear HB; have HO1 := n0_; have HO2 := n1_; have HO241 := n2_; have HB := n3_; clear n0_ n1_ n2_ n3_; (try clear hb); (try clear hb2); (try clear hk); (try clear hi))); try go_wp2_with (first | ((with_reducible refine gate_dst (N := 17) rfl ?_); (try (refine gate_guard (by rfl) ?_; dsimp only)); refine Kd.N_lit (Kd.slice 35 k35) _ 22 ?hg (N' := 17) ?hd (xs := ([l1, l2] : List (List (S35)))) (inner := [.slice A1 l1.length c1, .slice A2 l2.length c2]) (ok := (fun k_ => ((P1_ k_ ∨ P2_ k_) ∨ w.heap.size ≤ k_))) (okp := (fun k_ => ((P1_ k_ ∨ P2_ k_) ∨ w.heap.size ≤ k_))) ?hr ?hp (fun _ hk => hk) ((show ∀ k_, w.heap.size ≤ k_ → (fun k_ => ((P1_ k_ ∨ P2_ k_) ∨ w.heap.size ≤ k_)) k_ from fun k_ hk => (.inr (Nat.le_trans (below_size (by repeat (first | (with_reducible first | exact HB.out | apply below_alloc | apply pw_below_drewN | apply below_drew1) | exact HB.out))) hk))) _ (Nat.le_refl _)) (Below.refl _ _) (Nat.le_refl _) (by simp) ?_; (case hd => rfl); (case hg => rfl); (case hr => first | (go_simp; done) | (go_simp; rfl)); (case hp => exact (Reps.one (show Kd.FK (Kd.slice 35 k35) _ _ l1 [.slice A1 l1.length c1] from (Kd.FK_slice_mk (Kd.V_reads' (Kd.V_mono (ok' := (fun k_ => ((P1_ k_ ∨ P2_ k_) ∨ w.heap.size ≤ k_))) (HO1.out) (fun k_ hk => hk))).2.1 (Kd.V_F (Kd.V_mono (ok' := (fun k_ => ((P1_ k_ ∨ P2_ k_) ∨ w.heap.size ≤ k_))) (HO1.out) (fun k_ hk => hk))))) (Reps.one (show Kd.FK (Kd.slice 35 k35) _ _ l2 [.slice A2 l2.length c2] from (Kd.FK_slice_mk (Kd.V_reads' (Kd.V_mono (ok' := (fun k_ => ((P1_ k_ ∨ P2_ k_) ∨ w.heap.size ≤ k_))) (HO2.out) (fun k_ hk => hk))).2.1 (Kd.V_F (Kd.V_mono (ok' := (fun k_ => ((P1_ k_ ∨ P2_ k_) ∨ w.heap.size ≤ k_))) (HO2.out) (fun k_ hk => hk))))) (Reps.none _ _)))); intro v240 w6 ho7 hb hg_ hnew_; clear hg_ hnew_; (first | rw [← Ny239.out] at ho7 | (simp only [Int.reduceToNat] at ho7; rw [← Ny239.out] at ho7)); have n0_ := Aside0.mk (Kd.V_elder' (by (with_reducible repeat (first | apply Kd.V_alloc | apply Kd.V_drewN | apply Kd.V_drew)); exact HO1.out) (Kd.N_base ho7) hb); have n1_ := Aside0.mk (Kd.V_elder' (by (with_reducible repeat (first | apply Kd.V_alloc | apply Kd.V_drewN | apply Kd.V_drew)); exact HO2.out) (Kd.N_base ho7) hb); have n2_ := Aside0.mk (Kd.N_lower ho7 (below_size (by repeat (first | (with_reducible first | exact HB.out | apply below_alloc | apply pw_below_drewN | apply below_drew1) | exact HB.out)))); have n3_ := Aside0.mk (below_step (by repeat (first | (with_reducible first | exact HB.out | apply below_alloc | apply pw_below_drewN | apply below_drew1) | exact HB.out)) hb); clear HO1; clear HO2; clear HB; have HO1 := n0_; have HO2 := n1_; have HO241 := n2_; have HB := n3_; clear n0_ n1_ n2_ n3_; clear hb ho7; obtain ⟨Ao8, co8, eo8⟩ := Kd.N_slice HO241.out; subst eo8) | (go_at_call 45; (with_reducible refine (residue_check.calls k a0 _ _ y239 t242 _ ?side1 ?side2 A4.out).mono ?_); (case side1 => repeat (first | exact (Kd.N_reads' HO241.out).2.2 | (with_reducible refine Kd.C_alloc ?_ _) | (with_reducible refine Kd.C_drewN ?_ _) | (with_reducible refine Kd.C_drew ?_))); (case side2 => exact (Kd.N_reads' HO241.out).2.1); rintro e w9 ⟨rfl, hb⟩; have n0_ := Aside0.mk (Kd.V_below (by (with_reducible repeat (first | apply Kd.V_alloc | apply Kd.V_drewN | apply Kd.V_drew)); exact HO1.out) hb); have n1_ := Aside0.mk (Kd.V_below (by (with_reducible repeat (first | apply Kd.V_alloc | apply Kd.V_drewN | apply Kd.V_drew)); exact HO2.out) hb); have n2_ := Aside0.mk (Kd.N_below (by (with_reducible repeat (first | apply Kd.N_alloc | apply Kd.N_drewN | apply Kd.N_drew)); exact HO241.out) hb); have n3_ := Aside0.mk (below_step (by repeat (first | (with_reducible first | exact HB.out | apply below_alloc | apply pw_below_drewN | apply below_drew1) | exact HB.out)) hb); clear HO1; clear HO2; clear HO241; clear HB; have HO1 := n0_; have HO2 := n1_; have HO241 := n2_; have HB := n3_; clear n0_ n1_ n2_ n3_; (try clear hb); (try clear hb2); (try clear hk); (try clear hi))))
    go_loopg [9, 10, 11] k (fun kq v9 v10 v11 w' => ∃ (x9_1 : List (S35)) (x10_1 : Int) (x11_1 : Int), v10 = .int .i64 x10_1 ∧ v11 = .int .i64 x11_1 ∧ Aside0 (residue_Intersect.l0 kq l1 l2 x9_1 x10_1 x11_1 = some (r1, r2)) ∧ Aside0 (kq ≤ k) ∧ Aside0 (Kd.V k35 35 w' w.heap.size (fun k_ => ((P1_ k_ ∨ P2_ k_) ∨ w.heap.size ≤ k_) ∧ some k_ ≠ (v9 : Value).ownBlock) (.slice A1 l1.length c1) l1) ∧ Aside0 (Kd.V k35 35 w' w.heap.size (fun k_ => ((P1_ k_ ∨ P2_ k_) ∨ w.heap.size ≤ k_) ∧ some k_ ≠ (v9 : Value).ownBlock) (.slice A2 l2.length c2) l2) ∧ Aside0 (Kd.R k35 35 w' w.heap.size (fun k_ => (w.heap.size ≤ k_)) v9 x9_1) ∧ Aside0 (Below w.heap.size w w'))
    case atStart => exact ⟨(([] : List (S35))), (0), (0), (by first | rfl | (simp; done) | (simp [*]; done)), (by first | rfl | (simp; done) | (simp [*]; done)), H', ⟨Nat.le_refl _⟩, ⟨by (with_reducible repeat (first | apply Kd.V_alloc | apply Kd.V_drewN | apply Kd.V_drew)); exact Kd.V_mono HO1.out (fun _ hk => ⟨hk.1, (by simp [Value.ownBlock])⟩)⟩, ⟨by (with_reducible repeat (first | apply Kd.V_alloc | apply Kd.V_drewN | apply Kd.V_drew)); exact Kd.V_mono HO2.out (fun _ hk => ⟨hk.1, (by simp [Value.ownBlock])⟩)⟩, ⟨by first | exact Kd.R_nil _ _ _ _ _ | exact Kd.N_nil _ _ _ _ _ | exact Kd.V_nil _ _ _ _ _ | exact Kd.Q_nil _ _ _ _ _ | exact Kd.S_nil _ _ _ _ _⟩, ⟨by repeat (first | (with_reducible first | exact HB.out | apply below_alloc | apply pw_below_drewN | apply below_drew1) | exact HB.out)⟩⟩
    case round =>
      clear H'
      try clear c1
      try clear c2
      try clear p2
      try clear c3
      try clear c5
      try clear c5b0
      try clear c5b1
      obtain ⟨x9_1, x10_1, x11_1, rfl, rfl, HA, HK1, HO_1, HO_2, HO_9, HB⟩ := hrel
      cases gk with
      | zero => exact absurd HA.out (by simp [residue_Intersect.l0])
      | succ k1 =>
        have H := HA.out
        clear HA
        simp only [residue_Intersect.l0] at H
        have HC10 := Aside0.mk H
        clear H
        go_upto_region 6 with (fail)
        repeat (go_quiet (fail); go_upto_region 6 with (fail))
        go_cut [31] (fun v31 wc => ∃ (kq : Nat) (x31_9 : Bool), v31 = .bool x31_9 ∧ Aside0 (residue_Intersect.j1 kq l1 l2 x9_1 x10_1 x11_1 x31_9 = some (r1, r2)) ∧ Aside0 (kq ≤ k1) ∧ Aside0 (Kd.V k35 35 wc w.heap.size (fun k_ => ((P1_ k_ ∨ P2_ k_) ∨ w.heap.size ≤ k_) ∧ some k_ ≠ (u9 : Value).ownBlock) (.slice A1 l1.length c1) l1) ∧ Aside0 (Kd.V k35 35 wc w.heap.size (fun k_ => ((P1_ k_ ∨ P2_ k_) ∨ w.heap.size ≤ k_) ∧ some k_ ≠ (u9 : Value).ownBlock) (.slice A2 l2.length c2) l2) ∧ Aside0 (Kd.R k35 35 wc w.heap.size (fun k_ => (w.heap.size ≤ k_)) u9 x9_1) ∧ Aside0 (Below w.heap.size w wc))
        case first =>
          have H := HC10.out
          clear HC10
          by_cases c11 : x10_1 < (l1.length : Int)
          · rw [if_pos c11] at H
            have c11b0 : decide (x10_1 < (l1.length : Int)) = true := decide_eq_true c11
            clear c11
            (first | rw [c11b0] | (simp only [i64_w, i32_w]; rw [c11b0]) | skip)
            have H' := Aside0.mk H
            clear H
            go_wp2
            repeat (go_quiet (fail); try go_wp2)
            go_meet
            case rel => exact ⟨_, (decide (x11_1 < (l2.length : Int))), (by first | rfl | (simp; done) | (simp [*]; done)), H', ⟨by have := HK1.out; first | omega | exact Nat.le_refl _⟩, ⟨by (with_reducible repeat (first | apply Kd.V_alloc | apply Kd.V_drewN | apply Kd.V_drew)); exact HO_1.out⟩, ⟨by (with_reducible repeat (first | apply Kd.V_alloc | apply Kd.V_drewN | apply Kd.V_drew)); exact HO_2.out⟩, ⟨by (with_reducible repeat (first | apply Kd.R_alloc | apply Kd.R_drewN | apply Kd.R_drew)); exact HO_9.out⟩, ⟨by repeat (first | (with_reducible first | exact HB.out | apply below_alloc | apply pw_below_drewN | apply below_drew1) | exact HB.out)⟩⟩
          · rw [if_neg c11] at H
            have c11b0 : decide (x10_1 < (l1.length : Int)) = false := decide_eq_false c11
            clear c11
            (first | rw [c11b0] | (simp only [i64_w, i32_w]; rw [c11b0]) | skip)
            have H' := Aside0.mk H
            clear H
            go_wp2
            repeat (go_quiet (fail); try go_wp2)
            go_meet
            case rel => exact ⟨_, (false), (by first | rfl | (simp; done) | (simp [*]; done)), H', ⟨by have := HK1.out; first | omega | exact Nat.le_refl _⟩, ⟨by (with_reducible repeat (first | apply Kd.V_alloc | apply Kd.V_drewN | apply Kd.V_drew)); exact HO_1.out⟩, ⟨by (with_reducible repeat (first | apply Kd.V_alloc | apply Kd.V_drewN | apply Kd.V_drew)); exact HO_2.out⟩, ⟨by (with_reducible repeat (first | apply Kd.R_alloc | apply Kd.R_drewN | apply Kd.R_drew)); exact HO_9.out⟩, ⟨by repeat (first | (with_reducible first | exact HB.out | apply below_alloc | apply pw_below_drewN | apply below_drew1) | exact HB.out)⟩⟩
        case rest =>
          clear HC10
          try clear c1
          try clear c2
          try clear p2
          try clear c3
          try clear c5
          try clear c5b0
          try clear c5b1
          try clear c11
          try clear c11b0
          try clear p2
          obtain ⟨kq, x31_9, rfl, HA, HJ9, HO_1, HO_2, HO_9, HB⟩ := hcut
          cases kq with
          | zero => exact absurd HA.out (by simp [residue_Intersect.j1])
          | succ kj9 =>
            have H := HA.out
            clear HA
            simp only [residue_Intersect.j1] at H
            by_cases c12 : x31_9 = true
            · subst c12
              have H1 : (if 0 ≤ x10_1 then (if x10_1 < (l1.length : Int) then (if 0 ≤ x11_1 then (if x11_1 < (l2.length : Int) then (if (mx ((rd_T35 l1 x10_1).f0) ((rd_T35 l2 x11_1).f0)) < (mn ((rd_T35 l1 x10_1).f1) ((rd_T35 l2 x11_1).f1)) then (if x9_1.length < 8796093022208 then ((some (x9_1 ++ [(⟨mx ((rd_T35 l1 x10_1).f0) ((rd_T35 l2 x11_1).f0), mn ((rd_T35 l1 x10_1).f1) ((rd_T35 l2 x11_1).f1)⟩ : S35)] : List (S35))).bind fun y247 => (if ((rd_T35 l1 x10_1).f1) < ((rd_T35 l2 x11_1).f1) then (residue_Intersect.l0 kj9 l1 l2 y247 (wrap64 (x10_1 + 1)) x11_1) else (residue_Intersect.l0 kj9 l1 l2 y247 x10_1 (wrap64 (x11_1 + 1))))) else (none)) else (if ((rd_T35 l1 x10_1).f1) < ((rd_T35 l2 x11_1).f1) then (residue_Intersect.l0 kj9 l1 l2 x9_1 (wrap64 (x10_1 + 1)) x11_1) else (residue_Intersect.l0 kj9 l1 l2 x9_1 x10_1 (wrap64 (x11_1 + 1))))) else (none)) else (none)) else (none)) else (none)) = some (r1, r2) := by rw [if_pos rfl] at H; exact H
              clear H
              have H := H1
              clear H1
              by_cases c13 : 0 ≤ x10_1
              · rw [if_pos c13] at H
                have c13b0 : decide (0 ≤ x10_1) = true := decide_eq_true c13
                clear c13
                by_cases c14 : x10_1 < (l1.length : Int)
                · rw [if_pos c14] at H
                  have c14b0 : decide (x10_1 < (l1.length : Int)) = true := decide_eq_true c14
                  clear c14
                  by_cases c15 : 0 ≤ x11_1
                  · rw [if_pos c15] at H
                    have c15b0 : decide (0 ≤ x11_1) = true := decide_eq_true c15
                    clear c15
                    by_cases c16 : x11_1 < (l2.length : Int)
                    · rw [if_pos c16] at H
                      have c16b0 : decide (x11_1 < (l2.length : Int)) = true := decide_eq_true c16
                      clear c16
                      obtain ⟨ji17, hji17⟩ : ∃ j_ : Int, (mx ((rd_T35 l1 x10_1).f0) ((rd_T35 l2 x11_1).f0)) = j_ := ⟨_, rfl⟩
                      replace H : (if (ji17) < (mn ((rd_T35 l1 x10_1).f1) ((rd_T35 l2 x11_1).f1)) then (if x9_1.length < 8796093022208 then ((some (x9_1 ++ [(⟨ji17, mn ((rd_T35 l1 x10_1).f1) ((rd_T35 l2 x11_1).f1)⟩ : S35)] : List (S35))).bind fun y247 => (if ((rd_T35 l1 x10_1).f1) < ((rd_T35 l2 x11_1).f1) then (residue_Intersect.l0 kj9 l1 l2 y247 (wrap64 (x10_1 + 1)) x11_1) else (residue_Intersect.l0 kj9 l1 l2 y247 x10_1 (wrap64 (x11_1 + 1))))) else (none)) else (if ((rd_T35 l1 x10_1).f1) < ((rd_T35 l2 x11_1).f1) then (residue_Intersect.l0 kj9 l1 l2 x9_1 (wrap64 (x10_1 + 1)) x11_1) else (residue_Intersect.l0 kj9 l1 l2 x9_1 x10_1 (wrap64 (x11_1 + 1))))) = some (r1, r2) := by first | (rw [hji17] at H; exact H) | (simp only [hji17] at H ⊢; exact H)
                      have hji17_ : (if ((rd_T35 l1 x10_1).f0) < ((rd_T35 l2 x11_1).f0) then ((rd_T35 l2 x11_1).f0) else ((rd_T35 l1 x10_1).f0)) = ji17 := hji17
                      obtain ⟨ji18, hji18⟩ : ∃ j_ : Int, (mn ((rd_T35 l1 x10_1).f1) ((rd_T35 l2 x11_1).f1)) = j_ := ⟨_, rfl⟩
                      replace H : (if (ji17) < (ji18) then (if x9_1.length < 8796093022208 then ((some (x9_1 ++ [(⟨ji17, ji18⟩ : S35)] : List (S35))).bind fun y247 => (if ((rd_T35 l1 x10_1).f1) < ((rd_T35 l2 x11_1).f1) then (residue_Intersect.l0 kj9 l1 l2 y247 (wrap64 (x10_1 + 1)) x11_1) else (residue_Intersect.l0 kj9 l1 l2 y247 x10_1 (wrap64 (x11_1 + 1))))) else (none)) else (if ((rd_T35 l1 x10_1).f1) < ((rd_T35 l2 x11_1).f1) then (residue_Intersect.l0 kj9 l1 l2 x9_1 (wrap64 (x10_1 + 1)) x11_1) else (residue_Intersect.l0 kj9 l1 l2 x9_1 x10_1 (wrap64 (x11_1 + 1))))) = some (r1, r2) := by first | (rw [hji18] at H; exact H) | (simp only [hji18] at H ⊢; exact H)
                      have hji18_ : (if ((rd_T35 l2 x11_1).f1) < ((rd_T35 l1 x10_1).f1) then ((rd_T35 l2 x11_1).f1) else ((rd_T35 l1 x10_1).f1)) = ji18 := hji18
                      by_cases c19 : (ji17) < (ji18)
                      · rw [if_pos c19] at H
                        have c19b0 : decide ((ji17) < (ji18)) = true := decide_eq_true c19
                        clear c19
                        by_cases c20 : x9_1.length < 8796093022208
                        · rw [if_pos c20] at H
                          have LMc20 := Aside0.mk c20
                          clear c20
                          obtain ⟨y247, hy247⟩ : ∃ y_ : List (S35), y_ = (x9_1 ++ [(⟨ji17, ji18⟩ : S35)]) := ⟨_, rfl⟩
                          replace H : (if ((rd_T35 l1 x10_1).f1) < ((rd_T35 l2 x11_1).f1) then (residue_Intersect.l0 kj9 l1 l2 y247 (wrap64 (x10_1 + 1)) x11_1) else (residue_Intersect.l0 kj9 l1 l2 y247 x10_1 (wrap64 (x11_1 + 1)))) = some (r1, r2) := by first | (rw [hy247]; with_reducible exact H) | (have H2_ := (Option.bind_some _ _).symm.trans H; rw [hy247]; with_reducible exact H2_) | (have H2_ := (Option.bind_some _ _).symm.trans H; with_reducible exact H2_) | with_reducible exact H | (rw [hy247]; exact H) | exact H
                          have Ny247 := Aside0.mk hy247
                          clear hy247
                          by_cases c21 : ((rd_T35 l1 x10_1).f1) < ((rd_T35 l2 x11_1).f1)
                          · rw [if_pos c21] at H
                            have c21b0 : decide (((rd_T35 l1 x10_1).f1) < ((rd_T35 l2 x11_1).f1)) = true := decide_eq_true c21
                            clear c21
                            have H' := Aside0.mk H
                            clear H
                            have p243 : 0 ≤ (x10_1 : Int) := of_decide_eq_true (by first | (with_reducible assumption) | assumption)
                            have q243 : x10_1 < (l1.length : Int) := of_decide_eq_true (by first | (with_reducible assumption) | assumption)
                            obtain ⟨ad243, e243, hx243_0, hx243_1⟩ := at_T35 (Kd.V_reads' HO_1.out).2.2 x10_1 p243 q243
                            cases e243
                            replace p243 := eq_true p243
                            replace q243 := eq_true q243
                            have p244 : 0 ≤ (x11_1 : Int) := of_decide_eq_true (by first | (with_reducible assumption) | assumption)
                            have q244 : x11_1 < (l2.length : Int) := of_decide_eq_true (by first | (with_reducible assumption) | assumption)
                            obtain ⟨ad244, e244, hx244_0, hx244_1⟩ := at_T35 (Kd.V_reads' HO_2.out).2.2 x11_1 p244 q244
                            cases e244
                            replace p244 := eq_true p244
                            replace q244 := eq_true q244
                            have p245 : 0 ≤ (x10_1 : Int) := of_decide_eq_true (by first | (with_reducible assumption) | assumption)
                            have q245 : x10_1 < (l1.length : Int) := of_decide_eq_true (by first | (with_reducible assumption) | assumption)
                            obtain ⟨ad245, e245, hx245_0, hx245_1⟩ := at_T35 (Kd.V_reads' HO_1.out).2.2 x10_1 p245 q245
                            obtain rfl : ad243 = ad245 := (by injection e245)
                            replace p245 := eq_true p245
                            replace q245 := eq_true q245
                            have p246 : 0 ≤ (x11_1 : Int) := of_decide_eq_true (by first | (with_reducible assumption) | assumption)
                            have q246 : x11_1 < (l2.length : Int) := of_decide_eq_true (by first | (with_reducible assumption) | assumption)
                            obtain ⟨ad246, e246, hx246_0, hx246_1⟩ := at_T35 (Kd.V_reads' HO_2.out).2.2 x11_1 p246 q246
                            obtain rfl : ad244 = ad246 := (by injection e246)
                            replace p246 := eq_true p246
                            replace q246 := eq_true q246
                            go_wp2_with (first | ((with_reducible refine gate_builtin (b := .append) (xs := #[.tmp 57, .tmp 61]) rfl ?_); (try (refine gate_guard (by rfl) ?_; dsimp only)); at_builtin; refine Kd.R_append k35 (w0 := w) w.heap.size rfl (.tmp 57) (.tmp 61) 22 35 (.agg #[(.int .i64 0), (.int .i64 0)]) 16 rfl Try.underlying22 info35 rfl (by decide) (by omega) u9 x9_1 (⟨ji17, ji18⟩ : S35) [.int .i64 ji17, .int .i64 ji18] (fun k_ => (w.heap.size ≤ k_)) (fun _ => False) rfl rfl ?aP (fun _ hk => hk.elim) ?aF ?aO ?aB ?aS ?aL ?_; (case aP => exact k35_mkM _ _ _ (⟨ji17, ji18⟩ : S35)); (case aB => exact (by repeat (first | (with_reducible first | exact HB.out | apply below_alloc | apply pw_below_drewN | apply below_drew1) | exact HB.out))); (case aF => exact (fun k_ hk => (Nat.le_trans (below_size (by repeat (first | (with_reducible first | exact HB.out | apply below_alloc | apply pw_below_drewN | apply below_drew1) | exact HB.out))) hk))); (case aO => exact (by (with_reducible repeat (first | apply Kd.R_alloc | apply Kd.R_drewN | apply Kd.R_drew)); exact HO_9.out)); (case aS => exact (below_size (by repeat (first | (with_reducible first | exact HB.out | apply below_alloc | apply pw_below_drewN | apply below_drew1) | exact HB.out)))); (case aL => have := LMc20.out; omega); intro v248 w22 ho hb hg hat; rw [← Ny247.out] at ho; have n0_ := Aside0.mk (Kd.V_afterv (ok := (fun k_ => ((P1_ k_ ∨ P2_ k_) ∨ w.heap.size ≤ k_))) (by (with_reducible repeat (first | apply Kd.V_alloc | apply Kd.V_drewN | apply Kd.V_drew)); exact HO_1.out) hg hat); have n1_ := Aside0.mk (Kd.V_afterv (ok := (fun k_ => ((P1_ k_ ∨ P2_ k_) ∨ w.heap.size ≤ k_))) (by (with_reducible repeat (first | apply Kd.V_alloc | apply Kd.V_drewN | apply Kd.V_drew)); exact HO_2.out) hg hat); have n2_ := Aside0.mk (hb); have n3_ := Aside0.mk (ho); clear HO_1; clear HO_2; clear HB; clear HO_9; have HO_1 := n0_; have HO_2 := n1_; have HB := n2_; have HO249 := n3_; clear n0_ n1_ n2_ n3_; clear ho hb hg hat; have p250 : 0 ≤ (x10_1 : Int) := of_decide_eq_true (by first | (with_reducible assumption) | assumption); have q250 : x10_1 < (l1.length : Int) := of_decide_eq_true (by first | (with_reducible assumption) | assumption); obtain ⟨ad250, e250, hx250_0, hx250_1⟩ := at_T35 (Kd.V_reads' HO_1.out).2.2 x10_1 p250 q250; obtain rfl : ad243 = ad250 := (by injection e250); replace p250 := eq_true p250; replace q250 := eq_true q250; have p251 : 0 ≤ (x11_1 : Int) := of_decide_eq_true (by first | (with_reducible assumption) | assumption); have q251 : x11_1 < (l2.length : Int) := of_decide_eq_true (by first | (with_reducible assumption) | assumption); obtain ⟨ad251, e251, hx251_0, hx251_1⟩ := at_T35 (Kd.V_reads' HO_2.out).2.2 x11_1 p251 q251; obtain rfl : ad244 = ad251 := (by injection e251); replace p251 := eq_true p251; replace q251 := eq_true q251))
                            repeat (go_quiet (first | ((with_reducible refine gate_builtin (b := .append) (xs := #[.tmp 57, .tmp 61]) rfl ?_); (try (refine gate_guard (by rfl) ?_; dsimp only)); at_builtin; refine Kd.R_append k35 (w0 := w) w.heap.size rfl (.tmp 57) (.tmp 61) 22 35 (.agg #[(.int .i64 0), (.int .i64 0)]) 16 rfl Try.underlying22 info35 rfl (by decide) (by omega) u9 x9_1 (⟨ji17, ji18⟩ : S35) [.int .i64 ji17, .int .i64 ji18] (fun k_ => (w.heap.size ≤ k_)) (fun _ => False) rfl rfl ?aP (fun _ hk => hk.elim) ?aF ?aO ?aB ?aS ?aL ?_; (case aP => exact k35_mkM _ _ _ (⟨ji17, ji18⟩ : S35)); (case aB => exact (by repeat (first | (with_reducible first | exact HB.out | apply below_alloc | apply pw_below_drewN | apply below_drew1) | exact HB.out))); (case aF => exact (fun k_ hk => (Nat.le_trans (below_size (by repeat (first | (with_reducible first | exact HB.out | apply below_alloc | apply pw_below_drewN | apply below_drew1) | exact HB.out))) hk))); (case aO => exact (by (with_reducible repeat (first | apply Kd.R_alloc | apply Kd.R_drewN | apply Kd.R_drew)); exact HO_9.out)); (case aS => exact (below_size (by repeat (first | (with_reducible first | exact HB.out | apply below_alloc | apply pw_below_drewN | apply below_drew1) | exact HB.out)))); (case aL => have := LMc20.out; omega); intro v248 w22 ho hb hg hat; rw [← Ny247.out] at ho; have n0_ := Aside0.mk (Kd.V_afterv (ok := (fun k_ => ((P1_ k_ ∨ P2_ k_) ∨ w.heap.size ≤ k_))) (by (with_reducible repeat (first | apply Kd.V_alloc | apply Kd.V_drewN | apply Kd.V_drew)); exact HO_1.out) hg hat); have n1_ := Aside0.mk (Kd.V_afterv (ok := (fun k_ => ((P1_ k_ ∨ P2_ k_) ∨ w.heap.size ≤ k_))) (by (with_reducible repeat (first | apply Kd.V_alloc | apply Kd.V_drewN | apply Kd.V_drew)); exact HO_2.out) hg hat); have n2_ := Aside0.mk (hb); have n3_ := Aside0.mk (ho); clear HO_1; clear HO_2; clear HB; clear HO_9; have HO_1 := n0_; have HO_2 := n1_; have HB := n2_; have HO249 := n3_; clear n0_ n1_ n2_ n3_; clear ho hb hg hat; have p250 : 0 ≤ (x10_1 : Int) := of_decide_eq_true (by first | (with_reducible assumption) | assumption); have q250 : x10_1 < (l1.length : Int) := of_decide_eq_true (by first | (with_reducible assumption) | assumption); obtain ⟨ad250, e250, hx250_0, hx250_1⟩ := at_T35 (Kd.V_reads' HO_1.out).2.2 x10_1 p250 q250; obtain rfl : ad243 = ad250 := (by injection e250); replace p250 := eq_true p250; replace q250 := eq_true q250; have p251 : 0 ≤ (x11_1 : Int) := of_decide_eq_true (by first | (with_reducible assumption) | assumption); have q251 : x11_1 < (l2.length : Int) := of_decide_eq_true (by first | (with_reducible assumption) | assumption); obtain ⟨ad251, e251, hx251_0, hx251_1⟩ := at_T35 (Kd.V_reads' HO_2.out).2.2 x11_1 p251 q251; obtain rfl : ad244 = ad251 := (by injection e251); replace p251 := eq_true p251; replace q251 := eq_true q251)); try go_wp2_with (first | ((with_reducible refine gate_builtin (b := .append) (xs := #[.tmp 57, .tmp 61]) rfl ?_); (try (refine gate_guard (by rfl) ?_; dsimp only)); at_builtin; refine Kd.R_append k35 (w0 := w) w.heap.size rfl (.tmp 57) (.tmp 61) 22 35 (.agg #[(.int .i64 0), (.int .i64 0)]) 16 rfl Try.underlying22 info35 rfl (by decide) (by omega) u9 x9_1 (⟨ji17, ji18⟩ : S35) [.int .i64 ji17, .int .i64 ji18] (fun k_ => (w.heap.size ≤ k_)) (fun _ => False) rfl rfl ?aP (fun _ hk => hk.elim) ?aF ?aO ?aB ?aS ?aL ?_; (case aP => exact k35_mkM _ _ _ (⟨ji17, ji18⟩ : S35)); (case aB => exact (by repeat (first | (with_reducible first | exact HB.out | apply below_alloc | apply pw_below_drewN | apply below_drew1) | exact HB.out))); (case aF => exact (fun k_ hk => (Nat.le_trans (below_size (by repeat (first | (with_reducible first | exact HB.out | apply below_alloc | apply pw_below_drewN | apply below_drew1) | exact HB.out))) hk))); (case aO => exact (by (with_reducible repeat (first | apply Kd.R_alloc | apply Kd.R_drewN | apply Kd.R_drew)); exact HO_9.out)); (case aS => exact (below_size (by repeat (first | (with_reducible first | exact HB.out | apply below_alloc | apply pw_below_drewN | apply below_drew1) | exact HB.out)))); (case aL => have := LMc20.out; omega); intro v248 w22 ho hb hg hat; rw [← Ny247.out] at ho; have n0_ := Aside0.mk (Kd.V_afterv (ok := (fun k_ => ((P1_ k_ ∨ P2_ k_) ∨ w.heap.size ≤ k_))) (by (with_reducible repeat (first | apply Kd.V_alloc | apply Kd.V_drewN | apply Kd.V_drew)); exact HO_1.out) hg hat); have n1_ := Aside0.mk (Kd.V_afterv (ok := (fun k_ => ((P1_ k_ ∨ P2_ k_) ∨ w.heap.size ≤ k_))) (by (with_reducible repeat (first | apply Kd.V_alloc | apply Kd.V_drewN | apply Kd.V_drew)); exact HO_2.out) hg hat); have n2_ := Aside0.mk (hb); have n3_ := Aside0.mk (ho); clear HO_1; clear HO_2; clear HB; clear HO_9; have HO_1 := n0_; have HO_2 := n1_; have HB := n2_; have HO249 := n3_; clear n0_ n1_ n2_ n3_; clear ho hb hg hat; have p250 : 0 ≤ (x10_1 : Int) := of_decide_eq_true (by first | (with_reducible assumption) | assumption); have q250 : x10_1 < (l1.length : Int) := of_decide_eq_true (by first | (with_reducible assumption) | assumption); obtain ⟨ad250, e250, hx250_0, hx250_1⟩ := at_T35 (Kd.V_reads' HO_1.out).2.2 x10_1 p250 q250; obtain rfl : ad243 = ad250 := (by injection e250); replace p250 := eq_true p250; replace q250 := eq_true q250; have p251 : 0 ≤ (x11_1 : Int) := of_decide_eq_true (by first | (with_reducible assumption) | assumption); have q251 : x11_1 < (l2.length : Int) := of_decide_eq_true (by first | (with_reducible assumption) | assumption); obtain ⟨ad251, e251, hx251_0, hx251_1⟩ := at_T35 (Kd.V_reads' HO_2.out).2.2 x11_1 p251 q251; obtain rfl : ad244 = ad251 := (by injection e251); replace p251 := eq_true p251; replace q251 := eq_true q251)))
                            go_roundg kj9
                            case measure => have := HK1.out; have := HJ9.out; omega
                            case rel => exact ⟨(y247), (wrap64 (x10_1 + 1)), (x11_1), (by first | rfl | (simp; done) | (simp [*]; done)), (by first | rfl | (simp; done) | (simp [*]; done)), H', ⟨by have := HK1.out; have := HJ9.out; omega⟩, ⟨by (with_reducible repeat (first | apply Kd.V_alloc | apply Kd.V_drewN | apply Kd.V_drew)); exact HO_1.out⟩, ⟨by (with_reducible repeat (first | apply Kd.V_alloc | apply Kd.V_drewN | apply Kd.V_drew)); exact HO_2.out⟩, ⟨by (with_reducible repeat (first | apply Kd.R_alloc | apply Kd.R_drewN | apply Kd.R_drew)); exact HO249.out⟩, ⟨by repeat (first | (with_reducible first | exact HB.out | apply below_alloc | apply pw_below_drewN | apply below_drew1) | exact HB.out)⟩⟩
                          · rw [if_neg c21] at H
                            have c21b0 : decide (((rd_T35 l1 x10_1).f1) < ((rd_T35 l2 x11_1).f1)) = false := decide_eq_false c21
                            clear c21
                            have H' := Aside0.mk H
                            clear H
                            have p243 : 0 ≤ (x10_1 : Int) := of_decide_eq_true (by first | (with_reducible assumption) | assumption)
                            have q243 : x10_1 < (l1.length : Int) := of_decide_eq_true (by first | (with_reducible assumption) | assumption)
                            obtain ⟨ad243, e243, hx243_0, hx243_1⟩ := at_T35 (Kd.V_reads' HO_1.out).2.2 x10_1 p243 q243
                            cases e243
                            replace p243 := eq_true p243
                            replace q243 := eq_true q243
                            have p244 : 0 ≤ (x11_1 : Int) := of_decide_eq_true (by first | (with_reducible assumption) | assumption)
                            have q244 : x11_1 < (l2.length : Int) := of_decide_eq_true (by first | (with_reducible assumption) | assumption)
                            obtain ⟨ad244, e244, hx244_0, hx244_1⟩ := at_T35 (Kd.V_reads' HO_2.out).2.2 x11_1 p244 q244
                            cases e244
                            replace p244 := eq_true p244
                            replace q244 := eq_true q244
                            have p245 : 0 ≤ (x10_1 : Int) := of_decide_eq_true (by first | (with_reducible assumption) | assumption)
                            have q245 : x10_1 < (l1.length : Int) := of_decide_eq_true (by first | (with_reducible assumption) | assumption)
                            obtain ⟨ad245, e245, hx245_0, hx245_1⟩ := at_T35 (Kd.V_reads' HO_1.out).2.2 x10_1 p245 q245
                            obtain rfl : ad243 = ad245 := (by injection e245)
                            replace p245 := eq_true p245
                            replace q245 := eq_true q245
                            have p246 : 0 ≤ (x11_1 : Int) := of_decide_eq_true (by first | (with_reducible assumption) | assumption)
                            have q246 : x11_1 < (l2.length : Int) := of_decide_eq_true (by first | (with_reducible assumption) | assumption)
                            obtain ⟨ad246, e246, hx246_0, hx246_1⟩ := at_T35 (Kd.V_reads' HO_2.out).2.2 x11_1 p246 q246
                            obtain rfl : ad244 = ad246 := (by injection e246)
                            replace p246 := eq_true p246
                            replace q246 := eq_true q246
                            go_wp2_with (first | ((with_reducible refine gate_builtin (b := .append) (xs := #[.tmp 57, .tmp 61]) rfl ?_); (try (refine gate_guard (by rfl) ?_; dsimp only)); at_builtin; refine Kd.R_append k35 (w0 := w) w.heap.size rfl (.tmp 57) (.tmp 61) 22 35 (.agg #[(.int .i64 0), (.int .i64 0)]) 16 rfl Try.underlying22 info35 rfl (by decide) (by omega) u9 x9_1 (⟨ji17, ji18⟩ : S35) [.int .i64 ji17, .int .i64 ji18] (fun k_ => (w.heap.size ≤ k_)) (fun _ => False) rfl rfl ?aP (fun _ hk => hk.elim) ?aF ?aO ?aB ?aS ?aL ?_; (case aP => exact k35_mkM _ _ _ (⟨ji17, ji18⟩ : S35)); (case aB => exact (by repeat (first | (with_reducible first | exact HB.out | apply below_alloc | apply pw_below_drewN | apply below_drew1) | exact HB.out))); (case aF => exact (fun k_ hk => (Nat.le_trans (below_size (by repeat (first | (with_reducible first | exact HB.out | apply below_alloc | apply pw_below_drewN | apply below_drew1) | exact HB.out))) hk))); (case aO => exact (by (with_reducible repeat (first | apply Kd.R_alloc | apply Kd.R_drewN | apply Kd.R_drew)); exact HO_9.out)); (case aS => exact (below_size (by repeat (first | (with_reducible first | exact HB.out | apply below_alloc | apply pw_below_drewN | apply below_drew1) | exact HB.out)))); (case aL => have := LMc20.out; omega); intro v248 w23 ho hb hg hat; rw [← Ny247.out] at ho; have n0_ := Aside0.mk (Kd.V_afterv (ok := (fun k_ => ((P1_ k_ ∨ P2_ k_) ∨ w.heap.size ≤ k_))) (by (with_reducible repeat (first | apply Kd.V_alloc | apply Kd.V_drewN | apply Kd.V_drew)); exact HO_1.out) hg hat); have n1_ := Aside0.mk (Kd.V_afterv (ok := (fun k_ => ((P1_ k_ ∨ P2_ k_) ∨ w.heap.size ≤ k_))) (by (with_reducible repeat (first | apply Kd.V_alloc | apply Kd.V_drewN | apply Kd.V_drew)); exact HO_2.out) hg hat); have n2_ := Aside0.mk (hb); have n3_ := Aside0.mk (ho); clear HO_1; clear HO_2; clear HB; clear HO_9; have HO_1 := n0_; have HO_2 := n1_; have HB := n2_; have HO249 := n3_; clear n0_ n1_ n2_ n3_; clear ho hb hg hat; have p250 : 0 ≤ (x10_1 : Int) := of_decide_eq_true (by first | (with_reducible assumption) | assumption); have q250 : x10_1 < (l1.length : Int) := of_decide_eq_true (by first | (with_reducible assumption) | assumption); obtain ⟨ad250, e250, hx250_0, hx250_1⟩ := at_T35 (Kd.V_reads' HO_1.out).2.2 x10_1 p250 q250; obtain rfl : ad243 = ad250 := (by injection e250); replace p250 := eq_true p250; replace q250 := eq_true q250; have p251 : 0 ≤ (x11_1 : Int) := of_decide_eq_true (by first | (with_reducible assumption) | assumption); have q251 : x11_1 < (l2.length : Int) := of_decide_eq_true (by first | (with_reducible assumption) | assumption); obtain ⟨ad251, e251, hx251_0, hx251_1⟩ := at_T35 (Kd.V_reads' HO_2.out).2.2 x11_1 p251 q251; obtain rfl : ad244 = ad251 := (by injection e251); replace p251 := eq_true p251; replace q251 := eq_true q251))
                            repeat (go_quiet (first | ((with_reducible refine gate_builtin (b := .append) (xs := #[.tmp 57, .tmp 61]) rfl ?_); (try (refine gate_guard (by rfl) ?_; dsimp only)); at_builtin; refine Kd.R_append k35 (w0 := w) w.heap.size rfl (.tmp 57) (.tmp 61) 22 35 (.agg #[(.int .i64 0), (.int .i64 0)]) 16 rfl Try.underlying22 info35 rfl (by decide) (by omega) u9 x9_1 (⟨ji17, ji18⟩ : S35) [.int .i64 ji17, .int .i64 ji18] (fun k_ => (w.heap.size ≤ k_)) (fun _ => False) rfl rfl ?aP (fun _ hk => hk.elim) ?aF ?aO ?aB ?aS ?aL ?_; (case aP => exact k35_mkM _ _ _ (⟨ji17, ji18⟩ : S35)); (case aB => exact (by repeat (first | (with_reducible first | exact HB.out | apply below_alloc | apply pw_below_drewN | apply below_drew1) | exact HB.out))); (case aF => exact (fun k_ hk => (Nat.le_trans (below_size (by repeat (first | (with_reducible first | exact HB.out | apply below_alloc | apply pw_below_drewN | apply below_drew1) | exact HB.out))) hk))); (case aO => exact (by (with_reducible repeat (first | apply Kd.R_alloc | apply Kd.R_drewN | apply Kd.R_drew)); exact HO_9.out)); (case aS => exact (below_size (by repeat (first | (with_reducible first | exact HB.out | apply below_alloc | apply pw_below_drewN | apply below_drew1) | exact HB.out)))); (case aL => have := LMc20.out; omega); intro v248 w23 ho hb hg hat; rw [← Ny247.out] at ho; have n0_ := Aside0.mk (Kd.V_afterv (ok := (fun k_ => ((P1_ k_ ∨ P2_ k_) ∨ w.heap.size ≤ k_))) (by (with_reducible repeat (first | apply Kd.V_alloc | apply Kd.V_drewN | apply Kd.V_drew)); exact HO_1.out) hg hat); have n1_ := Aside0.mk (Kd.V_afterv (ok := (fun k_ => ((P1_ k_ ∨ P2_ k_) ∨ w.heap.size ≤ k_))) (by (with_reducible repeat (first | apply Kd.V_alloc | apply Kd.V_drewN | apply Kd.V_drew)); exact HO_2.out) hg hat); have n2_ := Aside0.mk (hb); have n3_ := Aside0.mk (ho); clear HO_1; clear HO_2; clear HB; clear HO_9; have HO_1 := n0_; have HO_2 := n1_; have HB := n2_; have HO249 := n3_; clear n0_ n1_ n2_ n3_; clear ho hb hg hat; have p250 : 0 ≤ (x10_1 : Int) := of_decide_eq_true (by first | (with_reducible assumption) | assumption); have q250 : x10_1 < (l1.length : Int) := of_decide_eq_true (by first | (with_reducible assumption) | assumption); obtain ⟨ad250, e250, hx250_0, hx250_1⟩ := at_T35 (Kd.V_reads' HO_1.out).2.2 x10_1 p250 q250; obtain rfl : ad243 = ad250 := (by injection e250); replace p250 := eq_true p250; replace q250 := eq_true q250; have p251 : 0 ≤ (x11_1 : Int) := of_decide_eq_true (by first | (with_reducible assumption) | assumption); have q251 : x11_1 < (l2.length : Int) := of_decide_eq_true (by first | (with_reducible assumption) | assumption); obtain ⟨ad251, e251, hx251_0, hx251_1⟩ := at_T35 (Kd.V_reads' HO_2.out).2.2 x11_1 p251 q251; obtain rfl : ad244 = ad251 := (by injection e251); replace p251 := eq_true p251; replace q251 := eq_true q251)); try go_wp2_with (first | ((with_reducible refine gate_builtin (b := .append) (xs := #[.tmp 57, .tmp 61]) rfl ?_); (try (refine gate_guard (by rfl) ?_; dsimp only)); at_builtin; refine Kd.R_append k35 (w0 := w) w.heap.size rfl (.tmp 57) (.tmp 61) 22 35 (.agg #[(.int .i64 0), (.int .i64 0)]) 16 rfl Try.underlying22 info35 rfl (by decide) (by omega) u9 x9_1 (⟨ji17, ji18⟩ : S35) [.int .i64 ji17, .int .i64 ji18] (fun k_ => (w.heap.size ≤ k_)) (fun _ => False) rfl rfl ?aP (fun _ hk => hk.elim) ?aF ?aO ?aB ?aS ?aL ?_; (case aP => exact k35_mkM _ _ _ (⟨ji17, ji18⟩ : S35)); (case aB => exact (by repeat (first | (with_reducible first | exact HB.out | apply below_alloc | apply pw_below_drewN | apply below_drew1) | exact HB.out))); (case aF => exact (fun k_ hk => (Nat.le_trans (below_size (by repeat (first | (with_reducible first | exact HB.out | apply below_alloc | apply pw_below_drewN | apply below_drew1) | exact HB.out))) hk))); (case aO => exact (by (with_reducible repeat (first | apply Kd.R_alloc | apply Kd.R_drewN | apply Kd.R_drew)); exact HO_9.out)); (case aS => exact (below_size (by repeat (first | (with_reducible first | exact HB.out | apply below_alloc | apply pw_below_drewN | apply below_drew1) | exact HB.out)))); (case aL => have := LMc20.out; omega); intro v248 w23 ho hb hg hat; rw [← Ny247.out] at ho; have n0_ := Aside0.mk (Kd.V_afterv (ok := (fun k_ => ((P1_ k_ ∨ P2_ k_) ∨ w.heap.size ≤ k_))) (by (with_reducible repeat (first | apply Kd.V_alloc | apply Kd.V_drewN | apply Kd.V_drew)); exact HO_1.out) hg hat); have n1_ := Aside0.mk (Kd.V_afterv (ok := (fun k_ => ((P1_ k_ ∨ P2_ k_) ∨ w.heap.size ≤ k_))) (by (with_reducible repeat (first | apply Kd.V_alloc | apply Kd.V_drewN | apply Kd.V_drew)); exact HO_2.out) hg hat); have n2_ := Aside0.mk (hb); have n3_ := Aside0.mk (ho); clear HO_1; clear HO_2; clear HB; clear HO_9; have HO_1 := n0_; have HO_2 := n1_; have HB := n2_; have HO249 := n3_; clear n0_ n1_ n2_ n3_; clear ho hb hg hat; have p250 : 0 ≤ (x10_1 : Int) := of_decide_eq_true (by first | (with_reducible assumption) | assumption); have q250 : x10_1 < (l1.length : Int) := of_decide_eq_true (by first | (with_reducible assumption) | assumption); obtain ⟨ad250, e250, hx250_0, hx250_1⟩ := at_T35 (Kd.V_reads' HO_1.out).2.2 x10_1 p250 q250; obtain rfl : ad243 = ad250 := (by injection e250); replace p250 := eq_true p250; replace q250 := eq_true q250; have p251 : 0 ≤ (x11_1 : Int) := of_decide_eq_true (by first | (with_reducible assumption) | assumption); have q251 : x11_1 < (l2.length : Int) := of_decide_eq_true (by first | (with_reducible assumption) | assumption); obtain ⟨ad251, e251, hx251_0, hx251_1⟩ := at_T35 (Kd.V_reads' HO_2.out).2.2 x11_1 p251 q251; obtain rfl : ad244 = ad251 := (by injection e251); replace p251 := eq_true p251; replace q251 := eq_true q251)))
                            go_roundg kj9
                            case measure => have := HK1.out; have := HJ9.out; omega
                            case rel => exact ⟨(y247), (x10_1), (wrap64 (x11_1 + 1)), (by first | rfl | (simp; done) | (simp [*]; done)), (by first | rfl | (simp; done) | (simp [*]; done)), H', ⟨by have := HK1.out; have := HJ9.out; omega⟩, ⟨by (with_reducible repeat (first | apply Kd.V_alloc | apply Kd.V_drewN | apply Kd.V_drew)); exact HO_1.out⟩, ⟨by (with_reducible repeat (first | apply Kd.V_alloc | apply Kd.V_drewN | apply Kd.V_drew)); exact HO_2.out⟩, ⟨by (with_reducible repeat (first | apply Kd.R_alloc | apply Kd.R_drewN | apply Kd.R_drew)); exact HO249.out⟩, ⟨by repeat (first | (with_reducible first | exact HB.out | apply below_alloc | apply pw_below_drewN | apply below_drew1) | exact HB.out)⟩⟩
                        · rw [if_neg c20] at H
                          exact absurd H (by simp)
                      · rw [if_neg c19] at H
                        have c19b0 : decide ((ji17) < (ji18)) = false := decide_eq_false c19
                        clear c19
                        by_cases c24 : ((rd_T35 l1 x10_1).f1) < ((rd_T35 l2 x11_1).f1)
                        · rw [if_pos c24] at H
                          have c24b0 : decide (((rd_T35 l1 x10_1).f1) < ((rd_T35 l2 x11_1).f1)) = true := decide_eq_true c24
                          clear c24
                          have H' := Aside0.mk H
                          clear H
                          have p243 : 0 ≤ (x10_1 : Int) := of_decide_eq_true (by first | (with_reducible assumption) | assumption)
                          have q243 : x10_1 < (l1.length : Int) := of_decide_eq_true (by first | (with_reducible assumption) | assumption)
                          obtain ⟨ad243, e243, hx243_0, hx243_1⟩ := at_T35 (Kd.V_reads' HO_1.out).2.2 x10_1 p243 q243
                          cases e243
                          replace p243 := eq_true p243
                          replace q243 := eq_true q243
                          have p244 : 0 ≤ (x11_1 : Int) := of_decide_eq_true (by first | (with_reducible assumption) | assumption)
                          have q244 : x11_1 < (l2.length : Int) := of_decide_eq_true (by first | (with_reducible assumption) | assumption)
                          obtain ⟨ad244, e244, hx244_0, hx244_1⟩ := at_T35 (Kd.V_reads' HO_2.out).2.2 x11_1 p244 q244
                          cases e244
                          replace p244 := eq_true p244
                          replace q244 := eq_true q244
                          have p245 : 0 ≤ (x10_1 : Int) := of_decide_eq_true (by first | (with_reducible assumption) | assumption)
                          have q245 : x10_1 < (l1.length : Int) := of_decide_eq_true (by first | (with_reducible assumption) | assumption)
                          obtain ⟨ad245, e245, hx245_0, hx245_1⟩ := at_T35 (Kd.V_reads' HO_1.out).2.2 x10_1 p245 q245
                          obtain rfl : ad243 = ad245 := (by injection e245)
                          replace p245 := eq_true p245
                          replace q245 := eq_true q245
                          have p246 : 0 ≤ (x11_1 : Int) := of_decide_eq_true (by first | (with_reducible assumption) | assumption)
                          have q246 : x11_1 < (l2.length : Int) := of_decide_eq_true (by first | (with_reducible assumption) | assumption)
                          obtain ⟨ad246, e246, hx246_0, hx246_1⟩ := at_T35 (Kd.V_reads' HO_2.out).2.2 x11_1 p246 q246
                          obtain rfl : ad244 = ad246 := (by injection e246)
                          replace p246 := eq_true p246
                          replace q246 := eq_true q246
                          have p252 : 0 ≤ (x10_1 : Int) := of_decide_eq_true (by first | (with_reducible assumption) | assumption)
                          have q252 : x10_1 < (l1.length : Int) := of_decide_eq_true (by first | (with_reducible assumption) | assumption)
                          obtain ⟨ad252, e252, hx252_0, hx252_1⟩ := at_T35 (Kd.V_reads' HO_1.out).2.2 x10_1 p252 q252
                          obtain rfl : ad243 = ad252 := (by injection e252)
                          replace p252 := eq_true p252
                          replace q252 := eq_true q252
                          have p253 : 0 ≤ (x11_1 : Int) := of_decide_eq_true (by first | (with_reducible assumption) | assumption)
                          have q253 : x11_1 < (l2.length : Int) := of_decide_eq_true (by first | (with_reducible assumption) | assumption)
                          obtain ⟨ad253, e253, hx253_0, hx253_1⟩ := at_T35 (Kd.V_reads' HO_2.out).2.2 x11_1 p253 q253
                          obtain rfl : ad244 = ad253 := (by injection e253)
                          replace p253 := eq_true p253
                          replace q253 := eq_true q253
                          go_wp2
                          repeat (go_quiet (fail); try go_wp2)
                          go_roundg kj9
                          case measure => have := HK1.out; have := HJ9.out; omega
                          case rel => exact ⟨(x9_1), (wrap64 (x10_1 + 1)), (x11_1), (by first | rfl | (simp; done) | (simp [*]; done)), (by first | rfl | (simp; done) | (simp [*]; done)), H', ⟨by have := HK1.out; have := HJ9.out; omega⟩, ⟨by (with_reducible repeat (first | apply Kd.V_alloc | apply Kd.V_drewN | apply Kd.V_drew)); exact HO_1.out⟩, ⟨by (with_reducible repeat (first | apply Kd.V_alloc | apply Kd.V_drewN | apply Kd.V_drew)); exact HO_2.out⟩, ⟨by (with_reducible repeat (first | apply Kd.R_alloc | apply Kd.R_drewN | apply Kd.R_drew)); exact HO_9.out⟩, ⟨by repeat (first | (with_reducible first | exact HB.out | apply below_alloc | apply pw_below_drewN | apply below_drew1) | exact HB.out)⟩⟩
                        · rw [if_neg c24] at H
                          have c24b0 : decide (((rd_T35 l1 x10_1).f1) < ((rd_T35 l2 x11_1).f1)) = false := decide_eq_false c24
                          clear c24
                          have H' := Aside0.mk H
                          clear H
                          have p243 : 0 ≤ (x10_1 : Int) := of_decide_eq_true (by first | (with_reducible assumption) | assumption)
                          have q243 : x10_1 < (l1.length : Int) := of_decide_eq_true (by first | (with_reducible assumption) | assumption)
                          obtain ⟨ad243, e243, hx243_0, hx243_1⟩ := at_T35 (Kd.V_reads' HO_1.out).2.2 x10_1 p243 q243
                          cases e243
                          replace p243 := eq_true p243
                          replace q243 := eq_true q243
                          have p244 : 0 ≤ (x11_1 : Int) := of_decide_eq_true (by first | (with_reducible assumption) | assumption)
                          have q244 : x11_1 < (l2.length : Int) := of_decide_eq_true (by first | (with_reducible assumption) | assumption)
                          obtain ⟨ad244, e244, hx244_0, hx244_1⟩ := at_T35 (Kd.V_reads' HO_2.out).2.2 x11_1 p244 q244
                          cases e244
                          replace p244 := eq_true p244
                          replace q244 := eq_true q244
                          have p245 : 0 ≤ (x10_1 : Int) := of_decide_eq_true (by first | (with_reducible assumption) | assumption)
                          have q245 : x10_1 < (l1.length : Int) := of_decide_eq_true (by first | (with_reducible assumption) | assumption)
                          obtain ⟨ad245, e245, hx245_0, hx245_1⟩ := at_T35 (Kd.V_reads' HO_1.out).2.2 x10_1 p245 q245
                          obtain rfl : ad243 = ad245 := (by injection e245)
                          replace p245 := eq_true p245
                          replace q245 := eq_true q245
                          have p246 : 0 ≤ (x11_1 : Int) := of_decide_eq_true (by first | (with_reducible assumption) | assumption)
                          have q246 : x11_1 < (l2.length : Int) := of_decide_eq_true (by first | (with_reducible assumption) | assumption)
                          obtain ⟨ad246, e246, hx246_0, hx246_1⟩ := at_T35 (Kd.V_reads' HO_2.out).2.2 x11_1 p246 q246
                          obtain rfl : ad244 = ad246 := (by injection e246)
                          replace p246 := eq_true p246
                          replace q246 := eq_true q246
                          have p252 : 0 ≤ (x10_1 : Int) := of_decide_eq_true (by first | (with_reducible assumption) | assumption)
                          have q252 : x10_1 < (l1.length : Int) := of_decide_eq_true (by first | (with_reducible assumption) | assumption)
                          obtain ⟨ad252, e252, hx252_0, hx252_1⟩ := at_T35 (Kd.V_reads' HO_1.out).2.2 x10_1 p252 q252
                          obtain rfl : ad243 = ad252 := (by injection e252)
                          replace p252 := eq_true p252
                          replace q252 := eq_true q252
                          have p253 : 0 ≤ (x11_1 : Int) := of_decide_eq_true (by first | (with_reducible assumption) | assumption)
                          have q253 : x11_1 < (l2.length : Int) := of_decide_eq_true (by first | (with_reducible assumption) | assumption)
                          obtain ⟨ad253, e253, hx253_0, hx253_1⟩ := at_T35 (Kd.V_reads' HO_2.out).2.2 x11_1 p253 q253
                          obtain rfl : ad244 = ad253 := (by injection e253)
                          replace p253 := eq_true p253
                          replace q253 := eq_true q253
                          go_wp2
                          repeat (go_quiet (fail); try go_wp2)
                          go_roundg kj9
                          case measure => have := HK1.out; have := HJ9.out; omega
                          case rel => exact ⟨(x9_1), (x10_1), (wrap64 (x11_1 + 1)), (by first | rfl | (simp; done) | (simp [*]; done)), (by first | rfl | (simp; done) | (simp [*]; done)), H', ⟨by have := HK1.out; have := HJ9.out; omega⟩, ⟨by (with_reducible repeat (first | apply Kd.V_alloc | apply Kd.V_drewN | apply Kd.V_drew)); exact HO_1.out⟩, ⟨by (with_reducible repeat (first | apply Kd.V_alloc | apply Kd.V_drewN | apply Kd.V_drew)); exact HO_2.out⟩, ⟨by (with_reducible repeat (first | apply Kd.R_alloc | apply Kd.R_drewN | apply Kd.R_drew)); exact HO_9.out⟩, ⟨by repeat (first | (with_reducible first | exact HB.out | apply below_alloc | apply pw_below_drewN | apply below_drew1) | exact HB.out)⟩⟩
                    · rw [if_neg c16] at H
                      exact absurd H (by simp)
                  · rw [if_neg c15] at H
                    exact absurd H (by simp)
                · rw [if_neg c14] at H
                  exact absurd H (by simp)
              · rw [if_neg c13] at H
                exact absurd H (by simp)
            · replace c12 := Bool.eq_false_iff.mpr c12
              subst c12
              have H1 : (some (x9_1, 0)) = some (r1, r2) := by rw [if_neg (show ¬ (false = true) by decide)] at H; exact H
              clear H
              have H := H1
              clear H1
              simp only [Option.some.injEq, Prod.mk.injEq] at H
              obtain ⟨rfl, rfl⟩ := H
              go_wp2
              repeat (go_quiet (fail); try go_wp2)
              go_ret2
              exact ⟨_, by first | rfl | (simp [errW_none, errW_some] <;> rfl) | (simp [*, errW_none, errW_some] <;> rfl), by (with_reducible repeat (first | apply Kd.R_alloc | apply Kd.R_drewN | apply Kd.R_drew)); exact HO_9.out, by repeat (first | (with_reducible first | exact HB.out | apply below_alloc | apply pw_below_drewN | apply below_drew1) | exact HB.out)⟩
  · rw [if_neg c5] at H
    have c5b0 : (t242 == 0) = false := beq_eq_false_iff_ne.mpr c5
    have c5b1 : (t242 != 0) = true := bne_iff_ne.mpr c5
    simp only [Option.some.injEq, Prod.mk.injEq] at H
    obtain ⟨rfl, rfl⟩ := H
    go_enter Try.func37, Try.ntmps37
    go_wp2_with (first | ((with_reducible refine gate_dst (N := 17) rfl ?_); (try (refine gate_guard (by rfl) ?_; dsimp only)); refine Kd.N_lit (Kd.slice 35 k35) _ 22 ?hg (N' := 17) ?hd (xs := ([l1, l2] : List (List (S35)))) (inner := [.slice A1 l1.length c1, .slice A2 l2.length c2]) (ok := (fun k_ => ((P1_ k_ ∨ P2_ k_) ∨ w.heap.size ≤ k_))) (okp := (fun k_ => ((P1_ k_ ∨ P2_ k_) ∨ w.heap.size ≤ k_))) ?hr ?hp (fun _ hk => hk) ((show ∀ k_, w.heap.size ≤ k_ → (fun k_ => ((P1_ k_ ∨ P2_ k_) ∨ w.heap.size ≤ k_)) k_ from fun k_ hk => (.inr (Nat.le_trans (below_size (by repeat (first | (with_reducible first | exact HB.out | apply below_alloc | apply pw_below_drewN | apply below_drew1) | exact HB.out))) hk))) _ (Nat.le_refl _)) (Below.refl _ _) (Nat.le_refl _) (by simp) ?_; (case hd => rfl); (case hg => rfl); (case hr => first | (go_simp; done) | (go_simp; rfl)); (case hp => exact (Reps.one (show Kd.FK (Kd.slice 35 k35) _ _ l1 [.slice A1 l1.length c1] from (Kd.FK_slice_mk (Kd.V_reads' (Kd.V_mono (ok' := (fun k_ => ((P1_ k_ ∨ P2_ k_) ∨ w.heap.size ≤ k_))) (HO1.out) (fun k_ hk => hk))).2.1 (Kd.V_F (Kd.V_mono (ok' := (fun k_ => ((P1_ k_ ∨ P2_ k_) ∨ w.heap.size ≤ k_))) (HO1.out) (fun k_ hk => hk))))) (Reps.one (show Kd.FK (Kd.slice 35 k35) _ _ l2 [.slice A2 l2.length c2] from (Kd.FK_slice_mk (Kd.V_reads' (Kd.V_mono (ok' := (fun k_ => ((P1_ k_ ∨ P2_ k_) ∨ w.heap.size ≤ k_))) (HO2.out) (fun k_ hk => hk))).2.1 (Kd.V_F (Kd.V_mono (ok' := (fun k_ => ((P1_ k_ ∨ P2_ k_) ∨ w.heap.size ≤ k_))) (HO2.out) (fun k_ hk => hk))))) (Reps.none _ _)))); intro v240 w25 ho26 hb hg_ hnew_; clear hg_ hnew_; (first | rw [← Ny239.out] at ho26 | (simp only [Int.reduceToNat] at ho26; rw [← Ny239.out] at ho26)); have n0_ := Aside0.mk (Kd.V_elder' (by (with_reducible repeat (first | apply Kd.V_alloc | apply Kd.V_drewN | apply Kd.V_drew)); exact HO1.out) (Kd.N_base ho26) hb); have n1_ := Aside0.mk (Kd.V_elder' (by (with_reducible repeat (first | apply Kd.V_alloc | apply Kd.V_drewN | apply Kd.V_drew)); exact HO2.out) (Kd.N_base ho26) hb); have n2_ := Aside0.mk (Kd.N_lower ho26 (below_size (by repeat (first | (with_reducible first | exact HB.out | apply below_alloc | apply pw_below_drewN | apply below_drew1) | exact HB.out)))); have n3_ := Aside0.mk (below_step (by repeat (first | (with_reducible first | exact HB.out | apply below_alloc | apply pw_below_drewN | apply below_drew1) | exact HB.out)) hb); clear HO1; clear HO2; clear HB; have HO1 := n0_; have HO2 := n1_; have HO241 := n2_; have HB := n3_; clear n0_ n1_ n2_ n3_; clear hb ho26; obtain ⟨Ao27, co27, eo27⟩ := Kd.N_slice HO241.out; subst eo27) | (go_at_call 45; (with_reducible refine (residue_check.calls k a0 _ _ y239 t242 _ ?side1 ?side2 A4.out).mono ?_); (case side1 => repeat (first | exact (Kd.N_reads' HO241.out).2.2 | (with_reducible refine Kd.C_alloc ?_ _) | (with_reducible refine Kd.C_drewN ?_ _) | (with_reducible refine Kd.C_drew ?_))); (case side2 => exact (Kd.N_reads' HO241.out).2.1); rintro e w28 ⟨rfl, hb⟩; have n0_ := Aside0.mk (Kd.V_below (by (with_reducible repeat (first | apply Kd.V_alloc | apply Kd.V_drewN | apply Kd.V_drew)); exact HO1.out) hb); have n1_ := Aside0.mk (Kd.V_below (by (with_reducible repeat (first | apply Kd.V_alloc | apply Kd.V_drewN | apply Kd.V_drew)); exact HO2.out) hb); have n2_ := Aside0.mk (Kd.N_below (by (with_reducible repeat (first | apply Kd.N_alloc | apply Kd.N_drewN | apply Kd.N_drew)); exact HO241.out) hb); have n3_ := Aside0.mk (below_step (by repeat (first | (with_reducible first | exact HB.out | apply below_alloc | apply pw_below_drewN | apply below_drew1) | exact HB.out)) hb); clear HO1; clear HO2; clear HO241; clear HB; have HO1 := n0_; have HO2 := n1_; have HO241 := n2_; have HB := n3_; clear n0_ n1_ n2_ n3_; (try clear hb); (try clear hb2); (try clear hk); (try clear hi)))
    repeat (go_quiet (first | ((with_reducible refine gate_dst (N := 17) rfl ?_); (try (refine gate_guard (by rfl) ?_; dsimp only)); refine Kd.N_lit (Kd.slice 35 k35) _ 22 ?hg (N' := 17) ?hd (xs := ([l1, l2] : List (List (S35)))) (inner := [.slice A1 l1.length c1, .slice A2 l2.length c2]) (ok := (fun k_ => ((P1_ k_ ∨ P2_ k_) ∨ w.heap.size ≤ k_))) (okp := (fun k_ => ((P1_ k_ ∨ P2_ k_) ∨ w.heap.size ≤ k_))) ?hr ?hp (fun _ hk => hk) ((show ∀ k_, w.heap.size ≤ k_ → (fun k_ => ((P1_ k_ ∨ P2_ k_) ∨ w.heap.size ≤ k_)) k_ from fun k_ hk => (.inr (Nat.le_trans (below_size (by repeat (first | (with_reducible first | exact HB.out | apply below_alloc | apply pw_below_drewN | apply below_drew1) | exact HB.out))) hk))) _ (Nat.le_refl _)) (Below.refl _ _) (Nat.le_refl _) (by simp) ?_; (case hd => rfl); (case hg => rfl); (case hr => first | (go_simp; done) | (go_simp; rfl)); (case hp => exact (Reps.one (show Kd.FK (Kd.slice 35 k35) _ _ l1 [.slice A1 l1.length c1] from (Kd.FK_slice_mk (Kd.V_reads' (Kd.V_mono (ok' := (fun k_ => ((P1_ k_ ∨ P2_ k_) ∨ w.heap.size ≤ k_))) (HO1.out) (fun k_ hk => hk))).2.1 (Kd.V_F (Kd.V_mono (ok' := (fun k_ => ((P1_ k_ ∨ P2_ k_) ∨ w.heap.size ≤ k_))) (HO1.out) (fun k_ hk => hk))))) (Reps.one (show Kd.FK (Kd.slice 35 k35) _ _ l2 [.slice A2 l2.length c2] from (Kd.FK_slice_mk (Kd.V_reads' (Kd.V_mono (ok' := (fun k_ => ((P1_ k_ ∨ P2_ k_) ∨ w.heap.size ≤ k_))) (HO2.out) (fun k_ hk => hk))).2.1 (Kd.V_F (Kd.V_mono (ok' := (fun k_ => ((P1_ k_ ∨ P2_ k_) ∨ w.heap.size ≤ k_))) (HO2.out) (fun k_ hk => hk))))) (Reps.none _ _)))); intro v240 w25 ho26 hb hg_ hnew_; clear hg_ hnew_; (first | rw [← Ny239.out] at ho26 | (simp only [Int.reduceToNat] at ho26; rw [← Ny239.out] at ho26)); have n0_ := Aside0.mk (Kd.V_elder' (by (with_reducible repeat (first | apply Kd.V_alloc | apply Kd.V_drewN | apply Kd.V_drew)); exact HO1.out) (Kd.N_base ho26) hb); have n1_ := Aside0.mk (Kd.V_elder' (by (with_reducible repeat (first | apply Kd.V_alloc | apply Kd.V_drewN | apply Kd.V_drew)); exact HO2.out) (Kd.N_base ho26) hb); have n2_ := Aside0.mk (Kd.N_lower ho26 (below_size (by repeat (first | (with_reducible first | exact HB.out | apply below_alloc | apply pw_below_drewN | apply below_drew1) | exact HB.out)))); have n3_ := Aside0.mk (below_step (by repeat (first | (with_reducible first | exact HB.out | apply below_alloc | apply pw_below_drewN | apply below_drew1) | exact HB.out)) hb); clear HO1; clear HO2; clear HB; have HO1 := n0_; have HO2 := n1_; have HO241 := n2_; have HB := n3_; clear n0_ n1_ n2_ n3_; clear hb ho26; obtain ⟨Ao27, co27, eo27⟩ := Kd.N_slice HO241.out; subst eo27) | (go_at_call 45; (with_reducible refine (residue_check.calls k a0 _ _ y239 t242 _ ?side1 ?side2 A4.out).mono ?_); (case side1 => repeat (first | exact (Kd.N_reads' HO241.out).2.2 | (with_reducible refine Kd.C_alloc ?_ _) | (with_reducible refine Kd.C_drewN ?_ _) | (with_reducible refine Kd.C_drew ?_))); (case side2 => exact (Kd.N_reads' HO241.out).2.1); rintro e w28 ⟨rfl, hb⟩; have n0_ := Aside0.mk (Kd.V_below (by (with_reducible repeat (first | apply Kd.V_alloc | apply Kd.V_drewN | apply Kd.V_drew)); exact HO1.out) hb); have n1_ := Aside0.mk (Kd.V_below (by (with_reducible repeat (first | apply Kd.V_alloc | apply Kd.V_drewN | apply Kd.V_drew)); exact HO2.out) hb); have n2_ := Aside0.mk (Kd.N_below (by (with_reducible repeat (first | apply Kd.N_alloc | apply Kd.N_drewN | apply Kd.N_drew)); exact HO241.out) hb); have n3_ := Aside0.mk (below_step (by repeat (first | (with_reducible first | exact HB.out | apply below_alloc | apply pw_below_drewN | apply below_drew1) | exact HB.out)) hb); clear HO1; clear HO2; clear HO241; clear HB; have HO1 := n0_; have HO2 := n1_; have HO241 := n2_; have HB := n3_; clear n0_ n1_ n2_ n3_; (try clear hb); (try clear hb2); (try clear hk); (try clear hi))); try go_wp2_with (first | ((with_reducible refine gate_dst (N := 17) rfl ?_); (try (refine gate_guard (by rfl) ?_; dsimp only)); refine Kd.N_lit (Kd.slice 35 k35) _ 22 ?hg (N' := 17) ?hd (xs := ([l1, l2] : List (List (S35)))) (inner := [.slice A1 l1.length c1, .slice A2 l2.length c2]) (ok := (fun k_ => ((P1_ k_ ∨ P2_ k_) ∨ w.heap.size ≤ k_))) (okp := (fun k_ => ((P1_ k_ ∨ P2_ k_) ∨ w.heap.size ≤ k_))) ?hr ?hp (fun _ hk => hk) ((show ∀ k_, w.heap.size ≤ k_ → (fun k_ => ((P1_ k_ ∨ P2_ k_) ∨ w.heap.size ≤ k_)) k_ from fun k_ hk => (.inr (Nat.le_trans (below_size (by repeat (first | (with_reducible first | exact HB.out | apply below_alloc | apply pw_below_drewN | apply below_drew1) | exact HB.out))) hk))) _ (Nat.le_refl _)) (Below.refl _ _) (Nat.le_refl _) (by simp) ?_; (case hd => rfl); (case hg => rfl); (case hr => first | (go_simp; done) | (go_simp; rfl)); (case hp => exact (Reps.one (show Kd.FK (Kd.slice 35 k35) _ _ l1 [.slice A1 l1.length c1] from (Kd.FK_slice_mk (Kd.V_reads' (Kd.V_mono (ok' := (fun k_ => ((P1_ k_ ∨ P2_ k_) ∨ w.heap.size ≤ k_))) (HO1.out) (fun k_ hk => hk))).2.1 (Kd.V_F (Kd.V_mono (ok' := (fun k_ => ((P1_ k_ ∨ P2_ k_) ∨ w.heap.size ≤ k_))) (HO1.out) (fun k_ hk => hk))))) (Reps.one (show Kd.FK (Kd.slice 35 k35) _ _ l2 [.slice A2 l2.length c2] from (Kd.FK_slice_mk (Kd.V_reads' (Kd.V_mono (ok' := (fun k_ => ((P1_ k_ ∨ P2_ k_) ∨ w.heap.size ≤ k_))) (HO2.out) (fun k_ hk => hk))).2.1 (Kd.V_F (Kd.V_mono (ok' := (fun k_ => ((P1_ k_ ∨ P2_ k_) ∨ w.heap.size ≤ k_))) (HO2.out) (fun k_ hk => hk))))) (Reps.none _ _)))); intro v240 w25 ho26 hb hg_ hnew_; clear hg_ hnew_; (first | rw [← Ny239.out] at ho26 | (simp only [Int.reduceToNat] at ho26; rw [← Ny239.out] at ho26)); have n0_ := Aside0.mk (Kd.V_elder' (by (with_reducible repeat (first | apply Kd.V_alloc | apply Kd.V_drewN | apply Kd.V_drew)); exact HO1.out) (Kd.N_base ho26) hb); have n1_ := Aside0.mk (Kd.V_elder' (by (with_reducible repeat (first | apply Kd.V_alloc | apply Kd.V_drewN | apply Kd.V_drew)); exact HO2.out) (Kd.N_base ho26) hb); have n2_ := Aside0.mk (Kd.N_lower ho26 (below_size (by repeat (first | (with_reducible first | exact HB.out | apply below_alloc | apply pw_below_drewN | apply below_drew1) | exact HB.out)))); have n3_ := Aside0.mk (below_step (by repeat (first | (with_reducible first | exact HB.out | apply below_alloc | apply pw_below_drewN | apply below_drew1) | exact HB.out)) hb); clear HO1; clear HO2; clear HB; have HO1 := n0_; have HO2 := n1_; have HO241 := n2_; have HB := n3_; clear n0_ n1_ n2_ n3_; clear hb ho26; obtain ⟨Ao27, co27, eo27⟩ := Kd.N_slice HO241.out; subst eo27) | (go_at_call 45; (with_reducible refine (residue_check.calls k a0 _ _ y239 t242 _ ?side1 ?side2 A4.out).mono ?_); (case side1 => repeat (first | exact (Kd.N_reads' HO241.out).2.2 | (with_reducible refine Kd.C_alloc ?_ _) | (with_reducible refine Kd.C_drewN ?_ _) | (with_reducible refine Kd.C_drew ?_))); (case side2 => exact (Kd.N_reads' HO241.out).2.1); rintro e w28 ⟨rfl, hb⟩; have n0_ := Aside0.mk (Kd.V_below (by (with_reducible repeat (first | apply Kd.V_alloc | apply Kd.V_drewN | apply Kd.V_drew)); exact HO1.out) hb); have n1_ := Aside0.mk (Kd.V_below (by (with_reducible repeat (first | apply Kd.V_alloc | apply Kd.V_drewN | apply Kd.V_drew)); exact HO2.out) hb); have n2_ := Aside0.mk (Kd.N_below (by (with_reducible repeat (first | apply Kd.N_alloc | apply Kd.N_drewN | apply Kd.N_drew)); exact HO241.out) hb); have n3_ := Aside0.mk (below_step (by repeat (first | (with_reducible first | exact HB.out | apply below_alloc | apply pw_below_drewN | apply below_drew1) | exact HB.out)) hb); clear HO1; clear HO2; clear HO241; clear HB; have HO1 := n0_; have HO2 := n1_; have HO241 := n2_; have HB := n3_; clear n0_ n1_ n2_ n3_; (try clear hb); (try clear hb2); (try clear hk); (try clear hi))))
    go_ret2
    exact ⟨_, by first | rfl | (simp [errW_none, errW_some] <;> rfl) | (simp [*, errW_none, errW_some] <;> rfl), by first | exact Kd.R_nil _ _ _ _ _ | exact Kd.N_nil _ _ _ _ _ | exact Kd.V_nil _ _ _ _ _ | exact Kd.Q_nil _ _ _ _ _ | exact Kd.S_nil _ _ _ _ _, by repeat (first | (with_reducible first | exact HB.out | apply below_alloc | apply pw_below_drewN | apply below_drew1) | exact HB.out)⟩

/-! ### railplanref1_Intersect: function 38 -/
def railplanref1_Intersect.l0 : Nat → Int → List Bool → List Bool → Int → Option ((List (S35)) × Int)
  | 0, _, _, _, _ => none
  | k + 1, x0, x9, x10, x11 => if x11 < x0 then (if 0 ≤ x11 then (if x11 < (x9.length : Int) then (if rdOf false x9 x11 = true then (if x11 < (x10.length : Int) then (railplanref1_Intersect.l0 k x0 (x9.set (x11 : Int).toNat (rdOf false x10 x11)) x10 (wrap64 (x11 + 1))) else (none)) else (railplanref1_Intersect.l0 k x0 (x9.set (x11 : Int).toNat false) x10 (wrap64 (x11 + 1)))) else (none)) else (none)) else ((railplanref1_spans.f k x9).bind fun t265 => (some (t265, 0)))
def railplanref1_Intersect.f (k : Nat) (a0 : Int) (l1 : List (S35)) (l2 : List (S35)) : Option ((List (S35)) × Int) := (railplanref1_bad.f k a0 l1 l2).bind fun t254 => (if t254 = 0 then ((railplanref1_marks.f k a0 l1).bind fun t255 => ((railplanref1_marks.f k a0 l2).bind fun t258 => (railplanref1_Intersect.l0 k a0 t255 t258 0))) else (some (([] : List (S35)), t254)))
theorem railplanref1_Intersect.mono_l : ∀ k, (∀ y0 y1 y2 y3, LeO (railplanref1_Intersect.l0 k y0 y1 y2 y3) (railplanref1_Intersect.l0 (k + 1) y0 y1 y2 y3))
  | 0 => fun _ _ _ _ r h => by simp [railplanref1_Intersect.l0] at h
  | k + 1 => by
    have ih0 := railplanref1_Intersect.mono_l k
    · intro y0 y1 y2 y3
      unfold railplanref1_Intersect.l0
      repeat' first
      | (with_reducible exact ih0 _ _ _ _)
      | (with_reducible exact railplanref1_bad.mono _ _ _ _)
      | (with_reducible exact railplanref1_marks.mono _ _ _)
      | (with_reducible exact railplanref1_spans.mono _ _)
      | (with_reducible exact LeO.refl _)
      | (with_reducible exact LeO.none _)
      | (with_reducible refine LeO.ite ?_ ?_)
      | (with_reducible refine LeO.bind ?_ (fun _ => ?_))
      | exact ih0 _ _ _ _
      | exact railplanref1_bad.mono _ _ _ _
      | exact railplanref1_marks.mono _ _ _
      | exact railplanref1_spans.mono _ _
      | exact LeO.none _
      | refine LeO.ite ?_ ?_
      | refine LeO.bind ?_ (fun _ => ?_)
theorem railplanref1_Intersect.mono : ∀ a0 a1 a2 k, LeO (railplanref1_Intersect.f k a0 a1 a2) (railplanref1_Intersect.f (k + 1) a0 a1 a2) := by
  intro a0 a1 a2 k
  have ih0 := railplanref1_Intersect.mono_l k
  unfold railplanref1_Intersect.f
  repeat' first
      | (with_reducible exact ih0 _ _ _ _)
      | (with_reducible exact railplanref1_bad.mono _ _ _ _)
      | (with_reducible exact railplanref1_marks.mono _ _ _)
      | (with_reducible exact railplanref1_spans.mono _ _)
      | (with_reducible exact LeO.refl _)
      | (with_reducible exact LeO.none _)
      | (with_reducible refine LeO.ite ?_ ?_)
      | (with_reducible refine LeO.bind ?_ (fun _ => ?_))
      | exact ih0 _ _ _ _
      | exact railplanref1_bad.mono _ _ _ _
      | exact railplanref1_marks.mono _ _ _
      | exact railplanref1_spans.mono _ _
      | exact LeO.none _
      | refine LeO.ite ?_ ?_
      | refine LeO.bind ?_ (fun _ => ?_)
set_option maxHeartbeats 8000000 in
set_option maxRecDepth 100000 in
theorem railplanref1_Intersect.calls (k : Nat) (a0 : Int) (A1 : Option Addr) (c1 : Nat) (l1 : List (S35)) (A2 : Option Addr) (c2 : Nat) (l2 : List (S35)) (r1 : List (S35)) (r2 : Int) (w : World) (hr1 : Kd.C k35 w A1 l1.length l1) (hc1 : l1.length ≤ c1) (hr2 : Kd.C k35 w A2 l2.length l2) (hc2 : l2.length ≤ c2) (h : railplanref1_Intersect.f k a0 l1 l2 = some (r1, r2)) :
    Calls Try.prog 38 #[.int .i64 a0, .slice A1 l1.length c1, .slice A2 l2.length c2] w fun e w' => ∃ v0_ : Value, e = .returned (.tuple #[v0_, .int .i64 r2]) ∧ Kd.R k35 35 w' w.heap.size (fun _ => True) v0_ r1 ∧ Below w.heap.size w w' := by
  have HR1 := Aside0.mk hr1
  have HC1 := Aside0.mk hc1
  clear hr1 hc1
  have HR2 := Aside0.mk hr2
  have HC2 := Aside0.mk hc2
  clear hr2 hc2
  have HB := Aside0.mk (Below.refl w.heap.size w)
  have H : ((railplanref1_bad.f k a0 l1 l2).bind fun t254 => (if t254 = 0 then ((railplanref1_marks.f k a0 l1).bind fun t255 => ((railplanref1_marks.f k a0 l2).bind fun t258 => (railplanref1_Intersect.l0 k a0 t255 t258 0))) else (some (([] : List (S35)), t254)))) = some (r1, r2) := h
  clear h
  replace H := Option.bind_eq_some_iff.mp H
  obtain ⟨t254, A40, H⟩ := H
  replace H : (if t254 = 0 then ((railplanref1_marks.f k a0 l1).bind fun t255 => ((railplanref1_marks.f k a0 l2).bind fun t258 => (railplanref1_Intersect.l0 k a0 t255 t258 0))) else (some (([] : List (S35)), t254))) = some (r1, r2) := H
  have A4 := Aside0.mk A40
  clear A40
  by_cases c5 : t254 = 0
  · rw [if_pos c5] at H
    have c5b0 : (t254 == 0) = true := beq_iff_eq.mpr c5
    have c5b1 : (t254 != 0) = false := bne_eq_false_iff_eq.mpr c5
    clear c5
    replace H := Option.bind_eq_some_iff.mp H
    obtain ⟨t255, A60, H⟩ := H
    replace H : ((railplanref1_marks.f k a0 l2).bind fun t258 => (railplanref1_Intersect.l0 k a0 t255 t258 0)) = some (r1, r2) := H
    have A6 := Aside0.mk A60
    clear A60
    replace H := Option.bind_eq_some_iff.mp H
    obtain ⟨t258, A70, H⟩ := H
    replace H : (railplanref1_Intersect.l0 k a0 t255 t258 0) = some (r1, r2) := H
    have A7 := Aside0.mk A70
    clear A70
    have H' := Aside0.mk H
    clear H
    go_enter Try.func38, Try.ntmps38
    go_wp2_with (first | ((with_reducible refine gate_callee (f := 48) rfl ?_); refine goesL_ (some 15) rfl rfl Try.func48 (by kernel_rfl) rfl #[.int .i64 a0, .slice A1 l1.length c1, .slice A2 l2.length c2] rfl (by (try simp only [List.map_toArray, List.map_cons, List.map_nil]); first | done | rfl | (simp only [List.length_drop, List.length_take]; rfl)) ?_; (with_reducible refine (railplanref1_bad.calls k a0 _ _ l1 _ _ l2 t254 _ ?side1 ?side2 ?side3 ?side4 A4.out).mono ?_); (case side1 => repeat (first | exact HR1.out | (with_reducible refine Kd.C_alloc ?_ _) | (with_reducible refine Kd.C_drewN ?_ _) | (with_reducible refine Kd.C_drew ?_))); (case side2 => exact HC1.out); (case side3 => repeat (first | exact HR2.out | (with_reducible refine Kd.C_alloc ?_ _) | (with_reducible refine Kd.C_drewN ?_ _) | (with_reducible refine Kd.C_drew ?_))); (case side4 => exact HC2.out); rintro e w' ⟨rfl, ⟨nd, rfl⟩⟩; refine ⟨_, rfl, ?_⟩) | ((with_reducible refine gate_callee (f := 52) rfl ?_); refine goesL_ (some 21) rfl rfl Try.func52 (by kernel_rfl) rfl #[.int .i64 a0, .slice A1 l1.length c1] rfl (by (try simp only [List.map_toArray, List.map_cons, List.map_nil]); first | done | rfl | (simp only [List.length_drop, List.length_take]; rfl)) ?_; (with_reducible refine (railplanref1_marks.calls k a0 _ _ l1 t255 _ ?side1 ?side2 A6.out).mono ?_); (case side1 => repeat (first | exact HR1.out | (with_reducible refine Kd.C_alloc ?_ _) | (with_reducible refine Kd.C_drewN ?_ _) | (with_reducible refine Kd.C_drew ?_))); (case side2 => exact HC1.out); rintro e w8 ⟨v256, rfl, ho0, hb⟩; refine ⟨_, rfl, ?_⟩; have n0_ := Aside0.mk (Kd.R_lower ho0 (below_size (by repeat (first | (with_reducible first | exact HB.out | apply below_alloc | apply pw_below_drewN | apply below_drew1) | exact HB.out)))); have n1_ := Aside0.mk (below_step (by repeat (first | (with_reducible first | exact HB.out | apply below_alloc | apply pw_below_drewN | apply below_drew1) | exact HB.out)) hb); clear HB; have HO257 := n0_; have HB := n1_; clear n0_ n1_; (try clear hb); (try clear hb2); (try clear hk); (try clear hi); (try clear ho0)) | ((with_reducible refine gate_callee (f := 52) rfl ?_); refine goesL_ (some 24) rfl rfl Try.func52 (by kernel_rfl) rfl #[.int .i64 a0, .slice A2 l2.length c2] rfl (by (try simp only [List.map_toArray, List.map_cons, List.map_nil]); first | done | rfl | (simp only [List.length_drop, List.length_take]; rfl)) ?_; (with_reducible refine (railplanref1_marks.calls k a0 _ _ l2 t258 _ ?side1 ?side2 A7.out).mono ?_); (case side1 => repeat (first | exact (Kd.C_below HR2.out HB.out) | (with_reducible refine Kd.C_alloc ?_ _) | (with_reducible refine Kd.C_drewN ?_ _) | (with_reducible refine Kd.C_drew ?_))); (case side2 => exact HC2.out); rintro e w9 ⟨v259, rfl, ho0, hb⟩; refine ⟨_, rfl, ?_⟩; have n0_ := Aside0.mk (Kd.R_elder' (by (with_reducible repeat (first | apply Kd.R_alloc | apply Kd.R_drewN | apply Kd.R_drew)); exact HO257.out) (Kd.R_base ho0) hb); have n1_ := Aside0.mk (Kd.R_lower (Kd.R_new' ho0 (Kd.R_lt (by (with_reducible repeat (first | apply Kd.R_alloc | apply Kd.R_drewN | apply Kd.R_drew)); exact HO257.out))) (below_size (by repeat (first | (with_reducible first | exact HB.out | apply below_alloc | apply pw_below_drewN | apply below_drew1) | exact HB.out)))); have n2_ := Aside0.mk (below_step (by repeat (first | (with_reducible first | exact HB.out | apply below_alloc | apply pw_below_drewN | apply below_drew1) | exact HB.out)) hb); clear HO257; clear HB; have HO257 := n0_; have HO260 := n1_; have HB := n2_; clear n0_ n1_ n2_; (try clear hb); (try clear hb2); (try clear hk); (try clear hi); (try clear ho0)))
    go_loopg [11] k (fun kq v11 w' => ∃ (x9_1 : List Bool) (x11_1 : Int), v11 = .int .i64 x11_1 ∧ Aside0 (railplanref1_Intersect.l0 kq a0 x9_1 t258 x11_1 = some (r1, r2)) ∧ Aside0 (kq ≤ k) ∧ Aside0 (Kd.R Kd.bool 4 w' w.heap.size (fun k_ => some k_ ≠ (v259 : Value).ownBlock) v256 x9_1) ∧ Aside0 (Kd.R Kd.bool 4 w' w.heap.size (fun k_ => some k_ ≠ (v256 : Value).ownBlock) v259 t258) ∧ Aside0 (Below w.heap.size w w'))
    case atStart => exact ⟨(t255), (0), (by first | rfl | (simp; done) | (simp [*]; done)), H', ⟨Nat.le_refl _⟩, ⟨by (with_reducible repeat (first | apply Kd.R_alloc | apply Kd.R_drewN | apply Kd.R_drew)); exact Kd.R_mono HO257.out (fun _ hk => hk.2)⟩, ⟨by (with_reducible repeat (first | apply Kd.R_alloc | apply Kd.R_drewN | apply Kd.R_drew)); exact Kd.R_mono HO260.out (fun _ hk => hk.2)⟩, ⟨by repeat (first | (with_reducible first | exact HB.out | apply below_alloc | apply pw_below_drewN | apply below_drew1) | exact HB.out)⟩⟩
    case round =>
      clear H'
      try clear c1
      try clear c2
      try clear p2
      try clear c3
      try clear c4
      try clear c5
      try clear c5b0
      try clear c5b1
      obtain ⟨x9_1, x11_1, rfl, HA, HK1, HO_9, HO_10, HB⟩ := hrel
      cases gk with
      | zero => exact absurd HA.out (by simp [railplanref1_Intersect.l0])
      | succ k1 =>
        have H := HA.out
        clear HA
        simp only [railplanref1_Intersect.l0] at H
        by_cases c10 : x11_1 < a0
        · rw [if_pos c10] at H
          have c10b0 : decide (x11_1 < a0) = true := decide_eq_true c10
          clear c10
          by_cases c11 : 0 ≤ x11_1
          · rw [if_pos c11] at H
            have c11b0 : decide (0 ≤ x11_1) = true := decide_eq_true c11
            clear c11
            by_cases c12 : x11_1 < (x9_1.length : Int)
            · rw [if_pos c12] at H
              have c12b0 : decide (x11_1 < (x9_1.length : Int)) = true := decide_eq_true c12
              clear c12
              obtain ⟨bq13, hbq13⟩ : ∃ b_ : Bool, b_ = (rdOf false x9_1 x11_1) := ⟨_, rfl⟩
              replace H : (if bq13 = true then (if x11_1 < (t258.length : Int) then (railplanref1_Intersect.l0 k1 a0 (x9_1.set (x11_1 : Int).toNat (rdOf false t258 x11_1)) t258 (wrap64 (x11_1 + 1))) else (none)) else (railplanref1_Intersect.l0 k1 a0 (x9_1.set (x11_1 : Int).toNat false) t258 (wrap64 (x11_1 + 1)))) = some (r1, r2) := by rw [← hbq13] at H; exact H
              have Nbq13 := Aside0.mk hbq13
              clear hbq13
              by_cases c14 : bq13 = true
              · subst c14
                have H1 : (if x11_1 < (t258.length : Int) then (railplanref1_Intersect.l0 k1 a0 (x9_1.set (x11_1 : Int).toNat (rdOf false t258 x11_1)) t258 (wrap64 (x11_1 + 1))) else (none)) = some (r1, r2) := by rw [if_pos rfl] at H; exact H
                clear H
                have H := H1
                clear H1
                by_cases c15 : x11_1 < (t258.length : Int)
                · rw [if_pos c15] at H
                  have c15b0 : decide (x11_1 < (t258.length : Int)) = true := decide_eq_true c15
                  clear c15
                  obtain ⟨y263, hy263⟩ : ∃ y_ : List Bool, y_ = (x9_1.set (x11_1 : Int).toNat (rdOf false t258 x11_1)) := ⟨_, rfl⟩
                  replace H : (railplanref1_Intersect.l0 k1 a0 y263 t258 (wrap64 (x11_1 + 1))) = some (r1, r2) := by first | (rw [hy263]; with_reducible exact H) | (have H2_ := (Option.bind_some _ _).symm.trans H; rw [hy263]; with_reducible exact H2_) | (have H2_ := (Option.bind_some _ _).symm.trans H; with_reducible exact H2_) | with_reducible exact H | (rw [hy263]; exact H) | exact H
                  have Ny263 := Aside0.mk hy263
                  clear hy263
                  have H' := Aside0.mk H
                  clear H
                  obtain ⟨Ao17, co17, eo17⟩ := Kd.R_slice HO_9.out
                  subst eo17
                  have p261 : 0 ≤ (x11_1 : Int) := of_decide_eq_true (by first | (with_reducible assumption) | assumption)
                  have q261 : x11_1 < (x9_1.length : Int) := of_decide_eq_true (by first | (with_reducible assumption) | assumption)
                  obtain ⟨ad261, e261, hx261_0⟩ := Kd.at_bool (Kd.R_reads' HO_9.out).2.2 x11_1 p261 q261
                  (try rw [← Nbq13.out] at hx261_0)
                  cases e261
                  replace p261 := eq_true p261
                  replace q261 := eq_true q261
                  obtain ⟨Ao18, co18, eo18⟩ := Kd.R_slice HO_10.out
                  subst eo18
                  have p262 : 0 ≤ (x11_1 : Int) := of_decide_eq_true (by first | (with_reducible assumption) | assumption)
                  have q262 : x11_1 < (t258.length : Int) := of_decide_eq_true (by first | (with_reducible assumption) | assumption)
                  obtain ⟨ad262, e262, hx262_0⟩ := Kd.at_bool (Kd.R_reads' HO_10.out).2.2 x11_1 p262 q262
                  (try rw [← Nbq13.out] at hx262_0)
                  cases e262
                  replace p262 := eq_true p262
                  replace q262 := eq_true q262
                  have p16 : 0 ≤ (x11_1 : Int) := of_decide_eq_true (by first | (with_reducible assumption) | assumption)
                  have q16 : (x11_1 : Int) < ((x9_1.length : Int) : Int) := of_decide_eq_true (by first | (with_reducible assumption) | assumption)
                  obtain ⟨go16, co16, eo16, gb16, gl16, cl16, HG16⟩ := Kd.R_form HO_9.out (by omega)
                  (first | cases eo16 | (injection eo16 with ea_ en_ ec_; (first | subst ea_ | (injection ea_ with ea_; subst ea_)); subst ec_; clear en_))
                  have GB16 := Aside0.mk gb16
                  have GG16 := Aside0.mk HG16
                  clear gb16 gl16 HG16
                  (first | simp only [add_plain] at hx261_0 | skip)
                  obtain ⟨hx16_0, hf16_0⟩ := Kd.R_celln false HO_9.out (x11_1 : Int) p16 q16
                  replace p16 := eq_true p16
                  replace q16 := eq_true q16
                  have HP19 := Kd.R_putg HO_9.out (x11_1 : Int) (rdOf false t258 x11_1)
                  go_wp2_with (first | ((with_reducible refine gate_store (t := 4) (p := 42) rfl ?_); refine store_event (t := 4) (p := 42) (v := ?vo_w20) (w1 := (wr.setCell ⟨go16, (x11_1 : Int).toNat, none⟩ (.bool (rdOf false t258 x11_1)))) ?hg ?ho ?hn ?hr ?_; (case ho => rfl); (case hg => rfl); (case hn => rfl); (case hr => first | (go_simp; done) | (go_simp; rfl)); intro w20 hw; have hg : wr.grownBy w20 (some go16) := (by rw [hw]; exact HP19.2); have hp_ : Kd.R Kd.bool 4 w20 w.heap.size (fun k_ => some k_ ≠ (.slice (some ad262) t258.length co18 : Value).ownBlock) (.slice (some ⟨go16, 0, none⟩) x9_1.length co17) y263 := (by rw [hw, Ny263.out]; exact HP19.1); clear HP19; have n0_ := Aside0.mk (hp_); have n1_ := Aside0.mk (Kd.R_after (v := (.slice (some ⟨go16, 0, none⟩) x9_1.length co17)) (v1 := (.slice (some ⟨go16, 0, none⟩) x9_1.length co17)) (ok := (fun _ => True)) (by (with_reducible repeat (first | apply Kd.R_alloc | apply Kd.R_drewN | apply Kd.R_drew)); exact Kd.R_mono HO_10.out (fun _ hk => ⟨trivial, hk⟩)) hg (.inl rfl)); have n2_ := Aside0.mk ((by rw [hw]; exact below_set (HB.out) GB16.out : Below w.heap.size w w20)); clear HO_9; clear HO_10; clear HB; have HO_9 := n0_; have HO_10 := n1_; have HB := n2_; clear n0_ n1_ n2_; clear hg hw hp_))
                  go_roundg k1
                  case measure => have := HK1.out; omega
                  case rel => exact ⟨(y263), (wrap64 (x11_1 + 1)), (by first | rfl | (simp; done) | (simp [*]; done)), H', ⟨by have := HK1.out; omega⟩, ⟨by (with_reducible repeat (first | apply Kd.R_alloc | apply Kd.R_drewN | apply Kd.R_drew)); exact HO_9.out⟩, ⟨by (with_reducible repeat (first | apply Kd.R_alloc | apply Kd.R_drewN | apply Kd.R_drew)); exact Kd.R_mono HO_10.out (fun _ hk => hk.2)⟩, ⟨by repeat (first | (with_reducible first | exact HB.out | apply below_alloc | apply pw_below_drewN | apply below_drew1) | exact HB.out)⟩⟩
                · rw [if_neg c15] at H
                  exact absurd H (by simp)
              · replace c14 := Bool.eq_false_iff.mpr c14
                subst c14
                have H1 : (railplanref1_Intersect.l0 k1 a0 (x9_1.set (x11_1 : Int).toNat false) t258 (wrap64 (x11_1 + 1))) = some (r1, r2) := by rw [if_neg (show ¬ (false = true) by decide)] at H; exact H
                clear H
                have H := H1
                clear H1
                obtain ⟨y264, hy264⟩ : ∃ y_ : List Bool, y_ = (x9_1.set (x11_1 : Int).toNat false) := ⟨_, rfl⟩
                replace H : (railplanref1_Intersect.l0 k1 a0 y264 t258 (wrap64 (x11_1 + 1))) = some (r1, r2) := by first | (rw [hy264]; with_reducible exact H) | (have H2_ := (Option.bind_some _ _).symm.trans H; rw [hy264]; with_reducible exact H2_) | (have H2_ := (Option.bind_some _ _).symm.trans H; with_reducible exact H2_) | with_reducible exact H | (rw [hy264]; exact H) | exact H
                have Ny264 := Aside0.mk hy264
                clear hy264
                have H' := Aside0.mk H
                clear H
                obtain ⟨Ao22, co22, eo22⟩ := Kd.R_slice HO_9.out
                subst eo22
                have p261 : 0 ≤ (x11_1 : Int) := of_decide_eq_true (by first | (with_reducible assumption) | assumption)
                have q261 : x11_1 < (x9_1.length : Int) := of_decide_eq_true (by first | (with_reducible assumption) | assumption)
                obtain ⟨ad261, e261, hx261_0⟩ := Kd.at_bool (Kd.R_reads' HO_9.out).2.2 x11_1 p261 q261
                (try rw [← Nbq13.out] at hx261_0)
                cases e261
                replace p261 := eq_true p261
                replace q261 := eq_true q261
                have p21 : 0 ≤ (x11_1 : Int) := of_decide_eq_true (by first | (with_reducible assumption) | assumption)
                have q21 : (x11_1 : Int) < ((x9_1.length : Int) : Int) := of_decide_eq_true (by first | (with_reducible assumption) | assumption)
                obtain ⟨go21, co21, eo21, gb21, gl21, cl21, HG21⟩ := Kd.R_form HO_9.out (by omega)
                (first | cases eo21 | (injection eo21 with ea_ en_ ec_; (first | subst ea_ | (injection ea_ with ea_; subst ea_)); subst ec_; clear en_))
                have GB21 := Aside0.mk gb21
                have GG21 := Aside0.mk HG21
                clear gb21 gl21 HG21
                (first | simp only [add_plain] at hx261_0 | skip)
                obtain ⟨hx21_0, hf21_0⟩ := Kd.R_celln false HO_9.out (x11_1 : Int) p21 q21
                replace p21 := eq_true p21
                replace q21 := eq_true q21
                have HP23 := Kd.R_putg HO_9.out (x11_1 : Int) false
                go_wp2_with (first | ((with_reducible refine gate_store (t := 4) (p := 42) rfl ?_); refine store_event (t := 4) (p := 42) (v := ?vo_w24) (w1 := (wr.setCell ⟨go21, (x11_1 : Int).toNat, none⟩ (.bool false))) ?hg ?ho ?hn ?hr ?_; (case ho => rfl); (case hg => rfl); (case hn => rfl); (case hr => first | (go_simp; done) | (go_simp; rfl)); intro w24 hw; have hg : wr.grownBy w24 (some go21) := (by rw [hw]; exact HP23.2); have hp_ : Kd.R Kd.bool 4 w24 w.heap.size (fun k_ => some k_ ≠ (v259 : Value).ownBlock) (.slice (some ⟨go21, 0, none⟩) x9_1.length co22) y264 := (by rw [hw, Ny264.out]; exact HP23.1); clear HP23; have n0_ := Aside0.mk (hp_); have n1_ := Aside0.mk (Kd.R_after (v := (.slice (some ⟨go21, 0, none⟩) x9_1.length co22)) (v1 := (.slice (some ⟨go21, 0, none⟩) x9_1.length co22)) (ok := (fun _ => True)) (by (with_reducible repeat (first | apply Kd.R_alloc | apply Kd.R_drewN | apply Kd.R_drew)); exact Kd.R_mono HO_10.out (fun _ hk => ⟨trivial, hk⟩)) hg (.inl rfl)); have n2_ := Aside0.mk ((by rw [hw]; exact below_set (HB.out) GB21.out : Below w.heap.size w w24)); clear HO_9; clear HO_10; clear HB; have HO_9 := n0_; have HO_10 := n1_; have HB := n2_; clear n0_ n1_ n2_; clear hg hw hp_))
                go_roundg k1
                case measure => have := HK1.out; omega
                case rel => exact ⟨(y264), (wrap64 (x11_1 + 1)), (by first | rfl | (simp; done) | (simp [*]; done)), H', ⟨by have := HK1.out; omega⟩, ⟨by (with_reducible repeat (first | apply Kd.R_alloc | apply Kd.R_drewN | apply Kd.R_drew)); exact HO_9.out⟩, ⟨by (with_reducible repeat (first | apply Kd.R_alloc | apply Kd.R_drewN | apply Kd.R_drew)); exact Kd.R_mono HO_10.out (fun _ hk => hk.2)⟩, ⟨by repeat (first | (with_reducible first | exact HB.out | apply below_alloc | apply pw_below_drewN | apply below_drew1) | exact HB.out)⟩⟩
            · rw [if_neg c12] at H
              exact absurd H (by simp)
          · rw [if_neg c11] at H
            exact absurd H (by simp)
        · rw [if_neg c10] at H
          have c10b0 : decide (x11_1 < a0) = false := decide_eq_false c10
          clear c10
          replace H := Option.bind_eq_some_iff.mp H
          obtain ⟨t265, A250, H⟩ := H
          replace H : (some (t265, 0)) = some (r1, r2) := H
          have A25 := Aside0.mk A250
          clear A250
          simp only [Option.some.injEq, Prod.mk.injEq] at H
          obtain ⟨rfl, rfl⟩ := H
          obtain ⟨Ao26, co26, eo26⟩ := Kd.R_slice HO_9.out
          subst eo26
          go_wp2_with (first | ((with_reducible refine gate_callee (f := 50) rfl ?_); refine goesL_ (some 44) rfl rfl Try.func50 (by kernel_rfl) rfl #[.slice Ao26 x9_1.length co26] rfl (by (try simp only [List.map_toArray, List.map_cons, List.map_nil]); first | done | rfl | (simp only [List.length_drop, List.length_take]; rfl)) ?_; (with_reducible refine (railplanref1_spans.calls k1 _ _ x9_1 t265 _ ?side1 ?side2 A25.out).mono ?_); (case side1 => repeat (first | exact (Kd.R_reads' HO_9.out).2.2 | (with_reducible refine Kd.C_alloc ?_ _) | (with_reducible refine Kd.C_drewN ?_ _) | (with_reducible refine Kd.C_drew ?_))); (case side2 => exact (Kd.R_reads' HO_9.out).2.1); rintro e w27 ⟨v266, rfl, ho0, hb⟩; refine ⟨_, rfl, ?_⟩; have n0_ := Aside0.mk (Kd.R_below (by (with_reducible repeat (first | apply Kd.R_alloc | apply Kd.R_drewN | apply Kd.R_drew)); exact HO_9.out) hb); have n1_ := Aside0.mk (Kd.R_below (by (with_reducible repeat (first | apply Kd.R_alloc | apply Kd.R_drewN | apply Kd.R_drew)); exact HO_10.out) hb); have n2_ := Aside0.mk (Kd.R_lower ho0 (below_size (by repeat (first | (with_reducible first | exact HB.out | apply below_alloc | apply pw_below_drewN | apply below_drew1) | exact HB.out)))); have n3_ := Aside0.mk (below_step (by repeat (first | (with_reducible first | exact HB.out | apply below_alloc | apply pw_below_drewN | apply below_drew1) | exact HB.out)) hb); clear HO_9; clear HO_10; clear HB; have HO_9 := n0_; have HO_10 := n1_; have HO267 := n2_; have HB := n3_; clear n0_ n1_ n2_ n3_; (try clear hb); (try clear hb2); (try clear hk); (try clear hi); (try clear ho0)))
          go_ret2
          exact ⟨_, by first | rfl | (simp [errW_none, errW_some] <;> rfl) | (simp [*, errW_none, errW_some] <;> rfl), by (with_reducible repeat (first | apply Kd.R_alloc | apply Kd.R_drewN | apply Kd.R_drew)); exact HO267.out, by repeat (first | (with_reducible first | exact HB.out | apply below_alloc | apply pw_below_drewN | apply below_drew1) | exact HB.out)⟩
  · rw [if_neg c5] at H
    have c5b0 : (t254 == 0) = false := beq_eq_false_iff_ne.mpr c5
    have c5b1 : (t254 != 0) = true := bne_iff_ne.mpr c5
    simp only [Option.some.injEq, Prod.mk.injEq] at H
    obtain ⟨rfl, rfl⟩ := H
    go_enter Try.func38, Try.ntmps38
    go_wp2_with (first | ((with_reducible refine gate_callee (f := 48) rfl ?_); refine goesL_ (some 15) rfl rfl Try.func48 (by kernel_rfl) rfl #[.int .i64 a0, .slice A1 l1.length c1, .slice A2 l2.length c2] rfl (by (try simp only [List.map_toArray, List.map_cons, List.map_nil]); first | done | rfl | (simp only [List.length_drop, List.length_take]; rfl)) ?_; (with_reducible refine (railplanref1_bad.calls k a0 _ _ l1 _ _ l2 t254 _ ?side1 ?side2 ?side3 ?side4 A4.out).mono ?_); (case side1 => repeat (first | exact HR1.out | (with_reducible refine Kd.C_alloc ?_ _) | (with_reducible refine Kd.C_drewN ?_ _) | (with_reducible refine Kd.C_drew ?_))); (case side2 => exact HC1.out); (case side3 => repeat (first | exact HR2.out | (with_reducible refine Kd.C_alloc ?_ _) | (with_reducible refine Kd.C_drewN ?_ _) | (with_reducible refine Kd.C_drew ?_))); (case side4 => exact HC2.out); rintro e w' ⟨rfl, ⟨nd, rfl⟩⟩; refine ⟨_, rfl, ?_⟩))
    go_ret2
    exact ⟨_, by first | rfl | (simp [errW_none, errW_some] <;> rfl) | (simp [*, errW_none, errW_some] <;> rfl), by first | exact Kd.R_nil _ _ _ _ _ | exact Kd.N_nil _ _ _ _ _ | exact Kd.V_nil _ _ _ _ _ | exact Kd.Q_nil _ _ _ _ _ | exact Kd.S_nil _ _ _ _ _, by repeat (first | (with_reducible first | exact HB.out | apply below_alloc | apply pw_below_drewN | apply below_drew1) | exact HB.out)⟩

/-! ### railplanref1_Complement: function 39 -/
def railplanref1_Complement.l0 : Nat → Int → List Bool → Int → Option ((List (S35)) × Int)
  | 0, _, _, _ => none
  | k + 1, x0, x7, x8 => if x8 < x0 then (if 0 ≤ x8 then (if x8 < (x7.length : Int) then (railplanref1_Complement.l0 k x0 (x7.set (x8 : Int).toNat (!(rdOf false x7 x8))) (wrap64 (x8 + 1))) else (none)) else (none)) else ((railplanref1_spans.f k x7).bind fun t274 => (some (t274, 0)))
def railplanref1_Complement.f (k : Nat) (a0 : Int) (l1 : List (S35)) : Option ((List (S35)) × Int) := (railplanref1_bad.f k a0 l1 ([] : List (S35))).bind fun t268 => (if t268 = 0 then ((railplanref1_marks.f k a0 l1).bind fun t269 => (railplanref1_Complement.l0 k a0 t269 0)) else (some (([] : List (S35)), t268)))
theorem railplanref1_Complement.mono_l : ∀ k, (∀ y0 y1 y2, LeO (railplanref1_Complement.l0 k y0 y1 y2) (railplanref1_Complement.l0 (k + 1) y0 y1 y2))
  | 0 => fun _ _ _ r h => by simp [railplanref1_Complement.l0] at h
  | k + 1 => by
    have ih0 := railplanref1_Complement.mono_l k
    · intro y0 y1 y2
      unfold railplanref1_Complement.l0
      repeat' first
      | (with_reducible exact ih0 _ _ _)
      | (with_reducible exact railplanref1_bad.mono _ _ _ _)
      | (with_reducible exact railplanref1_marks.mono _ _ _)
      | (with_reducible exact railplanref1_spans.mono _ _)
      | (with_reducible exact LeO.refl _)
      | (with_reducible exact LeO.none _)
      | (with_reducible refine LeO.ite ?_ ?_)
      | (with_reducible refine LeO.bind ?_ (fun _ => ?_))
      | exact ih0 _ _ _
      | exact railplanref1_bad.mono _ _ _ _
      | exact railplanref1_marks.mono _ _ _
      | exact railplanref1_spans.mono _ _
      | exact LeO.none _
      | refine LeO.ite ?_ ?_
      | refine LeO.bind ?_ (fun _ => ?_)
theorem railplanref1_Complement.mono : ∀ a0 a1 k, LeO (railplanref1_Complement.f k a0 a1) (railplanref1_Complement.f (k + 1) a0 a1) := by
  intro a0 a1 k
  have ih0 := railplanref1_Complement.mono_l k
  unfold railplanref1_Complement.f
  repeat' first
      | (with_reducible exact ih0 _ _ _)
      | (with_reducible exact railplanref1_bad.mono _ _ _ _)
      | (with_reducible exact railplanref1_marks.mono _ _ _)
      | (with_reducible exact railplanref1_spans.mono _ _)
      | (with_reducible exact LeO.refl _)
      | (with_reducible exact LeO.none _)
      | (with_reducible refine LeO.ite ?_ ?_)
      | (with_reducible refine LeO.bind ?_ (fun _ => ?_))
      | exact ih0 _ _ _
      | exact railplanref1_bad.mono _ _ _ _
      | exact railplanref1_marks.mono _ _ _
      | exact railplanref1_spans.mono _ _
      | exact LeO.none _
      | refine LeO.ite ?_ ?_
      | refine LeO.bind ?_ (fun _ => ?_)
set_option maxHeartbeats 8000000 in
set_option maxRecDepth 100000 in
theorem railplanref1_Complement.calls (k : Nat) (a0 : Int) (A1 : Option Addr) (c1 : Nat) (l1 : List (S35)) (r1 : List (S35)) (r2 : Int) (w : World) (hr1 : Kd.C k35 w A1 l1.length l1) (hc1 : l1.length ≤ c1) (h : railplanref1_Complement.f k a0 l1 = some (r1, r2)) :
    Calls Try.prog 39 #[.int .i64 a0, .slice A1 l1.length c1] w fun e w' => ∃ v0_ : Value, e = .returned (.tuple #[v0_, .int .i64 r2]) ∧ Kd.R k35 35 w' w.heap.size (fun _ => True) v0_ r1 ∧ Below w.heap.size w w' := by
  have HR1 := Aside0.mk hr1
  have HC1 := Aside0.mk hc1
  clear hr1 hc1
  have HB := Aside0.mk (Below.refl w.heap.size w)
  have H : ((railplanref1_bad.f k a0 l1 ([] : List (S35))).bind fun t268 => (if t268 = 0 then ((railplanref1_marks.f k a0 l1).bind fun t269 => (railplanref1_Complement.l0 k a0 t269 0)) else (some (([] : List (S35)), t268)))) = some (r1, r2) := h
  clear h
  replace H := Option.bind_eq_some_iff.mp H
  obtain ⟨t268, A30, H⟩ := H
  replace H : (if t268 = 0 then ((railplanref1_marks.f k a0 l1).bind fun t269 => (railplanref1_Complement.l0 k a0 t269 0)) else (some (([] : List (S35)), t268))) = some (r1, r2) := H
  have A3 := Aside0.mk A30
  clear A30
  by_cases c4 : t268 = 0
  · rw [if_pos c4] at H
    have c4b0 : (t268 == 0) = true := beq_iff_eq.mpr c4
    have c4b1 : (t268 != 0) = false := bne_eq_false_iff_eq.mpr c4
    clear c4
    replace H := Option.bind_eq_some_iff.mp H
    obtain ⟨t269, A50, H⟩ := H
    replace H : (railplanref1_Complement.l0 k a0 t269 0) = some (r1, r2) := H
    have A5 := Aside0.mk A50
    clear A50
    have H' := Aside0.mk H
    clear H
    go_enter Try.func39, Try.ntmps39
    go_wp2_with (first | ((with_reducible refine gate_callee (f := 48) rfl ?_); refine goesL_ (some 11) rfl rfl Try.func48 (by kernel_rfl) rfl #[.int .i64 a0, .slice A1 l1.length c1, .slice none 0 0] rfl (by (try simp only [List.map_toArray, List.map_cons, List.map_nil]); first | done | rfl | (simp only [List.length_drop, List.length_take]; rfl)) ?_; (refine (railplanref1_bad.calls k a0 _ _ l1 _ _ ([] : List (S35)) t268 _ ?side1 ?side2 ?side3 ?side4 A3.out).mono ?_); (case side1 => repeat (first | exact HR1.out | (with_reducible refine Kd.C_alloc ?_ _) | (with_reducible refine Kd.C_drewN ?_ _) | (with_reducible refine Kd.C_drew ?_))); (case side2 => exact HC1.out); (case side3 => exact Kd.C_nil _ _); (case side4 => exact Nat.le_refl _); rintro e w' ⟨rfl, ⟨nd, rfl⟩⟩; refine ⟨_, rfl, ?_⟩) | ((with_reducible refine gate_callee (f := 52) rfl ?_); refine goesL_ (some 17) rfl rfl Try.func52 (by kernel_rfl) rfl #[.int .i64 a0, .slice A1 l1.length c1] rfl (by (try simp only [List.map_toArray, List.map_cons, List.map_nil]); first | done | rfl | (simp only [List.length_drop, List.length_take]; rfl)) ?_; (with_reducible refine (railplanref1_marks.calls k a0 _ _ l1 t269 _ ?side1 ?side2 A5.out).mono ?_); (case side1 => repeat (first | exact HR1.out | (with_reducible refine Kd.C_alloc ?_ _) | (with_reducible refine Kd.C_drewN ?_ _) | (with_reducible refine Kd.C_drew ?_))); (case side2 => exact HC1.out); rintro e w6 ⟨v270, rfl, ho0, hb⟩; refine ⟨_, rfl, ?_⟩; have n0_ := Aside0.mk (Kd.R_lower ho0 (below_size (by repeat (first | (with_reducible first | exact HB.out | apply below_alloc | apply pw_below_drewN | apply below_drew1) | exact HB.out)))); have n1_ := Aside0.mk (below_step (by repeat (first | (with_reducible first | exact HB.out | apply below_alloc | apply pw_below_drewN | apply below_drew1) | exact HB.out)) hb); clear HB; have HO271 := n0_; have HB := n1_; clear n0_ n1_; (try clear hb); (try clear hb2); (try clear hk); (try clear hi); (try clear ho0)))
    go_loopg [8] k (fun kq v8 w' => ∃ (x7_1 : List Bool) (x8_1 : Int), v8 = .int .i64 x8_1 ∧ Aside0 (railplanref1_Complement.l0 kq a0 x7_1 x8_1 = some (r1, r2)) ∧ Aside0 (kq ≤ k) ∧ Aside0 (Kd.R Kd.bool 4 w' w.heap.size (fun _ => True) v270 x7_1) ∧ Aside0 (Below w.heap.size w w'))
    case atStart => exact ⟨(t269), (0), (by first | rfl | (simp; done) | (simp [*]; done)), H', ⟨Nat.le_refl _⟩, ⟨by (with_reducible repeat (first | apply Kd.R_alloc | apply Kd.R_drewN | apply Kd.R_drew)); exact HO271.out⟩, ⟨by repeat (first | (with_reducible first | exact HB.out | apply below_alloc | apply pw_below_drewN | apply below_drew1) | exact HB.out)⟩⟩
    case round =>
      clear H'
      try clear c1
      try clear p2
      try clear c3
      try clear c4
      try clear c4b0
      try clear c4b1
      try clear c5
      obtain ⟨x7_1, x8_1, rfl, HA, HK1, HO_7, HB⟩ := hrel
      cases gk with
      | zero => exact absurd HA.out (by simp [railplanref1_Complement.l0])
      | succ k1 =>
        have H := HA.out
        clear HA
        simp only [railplanref1_Complement.l0] at H
        by_cases c7 : x8_1 < a0
        · rw [if_pos c7] at H
          have c7b0 : decide (x8_1 < a0) = true := decide_eq_true c7
          clear c7
          by_cases c8 : 0 ≤ x8_1
          · rw [if_pos c8] at H
            have c8b0 : decide (0 ≤ x8_1) = true := decide_eq_true c8
            clear c8
            by_cases c9 : x8_1 < (x7_1.length : Int)
            · rw [if_pos c9] at H
              have c9b0 : decide (x8_1 < (x7_1.length : Int)) = true := decide_eq_true c9
              clear c9
              obtain ⟨y273, hy273⟩ : ∃ y_ : List Bool, y_ = (x7_1.set (x8_1 : Int).toNat (!(rdOf false x7_1 x8_1))) := ⟨_, rfl⟩
              replace H : (railplanref1_Complement.l0 k1 a0 y273 (wrap64 (x8_1 + 1))) = some (r1, r2) := by first | (rw [hy273]; with_reducible exact H) | (have H2_ := (Option.bind_some _ _).symm.trans H; rw [hy273]; with_reducible exact H2_) | (have H2_ := (Option.bind_some _ _).symm.trans H; with_reducible exact H2_) | with_reducible exact H | (rw [hy273]; exact H) | exact H
              have Ny273 := Aside0.mk hy273
              clear hy273
              have H' := Aside0.mk H
              clear H
              obtain ⟨Ao11, co11, eo11⟩ := Kd.R_slice HO_7.out
              subst eo11
              have p272 : 0 ≤ (x8_1 : Int) := of_decide_eq_true (by first | (with_reducible assumption) | assumption)
              have q272 : x8_1 < (x7_1.length : Int) := of_decide_eq_true (by first | (with_reducible assumption) | assumption)
              obtain ⟨ad272, e272, hx272_0⟩ := Kd.at_bool (Kd.R_reads' HO_7.out).2.2 x8_1 p272 q272
              cases e272
              replace p272 := eq_true p272
              replace q272 := eq_true q272
              have p10 : 0 ≤ (x8_1 : Int) := of_decide_eq_true (by first | (with_reducible assumption) | assumption)
              have q10 : (x8_1 : Int) < ((x7_1.length : Int) : Int) := of_decide_eq_true (by first | (with_reducible assumption) | assumption)
              obtain ⟨go10, co10, eo10, gb10, gl10, cl10, HG10⟩ := Kd.R_form HO_7.out (by omega)
              (first | cases eo10 | (injection eo10 with ea_ en_ ec_; (first | subst ea_ | (injection ea_ with ea_; subst ea_)); subst ec_; clear en_))
              have GB10 := Aside0.mk gb10
              have GG10 := Aside0.mk HG10
              clear gb10 gl10 HG10
              (first | simp only [add_plain] at hx272_0 | skip)
              obtain ⟨hx10_0, hf10_0⟩ := Kd.R_celln false HO_7.out (x8_1 : Int) p10 q10
              replace p10 := eq_true p10
              replace q10 := eq_true q10
              have HP12 := Kd.R_putg HO_7.out (x8_1 : Int) (!(rdOf false x7_1 x8_1))
              go_wp2_with (first | ((with_reducible refine gate_store (t := 4) (p := 30) rfl ?_); refine store_event (t := 4) (p := 30) (v := ?vo_w13) (w1 := (wr.setCell ⟨go10, (x8_1 : Int).toNat, none⟩ (.bool (!(rdOf false x7_1 x8_1))))) ?hg ?ho ?hn ?hr ?_; (case ho => rfl); (case hg => rfl); (case hn => rfl); (case hr => first | (go_simp; done) | (go_simp; rfl)); intro w13 hw; have hg : wr.grownBy w13 (some go10) := (by rw [hw]; exact HP12.2); have hp_ : Kd.R Kd.bool 4 w13 w.heap.size (fun _ => True) (.slice (some ⟨go10, 0, none⟩) x7_1.length co11) y273 := (by rw [hw, Ny273.out]; exact HP12.1); clear HP12; have n0_ := Aside0.mk (hp_); have n1_ := Aside0.mk ((by rw [hw]; exact below_set (HB.out) GB10.out : Below w.heap.size w w13)); clear HO_7; clear HB; have HO_7 := n0_; have HB := n1_; clear n0_ n1_; clear hg hw hp_))
              go_roundg k1
              case measure => have := HK1.out; omega
              case rel => exact ⟨(y273), (wrap64 (x8_1 + 1)), (by first | rfl | (simp; done) | (simp [*]; done)), H', ⟨by have := HK1.out; omega⟩, ⟨by (with_reducible repeat (first | apply Kd.R_alloc | apply Kd.R_drewN | apply Kd.R_drew)); exact HO_7.out⟩, ⟨by repeat (first | (with_reducible first | exact HB.out | apply below_alloc | apply pw_below_drewN | apply below_drew1) | exact HB.out)⟩⟩
            · rw [if_neg c9] at H
              exact absurd H (by simp)
          · rw [if_neg c8] at H
            exact absurd H (by simp)
        · rw [if_neg c7] at H
          have c7b0 : decide (x8_1 < a0) = false := decide_eq_false c7
          clear c7
          replace H := Option.bind_eq_some_iff.mp H
          obtain ⟨t274, A140, H⟩ := H
          replace H : (some (t274, 0)) = some (r1, r2) := H
          have A14 := Aside0.mk A140
          clear A140
          simp only [Option.some.injEq, Prod.mk.injEq] at H
          obtain ⟨rfl, rfl⟩ := H
          obtain ⟨Ao15, co15, eo15⟩ := Kd.R_slice HO_7.out
          subst eo15
          go_wp2_with (first | ((with_reducible refine gate_callee (f := 50) rfl ?_); refine goesL_ (some 32) rfl rfl Try.func50 (by kernel_rfl) rfl #[.slice Ao15 x7_1.length co15] rfl (by (try simp only [List.map_toArray, List.map_cons, List.map_nil]); first | done | rfl | (simp only [List.length_drop, List.length_take]; rfl)) ?_; (with_reducible refine (railplanref1_spans.calls k1 _ _ x7_1 t274 _ ?side1 ?side2 A14.out).mono ?_); (case side1 => repeat (first | exact (Kd.R_reads' HO_7.out).2.2 | (with_reducible refine Kd.C_alloc ?_ _) | (with_reducible refine Kd.C_drewN ?_ _) | (with_reducible refine Kd.C_drew ?_))); (case side2 => exact (Kd.R_reads' HO_7.out).2.1); rintro e w16 ⟨v275, rfl, ho0, hb⟩; refine ⟨_, rfl, ?_⟩; have n0_ := Aside0.mk (Kd.R_below (by (with_reducible repeat (first | apply Kd.R_alloc | apply Kd.R_drewN | apply Kd.R_drew)); exact HO_7.out) hb); have n1_ := Aside0.mk (Kd.R_lower ho0 (below_size (by repeat (first | (with_reducible first | exact HB.out | apply below_alloc | apply pw_below_drewN | apply below_drew1) | exact HB.out)))); have n2_ := Aside0.mk (below_step (by repeat (first | (with_reducible first | exact HB.out | apply below_alloc | apply pw_below_drewN | apply below_drew1) | exact HB.out)) hb); clear HO_7; clear HB; have HO_7 := n0_; have HO276 := n1_; have HB := n2_; clear n0_ n1_ n2_; (try clear hb); (try clear hb2); (try clear hk); (try clear hi); (try clear ho0)))
          go_ret2
          exact ⟨_, by first | rfl | (simp [errW_none, errW_some] <;> rfl) | (simp [*, errW_none, errW_some] <;> rfl), by (with_reducible repeat (first | apply Kd.R_alloc | apply Kd.R_drewN | apply Kd.R_drew)); exact HO276.out, by repeat (first | (with_reducible first | exact HB.out | apply below_alloc | apply pw_below_drewN | apply below_drew1) | exact HB.out)⟩
  · rw [if_neg c4] at H
    have c4b0 : (t268 == 0) = false := beq_eq_false_iff_ne.mpr c4
    have c4b1 : (t268 != 0) = true := bne_iff_ne.mpr c4
    simp only [Option.some.injEq, Prod.mk.injEq] at H
    obtain ⟨rfl, rfl⟩ := H
    go_enter Try.func39, Try.ntmps39
    go_wp2_with (first | ((with_reducible refine gate_callee (f := 48) rfl ?_); refine goesL_ (some 11) rfl rfl Try.func48 (by kernel_rfl) rfl #[.int .i64 a0, .slice A1 l1.length c1, .slice none 0 0] rfl (by (try simp only [List.map_toArray, List.map_cons, List.map_nil]); first | done | rfl | (simp only [List.length_drop, List.length_take]; rfl)) ?_; (refine (railplanref1_bad.calls k a0 _ _ l1 _ _ ([] : List (S35)) t268 _ ?side1 ?side2 ?side3 ?side4 A3.out).mono ?_); (case side1 => repeat (first | exact HR1.out | (with_reducible refine Kd.C_alloc ?_ _) | (with_reducible refine Kd.C_drewN ?_ _) | (with_reducible refine Kd.C_drew ?_))); (case side2 => exact HC1.out); (case side3 => exact Kd.C_nil _ _); (case side4 => exact Nat.le_refl _); rintro e w' ⟨rfl, ⟨nd, rfl⟩⟩; refine ⟨_, rfl, ?_⟩))
    go_ret2
    exact ⟨_, by first | rfl | (simp [errW_none, errW_some] <;> rfl) | (simp [*, errW_none, errW_some] <;> rfl), by first | exact Kd.R_nil _ _ _ _ _ | exact Kd.N_nil _ _ _ _ _ | exact Kd.V_nil _ _ _ _ _ | exact Kd.Q_nil _ _ _ _ _ | exact Kd.S_nil _ _ _ _ _, by repeat (first | (with_reducible first | exact HB.out | apply below_alloc | apply pw_below_drewN | apply below_drew1) | exact HB.out)⟩

-- NOT PRINTED: function 11 (railplanlaw2_ResidueSetOperations)

end Go.Proofs.Ytdnileakboefgaa.PResidueSetOperations
