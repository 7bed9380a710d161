-- (printed by the kit's print.py, called by printmany.sh)
import Derived.Test.YtcdldldknfpkjaaPHwx0
import Derived.Test.YtcdldldknfpkjaaPHwx4
import Derived.Test.YtcdldldknfpkjaaPHwx5
import Derived.Test.YtcdldldknfpkjaaPHwx6
namespace Go.Proofs.Ytcdldldknfpkjaa.PHw
open Go.RowKit Go.Proofs.YtcdldldknfpkjaaW.PrintWords Go.Proofs.YtcdldldknfpkjaaW.PrintLast Go.Proofs.YtcdldldknfpkjaaW.PrintMore
attribute [local go_sem] max2_int min2_int max_two min_two max_three min_three max_four min_four   -- for this text's walks alone
set_option linter.unusedVariables false
set_option linter.unusedSimpArgs false

/-! ### railplanref9_Forbidden: function 25 -/
def railplanref9_Forbidden.l0 : Nat → Int → List Bool → List (S47) → Int → Option ((List (S47)) × Int)
  | 0, _, _, _, _ => none
  | k + 1, x0, x8, x10, x11 => if x11 < x0 then (if 0 ≤ x11 then (if x11 < (x8.length : Int) then (if rdOf false x8 x11 = true then (if (x10.length : Int) > 0 then (if 0 ≤ (wrap64 ((x10.length : Int) - 1)) then (if (wrap64 ((x10.length : Int) - 1)) < (x10.length : Int) then (if ((rd_T47 x10 (wrap64 ((x10.length : Int) - 1))).f1) = x11 then (railplanref9_Forbidden.l0 k x0 x8 (x10.set ((wrap64 ((x10.length : Int) - 1)) : Int).toNat (⟨(rd_T47 x10 (wrap64 ((x10.length : Int) - 1))).f0, wrap64 (x11 + 1)⟩ : S47)) (wrap64 (x11 + 1))) else (if x10.length < 8796093022208 then (railplanref9_Forbidden.l0 k x0 x8 (x10 ++ [(⟨x11, wrap64 (x11 + 1)⟩ : S47)]) (wrap64 (x11 + 1))) else (none))) else (none)) else (none)) else (if x10.length < 8796093022208 then (railplanref9_Forbidden.l0 k x0 x8 (x10 ++ [(⟨x11, wrap64 (x11 + 1)⟩ : S47)]) (wrap64 (x11 + 1))) else (none))) else (railplanref9_Forbidden.l0 k x0 x8 x10 (wrap64 (x11 + 1)))) else (none)) else (none)) else (some (x10, 0))
def railplanref9_Forbidden.f (k : Nat) (a0 : Int) (l1 : List (S41)) (l2 : List (S41)) : Option ((List (S47)) × Int) := (railplanref9_forbidden.f k a0 l1 l2).bind fun bt164 => (if bt164.2 = 0 then (railplanref9_Forbidden.l0 k a0 bt164.1 ([] : List (S47)) 0) else (some (([] : List (S47)), bt164.2)))
theorem railplanref9_Forbidden.mono_l : ∀ k, (∀ y0 y1 y2 y3, LeO (railplanref9_Forbidden.l0 k y0 y1 y2 y3) (railplanref9_Forbidden.l0 (k + 1) y0 y1 y2 y3))
  | 0 => fun _ _ _ _ r h => by simp [railplanref9_Forbidden.l0] at h
  | k + 1 => by
    have ih0 := railplanref9_Forbidden.mono_l k
    · intro y0 y1 y2 y3
      unfold railplanref9_Forbidden.l0
      repeat' first
      | (with_reducible exact ih0 _ _ _ _)
      | (with_reducible exact railplanref9_forbidden.mono _ _ _ _)
      | (with_reducible exact LeO.refl _)
      | (with_reducible exact LeO.none _)
      | (with_reducible refine LeO.ite ?_ ?_)
      | (with_reducible refine LeO.bind ?_ (fun _ => ?_))
      | exact ih0 _ _ _ _
      | exact railplanref9_forbidden.mono _ _ _ _
      | exact LeO.none _
      | refine LeO.ite ?_ ?_
      | refine LeO.bind ?_ (fun _ => ?_)
theorem railplanref9_Forbidden.mono : ∀ a0 a1 a2 k, LeO (railplanref9_Forbidden.f k a0 a1 a2) (railplanref9_Forbidden.f (k + 1) a0 a1 a2) := by
  intro a0 a1 a2 k
  have ih0 := railplanref9_Forbidden.mono_l k
  unfold railplanref9_Forbidden.f
  repeat' first
      | (with_reducible exact ih0 _ _ _ _)
      | (with_reducible exact railplanref9_forbidden.mono _ _ _ _)
      | (with_reducible exact LeO.refl _)
      | (with_reducible exact LeO.none _)
      | (with_reducible refine LeO.ite ?_ ?_)
      | (with_reducible refine LeO.bind ?_ (fun _ => ?_))
      | exact ih0 _ _ _ _
      | exact railplanref9_forbidden.mono _ _ _ _
      | exact LeO.none _
      | refine LeO.ite ?_ ?_
      | refine LeO.bind ?_ (fun _ => ?_)
set_option maxHeartbeats 8000000 in
set_option maxRecDepth 100000 in
theorem railplanref9_Forbidden.calls (k : Nat) (a0 : Int) (A1 : Option Addr) (c1 : Nat) (l1 : List (S41)) (A2 : Option Addr) (c2 : Nat) (l2 : List (S41)) (r1 : List (S47)) (r2 : Int) (w : World) (hr1 : Kd.C k41 w A1 l1.length l1) (hc1 : l1.length ≤ c1) (hr2 : Kd.C k41 w A2 l2.length l2) (hc2 : l2.length ≤ c2) (h : railplanref9_Forbidden.f k a0 l1 l2 = some (r1, r2)) :
    Calls Try.prog 25 #[.int .i64 a0, .slice A1 l1.length c1, .slice A2 l2.length c2] w fun e w' => ∃ v0_ : Value, e = .returned (.tuple #[v0_, .int .i64 r2]) ∧ Kd.R k47 47 w' w.heap.size (fun _ => True) v0_ r1 ∧ Below w.heap.size w w' := by
  have hu47 := Try.underlying47
  have HR1 := Aside0.mk hr1
  have HC1 := Aside0.mk hc1
  clear hr1 hc1
  have HR2 := Aside0.mk hr2
  have HC2 := Aside0.mk hc2
  clear hr2 hc2
  have HB := Aside0.mk (Below.refl w.heap.size w)
  have H : ((railplanref9_forbidden.f k a0 l1 l2).bind fun bt164 => (if bt164.2 = 0 then (railplanref9_Forbidden.l0 k a0 bt164.1 ([] : List (S47)) 0) else (some (([] : List (S47)), bt164.2)))) = some (r1, r2) := h
  clear h
  replace H := Option.bind_eq_some_iff.mp H
  obtain ⟨⟨t164, t165⟩, A40, H⟩ := H
  replace H : (if t165 = 0 then (railplanref9_Forbidden.l0 k a0 t164 ([] : List (S47)) 0) else (some (([] : List (S47)), t165))) = some (r1, r2) := H
  have A4 := Aside0.mk A40
  clear A40
  by_cases c5 : t165 = 0
  · rw [if_pos c5] at H
    have c5b0 : (t165 == 0) = true := beq_iff_eq.mpr c5
    have c5b1 : (t165 != 0) = false := bne_eq_false_iff_eq.mpr c5
    clear c5
    have H' := Aside0.mk H
    clear H
    go_enter Try.func25, Try.ntmps25
    go_wp2_with (first | ((with_reducible refine gate_callee (f := 43) rfl ?_); refine goesL_ (some 17) rfl rfl Try.func43 (by kernel_rfl) rfl #[.int .i64 a0, .slice A1 l1.length c1, .slice A2 l2.length c2] rfl (by (try simp only [List.map_toArray, List.map_cons, List.map_nil]); first | done | rfl | (simp only [List.length_drop, List.length_take]; rfl)) ?_; (with_reducible refine (railplanref9_forbidden.calls k a0 _ _ l1 _ _ l2 t164 t165 _ ?side1 ?side2 ?side3 ?side4 A4.out).mono ?_); (case side1 => repeat (first | exact HR1.out | (with_reducible refine Kd.C_alloc ?_ _) | (with_reducible refine Kd.C_drewN ?_ _) | (with_reducible refine Kd.C_drew ?_))); (case side2 => exact HC1.out); (case side3 => repeat (first | exact HR2.out | (with_reducible refine Kd.C_alloc ?_ _) | (with_reducible refine Kd.C_drewN ?_ _) | (with_reducible refine Kd.C_drew ?_))); (case side4 => exact HC2.out); rintro e w6 ⟨v166, rfl, ho0, hb⟩; refine ⟨_, rfl, ?_⟩; have n0_ := Aside0.mk (Kd.R_lower ho0 (below_size (by repeat (first | (with_reducible first | exact HB.out | apply below_alloc | apply pw_below_drewN | apply below_drew1) | exact HB.out)))); have n1_ := Aside0.mk (below_step (by repeat (first | (with_reducible first | exact HB.out | apply below_alloc | apply pw_below_drewN | apply below_drew1) | exact HB.out)) hb); clear HB; have HO167 := n0_; have HB := n1_; clear n0_ n1_; (try clear hb); (try clear hb2); (try clear hk); (try clear hi); (try clear ho0)))
    go_loopg [10, 11] k (fun kq v10 v11 w' => ∃ (x10_1 : List (S47)) (x11_1 : Int), v11 = .int .i64 x11_1 ∧ Aside0 (railplanref9_Forbidden.l0 kq a0 t164 x10_1 x11_1 = some (r1, r2)) ∧ Aside0 (kq ≤ k) ∧ Aside0 (Kd.R Kd.bool 4 w' w.heap.size (fun _ => True) v166 t164) ∧ Aside0 (Kd.R k47 47 w' w.heap.size (fun _ => True) v10 x10_1) ∧ Aside0 (Below w.heap.size w w'))
    case atStart => exact ⟨(([] : List (S47))), (0), (by first | rfl | (simp; done) | (simp [*]; done)), H', ⟨Nat.le_refl _⟩, ⟨by (with_reducible repeat (first | apply Kd.R_alloc | apply Kd.R_drewN | apply Kd.R_drew)); exact HO167.out⟩, ⟨by first | exact Kd.R_nil _ _ _ _ _ | exact Kd.N_nil _ _ _ _ _ | exact Kd.V_nil _ _ _ _ _ | exact Kd.Q_nil _ _ _ _ _ | exact Kd.S_nil _ _ _ _ _⟩, ⟨by repeat (first | (with_reducible first | exact HB.out | apply below_alloc | apply pw_below_drewN | apply below_drew1) | exact HB.out)⟩⟩
    case round =>
      clear H'
      try clear c1
      try clear c2
      try clear p2
      try clear c4
      try clear c5
      try clear c5b0
      try clear c5b1
      obtain ⟨x10_1, x11_1, rfl, HA, HK1, HO_8, HO_10, HB⟩ := hrel
      cases gk with
      | zero => exact absurd HA.out (by simp [railplanref9_Forbidden.l0])
      | succ k1 =>
        have H := HA.out
        clear HA
        simp only [railplanref9_Forbidden.l0] at H
        by_cases c7 : x11_1 < a0
        · rw [if_pos c7] at H
          have c7b0 : decide (x11_1 < a0) = true := decide_eq_true c7
          clear c7
          by_cases c8 : 0 ≤ x11_1
          · rw [if_pos c8] at H
            have c8b0 : decide (0 ≤ x11_1) = true := decide_eq_true c8
            clear c8
            by_cases c9 : x11_1 < (t164.length : Int)
            · rw [if_pos c9] at H
              have c9b0 : decide (x11_1 < (t164.length : Int)) = true := decide_eq_true c9
              clear c9
              obtain ⟨bq10, hbq10⟩ : ∃ b_ : Bool, b_ = (rdOf false t164 x11_1) := ⟨_, rfl⟩
              replace H : (if bq10 = true then (if (x10_1.length : Int) > 0 then (if 0 ≤ (wrap64 ((x10_1.length : Int) - 1)) then (if (wrap64 ((x10_1.length : Int) - 1)) < (x10_1.length : Int) then (if ((rd_T47 x10_1 (wrap64 ((x10_1.length : Int) - 1))).f1) = x11_1 then (railplanref9_Forbidden.l0 k1 a0 t164 (x10_1.set ((wrap64 ((x10_1.length : Int) - 1)) : Int).toNat (⟨(rd_T47 x10_1 (wrap64 ((x10_1.length : Int) - 1))).f0, wrap64 (x11_1 + 1)⟩ : S47)) (wrap64 (x11_1 + 1))) else (if x10_1.length < 8796093022208 then (railplanref9_Forbidden.l0 k1 a0 t164 (x10_1 ++ [(⟨x11_1, wrap64 (x11_1 + 1)⟩ : S47)]) (wrap64 (x11_1 + 1))) else (none))) else (none)) else (none)) else (if x10_1.length < 8796093022208 then (railplanref9_Forbidden.l0 k1 a0 t164 (x10_1 ++ [(⟨x11_1, wrap64 (x11_1 + 1)⟩ : S47)]) (wrap64 (x11_1 + 1))) else (none))) else (railplanref9_Forbidden.l0 k1 a0 t164 x10_1 (wrap64 (x11_1 + 1)))) = some (r1, r2) := by rw [← hbq10] at H; exact H
              have Nbq10 := Aside0.mk hbq10
              clear hbq10
              by_cases c11 : bq10 = true
              · subst c11
                have H1 : (if (x10_1.length : Int) > 0 then (if 0 ≤ (wrap64 ((x10_1.length : Int) - 1)) then (if (wrap64 ((x10_1.length : Int) - 1)) < (x10_1.length : Int) then (if ((rd_T47 x10_1 (wrap64 ((x10_1.length : Int) - 1))).f1) = x11_1 then (railplanref9_Forbidden.l0 k1 a0 t164 (x10_1.set ((wrap64 ((x10_1.length : Int) - 1)) : Int).toNat (⟨(rd_T47 x10_1 (wrap64 ((x10_1.length : Int) - 1))).f0, wrap64 (x11_1 + 1)⟩ : S47)) (wrap64 (x11_1 + 1))) else (if x10_1.length < 8796093022208 then (railplanref9_Forbidden.l0 k1 a0 t164 (x10_1 ++ [(⟨x11_1, wrap64 (x11_1 + 1)⟩ : S47)]) (wrap64 (x11_1 + 1))) else (none))) else (none)) else (none)) else (if x10_1.length < 8796093022208 then (railplanref9_Forbidden.l0 k1 a0 t164 (x10_1 ++ [(⟨x11_1, wrap64 (x11_1 + 1)⟩ : S47)]) (wrap64 (x11_1 + 1))) else (none))) = some (r1, r2) := by rw [if_pos rfl] at H; exact H
                clear H
                have H := H1
                clear H1
                by_cases c12 : (x10_1.length : Int) > 0
                · rw [if_pos c12] at H
                  have c12b0 : decide (0 < (x10_1.length : Int)) = true := decide_eq_true c12
                  have c12b1 : decide (0 < x10_1.length) = true := decide_eq_true (by omega)
                  clear c12
                  obtain ⟨ji13, hji13⟩ : ∃ j_ : Int, (wrap64 ((x10_1.length : Int) - 1)) = j_ := ⟨_, rfl⟩
                  replace H : (if 0 ≤ (ji13) then (if (ji13) < (x10_1.length : Int) then (if ((rd_T47 x10_1 (ji13)).f1) = x11_1 then (railplanref9_Forbidden.l0 k1 a0 t164 (x10_1.set ((ji13) : Int).toNat (⟨(rd_T47 x10_1 (ji13)).f0, wrap64 (x11_1 + 1)⟩ : S47)) (wrap64 (x11_1 + 1))) else (if x10_1.length < 8796093022208 then (railplanref9_Forbidden.l0 k1 a0 t164 (x10_1 ++ [(⟨x11_1, wrap64 (x11_1 + 1)⟩ : S47)]) (wrap64 (x11_1 + 1))) else (none))) else (none)) else (none)) = some (r1, r2) := by first | (rw [hji13] at H; exact H) | (simp only [hji13] at H ⊢; exact H)
                  have hji13w : (IntKind.i64.wrap ((x10_1.length : Int) - 1)) = ji13 := (i64_w _).trans hji13
                  by_cases c14 : 0 ≤ (ji13)
                  · rw [if_pos c14] at H
                    have c14b0 : decide (0 ≤ (ji13)) = true := decide_eq_true c14
                    clear c14
                    by_cases c15 : (ji13) < (x10_1.length : Int)
                    · rw [if_pos c15] at H
                      have c15b0 : decide ((ji13) < (x10_1.length : Int)) = true := decide_eq_true c15
                      clear c15
                      by_cases c16 : ((rd_T47 x10_1 (ji13)).f1) = x11_1
                      · rw [if_pos c16] at H
                        have c16b0 : (((rd_T47 x10_1 (ji13)).f1) == x11_1) = true := beq_iff_eq.mpr c16
                        have c16b1 : (((rd_T47 x10_1 (ji13)).f1) != x11_1) = false := bne_eq_false_iff_eq.mpr c16
                        clear c16
                        obtain ⟨y170, hy170⟩ : ∃ y_ : List (S47), y_ = (x10_1.set ((ji13) : Int).toNat (⟨(rd_T47 x10_1 (ji13)).f0, wrap64 (x11_1 + 1)⟩ : S47)) := ⟨_, rfl⟩
                        replace H : (railplanref9_Forbidden.l0 k1 a0 t164 y170 (wrap64 (x11_1 + 1))) = some (r1, r2) := by first | (rw [hy170]; with_reducible exact H) | (have H2_ := (Option.bind_some _ _).symm.trans H; rw [hy170]; with_reducible exact H2_) | (have H2_ := (Option.bind_some _ _).symm.trans H; with_reducible exact H2_) | with_reducible exact H | (rw [hy170]; exact H) | exact H
                        have Ny170 := Aside0.mk hy170
                        clear hy170
                        have H' := Aside0.mk H
                        clear H
                        obtain ⟨Ao18, co18, eo18⟩ := Kd.R_slice HO_8.out
                        subst eo18
                        have p168 : 0 ≤ (x11_1 : Int) := of_decide_eq_true (by first | (with_reducible assumption) | assumption)
                        have q168 : x11_1 < (t164.length : Int) := of_decide_eq_true (by first | (with_reducible assumption) | assumption)
                        obtain ⟨ad168, e168, hx168_0⟩ := Kd.at_bool (Kd.R_reads' HO_8.out).2.2 x11_1 p168 q168
                        (try rw [← Nbq10.out] at hx168_0)
                        cases e168
                        replace p168 := eq_true p168
                        replace q168 := eq_true q168
                        obtain ⟨Ao19, co19, eo19⟩ := Kd.R_slice HO_10.out
                        subst eo19
                        have p169 : 0 ≤ ((ji13) : Int) := of_decide_eq_true (by first | (with_reducible assumption) | assumption)
                        have q169 : (ji13) < (x10_1.length : Int) := of_decide_eq_true (by first | (with_reducible assumption) | assumption)
                        obtain ⟨ad169, e169, hx169_0, hx169_1⟩ := at_T47 (Kd.R_reads' HO_10.out).2.2 (ji13) p169 q169
                        cases e169
                        replace p169 := eq_true p169
                        replace q169 := eq_true q169
                        have p17 : 0 ≤ ((ji13) : Int) := of_decide_eq_true (by first | (with_reducible assumption) | assumption)
                        have q17 : ((ji13) : Int) < ((x10_1.length : Int) : Int) := of_decide_eq_true (by first | (with_reducible assumption) | assumption)
                        obtain ⟨go17, co17, eo17, gb17, gl17, cl17, HG17⟩ := Kd.R_form HO_10.out (by omega)
                        (first | cases eo17 | (injection eo17 with ea_ en_ ec_; (first | subst ea_ | (injection ea_ with ea_; subst ea_)); subst ec_; clear en_))
                        have GB17 := Aside0.mk gb17
                        have GG17 := Aside0.mk HG17
                        clear gb17 gl17 HG17
                        (first | simp only [add_plain] at hx169_0 | skip)
                        (first | simp only [add_plain] at hx169_1 | skip)
                        obtain ⟨ce17, hcl17, hM17, hcc17, hfr17⟩ := Kd.R_elem HO_10.out z47 ((ji13) : Int) p17 q17
                        obtain rfl := k47_openM hM17
                        have hx17_0 : wr.cell? ⟨go17, ((ji13) : Int).toNat * 2, none⟩ = some (.int .i64 ((rd_T47 x10_1 (ji13)).f0)) := hcc17 0 _ rfl
                        have hx17_1 : wr.cell? ⟨go17, ((ji13) : Int).toNat * 2 + 1, none⟩ = some (.int .i64 ((rd_T47 x10_1 (ji13)).f1)) := hcc17 1 _ rfl
                        have hf17_0 : wr.frozen? ⟨go17, ((ji13) : Int).toNat * 2, none⟩ = false := hfr17 0
                        have hf17_1 : wr.frozen? ⟨go17, ((ji13) : Int).toNat * 2 + 1, none⟩ = false := hfr17 1
                        clear hcl17 hcc17 hfr17 hM17
                        replace p17 := eq_true p17
                        replace q17 := eq_true q17
                        have HX20 := Aside0.mk (show Kd.R k47 47 wr w.heap.size (fun _ => True) (.slice (some ⟨go17, 0, none⟩) x10_1.length co19) x10_1 from (by (with_reducible repeat (first | apply Kd.R_alloc | apply Kd.R_drewN | apply Kd.R_drew)); exact HO_10.out))
                        obtain ⟨ce20, hcl20, hM20, hcc20, hfr20⟩ := Kd.R_elem HX20.out z47 ((ji13) : Int) (of_decide_eq_true (by first | (with_reducible assumption) | assumption)) (by have h_ : ((ji13) : Int) < ((x10_1.length : Int) : Int) := of_decide_eq_true (by first | (with_reducible assumption) | assumption); first | exact h_ | (have e_ := (Kd.R_reads' HO_10.out).1; omega) | simpa using h_)
                        obtain rfl := k47_openM hM20
                        have HP20 := Kd.R_seg HX20.out ((ji13) : Int) (of_decide_eq_true (by first | (with_reducible assumption) | assumption)) (by have h_ : ((ji13) : Int) < ((x10_1.length : Int) : Int) := of_decide_eq_true (by first | (with_reducible assumption) | assumption); first | exact h_ | (have e_ := (Kd.R_reads' HO_10.out).1; omega) | simpa using h_) (seg := [.int .i64 (wrap64 (x11_1 + 1))]) (j := 1) hcl20 hcc20 (show 2 ≤ 2 from by decide) (x' := (⟨(rd_T47 x10_1 (ji13)).f0, wrap64 (x11_1 + 1)⟩ : S47)) (k47_mkM _ _ _ (⟨(rd_T47 x10_1 (ji13)).f0, wrap64 (x11_1 + 1)⟩ : S47) ) (fun _ hk => hk)
                        have hx20_1 := hcc20 1 _ rfl
                        (try simp only [show (k47).sz = 2 from rfl, Nat.mul_one, Nat.add_zero] at hx20_1)
                        have hf20_1 := hfr20 1
                        (try simp only [show (k47).sz = 2 from rfl, Nat.mul_one, Nat.add_zero] at hf20_1)
                        clear hcl20 hcc20 hfr20 hM20
                        go_wp2_with (first | ((with_reducible refine gate_store (t := 3) (p := 53) rfl ?_); refine store_event (t := 3) (p := 53) (v := ?vo_w21) (w1 := (wr.setCell ⟨go17, ((ji13) : Int).toNat * 2 + 1, none⟩ (.int .i64 (wrap64 (x11_1 + 1))))) ?hg ?ho ?hn ?hr ?_; (case ho => rfl); (case hg => rfl); (case hn => rfl); (case hr => first | (go_simp; done) | (go_simp; rfl)); intro w21 hw; have hg : wr.grownBy w21 (some go17) := (by rw [hw]; exact HP20.2); have hp_ : Kd.R k47 47 w21 w.heap.size (fun _ => True) (.slice (some ⟨go17, 0, none⟩) x10_1.length co19) y170 := (by rw [hw, Ny170.out]; exact HP20.1); clear HP20; have n0_ := Aside0.mk (Kd.R_over' (v := (.slice (some ⟨go17, 0, none⟩) x10_1.length co19)) (by (with_reducible repeat (first | apply Kd.R_alloc | apply Kd.R_drewN | apply Kd.R_drew)); exact HO_8.out) (Kd.R_typed HO_10.out) (by decide) hg); have n1_ := Aside0.mk (hp_); have n2_ := Aside0.mk ((by rw [hw]; exact below_set (HB.out) GB17.out : Below w.heap.size w w21)); clear HO_8; clear HO_10; clear HB; have HO_8 := n0_; have HO_10 := n1_; have HB := n2_; clear n0_ n1_ n2_; clear hg hw hp_))
                        go_roundg k1
                        case measure => have := HK1.out; omega
                        case rel => exact ⟨(y170), (wrap64 (x11_1 + 1)), (by first | rfl | (simp; done) | (simp [*]; done)), H', ⟨by have := HK1.out; omega⟩, ⟨by (with_reducible repeat (first | apply Kd.R_alloc | apply Kd.R_drewN | apply Kd.R_drew)); exact HO_8.out⟩, ⟨by (with_reducible repeat (first | apply Kd.R_alloc | apply Kd.R_drewN | apply Kd.R_drew)); exact HO_10.out⟩, ⟨by repeat (first | (with_reducible first | exact HB.out | apply below_alloc | apply pw_below_drewN | apply below_drew1) | exact HB.out)⟩⟩
                      · rw [if_neg c16] at H
                        have c16b0 : (((rd_T47 x10_1 (ji13)).f1) == x11_1) = false := beq_eq_false_iff_ne.mpr c16
                        have c16b1 : (((rd_T47 x10_1 (ji13)).f1) != x11_1) = true := bne_iff_ne.mpr c16
                        by_cases c22 : x10_1.length < 8796093022208
                        · rw [if_pos c22] at H
                          have LMc22 := Aside0.mk c22
                          clear c22
                          obtain ⟨y171, hy171⟩ : ∃ y_ : List (S47), y_ = (x10_1 ++ [(⟨x11_1, wrap64 (x11_1 + 1)⟩ : S47)]) := ⟨_, rfl⟩
                          replace H : (railplanref9_Forbidden.l0 k1 a0 t164 y171 (wrap64 (x11_1 + 1))) = some (r1, r2) := by first | (rw [hy171]; with_reducible exact H) | (have H2_ := (Option.bind_some _ _).symm.trans H; rw [hy171]; with_reducible exact H2_) | (have H2_ := (Option.bind_some _ _).symm.trans H; with_reducible exact H2_) | with_reducible exact H | (rw [hy171]; exact H) | exact H
                          have Ny171 := Aside0.mk hy171
                          clear hy171
                          have H' := Aside0.mk H
                          clear H
                          obtain ⟨Ao23, co23, eo23⟩ := Kd.R_slice HO_8.out
                          subst eo23
                          have p168 : 0 ≤ (x11_1 : Int) := of_decide_eq_true (by first | (with_reducible assumption) | assumption)
                          have q168 : x11_1 < (t164.length : Int) := of_decide_eq_true (by first | (with_reducible assumption) | assumption)
                          obtain ⟨ad168, e168, hx168_0⟩ := Kd.at_bool (Kd.R_reads' HO_8.out).2.2 x11_1 p168 q168
                          (try rw [← Nbq10.out] at hx168_0)
                          cases e168
                          replace p168 := eq_true p168
                          replace q168 := eq_true q168
                          obtain ⟨Ao24, co24, eo24⟩ := Kd.R_slice HO_10.out
                          subst eo24
                          have p169 : 0 ≤ ((ji13) : Int) := of_decide_eq_true (by first | (with_reducible assumption) | assumption)
                          have q169 : (ji13) < (x10_1.length : Int) := of_decide_eq_true (by first | (with_reducible assumption) | assumption)
                          obtain ⟨ad169, e169, hx169_0, hx169_1⟩ := at_T47 (Kd.R_reads' HO_10.out).2.2 (ji13) p169 q169
                          cases e169
                          replace p169 := eq_true p169
                          replace q169 := eq_true q169
                          go_wp2_with (first | ((with_reducible refine gate_builtin (b := .append) (xs := #[.tmp 54, .tmp 59]) rfl ?_); at_builtin; refine Kd.R_append k47 (w0 := w) w.heap.size rfl (.tmp 54) (.tmp 59) 33 47 (.agg #[(.int .i64 0), (.int .i64 0)]) 16 rfl Try.underlying33 info47 rfl (by decide) (by omega) (.slice (some ad169) x10_1.length co24) x10_1 (⟨x11_1, wrap64 (x11_1 + 1)⟩ : S47) [.int .i64 x11_1, .int .i64 (wrap64 (x11_1 + 1))] (fun _ => True) (fun _ => False) rfl rfl ?aP (fun _ hk => hk.elim) ?aF ?aO ?aB ?aS ?aL ?_; (case aP => exact k47_mkM _ _ _ (⟨x11_1, wrap64 (x11_1 + 1)⟩ : S47)); (case aB => exact (by repeat (first | (with_reducible first | exact HB.out | apply below_alloc | apply pw_below_drewN | apply below_drew1) | exact HB.out))); (case aF => exact (fun _ _ => trivial)); (case aO => exact (by (with_reducible repeat (first | apply Kd.R_alloc | apply Kd.R_drewN | apply Kd.R_drew)); exact HO_10.out)); (case aS => exact (below_size (by repeat (first | (with_reducible first | exact HB.out | apply below_alloc | apply pw_below_drewN | apply below_drew1) | exact HB.out)))); (case aL => have := LMc22.out; omega); intro v172 w25 ho hb hg hat; rw [← Ny171.out] at ho; have n0_ := Aside0.mk (Kd.R_over' (by (with_reducible repeat (first | apply Kd.R_alloc | apply Kd.R_drewN | apply Kd.R_drew)); exact HO_8.out) (Kd.R_typed (by (with_reducible repeat (first | apply Kd.R_alloc | apply Kd.R_drewN | apply Kd.R_drew)); exact HO_10.out)) (by decide) hg); have n1_ := Aside0.mk (hb); have n2_ := Aside0.mk (ho); clear HO_8; clear HB; clear HO_10; have HO_8 := n0_; have HB := n1_; have HO173 := n2_; clear n0_ n1_ n2_; clear ho hb hg hat))
                          go_roundg k1
                          case measure => have := HK1.out; omega
                          case rel => exact ⟨(y171), (wrap64 (x11_1 + 1)), (by first | rfl | (simp; done) | (simp [*]; done)), H', ⟨by have := HK1.out; omega⟩, ⟨by (with_reducible repeat (first | apply Kd.R_alloc | apply Kd.R_drewN | apply Kd.R_drew)); exact HO_8.out⟩, ⟨by (with_reducible repeat (first | apply Kd.R_alloc | apply Kd.R_drewN | apply Kd.R_drew)); exact HO173.out⟩, ⟨by repeat (first | (with_reducible first | exact HB.out | apply below_alloc | apply pw_below_drewN | apply below_drew1) | exact HB.out)⟩⟩
                        · rw [if_neg c22] at H
                          exact absurd H (by simp)
                    · rw [if_neg c15] at H
                      exact absurd H (by simp)
                  · rw [if_neg c14] at H
                    exact absurd H (by simp)
                · rw [if_neg c12] at H
                  have c12b0 : decide (0 < (x10_1.length : Int)) = false := decide_eq_false c12
                  have c12b1 : decide (0 < x10_1.length) = false := decide_eq_false (by omega)
                  clear c12
                  by_cases c26 : x10_1.length < 8796093022208
                  · rw [if_pos c26] at H
                    have LMc26 := Aside0.mk c26
                    clear c26
                    obtain ⟨y174, hy174⟩ : ∃ y_ : List (S47), y_ = (x10_1 ++ [(⟨x11_1, wrap64 (x11_1 + 1)⟩ : S47)]) := ⟨_, rfl⟩
                    replace H : (railplanref9_Forbidden.l0 k1 a0 t164 y174 (wrap64 (x11_1 + 1))) = some (r1, r2) := by first | (rw [hy174]; with_reducible exact H) | (have H2_ := (Option.bind_some _ _).symm.trans H; rw [hy174]; with_reducible exact H2_) | (have H2_ := (Option.bind_some _ _).symm.trans H; with_reducible exact H2_) | with_reducible exact H | (rw [hy174]; exact H) | exact H
                    have Ny174 := Aside0.mk hy174
                    clear hy174
                    have H' := Aside0.mk H
                    clear H
                    obtain ⟨Ao27, co27, eo27⟩ := Kd.R_slice HO_8.out
                    subst eo27
                    have p168 : 0 ≤ (x11_1 : Int) := of_decide_eq_true (by first | (with_reducible assumption) | assumption)
                    have q168 : x11_1 < (t164.length : Int) := of_decide_eq_true (by first | (with_reducible assumption) | assumption)
                    obtain ⟨ad168, e168, hx168_0⟩ := Kd.at_bool (Kd.R_reads' HO_8.out).2.2 x11_1 p168 q168
                    (try rw [← Nbq10.out] at hx168_0)
                    cases e168
                    replace p168 := eq_true p168
                    replace q168 := eq_true q168
                    obtain ⟨Ao28, co28, eo28⟩ := Kd.R_slice HO_10.out
                    subst eo28
                    go_wp2_with (first | ((with_reducible refine gate_builtin (b := .append) (xs := #[.tmp 54, .tmp 59]) rfl ?_); at_builtin; refine Kd.R_append k47 (w0 := w) w.heap.size rfl (.tmp 54) (.tmp 59) 33 47 (.agg #[(.int .i64 0), (.int .i64 0)]) 16 rfl Try.underlying33 info47 rfl (by decide) (by omega) (.slice Ao28 x10_1.length co28) x10_1 (⟨x11_1, wrap64 (x11_1 + 1)⟩ : S47) [.int .i64 x11_1, .int .i64 (wrap64 (x11_1 + 1))] (fun _ => True) (fun _ => False) rfl rfl ?aP (fun _ hk => hk.elim) ?aF ?aO ?aB ?aS ?aL ?_; (case aP => exact k47_mkM _ _ _ (⟨x11_1, wrap64 (x11_1 + 1)⟩ : S47)); (case aB => exact (by repeat (first | (with_reducible first | exact HB.out | apply below_alloc | apply pw_below_drewN | apply below_drew1) | exact HB.out))); (case aF => exact (fun _ _ => trivial)); (case aO => exact (by (with_reducible repeat (first | apply Kd.R_alloc | apply Kd.R_drewN | apply Kd.R_drew)); exact HO_10.out)); (case aS => exact (below_size (by repeat (first | (with_reducible first | exact HB.out | apply below_alloc | apply pw_below_drewN | apply below_drew1) | exact HB.out)))); (case aL => have := LMc26.out; omega); intro v175 w29 ho hb hg hat; rw [← Ny174.out] at ho; have n0_ := Aside0.mk (Kd.R_over' (by (with_reducible repeat (first | apply Kd.R_alloc | apply Kd.R_drewN | apply Kd.R_drew)); exact HO_8.out) (Kd.R_typed (by (with_reducible repeat (first | apply Kd.R_alloc | apply Kd.R_drewN | apply Kd.R_drew)); exact HO_10.out)) (by decide) hg); have n1_ := Aside0.mk (hb); have n2_ := Aside0.mk (ho); clear HO_8; clear HB; clear HO_10; have HO_8 := n0_; have HB := n1_; have HO176 := n2_; clear n0_ n1_ n2_; clear ho hb hg hat))
                    go_roundg k1
                    case measure => have := HK1.out; omega
                    case rel => exact ⟨(y174), (wrap64 (x11_1 + 1)), (by first | rfl | (simp; done) | (simp [*]; done)), H', ⟨by have := HK1.out; omega⟩, ⟨by (with_reducible repeat (first | apply Kd.R_alloc | apply Kd.R_drewN | apply Kd.R_drew)); exact HO_8.out⟩, ⟨by (with_reducible repeat (first | apply Kd.R_alloc | apply Kd.R_drewN | apply Kd.R_drew)); exact HO176.out⟩, ⟨by repeat (first | (with_reducible first | exact HB.out | apply below_alloc | apply pw_below_drewN | apply below_drew1) | exact HB.out)⟩⟩
                  · rw [if_neg c26] at H
                    exact absurd H (by simp)
              · replace c11 := Bool.eq_false_iff.mpr c11
                subst c11
                have H1 : (railplanref9_Forbidden.l0 k1 a0 t164 x10_1 (wrap64 (x11_1 + 1))) = some (r1, r2) := by rw [if_neg (show ¬ (false = true) by decide)] at H; exact H
                clear H
                have H := H1
                clear H1
                have H' := Aside0.mk H
                clear H
                obtain ⟨Ao30, co30, eo30⟩ := Kd.R_slice HO_8.out
                subst eo30
                have p168 : 0 ≤ (x11_1 : Int) := of_decide_eq_true (by first | (with_reducible assumption) | assumption)
                have q168 : x11_1 < (t164.length : Int) := of_decide_eq_true (by first | (with_reducible assumption) | assumption)
                obtain ⟨ad168, e168, hx168_0⟩ := Kd.at_bool (Kd.R_reads' HO_8.out).2.2 x11_1 p168 q168
                (try rw [← Nbq10.out] at hx168_0)
                cases e168
                replace p168 := eq_true p168
                replace q168 := eq_true q168
                go_wp2
                go_roundg k1
                case measure => have := HK1.out; omega
                case rel => exact ⟨(x10_1), (wrap64 (x11_1 + 1)), (by first | rfl | (simp; done) | (simp [*]; done)), H', ⟨by have := HK1.out; omega⟩, ⟨by (with_reducible repeat (first | apply Kd.R_alloc | apply Kd.R_drewN | apply Kd.R_drew)); exact HO_8.out⟩, ⟨by (with_reducible repeat (first | apply Kd.R_alloc | apply Kd.R_drewN | apply Kd.R_drew)); exact HO_10.out⟩, ⟨by repeat (first | (with_reducible first | exact HB.out | apply below_alloc | apply pw_below_drewN | apply below_drew1) | exact HB.out)⟩⟩
            · rw [if_neg c9] at H
              exact absurd H (by simp)
          · rw [if_neg c8] at H
            exact absurd H (by simp)
        · rw [if_neg c7] at H
          have c7b0 : decide (x11_1 < a0) = false := decide_eq_false c7
          clear c7
          simp only [Option.some.injEq, Prod.mk.injEq] at H
          obtain ⟨rfl, rfl⟩ := H
          go_wp2
          go_ret2
          exact ⟨_, by first | rfl | (simp [errW_none, errW_some] <;> rfl) | (simp [*, errW_none, errW_some] <;> rfl), by (with_reducible repeat (first | apply Kd.R_alloc | apply Kd.R_drewN | apply Kd.R_drew)); exact HO_10.out, by repeat (first | (with_reducible first | exact HB.out | apply below_alloc | apply pw_below_drewN | apply below_drew1) | exact HB.out)⟩
  · rw [if_neg c5] at H
    have c5b0 : (t165 == 0) = false := beq_eq_false_iff_ne.mpr c5
    have c5b1 : (t165 != 0) = true := bne_iff_ne.mpr c5
    simp only [Option.some.injEq, Prod.mk.injEq] at H
    obtain ⟨rfl, rfl⟩ := H
    go_enter Try.func25, Try.ntmps25
    go_wp2_with (first | ((with_reducible refine gate_callee (f := 43) rfl ?_); refine goesL_ (some 17) rfl rfl Try.func43 (by kernel_rfl) rfl #[.int .i64 a0, .slice A1 l1.length c1, .slice A2 l2.length c2] rfl (by (try simp only [List.map_toArray, List.map_cons, List.map_nil]); first | done | rfl | (simp only [List.length_drop, List.length_take]; rfl)) ?_; (with_reducible refine (railplanref9_forbidden.calls k a0 _ _ l1 _ _ l2 t164 t165 _ ?side1 ?side2 ?side3 ?side4 A4.out).mono ?_); (case side1 => repeat (first | exact HR1.out | (with_reducible refine Kd.C_alloc ?_ _) | (with_reducible refine Kd.C_drewN ?_ _) | (with_reducible refine Kd.C_drew ?_))); (case side2 => exact HC1.out); (case side3 => repeat (first | exact HR2.out | (with_reducible refine Kd.C_alloc ?_ _) | (with_reducible refine Kd.C_drewN ?_ _) | (with_reducible refine Kd.C_drew ?_))); (case side4 => exact HC2.out); rintro e w31 ⟨v166, rfl, ho0, hb⟩; refine ⟨_, rfl, ?_⟩; have n0_ := Aside0.mk (Kd.R_lower ho0 (below_size (by repeat (first | (with_reducible first | exact HB.out | apply below_alloc | apply pw_below_drewN | apply below_drew1) | exact HB.out)))); have n1_ := Aside0.mk (below_step (by repeat (first | (with_reducible first | exact HB.out | apply below_alloc | apply pw_below_drewN | apply below_drew1) | exact HB.out)) hb); clear HB; have HO167 := n0_; have HB := n1_; clear n0_ n1_; (try clear hb); (try clear hb2); (try clear hk); (try clear hi); (try clear ho0)))
    go_ret2
    exact ⟨_, by first | rfl | (simp [errW_none, errW_some] <;> rfl) | (simp [*, errW_none, errW_some] <;> rfl), by first | exact Kd.R_nil _ _ _ _ _ | exact Kd.N_nil _ _ _ _ _ | exact Kd.V_nil _ _ _ _ _ | exact Kd.Q_nil _ _ _ _ _ | exact Kd.S_nil _ _ _ _ _, by repeat (first | (with_reducible first | exact HB.out | apply below_alloc | apply pw_below_drewN | apply below_drew1) | exact HB.out)⟩

/-! ### railplanref9_Least: function 39 -/
mutual
def railplanref9_Least.j0 : Nat → List (S41) → List (S41) → Bool → Option (Int × Bool)
  | 0, _, _, _ => none
  | k + 1, x0, x1, x19 => if x19 = true then (some (0, false)) else (railplanref9_Least.l0 k x0 x1 0 false 0)
def railplanref9_Least.l0 : Nat → List (S41) → List (S41) → Int → Bool → Int → Option (Int × Bool)
  | 0, _, _, _, _, _ => none
  | k + 1, x0, x1, x6, x7, x8 => if x8 < (x0.length : Int) then (if 0 ≤ x8 then ((railplanref9_find.f k x1 ((rd_T41 x0 x8).f0)).bind fun bt180 => (if bt180.2.2.2 = true then (if x7 = true then (if (wrap64 (((rd_T41 x0 x8).f2) - bt180.2.1)) > x6 then (railplanref9_Least.l0 k x0 x1 (wrap64 (((rd_T41 x0 x8).f2) - bt180.2.1)) true (wrap64 (x8 + 1))) else (railplanref9_Least.l0 k x0 x1 x6 x7 (wrap64 (x8 + 1)))) else (railplanref9_Least.l0 k x0 x1 (wrap64 (((rd_T41 x0 x8).f2) - bt180.2.1)) true (wrap64 (x8 + 1)))) else (railplanref9_Least.l0 k x0 x1 x6 x7 (wrap64 (x8 + 1))))) else (none)) else (some (x6, x7))
end
def railplanref9_Least.f (k : Nat) (l0 : List (S41)) (l1 : List (S41)) : Option (Int × Bool) := (railplanref9_ValidList.f k l0).bind fun t177 => (if t177 = true then ((railplanref9_ValidList.f k l1).bind fun t178 => (railplanref9_Least.j0 k l0 l1 (!t178))) else (railplanref9_Least.j0 k l0 l1 true))
theorem railplanref9_Least.mono_l : ∀ k, (∀ y0 y1 y2, LeO (railplanref9_Least.j0 k y0 y1 y2) (railplanref9_Least.j0 (k + 1) y0 y1 y2)) ∧ (∀ y0 y1 y2 y3 y4, LeO (railplanref9_Least.l0 k y0 y1 y2 y3 y4) (railplanref9_Least.l0 (k + 1) y0 y1 y2 y3 y4))
  | 0 => ⟨fun _ _ _ r h => by simp [railplanref9_Least.j0] at h, fun _ _ _ _ _ r h => by simp [railplanref9_Least.l0] at h⟩
  | k + 1 => by
    obtain ⟨ih0, ih1⟩ := railplanref9_Least.mono_l k
    refine ⟨?_, ?_⟩
    · intro y0 y1 y2
      unfold railplanref9_Least.j0
      repeat' first
      | (with_reducible exact ih0 _ _ _)
      | (with_reducible exact ih1 _ _ _ _ _)
      | (with_reducible exact railplanref9_ValidList.mono _ _)
      | (with_reducible exact railplanref9_find.mono _ _ _)
      | (with_reducible exact LeO.refl _)
      | (with_reducible exact LeO.none _)
      | (with_reducible refine LeO.ite ?_ ?_)
      | (with_reducible refine LeO.bind ?_ (fun _ => ?_))
      | exact ih0 _ _ _
      | exact ih1 _ _ _ _ _
      | exact railplanref9_ValidList.mono _ _
      | exact railplanref9_find.mono _ _ _
      | exact LeO.none _
      | refine LeO.ite ?_ ?_
      | refine LeO.bind ?_ (fun _ => ?_)
    · intro y0 y1 y2 y3 y4
      unfold railplanref9_Least.l0
      repeat' first
      | (with_reducible exact ih0 _ _ _)
      | (with_reducible exact ih1 _ _ _ _ _)
      | (with_reducible exact railplanref9_ValidList.mono _ _)
      | (with_reducible exact railplanref9_find.mono _ _ _)
      | (with_reducible exact LeO.refl _)
      | (with_reducible exact LeO.none _)
      | (with_reducible refine LeO.ite ?_ ?_)
      | (with_reducible refine LeO.bind ?_ (fun _ => ?_))
      | exact ih0 _ _ _
      | exact ih1 _ _ _ _ _
      | exact railplanref9_ValidList.mono _ _
      | exact railplanref9_find.mono _ _ _
      | exact LeO.none _
      | refine LeO.ite ?_ ?_
      | refine LeO.bind ?_ (fun _ => ?_)
theorem railplanref9_Least.mono : ∀ a0 a1 k, LeO (railplanref9_Least.f k a0 a1) (railplanref9_Least.f (k + 1) a0 a1) := by
  intro a0 a1 k
  obtain ⟨ih0, ih1⟩ := railplanref9_Least.mono_l k
  unfold railplanref9_Least.f
  repeat' first
      | (with_reducible exact ih0 _ _ _)
      | (with_reducible exact ih1 _ _ _ _ _)
      | (with_reducible exact railplanref9_ValidList.mono _ _)
      | (with_reducible exact railplanref9_find.mono _ _ _)
      | (with_reducible exact LeO.refl _)
      | (with_reducible exact LeO.none _)
      | (with_reducible refine LeO.ite ?_ ?_)
      | (with_reducible refine LeO.bind ?_ (fun _ => ?_))
      | exact ih0 _ _ _
      | exact ih1 _ _ _ _ _
      | exact railplanref9_ValidList.mono _ _
      | exact railplanref9_find.mono _ _ _
      | exact LeO.none _
      | refine LeO.ite ?_ ?_
      | refine LeO.bind ?_ (fun _ => ?_)
set_option maxHeartbeats 8000000 in
set_option maxRecDepth 100000 in
theorem railplanref9_Least.calls (k : Nat) (A0 : Option Addr) (c0 : Nat) (l0 : List (S41)) (A1 : Option Addr) (c1 : Nat) (l1 : List (S41)) (r1 : Int) (r2 : Bool) (w : World) (hr0 : Kd.C k41 w A0 l0.length l0) (hc0 : l0.length ≤ c0) (hr1 : Kd.C k41 w A1 l1.length l1) (hc1 : l1.length ≤ c1) (h : railplanref9_Least.f k l0 l1 = some (r1, r2)) :
    Calls Try.prog 39 #[.slice A0 l0.length c0, .slice A1 l1.length c1] w fun e w' => e = .returned (.tuple #[.int .i64 r1, .bool r2]) ∧ Below w.heap.size w w' := by
  have hu41 := Try.underlying41
  have HR0 := Aside0.mk hr0
  have HC0 := Aside0.mk hc0
  clear hr0 hc0
  have HR1 := Aside0.mk hr1
  have HC1 := Aside0.mk hc1
  clear hr1 hc1
  have HB := Aside0.mk (Below.refl w.heap.size w)
  have H : ((railplanref9_ValidList.f k l0).bind fun t177 => (if t177 = true then ((railplanref9_ValidList.f k l1).bind fun t178 => (railplanref9_Least.j0 k l0 l1 (!t178))) else (railplanref9_Least.j0 k l0 l1 true))) = some (r1, r2) := h
  clear h
  have HC3 := Aside0.mk H
  clear H
  go_enter Try.func39, Try.ntmps39
  go_upto_region 1 with (fail)
  repeat (go_quiet (fail); go_upto_region 1 with (fail))
  go_cut [19] (fun v19 wc => ∃ (kq : Nat) (x19_2 : Bool), v19 = .bool x19_2 ∧ Aside0 (railplanref9_Least.j0 kq l0 l1 x19_2 = some (r1, r2)) ∧ Aside0 (kq ≤ k) ∧ Aside0 (Below w.heap.size w wc))
  case first =>
    have H := HC3.out
    clear HC3
    replace H := Option.bind_eq_some_iff.mp H
    obtain ⟨t177, A40, H⟩ := H
    replace H : (if t177 = true then ((railplanref9_ValidList.f k l1).bind fun t178 => (railplanref9_Least.j0 k l0 l1 (!t178))) else (railplanref9_Least.j0 k l0 l1 true)) = some (r1, r2) := H
    have A4 := Aside0.mk A40
    clear A40
    by_cases c5 : t177 = true
    · subst c5
      have H1 : ((railplanref9_ValidList.f k l1).bind fun t178 => (railplanref9_Least.j0 k l0 l1 (!t178))) = some (r1, r2) := by rw [if_pos rfl] at H; exact H
      clear H
      have H := H1
      clear H1
      replace H := Option.bind_eq_some_iff.mp H
      obtain ⟨t178, A60, H⟩ := H
      replace H : (railplanref9_Least.j0 k l0 l1 (!t178)) = some (r1, r2) := H
      have A6 := Aside0.mk A60
      clear A60
      have H' := Aside0.mk H
      clear H
      go_wp2_with (first | (go_at_call 41; (with_reducible refine (railplanref9_ValidList.calls k _ _ l0 true _ ?side1 ?side2 A4.out).mono ?_); (case side1 => repeat (first | exact (Kd.C_below HR0.out HB.out) | (with_reducible refine Kd.C_alloc ?_ _) | (with_reducible refine Kd.C_drewN ?_ _) | (with_reducible refine Kd.C_drew ?_))); (case side2 => exact HC0.out); rintro e w' ⟨rfl, ⟨nd, rfl⟩⟩; (try first | exact ⟨rfl, _, World.drewN_drewN _ _ _⟩ | exact ⟨rfl, _, Eq.trans (World.drewN_drewN _ _ _) (congrArg (World.drewN _) (Nat.add_assoc _ _ _))⟩)) | (go_at_call 41; (with_reducible refine (railplanref9_ValidList.calls k _ _ l1 t178 _ ?side1 ?side2 A6.out).mono ?_); (case side1 => repeat (first | exact (Kd.C_below HR1.out (by repeat (first | (with_reducible first | exact HB.out | apply below_alloc | apply pw_below_drewN | apply below_drew1) | exact HB.out))) | (with_reducible refine Kd.C_alloc ?_ _) | (with_reducible refine Kd.C_drewN ?_ _) | (with_reducible refine Kd.C_drew ?_))); (case side2 => exact HC1.out); rintro e w' ⟨rfl, ⟨nd, rfl⟩⟩; (try first | exact ⟨rfl, _, World.drewN_drewN _ _ _⟩ | exact ⟨rfl, _, Eq.trans (World.drewN_drewN _ _ _) (congrArg (World.drewN _) (Nat.add_assoc _ _ _))⟩)))
      repeat (go_quiet (first | (go_at_call 41; (with_reducible refine (railplanref9_ValidList.calls k _ _ l0 true _ ?side1 ?side2 A4.out).mono ?_); (case side1 => repeat (first | exact (Kd.C_below HR0.out HB.out) | (with_reducible refine Kd.C_alloc ?_ _) | (with_reducible refine Kd.C_drewN ?_ _) | (with_reducible refine Kd.C_drew ?_))); (case side2 => exact HC0.out); rintro e w' ⟨rfl, ⟨nd, rfl⟩⟩; (try first | exact ⟨rfl, _, World.drewN_drewN _ _ _⟩ | exact ⟨rfl, _, Eq.trans (World.drewN_drewN _ _ _) (congrArg (World.drewN _) (Nat.add_assoc _ _ _))⟩)) | (go_at_call 41; (with_reducible refine (railplanref9_ValidList.calls k _ _ l1 t178 _ ?side1 ?side2 A6.out).mono ?_); (case side1 => repeat (first | exact (Kd.C_below HR1.out (by repeat (first | (with_reducible first | exact HB.out | apply below_alloc | apply pw_below_drewN | apply below_drew1) | exact HB.out))) | (with_reducible refine Kd.C_alloc ?_ _) | (with_reducible refine Kd.C_drewN ?_ _) | (with_reducible refine Kd.C_drew ?_))); (case side2 => exact HC1.out); rintro e w' ⟨rfl, ⟨nd, rfl⟩⟩; (try first | exact ⟨rfl, _, World.drewN_drewN _ _ _⟩ | exact ⟨rfl, _, Eq.trans (World.drewN_drewN _ _ _) (congrArg (World.drewN _) (Nat.add_assoc _ _ _))⟩))); try go_wp2_with (first | (go_at_call 41; (with_reducible refine (railplanref9_ValidList.calls k _ _ l0 true _ ?side1 ?side2 A4.out).mono ?_); (case side1 => repeat (first | exact (Kd.C_below HR0.out HB.out) | (with_reducible refine Kd.C_alloc ?_ _) | (with_reducible refine Kd.C_drewN ?_ _) | (with_reducible refine Kd.C_drew ?_))); (case side2 => exact HC0.out); rintro e w' ⟨rfl, ⟨nd, rfl⟩⟩; (try first | exact ⟨rfl, _, World.drewN_drewN _ _ _⟩ | exact ⟨rfl, _, Eq.trans (World.drewN_drewN _ _ _) (congrArg (World.drewN _) (Nat.add_assoc _ _ _))⟩)) | (go_at_call 41; (with_reducible refine (railplanref9_ValidList.calls k _ _ l1 t178 _ ?side1 ?side2 A6.out).mono ?_); (case side1 => repeat (first | exact (Kd.C_below HR1.out (by repeat (first | (with_reducible first | exact HB.out | apply below_alloc | apply pw_below_drewN | apply below_drew1) | exact HB.out))) | (with_reducible refine Kd.C_alloc ?_ _) | (with_reducible refine Kd.C_drewN ?_ _) | (with_reducible refine Kd.C_drew ?_))); (case side2 => exact HC1.out); rintro e w' ⟨rfl, ⟨nd, rfl⟩⟩; (try first | exact ⟨rfl, _, World.drewN_drewN _ _ _⟩ | exact ⟨rfl, _, Eq.trans (World.drewN_drewN _ _ _) (congrArg (World.drewN _) (Nat.add_assoc _ _ _))⟩))))
      go_meet
      case rel => exact ⟨_, (!t178), (by first | rfl | (simp; done) | (simp [*]; done)), H', ⟨by first | omega | exact Nat.le_refl _⟩, ⟨by repeat (first | (with_reducible first | exact HB.out | apply below_alloc | apply pw_below_drewN | apply below_drew1) | exact HB.out)⟩⟩
    · replace c5 := Bool.eq_false_iff.mpr c5
      subst c5
      have H1 : (railplanref9_Least.j0 k l0 l1 true) = some (r1, r2) := by rw [if_neg (show ¬ (false = true) by decide)] at H; exact H
      clear H
      have H := H1
      clear H1
      have H' := Aside0.mk H
      clear H
      go_wp2_with (first | (go_at_call 41; (with_reducible refine (railplanref9_ValidList.calls k _ _ l0 false _ ?side1 ?side2 A4.out).mono ?_); (case side1 => repeat (first | exact (Kd.C_below HR0.out HB.out) | (with_reducible refine Kd.C_alloc ?_ _) | (with_reducible refine Kd.C_drewN ?_ _) | (with_reducible refine Kd.C_drew ?_))); (case side2 => exact HC0.out); rintro e w' ⟨rfl, ⟨nd, rfl⟩⟩; (try first | exact ⟨rfl, _, World.drewN_drewN _ _ _⟩ | exact ⟨rfl, _, Eq.trans (World.drewN_drewN _ _ _) (congrArg (World.drewN _) (Nat.add_assoc _ _ _))⟩)))
      repeat (go_quiet (first | (go_at_call 41; (with_reducible refine (railplanref9_ValidList.calls k _ _ l0 false _ ?side1 ?side2 A4.out).mono ?_); (case side1 => repeat (first | exact (Kd.C_below HR0.out HB.out) | (with_reducible refine Kd.C_alloc ?_ _) | (with_reducible refine Kd.C_drewN ?_ _) | (with_reducible refine Kd.C_drew ?_))); (case side2 => exact HC0.out); rintro e w' ⟨rfl, ⟨nd, rfl⟩⟩; (try first | exact ⟨rfl, _, World.drewN_drewN _ _ _⟩ | exact ⟨rfl, _, Eq.trans (World.drewN_drewN _ _ _) (congrArg (World.drewN _) (Nat.add_assoc _ _ _))⟩))); try go_wp2_with (first | (go_at_call 41; (with_reducible refine (railplanref9_ValidList.calls k _ _ l0 false _ ?side1 ?side2 A4.out).mono ?_); (case side1 => repeat (first | exact (Kd.C_below HR0.out HB.out) | (with_reducible refine Kd.C_alloc ?_ _) | (with_reducible refine Kd.C_drewN ?_ _) | (with_reducible refine Kd.C_drew ?_))); (case side2 => exact HC0.out); rintro e w' ⟨rfl, ⟨nd, rfl⟩⟩; (try first | exact ⟨rfl, _, World.drewN_drewN _ _ _⟩ | exact ⟨rfl, _, Eq.trans (World.drewN_drewN _ _ _) (congrArg (World.drewN _) (Nat.add_assoc _ _ _))⟩))))
      go_meet
      case rel => exact ⟨_, (true), (by first | rfl | (simp; done) | (simp [*]; done)), H', ⟨by first | omega | exact Nat.le_refl _⟩, ⟨by repeat (first | (with_reducible first | exact HB.out | apply below_alloc | apply pw_below_drewN | apply below_drew1) | exact HB.out)⟩⟩
  case rest =>
    clear HC3
    try clear c1
    try clear p2
    try clear c3
    try clear c5
    obtain ⟨kq, x19_2, rfl, HA, HJ2, HB⟩ := hcut
    cases kq with
    | zero => exact absurd HA.out (by simp [railplanref9_Least.j0])
    | succ kj2 =>
      have H := HA.out
      clear HA
      simp only [railplanref9_Least.j0] at H
      by_cases c7 : x19_2 = true
      · subst c7
        have H1 : (some (0, false)) = some (r1, r2) := by rw [if_pos rfl] at H; exact H
        clear H
        have H := H1
        clear H1
        simp only [Option.some.injEq, Prod.mk.injEq] at H
        obtain ⟨rfl, rfl⟩ := H
        go_wp2
        repeat (go_quiet (fail); try go_wp2)
        go_ret2
        exact ⟨by first | rfl | (simp [errW_none, errW_some] <;> rfl) | (simp [*, errW_none, errW_some] <;> rfl), by repeat (first | (with_reducible first | exact HB.out | apply below_alloc | apply pw_below_drewN | apply below_drew1) | exact HB.out)⟩
      · replace c7 := Bool.eq_false_iff.mpr c7
        subst c7
        have H1 : (railplanref9_Least.l0 kj2 l0 l1 0 false 0) = some (r1, r2) := by rw [if_neg (show ¬ (false = true) by decide)] at H; exact H
        clear H
        have H := H1
        clear H1
        have H' := Aside0.mk H
        clear H
        go_wp2
        repeat (go_quiet (fail); try go_wp2)
        go_loopg [6, 7, 8] kj2 (fun kq v6 v7 v8 w' => ∃ (x6_2 : Int) (x7_2 : Bool) (x8_2 : Int), v6 = .int .i64 x6_2 ∧ v7 = .bool x7_2 ∧ v8 = .int .i64 x8_2 ∧ Aside0 (railplanref9_Least.l0 kq l0 l1 x6_2 x7_2 x8_2 = some (r1, r2)) ∧ Aside0 (kq ≤ kj2) ∧ Aside0 (Below w.heap.size w w'))
        case atStart => exact ⟨(0), (false), (0), (by first | rfl | (simp; done) | (simp [*]; done)), (by first | rfl | (simp; done) | (simp [*]; done)), (by first | rfl | (simp; done) | (simp [*]; done)), H', ⟨Nat.le_refl _⟩, ⟨by repeat (first | (with_reducible first | exact HB.out | apply below_alloc | apply pw_below_drewN | apply below_drew1) | exact HB.out)⟩⟩
        case round =>
          clear H'
          try clear c1
          try clear p2
          try clear c3
          try clear c5
          try clear c7
          try clear p2
          obtain ⟨x6_2, x7_2, x8_2, rfl, rfl, rfl, HA, HK2, HB⟩ := hrel
          cases gk with
          | zero => exact absurd HA.out (by simp [railplanref9_Least.l0])
          | succ k2 =>
            have H := HA.out
            clear HA
            simp only [railplanref9_Least.l0] at H
            by_cases c8 : x8_2 < (l0.length : Int)
            · rw [if_pos c8] at H
              have c8b0 : decide (x8_2 < (l0.length : Int)) = true := decide_eq_true c8
              clear c8
              by_cases c9 : 0 ≤ x8_2
              · rw [if_pos c9] at H
                have c9b0 : decide (0 ≤ x8_2) = true := decide_eq_true c9
                clear c9
                replace H := Option.bind_eq_some_iff.mp H
                obtain ⟨⟨t180, t181, t182, t183⟩, A100, H⟩ := H
                replace H : (if t183 = true then (if x7_2 = true then (if (wrap64 (((rd_T41 l0 x8_2).f2) - t181)) > x6_2 then (railplanref9_Least.l0 k2 l0 l1 (wrap64 (((rd_T41 l0 x8_2).f2) - t181)) true (wrap64 (x8_2 + 1))) else (railplanref9_Least.l0 k2 l0 l1 x6_2 x7_2 (wrap64 (x8_2 + 1)))) else (railplanref9_Least.l0 k2 l0 l1 (wrap64 (((rd_T41 l0 x8_2).f2) - t181)) true (wrap64 (x8_2 + 1)))) else (railplanref9_Least.l0 k2 l0 l1 x6_2 x7_2 (wrap64 (x8_2 + 1)))) = some (r1, r2) := H
                have A10 := Aside0.mk A100
                clear A100
                by_cases c11 : t183 = true
                · subst c11
                  have H1 : (if x7_2 = true then (if (wrap64 (((rd_T41 l0 x8_2).f2) - t181)) > x6_2 then (railplanref9_Least.l0 k2 l0 l1 (wrap64 (((rd_T41 l0 x8_2).f2) - t181)) true (wrap64 (x8_2 + 1))) else (railplanref9_Least.l0 k2 l0 l1 x6_2 x7_2 (wrap64 (x8_2 + 1)))) else (railplanref9_Least.l0 k2 l0 l1 (wrap64 (((rd_T41 l0 x8_2).f2) - t181)) true (wrap64 (x8_2 + 1)))) = some (r1, r2) := by rw [if_pos rfl] at H; exact H
                  clear H
                  have H := H1
                  clear H1
                  by_cases c12 : x7_2 = true
                  · subst c12
                    have H1 : (if (wrap64 (((rd_T41 l0 x8_2).f2) - t181)) > x6_2 then (railplanref9_Least.l0 k2 l0 l1 (wrap64 (((rd_T41 l0 x8_2).f2) - t181)) true (wrap64 (x8_2 + 1))) else (railplanref9_Least.l0 k2 l0 l1 x6_2 true (wrap64 (x8_2 + 1)))) = some (r1, r2) := by rw [if_pos rfl] at H; exact H
                    clear H
                    have H := H1
                    clear H1
                    by_cases c13 : (wrap64 (((rd_T41 l0 x8_2).f2) - t181)) > x6_2
                    · rw [if_pos c13] at H
                      have c13b0 : decide (x6_2 < (wrap64 (((rd_T41 l0 x8_2).f2) - t181))) = true := decide_eq_true c13
                      clear c13
                      have H' := Aside0.mk H
                      clear H
                      have p179 : 0 ≤ (x8_2 : Int) := of_decide_eq_true (by first | (with_reducible assumption) | assumption)
                      have q179 : x8_2 < (l0.length : Int) := of_decide_eq_true (by first | (with_reducible assumption) | assumption)
                      obtain ⟨ad179, e179, hx179_0, hx179_1, hx179_2⟩ := at_T41 HR0.out x8_2 p179 q179
                      cases e179
                      replace hx179_0 := (HB.out.cell (World.block_lt_of_cell? w _ hx179_0)).trans hx179_0
                      replace hx179_1 := (HB.out.cell (World.block_lt_of_cell? w _ hx179_1)).trans hx179_1
                      replace hx179_2 := (HB.out.cell (World.block_lt_of_cell? w _ hx179_2)).trans hx179_2
                      replace p179 := eq_true p179
                      replace q179 := eq_true q179
                      go_wp2_with (first | (go_at_call 50; (with_reducible refine (railplanref9_find.calls k2 _ _ l1 ((rd_T41 l0 x8_2).f0) t180 t181 t182 true _ ?side1 ?side2 A10.out).mono ?_); (case side1 => repeat (first | exact (Kd.C_below HR1.out HB.out) | (with_reducible refine Kd.C_alloc ?_ _) | (with_reducible refine Kd.C_drewN ?_ _) | (with_reducible refine Kd.C_drew ?_))); (case side2 => exact HC1.out); rintro e w14 ⟨rfl, hb⟩; have n0_ := Aside0.mk (below_step (by repeat (first | (with_reducible first | exact HB.out | apply below_alloc | apply pw_below_drewN | apply below_drew1) | exact HB.out)) hb); clear HB; have HB := n0_; clear n0_; (try clear hb); (try clear hb2); (try clear hk); (try clear hi)) | ((with_reducible refine gate_dst (N := 9) rfl ?_); refine box_event ?hg (N := 9) ?hd (cs := #[.int .i64 0, .int .i64 0, .int .i64 0]) (t := 41) ?hr ?_; (case hd => rfl); (case hg => rfl); (case hr => first | (go_simp; done) | (go_simp; rfl)); intro gb184 hg w15 hbox hb; have n0_ := Aside0.mk (below_step (by repeat (first | (with_reducible first | exact HB.out | apply below_alloc | apply pw_below_drewN | apply below_drew1) | exact HB.out)) hb); have n1_ := Aside0.mk (hbox); have n2_ := Aside0.mk ((by rw [hg]; exact (below_size (by repeat (first | (with_reducible first | exact HB.out | apply below_alloc | apply pw_below_drewN | apply below_drew1) | exact HB.out))) : w.heap.size ≤ gb184)); have n3_ := Aside0.mk ((by rw [hg]; exact (below_size (by repeat (first | (with_reducible first | exact HB.out | apply below_alloc | apply pw_below_drewN | apply below_drew1) | exact HB.out))) : w.heap.size ≤ gb184)); clear HB; have HB := n0_; have BK184 := n1_; have GW184 := n2_; have GE184 := n3_; clear n0_ n1_ n2_ n3_; clear hb hbox hg; have hcz16_0 : w15.cell? ⟨gb184, 0, none⟩ = some (.int .i64 0) := (blk_cell BK184.out 0).trans rfl; have hcz16_1 : w15.cell? ⟨gb184, 1, none⟩ = some (.int .i64 0) := (blk_cell BK184.out 1).trans rfl; have hcz16_2 : w15.cell? ⟨gb184, 2, none⟩ = some (.int .i64 0) := (blk_cell BK184.out 2).trans rfl; have hfz16_0 := blk_frozen BK184.out 0; have hfz16_1 := blk_frozen BK184.out 1; have hfz16_2 := blk_frozen BK184.out 2; have p185 : 0 ≤ (x8_2 : Int) := of_decide_eq_true (by first | (with_reducible assumption) | assumption); have q185 : x8_2 < (l0.length : Int) := of_decide_eq_true (by first | (with_reducible assumption) | assumption); obtain ⟨ad185, e185, hx185_0, hx185_1, hx185_2⟩ := at_T41 HR0.out x8_2 p185 q185; obtain rfl : ad179 = ad185 := (by injection e185); have hn185_0 : ad179.block ≠ gb184 := Nat.ne_of_lt (Nat.lt_of_lt_of_le (by have := World.block_lt_of_cell? _ _ hx185_0; first | rwa [add_block] at this | exact this) GW184.out); have hn185_1 : ad179.block ≠ gb184 := Nat.ne_of_lt (Nat.lt_of_lt_of_le (by have := World.block_lt_of_cell? _ _ hx185_0; first | rwa [add_block] at this | exact this) GW184.out); have hn185_2 : ad179.block ≠ gb184 := Nat.ne_of_lt (Nat.lt_of_lt_of_le (by have := World.block_lt_of_cell? _ _ hx185_0; first | rwa [add_block] at this | exact this) GW184.out); replace hx185_0 := (HB.out.cell (World.block_lt_of_cell? w _ hx185_0)).trans hx185_0; replace hx185_1 := (HB.out.cell (World.block_lt_of_cell? w _ hx185_1)).trans hx185_1; replace hx185_2 := (HB.out.cell (World.block_lt_of_cell? w _ hx185_2)).trans hx185_2; replace hx185_0 := (cell_far (p := ⟨gb184, 0, none⟩) (by first | (rw [add_block]; exact hn185_0) | (show (Addr.add _ _).block ≠ _; rw [add_block]; exact hn185_0) | exact hn185_0) (.int .i64 t180)).trans hx185_0; replace hx185_1 := (cell_far (p := ⟨gb184, 0, none⟩) (by first | (rw [add_block]; exact hn185_0) | (show (Addr.add _ _).block ≠ _; rw [add_block]; exact hn185_0) | exact hn185_0) (.int .i64 t180)).trans hx185_1; replace hx185_2 := (cell_far (p := ⟨gb184, 0, none⟩) (by first | (rw [add_block]; exact hn185_0) | (show (Addr.add _ _).block ≠ _; rw [add_block]; exact hn185_0) | exact hn185_0) (.int .i64 t180)).trans hx185_2; replace hx185_0 := (cell_far (p := ⟨gb184, 1, none⟩) (by first | (rw [add_block]; exact hn185_1) | (show (Addr.add _ _).block ≠ _; rw [add_block]; exact hn185_1) | exact hn185_1) (.int .i64 t181)).trans hx185_0; replace hx185_1 := (cell_far (p := ⟨gb184, 1, none⟩) (by first | (rw [add_block]; exact hn185_1) | (show (Addr.add _ _).block ≠ _; rw [add_block]; exact hn185_1) | exact hn185_1) (.int .i64 t181)).trans hx185_1; replace hx185_2 := (cell_far (p := ⟨gb184, 1, none⟩) (by first | (rw [add_block]; exact hn185_1) | (show (Addr.add _ _).block ≠ _; rw [add_block]; exact hn185_1) | exact hn185_1) (.int .i64 t181)).trans hx185_2; replace hx185_0 := (cell_far (p := ⟨gb184, 2, none⟩) (by first | (rw [add_block]; exact hn185_2) | (show (Addr.add _ _).block ≠ _; rw [add_block]; exact hn185_2) | exact hn185_2) (.int .i64 t182)).trans hx185_0; replace hx185_1 := (cell_far (p := ⟨gb184, 2, none⟩) (by first | (rw [add_block]; exact hn185_2) | (show (Addr.add _ _).block ≠ _; rw [add_block]; exact hn185_2) | exact hn185_2) (.int .i64 t182)).trans hx185_1; replace hx185_2 := (cell_far (p := ⟨gb184, 2, none⟩) (by first | (rw [add_block]; exact hn185_2) | (show (Addr.add _ _).block ≠ _; rw [add_block]; exact hn185_2) | exact hn185_2) (.int .i64 t182)).trans hx185_2; (try have hy185_0 := fun (n_ : Nat) => (show (((((w15.drewN n_).setCell ⟨gb184, 0, none⟩ (.int .i64 t180)).setCell ⟨gb184, 1, none⟩ (.int .i64 t181)).setCell ⟨gb184, 2, none⟩ (.int .i64 t182))).cell? _ = some _ from hx185_0)); (try have hy185_1 := fun (n_ : Nat) => (show (((((w15.drewN n_).setCell ⟨gb184, 0, none⟩ (.int .i64 t180)).setCell ⟨gb184, 1, none⟩ (.int .i64 t181)).setCell ⟨gb184, 2, none⟩ (.int .i64 t182))).cell? _ = some _ from hx185_1)); (try have hy185_2 := fun (n_ : Nat) => (show (((((w15.drewN n_).setCell ⟨gb184, 0, none⟩ (.int .i64 t180)).setCell ⟨gb184, 1, none⟩ (.int .i64 t181)).setCell ⟨gb184, 2, none⟩ (.int .i64 t182))).cell? _ = some _ from hx185_2)); clear hn185_0; clear hn185_1; clear hn185_2; replace p185 := eq_true p185; replace q185 := eq_true q185))
                      repeat (go_quiet (first | (go_at_call 50; (with_reducible refine (railplanref9_find.calls k2 _ _ l1 ((rd_T41 l0 x8_2).f0) t180 t181 t182 true _ ?side1 ?side2 A10.out).mono ?_); (case side1 => repeat (first | exact (Kd.C_below HR1.out HB.out) | (with_reducible refine Kd.C_alloc ?_ _) | (with_reducible refine Kd.C_drewN ?_ _) | (with_reducible refine Kd.C_drew ?_))); (case side2 => exact HC1.out); rintro e w14 ⟨rfl, hb⟩; have n0_ := Aside0.mk (below_step (by repeat (first | (with_reducible first | exact HB.out | apply below_alloc | apply pw_below_drewN | apply below_drew1) | exact HB.out)) hb); clear HB; have HB := n0_; clear n0_; (try clear hb); (try clear hb2); (try clear hk); (try clear hi)) | ((with_reducible refine gate_dst (N := 9) rfl ?_); refine box_event ?hg (N := 9) ?hd (cs := #[.int .i64 0, .int .i64 0, .int .i64 0]) (t := 41) ?hr ?_; (case hd => rfl); (case hg => rfl); (case hr => first | (go_simp; done) | (go_simp; rfl)); intro gb184 hg w15 hbox hb; have n0_ := Aside0.mk (below_step (by repeat (first | (with_reducible first | exact HB.out | apply below_alloc | apply pw_below_drewN | apply below_drew1) | exact HB.out)) hb); have n1_ := Aside0.mk (hbox); have n2_ := Aside0.mk ((by rw [hg]; exact (below_size (by repeat (first | (with_reducible first | exact HB.out | apply below_alloc | apply pw_below_drewN | apply below_drew1) | exact HB.out))) : w.heap.size ≤ gb184)); have n3_ := Aside0.mk ((by rw [hg]; exact (below_size (by repeat (first | (with_reducible first | exact HB.out | apply below_alloc | apply pw_below_drewN | apply below_drew1) | exact HB.out))) : w.heap.size ≤ gb184)); clear HB; have HB := n0_; have BK184 := n1_; have GW184 := n2_; have GE184 := n3_; clear n0_ n1_ n2_ n3_; clear hb hbox hg; have hcz16_0 : w15.cell? ⟨gb184, 0, none⟩ = some (.int .i64 0) := (blk_cell BK184.out 0).trans rfl; have hcz16_1 : w15.cell? ⟨gb184, 1, none⟩ = some (.int .i64 0) := (blk_cell BK184.out 1).trans rfl; have hcz16_2 : w15.cell? ⟨gb184, 2, none⟩ = some (.int .i64 0) := (blk_cell BK184.out 2).trans rfl; have hfz16_0 := blk_frozen BK184.out 0; have hfz16_1 := blk_frozen BK184.out 1; have hfz16_2 := blk_frozen BK184.out 2; have p185 : 0 ≤ (x8_2 : Int) := of_decide_eq_true (by first | (with_reducible assumption) | assumption); have q185 : x8_2 < (l0.length : Int) := of_decide_eq_true (by first | (with_reducible assumption) | assumption); obtain ⟨ad185, e185, hx185_0, hx185_1, hx185_2⟩ := at_T41 HR0.out x8_2 p185 q185; obtain rfl : ad179 = ad185 := (by injection e185); have hn185_0 : ad179.block ≠ gb184 := Nat.ne_of_lt (Nat.lt_of_lt_of_le (by have := World.block_lt_of_cell? _ _ hx185_0; first | rwa [add_block] at this | exact this) GW184.out); have hn185_1 : ad179.block ≠ gb184 := Nat.ne_of_lt (Nat.lt_of_lt_of_le (by have := World.block_lt_of_cell? _ _ hx185_0; first | rwa [add_block] at this | exact this) GW184.out); have hn185_2 : ad179.block ≠ gb184 := Nat.ne_of_lt (Nat.lt_of_lt_of_le (by have := World.block_lt_of_cell? _ _ hx185_0; first | rwa [add_block] at this | exact this) GW184.out); replace hx185_0 := (HB.out.cell (World.block_lt_of_cell? w _ hx185_0)).trans hx185_0; replace hx185_1 := (HB.out.cell (World.block_lt_of_cell? w _ hx185_1)).trans hx185_1; replace hx185_2 := (HB.out.cell (World.block_lt_of_cell? w _ hx185_2)).trans hx185_2; replace hx185_0 := (cell_far (p := ⟨gb184, 0, none⟩) (by first | (rw [add_block]; exact hn185_0) | (show (Addr.add _ _).block ≠ _; rw [add_block]; exact hn185_0) | exact hn185_0) (.int .i64 t180)).trans hx185_0; replace hx185_1 := (cell_far (p := ⟨gb184, 0, none⟩) (by first | (rw [add_block]; exact hn185_0) | (show (Addr.add _ _).block ≠ _; rw [add_block]; exact hn185_0) | exact hn185_0) (.int .i64 t180)).trans hx185_1; replace hx185_2 := (cell_far (p := ⟨gb184, 0, none⟩) (by first | (rw [add_block]; exact hn185_0) | (show (Addr.add _ _).block ≠ _; rw [add_block]; exact hn185_0) | exact hn185_0) (.int .i64 t180)).trans hx185_2; replace hx185_0 := (cell_far (p := ⟨gb184, 1, none⟩) (by first | (rw [add_block]; exact hn185_1) | (show (Addr.add _ _).block ≠ _; rw [add_block]; exact hn185_1) | exact hn185_1) (.int .i64 t181)).trans hx185_0; replace hx185_1 := (cell_far (p := ⟨gb184, 1, none⟩) (by first | (rw [add_block]; exact hn185_1) | (show (Addr.add _ _).block ≠ _; rw [add_block]; exact hn185_1) | exact hn185_1) (.int .i64 t181)).trans hx185_1; replace hx185_2 := (cell_far (p := ⟨gb184, 1, none⟩) (by first | (rw [add_block]; exact hn185_1) | (show (Addr.add _ _).block ≠ _; rw [add_block]; exact hn185_1) | exact hn185_1) (.int .i64 t181)).trans hx185_2; replace hx185_0 := (cell_far (p := ⟨gb184, 2, none⟩) (by first | (rw [add_block]; exact hn185_2) | (show (Addr.add _ _).block ≠ _; rw [add_block]; exact hn185_2) | exact hn185_2) (.int .i64 t182)).trans hx185_0; replace hx185_1 := (cell_far (p := ⟨gb184, 2, none⟩) (by first | (rw [add_block]; exact hn185_2) | (show (Addr.add _ _).block ≠ _; rw [add_block]; exact hn185_2) | exact hn185_2) (.int .i64 t182)).trans hx185_1; replace hx185_2 := (cell_far (p := ⟨gb184, 2, none⟩) (by first | (rw [add_block]; exact hn185_2) | (show (Addr.add _ _).block ≠ _; rw [add_block]; exact hn185_2) | exact hn185_2) (.int .i64 t182)).trans hx185_2; (try have hy185_0 := fun (n_ : Nat) => (show (((((w15.drewN n_).setCell ⟨gb184, 0, none⟩ (.int .i64 t180)).setCell ⟨gb184, 1, none⟩ (.int .i64 t181)).setCell ⟨gb184, 2, none⟩ (.int .i64 t182))).cell? _ = some _ from hx185_0)); (try have hy185_1 := fun (n_ : Nat) => (show (((((w15.drewN n_).setCell ⟨gb184, 0, none⟩ (.int .i64 t180)).setCell ⟨gb184, 1, none⟩ (.int .i64 t181)).setCell ⟨gb184, 2, none⟩ (.int .i64 t182))).cell? _ = some _ from hx185_1)); (try have hy185_2 := fun (n_ : Nat) => (show (((((w15.drewN n_).setCell ⟨gb184, 0, none⟩ (.int .i64 t180)).setCell ⟨gb184, 1, none⟩ (.int .i64 t181)).setCell ⟨gb184, 2, none⟩ (.int .i64 t182))).cell? _ = some _ from hx185_2)); clear hn185_0; clear hn185_1; clear hn185_2; replace p185 := eq_true p185; replace q185 := eq_true q185)); try go_wp2_with (first | (go_at_call 50; (with_reducible refine (railplanref9_find.calls k2 _ _ l1 ((rd_T41 l0 x8_2).f0) t180 t181 t182 true _ ?side1 ?side2 A10.out).mono ?_); (case side1 => repeat (first | exact (Kd.C_below HR1.out HB.out) | (with_reducible refine Kd.C_alloc ?_ _) | (with_reducible refine Kd.C_drewN ?_ _) | (with_reducible refine Kd.C_drew ?_))); (case side2 => exact HC1.out); rintro e w14 ⟨rfl, hb⟩; have n0_ := Aside0.mk (below_step (by repeat (first | (with_reducible first | exact HB.out | apply below_alloc | apply pw_below_drewN | apply below_drew1) | exact HB.out)) hb); clear HB; have HB := n0_; clear n0_; (try clear hb); (try clear hb2); (try clear hk); (try clear hi)) | ((with_reducible refine gate_dst (N := 9) rfl ?_); refine box_event ?hg (N := 9) ?hd (cs := #[.int .i64 0, .int .i64 0, .int .i64 0]) (t := 41) ?hr ?_; (case hd => rfl); (case hg => rfl); (case hr => first | (go_simp; done) | (go_simp; rfl)); intro gb184 hg w15 hbox hb; have n0_ := Aside0.mk (below_step (by repeat (first | (with_reducible first | exact HB.out | apply below_alloc | apply pw_below_drewN | apply below_drew1) | exact HB.out)) hb); have n1_ := Aside0.mk (hbox); have n2_ := Aside0.mk ((by rw [hg]; exact (below_size (by repeat (first | (with_reducible first | exact HB.out | apply below_alloc | apply pw_below_drewN | apply below_drew1) | exact HB.out))) : w.heap.size ≤ gb184)); have n3_ := Aside0.mk ((by rw [hg]; exact (below_size (by repeat (first | (with_reducible first | exact HB.out | apply below_alloc | apply pw_below_drewN | apply below_drew1) | exact HB.out))) : w.heap.size ≤ gb184)); clear HB; have HB := n0_; have BK184 := n1_; have GW184 := n2_; have GE184 := n3_; clear n0_ n1_ n2_ n3_; clear hb hbox hg; have hcz16_0 : w15.cell? ⟨gb184, 0, none⟩ = some (.int .i64 0) := (blk_cell BK184.out 0).trans rfl; have hcz16_1 : w15.cell? ⟨gb184, 1, none⟩ = some (.int .i64 0) := (blk_cell BK184.out 1).trans rfl; have hcz16_2 : w15.cell? ⟨gb184, 2, none⟩ = some (.int .i64 0) := (blk_cell BK184.out 2).trans rfl; have hfz16_0 := blk_frozen BK184.out 0; have hfz16_1 := blk_frozen BK184.out 1; have hfz16_2 := blk_frozen BK184.out 2; have p185 : 0 ≤ (x8_2 : Int) := of_decide_eq_true (by first | (with_reducible assumption) | assumption); have q185 : x8_2 < (l0.length : Int) := of_decide_eq_true (by first | (with_reducible assumption) | assumption); obtain ⟨ad185, e185, hx185_0, hx185_1, hx185_2⟩ := at_T41 HR0.out x8_2 p185 q185; obtain rfl : ad179 = ad185 := (by injection e185); have hn185_0 : ad179.block ≠ gb184 := Nat.ne_of_lt (Nat.lt_of_lt_of_le (by have := World.block_lt_of_cell? _ _ hx185_0; first | rwa [add_block] at this | exact this) GW184.out); have hn185_1 : ad179.block ≠ gb184 := Nat.ne_of_lt (Nat.lt_of_lt_of_le (by have := World.block_lt_of_cell? _ _ hx185_0; first | rwa [add_block] at this | exact this) GW184.out); have hn185_2 : ad179.block ≠ gb184 := Nat.ne_of_lt (Nat.lt_of_lt_of_le (by have := World.block_lt_of_cell? _ _ hx185_0; first | rwa [add_block] at this | exact this) GW184.out); replace hx185_0 := (HB.out.cell (World.block_lt_of_cell? w _ hx185_0)).trans hx185_0; replace hx185_1 := (HB.out.cell (World.block_lt_of_cell? w _ hx185_1)).trans hx185_1; replace hx185_2 := (HB.out.cell (World.block_lt_of_cell? w _ hx185_2)).trans hx185_2; replace hx185_0 := (cell_far (p := ⟨gb184, 0, none⟩) (by first | (rw [add_block]; exact hn185_0) | (show (Addr.add _ _).block ≠ _; rw [add_block]; exact hn185_0) | exact hn185_0) (.int .i64 t180)).trans hx185_0; replace hx185_1 := (cell_far (p := ⟨gb184, 0, none⟩) (by first | (rw [add_block]; exact hn185_0) | (show (Addr.add _ _).block ≠ _; rw [add_block]; exact hn185_0) | exact hn185_0) (.int .i64 t180)).trans hx185_1; replace hx185_2 := (cell_far (p := ⟨gb184, 0, none⟩) (by first | (rw [add_block]; exact hn185_0) | (show (Addr.add _ _).block ≠ _; rw [add_block]; exact hn185_0) | exact hn185_0) (.int .i64 t180)).trans hx185_2; replace hx185_0 := (cell_far (p := ⟨gb184, 1, none⟩) (by first | (rw [add_block]; exact hn185_1) | (show (Addr.add _ _).block ≠ _; rw [add_block]; exact hn185_1) | exact hn185_1) (.int .i64 t181)).trans hx185_0; replace hx185_1 := (cell_far (p := ⟨gb184, 1, none⟩) (by first | (rw [add_block]; exact hn185_1) | (show (Addr.add _ _).block ≠ _; rw [add_block]; exact hn185_1) | exact hn185_1) (.int .i64 t181)).trans hx185_1; replace hx185_2 := (cell_far (p := ⟨gb184, 1, none⟩) (by first | (rw [add_block]; exact hn185_1) | (show (Addr.add _ _).block ≠ _; rw [add_block]; exact hn185_1) | exact hn185_1) (.int .i64 t181)).trans hx185_2; replace hx185_0 := (cell_far (p := ⟨gb184, 2, none⟩) (by first | (rw [add_block]; exact hn185_2) | (show (Addr.add _ _).block ≠ _; rw [add_block]; exact hn185_2) | exact hn185_2) (.int .i64 t182)).trans hx185_0; replace hx185_1 := (cell_far (p := ⟨gb184, 2, none⟩) (by first | (rw [add_block]; exact hn185_2) | (show (Addr.add _ _).block ≠ _; rw [add_block]; exact hn185_2) | exact hn185_2) (.int .i64 t182)).trans hx185_1; replace hx185_2 := (cell_far (p := ⟨gb184, 2, none⟩) (by first | (rw [add_block]; exact hn185_2) | (show (Addr.add _ _).block ≠ _; rw [add_block]; exact hn185_2) | exact hn185_2) (.int .i64 t182)).trans hx185_2; (try have hy185_0 := fun (n_ : Nat) => (show (((((w15.drewN n_).setCell ⟨gb184, 0, none⟩ (.int .i64 t180)).setCell ⟨gb184, 1, none⟩ (.int .i64 t181)).setCell ⟨gb184, 2, none⟩ (.int .i64 t182))).cell? _ = some _ from hx185_0)); (try have hy185_1 := fun (n_ : Nat) => (show (((((w15.drewN n_).setCell ⟨gb184, 0, none⟩ (.int .i64 t180)).setCell ⟨gb184, 1, none⟩ (.int .i64 t181)).setCell ⟨gb184, 2, none⟩ (.int .i64 t182))).cell? _ = some _ from hx185_1)); (try have hy185_2 := fun (n_ : Nat) => (show (((((w15.drewN n_).setCell ⟨gb184, 0, none⟩ (.int .i64 t180)).setCell ⟨gb184, 1, none⟩ (.int .i64 t181)).setCell ⟨gb184, 2, none⟩ (.int .i64 t182))).cell? _ = some _ from hx185_2)); clear hn185_0; clear hn185_1; clear hn185_2; replace p185 := eq_true p185; replace q185 := eq_true q185)))
                      go_roundg k2
                      case measure => have := HJ2.out; have := HK2.out; omega
                      case rel => exact ⟨(wrap64 (((rd_T41 l0 x8_2).f2) - t181)), (true), (wrap64 (x8_2 + 1)), (by first | rfl | (simp; done) | (simp [*]; done)), (by first | rfl | (simp; done) | (simp [*]; done)), (by first | rfl | (simp; done) | (simp [*]; done)), H', ⟨by have := HJ2.out; have := HK2.out; omega⟩, ⟨by repeat (first | (with_reducible first | exact HB.out | apply below_alloc | apply pw_below_drewN | apply below_drew1 | refine below_set ?_ GE184.out) | exact HB.out)⟩⟩
                    · rw [if_neg c13] at H
                      have c13b0 : decide (x6_2 < (wrap64 (((rd_T41 l0 x8_2).f2) - t181))) = false := decide_eq_false c13
                      clear c13
                      have H' := Aside0.mk H
                      clear H
                      have p179 : 0 ≤ (x8_2 : Int) := of_decide_eq_true (by first | (with_reducible assumption) | assumption)
                      have q179 : x8_2 < (l0.length : Int) := of_decide_eq_true (by first | (with_reducible assumption) | assumption)
                      obtain ⟨ad179, e179, hx179_0, hx179_1, hx179_2⟩ := at_T41 HR0.out x8_2 p179 q179
                      cases e179
                      replace hx179_0 := (HB.out.cell (World.block_lt_of_cell? w _ hx179_0)).trans hx179_0
                      replace hx179_1 := (HB.out.cell (World.block_lt_of_cell? w _ hx179_1)).trans hx179_1
                      replace hx179_2 := (HB.out.cell (World.block_lt_of_cell? w _ hx179_2)).trans hx179_2
                      replace p179 := eq_true p179
                      replace q179 := eq_true q179
                      go_wp2_with (first | (go_at_call 50; (with_reducible refine (railplanref9_find.calls k2 _ _ l1 ((rd_T41 l0 x8_2).f0) t180 t181 t182 true _ ?side1 ?side2 A10.out).mono ?_); (case side1 => repeat (first | exact (Kd.C_below HR1.out HB.out) | (with_reducible refine Kd.C_alloc ?_ _) | (with_reducible refine Kd.C_drewN ?_ _) | (with_reducible refine Kd.C_drew ?_))); (case side2 => exact HC1.out); rintro e w17 ⟨rfl, hb⟩; have n0_ := Aside0.mk (below_step (by repeat (first | (with_reducible first | exact HB.out | apply below_alloc | apply pw_below_drewN | apply below_drew1) | exact HB.out)) hb); clear HB; have HB := n0_; clear n0_; (try clear hb); (try clear hb2); (try clear hk); (try clear hi)) | ((with_reducible refine gate_dst (N := 9) rfl ?_); refine box_event ?hg (N := 9) ?hd (cs := #[.int .i64 0, .int .i64 0, .int .i64 0]) (t := 41) ?hr ?_; (case hd => rfl); (case hg => rfl); (case hr => first | (go_simp; done) | (go_simp; rfl)); intro gb184 hg w18 hbox hb; have n0_ := Aside0.mk (below_step (by repeat (first | (with_reducible first | exact HB.out | apply below_alloc | apply pw_below_drewN | apply below_drew1) | exact HB.out)) hb); have n1_ := Aside0.mk (hbox); have n2_ := Aside0.mk ((by rw [hg]; exact (below_size (by repeat (first | (with_reducible first | exact HB.out | apply below_alloc | apply pw_below_drewN | apply below_drew1) | exact HB.out))) : w.heap.size ≤ gb184)); have n3_ := Aside0.mk ((by rw [hg]; exact (below_size (by repeat (first | (with_reducible first | exact HB.out | apply below_alloc | apply pw_below_drewN | apply below_drew1) | exact HB.out))) : w.heap.size ≤ gb184)); clear HB; have HB := n0_; have BK184 := n1_; have GW184 := n2_; have GE184 := n3_; clear n0_ n1_ n2_ n3_; clear hb hbox hg; have hcz19_0 : w18.cell? ⟨gb184, 0, none⟩ = some (.int .i64 0) := (blk_cell BK184.out 0).trans rfl; have hcz19_1 : w18.cell? ⟨gb184, 1, none⟩ = some (.int .i64 0) := (blk_cell BK184.out 1).trans rfl; have hcz19_2 : w18.cell? ⟨gb184, 2, none⟩ = some (.int .i64 0) := (blk_cell BK184.out 2).trans rfl; have hfz19_0 := blk_frozen BK184.out 0; have hfz19_1 := blk_frozen BK184.out 1; have hfz19_2 := blk_frozen BK184.out 2; have p185 : 0 ≤ (x8_2 : Int) := of_decide_eq_true (by first | (with_reducible assumption) | assumption); have q185 : x8_2 < (l0.length : Int) := of_decide_eq_true (by first | (with_reducible assumption) | assumption); obtain ⟨ad185, e185, hx185_0, hx185_1, hx185_2⟩ := at_T41 HR0.out x8_2 p185 q185; obtain rfl : ad179 = ad185 := (by injection e185); have hn185_0 : ad179.block ≠ gb184 := Nat.ne_of_lt (Nat.lt_of_lt_of_le (by have := World.block_lt_of_cell? _ _ hx185_0; first | rwa [add_block] at this | exact this) GW184.out); have hn185_1 : ad179.block ≠ gb184 := Nat.ne_of_lt (Nat.lt_of_lt_of_le (by have := World.block_lt_of_cell? _ _ hx185_0; first | rwa [add_block] at this | exact this) GW184.out); have hn185_2 : ad179.block ≠ gb184 := Nat.ne_of_lt (Nat.lt_of_lt_of_le (by have := World.block_lt_of_cell? _ _ hx185_0; first | rwa [add_block] at this | exact this) GW184.out); replace hx185_0 := (HB.out.cell (World.block_lt_of_cell? w _ hx185_0)).trans hx185_0; replace hx185_1 := (HB.out.cell (World.block_lt_of_cell? w _ hx185_1)).trans hx185_1; replace hx185_2 := (HB.out.cell (World.block_lt_of_cell? w _ hx185_2)).trans hx185_2; replace hx185_0 := (cell_far (p := ⟨gb184, 0, none⟩) (by first | (rw [add_block]; exact hn185_0) | (show (Addr.add _ _).block ≠ _; rw [add_block]; exact hn185_0) | exact hn185_0) (.int .i64 t180)).trans hx185_0; replace hx185_1 := (cell_far (p := ⟨gb184, 0, none⟩) (by first | (rw [add_block]; exact hn185_0) | (show (Addr.add _ _).block ≠ _; rw [add_block]; exact hn185_0) | exact hn185_0) (.int .i64 t180)).trans hx185_1; replace hx185_2 := (cell_far (p := ⟨gb184, 0, none⟩) (by first | (rw [add_block]; exact hn185_0) | (show (Addr.add _ _).block ≠ _; rw [add_block]; exact hn185_0) | exact hn185_0) (.int .i64 t180)).trans hx185_2; replace hx185_0 := (cell_far (p := ⟨gb184, 1, none⟩) (by first | (rw [add_block]; exact hn185_1) | (show (Addr.add _ _).block ≠ _; rw [add_block]; exact hn185_1) | exact hn185_1) (.int .i64 t181)).trans hx185_0; replace hx185_1 := (cell_far (p := ⟨gb184, 1, none⟩) (by first | (rw [add_block]; exact hn185_1) | (show (Addr.add _ _).block ≠ _; rw [add_block]; exact hn185_1) | exact hn185_1) (.int .i64 t181)).trans hx185_1; replace hx185_2 := (cell_far (p := ⟨gb184, 1, none⟩) (by first | (rw [add_block]; exact hn185_1) | (show (Addr.add _ _).block ≠ _; rw [add_block]; exact hn185_1) | exact hn185_1) (.int .i64 t181)).trans hx185_2; replace hx185_0 := (cell_far (p := ⟨gb184, 2, none⟩) (by first | (rw [add_block]; exact hn185_2) | (show (Addr.add _ _).block ≠ _; rw [add_block]; exact hn185_2) | exact hn185_2) (.int .i64 t182)).trans hx185_0; replace hx185_1 := (cell_far (p := ⟨gb184, 2, none⟩) (by first | (rw [add_block]; exact hn185_2) | (show (Addr.add _ _).block ≠ _; rw [add_block]; exact hn185_2) | exact hn185_2) (.int .i64 t182)).trans hx185_1; replace hx185_2 := (cell_far (p := ⟨gb184, 2, none⟩) (by first | (rw [add_block]; exact hn185_2) | (show (Addr.add _ _).block ≠ _; rw [add_block]; exact hn185_2) | exact hn185_2) (.int .i64 t182)).trans hx185_2; (try have hy185_0 := fun (n_ : Nat) => (show (((((w18.drewN n_).setCell ⟨gb184, 0, none⟩ (.int .i64 t180)).setCell ⟨gb184, 1, none⟩ (.int .i64 t181)).setCell ⟨gb184, 2, none⟩ (.int .i64 t182))).cell? _ = some _ from hx185_0)); (try have hy185_1 := fun (n_ : Nat) => (show (((((w18.drewN n_).setCell ⟨gb184, 0, none⟩ (.int .i64 t180)).setCell ⟨gb184, 1, none⟩ (.int .i64 t181)).setCell ⟨gb184, 2, none⟩ (.int .i64 t182))).cell? _ = some _ from hx185_1)); (try have hy185_2 := fun (n_ : Nat) => (show (((((w18.drewN n_).setCell ⟨gb184, 0, none⟩ (.int .i64 t180)).setCell ⟨gb184, 1, none⟩ (.int .i64 t181)).setCell ⟨gb184, 2, none⟩ (.int .i64 t182))).cell? _ = some _ from hx185_2)); clear hn185_0; clear hn185_1; clear hn185_2; replace p185 := eq_true p185; replace q185 := eq_true q185))
                      repeat (go_quiet (first | (go_at_call 50; (with_reducible refine (railplanref9_find.calls k2 _ _ l1 ((rd_T41 l0 x8_2).f0) t180 t181 t182 true _ ?side1 ?side2 A10.out).mono ?_); (case side1 => repeat (first | exact (Kd.C_below HR1.out HB.out) | (with_reducible refine Kd.C_alloc ?_ _) | (with_reducible refine Kd.C_drewN ?_ _) | (with_reducible refine Kd.C_drew ?_))); (case side2 => exact HC1.out); rintro e w17 ⟨rfl, hb⟩; have n0_ := Aside0.mk (below_step (by repeat (first | (with_reducible first | exact HB.out | apply below_alloc | apply pw_below_drewN | apply below_drew1) | exact HB.out)) hb); clear HB; have HB := n0_; clear n0_; (try clear hb); (try clear hb2); (try clear hk); (try clear hi)) | ((with_reducible refine gate_dst (N := 9) rfl ?_); refine box_event ?hg (N := 9) ?hd (cs := #[.int .i64 0, .int .i64 0, .int .i64 0]) (t := 41) ?hr ?_; (case hd => rfl); (case hg => rfl); (case hr => first | (go_simp; done) | (go_simp; rfl)); intro gb184 hg w18 hbox hb; have n0_ := Aside0.mk (below_step (by repeat (first | (with_reducible first | exact HB.out | apply below_alloc | apply pw_below_drewN | apply below_drew1) | exact HB.out)) hb); have n1_ := Aside0.mk (hbox); have n2_ := Aside0.mk ((by rw [hg]; exact (below_size (by repeat (first | (with_reducible first | exact HB.out | apply below_alloc | apply pw_below_drewN | apply below_drew1) | exact HB.out))) : w.heap.size ≤ gb184)); have n3_ := Aside0.mk ((by rw [hg]; exact (below_size (by repeat (first | (with_reducible first | exact HB.out | apply below_alloc | apply pw_below_drewN | apply below_drew1) | exact HB.out))) : w.heap.size ≤ gb184)); clear HB; have HB := n0_; have BK184 := n1_; have GW184 := n2_; have GE184 := n3_; clear n0_ n1_ n2_ n3_; clear hb hbox hg; have hcz19_0 : w18.cell? ⟨gb184, 0, none⟩ = some (.int .i64 0) := (blk_cell BK184.out 0).trans rfl; have hcz19_1 : w18.cell? ⟨gb184, 1, none⟩ = some (.int .i64 0) := (blk_cell BK184.out 1).trans rfl; have hcz19_2 : w18.cell? ⟨gb184, 2, none⟩ = some (.int .i64 0) := (blk_cell BK184.out 2).trans rfl; have hfz19_0 := blk_frozen BK184.out 0; have hfz19_1 := blk_frozen BK184.out 1; have hfz19_2 := blk_frozen BK184.out 2; have p185 : 0 ≤ (x8_2 : Int) := of_decide_eq_true (by first | (with_reducible assumption) | assumption); have q185 : x8_2 < (l0.length : Int) := of_decide_eq_true (by first | (with_reducible assumption) | assumption); obtain ⟨ad185, e185, hx185_0, hx185_1, hx185_2⟩ := at_T41 HR0.out x8_2 p185 q185; obtain rfl : ad179 = ad185 := (by injection e185); have hn185_0 : ad179.block ≠ gb184 := Nat.ne_of_lt (Nat.lt_of_lt_of_le (by have := World.block_lt_of_cell? _ _ hx185_0; first | rwa [add_block] at this | exact this) GW184.out); have hn185_1 : ad179.block ≠ gb184 := Nat.ne_of_lt (Nat.lt_of_lt_of_le (by have := World.block_lt_of_cell? _ _ hx185_0; first | rwa [add_block] at this | exact this) GW184.out); have hn185_2 : ad179.block ≠ gb184 := Nat.ne_of_lt (Nat.lt_of_lt_of_le (by have := World.block_lt_of_cell? _ _ hx185_0; first | rwa [add_block] at this | exact this) GW184.out); replace hx185_0 := (HB.out.cell (World.block_lt_of_cell? w _ hx185_0)).trans hx185_0; replace hx185_1 := (HB.out.cell (World.block_lt_of_cell? w _ hx185_1)).trans hx185_1; replace hx185_2 := (HB.out.cell (World.block_lt_of_cell? w _ hx185_2)).trans hx185_2; replace hx185_0 := (cell_far (p := ⟨gb184, 0, none⟩) (by first | (rw [add_block]; exact hn185_0) | (show (Addr.add _ _).block ≠ _; rw [add_block]; exact hn185_0) | exact hn185_0) (.int .i64 t180)).trans hx185_0; replace hx185_1 := (cell_far (p := ⟨gb184, 0, none⟩) (by first | (rw [add_block]; exact hn185_0) | (show (Addr.add _ _).block ≠ _; rw [add_block]; exact hn185_0) | exact hn185_0) (.int .i64 t180)).trans hx185_1; replace hx185_2 := (cell_far (p := ⟨gb184, 0, none⟩) (by first | (rw [add_block]; exact hn185_0) | (show (Addr.add _ _).block ≠ _; rw [add_block]; exact hn185_0) | exact hn185_0) (.int .i64 t180)).trans hx185_2; replace hx185_0 := (cell_far (p := ⟨gb184, 1, none⟩) (by first | (rw [add_block]; exact hn185_1) | (show (Addr.add _ _).block ≠ _; rw [add_block]; exact hn185_1) | exact hn185_1) (.int .i64 t181)).trans hx185_0; replace hx185_1 := (cell_far (p := ⟨gb184, 1, none⟩) (by first | (rw [add_block]; exact hn185_1) | (show (Addr.add _ _).block ≠ _; rw [add_block]; exact hn185_1) | exact hn185_1) (.int .i64 t181)).trans hx185_1; replace hx185_2 := (cell_far (p := ⟨gb184, 1, none⟩) (by first | (rw [add_block]; exact hn185_1) | (show (Addr.add _ _).block ≠ _; rw [add_block]; exact hn185_1) | exact hn185_1) (.int .i64 t181)).trans hx185_2; replace hx185_0 := (cell_far (p := ⟨gb184, 2, none⟩) (by first | (rw [add_block]; exact hn185_2) | (show (Addr.add _ _).block ≠ _; rw [add_block]; exact hn185_2) | exact hn185_2) (.int .i64 t182)).trans hx185_0; replace hx185_1 := (cell_far (p := ⟨gb184, 2, none⟩) (by first | (rw [add_block]; exact hn185_2) | (show (Addr.add _ _).block ≠ _; rw [add_block]; exact hn185_2) | exact hn185_2) (.int .i64 t182)).trans hx185_1; replace hx185_2 := (cell_far (p := ⟨gb184, 2, none⟩) (by first | (rw [add_block]; exact hn185_2) | (show (Addr.add _ _).block ≠ _; rw [add_block]; exact hn185_2) | exact hn185_2) (.int .i64 t182)).trans hx185_2; (try have hy185_0 := fun (n_ : Nat) => (show (((((w18.drewN n_).setCell ⟨gb184, 0, none⟩ (.int .i64 t180)).setCell ⟨gb184, 1, none⟩ (.int .i64 t181)).setCell ⟨gb184, 2, none⟩ (.int .i64 t182))).cell? _ = some _ from hx185_0)); (try have hy185_1 := fun (n_ : Nat) => (show (((((w18.drewN n_).setCell ⟨gb184, 0, none⟩ (.int .i64 t180)).setCell ⟨gb184, 1, none⟩ (.int .i64 t181)).setCell ⟨gb184, 2, none⟩ (.int .i64 t182))).cell? _ = some _ from hx185_1)); (try have hy185_2 := fun (n_ : Nat) => (show (((((w18.drewN n_).setCell ⟨gb184, 0, none⟩ (.int .i64 t180)).setCell ⟨gb184, 1, none⟩ (.int .i64 t181)).setCell ⟨gb184, 2, none⟩ (.int .i64 t182))).cell? _ = some _ from hx185_2)); clear hn185_0; clear hn185_1; clear hn185_2; replace p185 := eq_true p185; replace q185 := eq_true q185)); try go_wp2_with (first | (go_at_call 50; (with_reducible refine (railplanref9_find.calls k2 _ _ l1 ((rd_T41 l0 x8_2).f0) t180 t181 t182 true _ ?side1 ?side2 A10.out).mono ?_); (case side1 => repeat (first | exact (Kd.C_below HR1.out HB.out) | (with_reducible refine Kd.C_alloc ?_ _) | (with_reducible refine Kd.C_drewN ?_ _) | (with_reducible refine Kd.C_drew ?_))); (case side2 => exact HC1.out); rintro e w17 ⟨rfl, hb⟩; have n0_ := Aside0.mk (below_step (by repeat (first | (with_reducible first | exact HB.out | apply below_alloc | apply pw_below_drewN | apply below_drew1) | exact HB.out)) hb); clear HB; have HB := n0_; clear n0_; (try clear hb); (try clear hb2); (try clear hk); (try clear hi)) | ((with_reducible refine gate_dst (N := 9) rfl ?_); refine box_event ?hg (N := 9) ?hd (cs := #[.int .i64 0, .int .i64 0, .int .i64 0]) (t := 41) ?hr ?_; (case hd => rfl); (case hg => rfl); (case hr => first | (go_simp; done) | (go_simp; rfl)); intro gb184 hg w18 hbox hb; have n0_ := Aside0.mk (below_step (by repeat (first | (with_reducible first | exact HB.out | apply below_alloc | apply pw_below_drewN | apply below_drew1) | exact HB.out)) hb); have n1_ := Aside0.mk (hbox); have n2_ := Aside0.mk ((by rw [hg]; exact (below_size (by repeat (first | (with_reducible first | exact HB.out | apply below_alloc | apply pw_below_drewN | apply below_drew1) | exact HB.out))) : w.heap.size ≤ gb184)); have n3_ := Aside0.mk ((by rw [hg]; exact (below_size (by repeat (first | (with_reducible first | exact HB.out | apply below_alloc | apply pw_below_drewN | apply below_drew1) | exact HB.out))) : w.heap.size ≤ gb184)); clear HB; have HB := n0_; have BK184 := n1_; have GW184 := n2_; have GE184 := n3_; clear n0_ n1_ n2_ n3_; clear hb hbox hg; have hcz19_0 : w18.cell? ⟨gb184, 0, none⟩ = some (.int .i64 0) := (blk_cell BK184.out 0).trans rfl; have hcz19_1 : w18.cell? ⟨gb184, 1, none⟩ = some (.int .i64 0) := (blk_cell BK184.out 1).trans rfl; have hcz19_2 : w18.cell? ⟨gb184, 2, none⟩ = some (.int .i64 0) := (blk_cell BK184.out 2).trans rfl; have hfz19_0 := blk_frozen BK184.out 0; have hfz19_1 := blk_frozen BK184.out 1; have hfz19_2 := blk_frozen BK184.out 2; have p185 : 0 ≤ (x8_2 : Int) := of_decide_eq_true (by first | (with_reducible assumption) | assumption); have q185 : x8_2 < (l0.length : Int) := of_decide_eq_true (by first | (with_reducible assumption) | assumption); obtain ⟨ad185, e185, hx185_0, hx185_1, hx185_2⟩ := at_T41 HR0.out x8_2 p185 q185; obtain rfl : ad179 = ad185 := (by injection e185); have hn185_0 : ad179.block ≠ gb184 := Nat.ne_of_lt (Nat.lt_of_lt_of_le (by have := World.block_lt_of_cell? _ _ hx185_0; first | rwa [add_block] at this | exact this) GW184.out); have hn185_1 : ad179.block ≠ gb184 := Nat.ne_of_lt (Nat.lt_of_lt_of_le (by have := World.block_lt_of_cell? _ _ hx185_0; first | rwa [add_block] at this | exact this) GW184.out); have hn185_2 : ad179.block ≠ gb184 := Nat.ne_of_lt (Nat.lt_of_lt_of_le (by have := World.block_lt_of_cell? _ _ hx185_0; first | rwa [add_block] at this | exact this) GW184.out); replace hx185_0 := (HB.out.cell (World.block_lt_of_cell? w _ hx185_0)).trans hx185_0; replace hx185_1 := (HB.out.cell (World.block_lt_of_cell? w _ hx185_1)).trans hx185_1; replace hx185_2 := (HB.out.cell (World.block_lt_of_cell? w _ hx185_2)).trans hx185_2; replace hx185_0 := (cell_far (p := ⟨gb184, 0, none⟩) (by first | (rw [add_block]; exact hn185_0) | (show (Addr.add _ _).block ≠ _; rw [add_block]; exact hn185_0) | exact hn185_0) (.int .i64 t180)).trans hx185_0; replace hx185_1 := (cell_far (p := ⟨gb184, 0, none⟩) (by first | (rw [add_block]; exact hn185_0) | (show (Addr.add _ _).block ≠ _; rw [add_block]; exact hn185_0) | exact hn185_0) (.int .i64 t180)).trans hx185_1; replace hx185_2 := (cell_far (p := ⟨gb184, 0, none⟩) (by first | (rw [add_block]; exact hn185_0) | (show (Addr.add _ _).block ≠ _; rw [add_block]; exact hn185_0) | exact hn185_0) (.int .i64 t180)).trans hx185_2; replace hx185_0 := (cell_far (p := ⟨gb184, 1, none⟩) (by first | (rw [add_block]; exact hn185_1) | (show (Addr.add _ _).block ≠ _; rw [add_block]; exact hn185_1) | exact hn185_1) (.int .i64 t181)).trans hx185_0; replace hx185_1 := (cell_far (p := ⟨gb184, 1, none⟩) (by first | (rw [add_block]; exact hn185_1) | (show (Addr.add _ _).block ≠ _; rw [add_block]; exact hn185_1) | exact hn185_1) (.int .i64 t181)).trans hx185_1; replace hx185_2 := (cell_far (p := ⟨gb184, 1, none⟩) (by first | (rw [add_block]; exact hn185_1) | (show (Addr.add _ _).block ≠ _; rw [add_block]; exact hn185_1) | exact hn185_1) (.int .i64 t181)).trans hx185_2; replace hx185_0 := (cell_far (p := ⟨gb184, 2, none⟩) (by first | (rw [add_block]; exact hn185_2) | (show (Addr.add _ _).block ≠ _; rw [add_block]; exact hn185_2) | exact hn185_2) (.int .i64 t182)).trans hx185_0; replace hx185_1 := (cell_far (p := ⟨gb184, 2, none⟩) (by first | (rw [add_block]; exact hn185_2) | (show (Addr.add _ _).block ≠ _; rw [add_block]; exact hn185_2) | exact hn185_2) (.int .i64 t182)).trans hx185_1; replace hx185_2 := (cell_far (p := ⟨gb184, 2, none⟩) (by first | (rw [add_block]; exact hn185_2) | (show (Addr.add _ _).block ≠ _; rw [add_block]; exact hn185_2) | exact hn185_2) (.int .i64 t182)).trans hx185_2; (try have hy185_0 := fun (n_ : Nat) => (show (((((w18.drewN n_).setCell ⟨gb184, 0, none⟩ (.int .i64 t180)).setCell ⟨gb184, 1, none⟩ (.int .i64 t181)).setCell ⟨gb184, 2, none⟩ (.int .i64 t182))).cell? _ = some _ from hx185_0)); (try have hy185_1 := fun (n_ : Nat) => (show (((((w18.drewN n_).setCell ⟨gb184, 0, none⟩ (.int .i64 t180)).setCell ⟨gb184, 1, none⟩ (.int .i64 t181)).setCell ⟨gb184, 2, none⟩ (.int .i64 t182))).cell? _ = some _ from hx185_1)); (try have hy185_2 := fun (n_ : Nat) => (show (((((w18.drewN n_).setCell ⟨gb184, 0, none⟩ (.int .i64 t180)).setCell ⟨gb184, 1, none⟩ (.int .i64 t181)).setCell ⟨gb184, 2, none⟩ (.int .i64 t182))).cell? _ = some _ from hx185_2)); clear hn185_0; clear hn185_1; clear hn185_2; replace p185 := eq_true p185; replace q185 := eq_true q185)))
                      go_roundg k2
                      case measure => have := HJ2.out; have := HK2.out; omega
                      case rel => exact ⟨(x6_2), (true), (wrap64 (x8_2 + 1)), (by first | rfl | (simp; done) | (simp [*]; done)), (by first | rfl | (simp; done) | (simp [*]; done)), (by first | rfl | (simp; done) | (simp [*]; done)), H', ⟨by have := HJ2.out; have := HK2.out; omega⟩, ⟨by repeat (first | (with_reducible first | exact HB.out | apply below_alloc | apply pw_below_drewN | apply below_drew1 | refine below_set ?_ GE184.out) | exact HB.out)⟩⟩
                  · replace c12 := Bool.eq_false_iff.mpr c12
                    subst c12
                    have H1 : (railplanref9_Least.l0 k2 l0 l1 (wrap64 (((rd_T41 l0 x8_2).f2) - t181)) true (wrap64 (x8_2 + 1))) = some (r1, r2) := by rw [if_neg (show ¬ (false = true) by decide)] at H; exact H
                    clear H
                    have H := H1
                    clear H1
                    have H' := Aside0.mk H
                    clear H
                    have p179 : 0 ≤ (x8_2 : Int) := of_decide_eq_true (by first | (with_reducible assumption) | assumption)
                    have q179 : x8_2 < (l0.length : Int) := of_decide_eq_true (by first | (with_reducible assumption) | assumption)
                    obtain ⟨ad179, e179, hx179_0, hx179_1, hx179_2⟩ := at_T41 HR0.out x8_2 p179 q179
                    cases e179
                    replace hx179_0 := (HB.out.cell (World.block_lt_of_cell? w _ hx179_0)).trans hx179_0
                    replace hx179_1 := (HB.out.cell (World.block_lt_of_cell? w _ hx179_1)).trans hx179_1
                    replace hx179_2 := (HB.out.cell (World.block_lt_of_cell? w _ hx179_2)).trans hx179_2
                    replace p179 := eq_true p179
                    replace q179 := eq_true q179
                    go_wp2_with (first | (go_at_call 50; (with_reducible refine (railplanref9_find.calls k2 _ _ l1 ((rd_T41 l0 x8_2).f0) t180 t181 t182 true _ ?side1 ?side2 A10.out).mono ?_); (case side1 => repeat (first | exact (Kd.C_below HR1.out HB.out) | (with_reducible refine Kd.C_alloc ?_ _) | (with_reducible refine Kd.C_drewN ?_ _) | (with_reducible refine Kd.C_drew ?_))); (case side2 => exact HC1.out); rintro e w20 ⟨rfl, hb⟩; have n0_ := Aside0.mk (below_step (by repeat (first | (with_reducible first | exact HB.out | apply below_alloc | apply pw_below_drewN | apply below_drew1) | exact HB.out)) hb); clear HB; have HB := n0_; clear n0_; (try clear hb); (try clear hb2); (try clear hk); (try clear hi)) | ((with_reducible refine gate_dst (N := 9) rfl ?_); refine box_event ?hg (N := 9) ?hd (cs := #[.int .i64 0, .int .i64 0, .int .i64 0]) (t := 41) ?hr ?_; (case hd => rfl); (case hg => rfl); (case hr => first | (go_simp; done) | (go_simp; rfl)); intro gb184 hg w21 hbox hb; have n0_ := Aside0.mk (below_step (by repeat (first | (with_reducible first | exact HB.out | apply below_alloc | apply pw_below_drewN | apply below_drew1) | exact HB.out)) hb); have n1_ := Aside0.mk (hbox); have n2_ := Aside0.mk ((by rw [hg]; exact (below_size (by repeat (first | (with_reducible first | exact HB.out | apply below_alloc | apply pw_below_drewN | apply below_drew1) | exact HB.out))) : w.heap.size ≤ gb184)); have n3_ := Aside0.mk ((by rw [hg]; exact (below_size (by repeat (first | (with_reducible first | exact HB.out | apply below_alloc | apply pw_below_drewN | apply below_drew1) | exact HB.out))) : w.heap.size ≤ gb184)); clear HB; have HB := n0_; have BK184 := n1_; have GW184 := n2_; have GE184 := n3_; clear n0_ n1_ n2_ n3_; clear hb hbox hg; have hcz22_0 : w21.cell? ⟨gb184, 0, none⟩ = some (.int .i64 0) := (blk_cell BK184.out 0).trans rfl; have hcz22_1 : w21.cell? ⟨gb184, 1, none⟩ = some (.int .i64 0) := (blk_cell BK184.out 1).trans rfl; have hcz22_2 : w21.cell? ⟨gb184, 2, none⟩ = some (.int .i64 0) := (blk_cell BK184.out 2).trans rfl; have hfz22_0 := blk_frozen BK184.out 0; have hfz22_1 := blk_frozen BK184.out 1; have hfz22_2 := blk_frozen BK184.out 2; have p185 : 0 ≤ (x8_2 : Int) := of_decide_eq_true (by first | (with_reducible assumption) | assumption); have q185 : x8_2 < (l0.length : Int) := of_decide_eq_true (by first | (with_reducible assumption) | assumption); obtain ⟨ad185, e185, hx185_0, hx185_1, hx185_2⟩ := at_T41 HR0.out x8_2 p185 q185; obtain rfl : ad179 = ad185 := (by injection e185); have hn185_0 : ad179.block ≠ gb184 := Nat.ne_of_lt (Nat.lt_of_lt_of_le (by have := World.block_lt_of_cell? _ _ hx185_0; first | rwa [add_block] at this | exact this) GW184.out); have hn185_1 : ad179.block ≠ gb184 := Nat.ne_of_lt (Nat.lt_of_lt_of_le (by have := World.block_lt_of_cell? _ _ hx185_0; first | rwa [add_block] at this | exact this) GW184.out); have hn185_2 : ad179.block ≠ gb184 := Nat.ne_of_lt (Nat.lt_of_lt_of_le (by have := World.block_lt_of_cell? _ _ hx185_0; first | rwa [add_block] at this | exact this) GW184.out); replace hx185_0 := (HB.out.cell (World.block_lt_of_cell? w _ hx185_0)).trans hx185_0; replace hx185_1 := (HB.out.cell (World.block_lt_of_cell? w _ hx185_1)).trans hx185_1; replace hx185_2 := (HB.out.cell (World.block_lt_of_cell? w _ hx185_2)).trans hx185_2; replace hx185_0 := (cell_far (p := ⟨gb184, 0, none⟩) (by first | (rw [add_block]; exact hn185_0) | (show (Addr.add _ _).block ≠ _; rw [add_block]; exact hn185_0) | exact hn185_0) (.int .i64 t180)).trans hx185_0; replace hx185_1 := (cell_far (p := ⟨gb184, 0, none⟩) (by first | (rw [add_block]; exact hn185_0) | (show (Addr.add _ _).block ≠ _; rw [add_block]; exact hn185_0) | exact hn185_0) (.int .i64 t180)).trans hx185_1; replace hx185_2 := (cell_far (p := ⟨gb184, 0, none⟩) (by first | (rw [add_block]; exact hn185_0) | (show (Addr.add _ _).block ≠ _; rw [add_block]; exact hn185_0) | exact hn185_0) (.int .i64 t180)).trans hx185_2; replace hx185_0 := (cell_far (p := ⟨gb184, 1, none⟩) (by first | (rw [add_block]; exact hn185_1) | (show (Addr.add _ _).block ≠ _; rw [add_block]; exact hn185_1) | exact hn185_1) (.int .i64 t181)).trans hx185_0; replace hx185_1 := (cell_far (p := ⟨gb184, 1, none⟩) (by first | (rw [add_block]; exact hn185_1) | (show (Addr.add _ _).block ≠ _; rw [add_block]; exact hn185_1) | exact hn185_1) (.int .i64 t181)).trans hx185_1; replace hx185_2 := (cell_far (p := ⟨gb184, 1, none⟩) (by first | (rw [add_block]; exact hn185_1) | (show (Addr.add _ _).block ≠ _; rw [add_block]; exact hn185_1) | exact hn185_1) (.int .i64 t181)).trans hx185_2; replace hx185_0 := (cell_far (p := ⟨gb184, 2, none⟩) (by first | (rw [add_block]; exact hn185_2) | (show (Addr.add _ _).block ≠ _; rw [add_block]; exact hn185_2) | exact hn185_2) (.int .i64 t182)).trans hx185_0; replace hx185_1 := (cell_far (p := ⟨gb184, 2, none⟩) (by first | (rw [add_block]; exact hn185_2) | (show (Addr.add _ _).block ≠ _; rw [add_block]; exact hn185_2) | exact hn185_2) (.int .i64 t182)).trans hx185_1; replace hx185_2 := (cell_far (p := ⟨gb184, 2, none⟩) (by first | (rw [add_block]; exact hn185_2) | (show (Addr.add _ _).block ≠ _; rw [add_block]; exact hn185_2) | exact hn185_2) (.int .i64 t182)).trans hx185_2; (try have hy185_0 := fun (n_ : Nat) => (show (((((w21.drewN n_).setCell ⟨gb184, 0, none⟩ (.int .i64 t180)).setCell ⟨gb184, 1, none⟩ (.int .i64 t181)).setCell ⟨gb184, 2, none⟩ (.int .i64 t182))).cell? _ = some _ from hx185_0)); (try have hy185_1 := fun (n_ : Nat) => (show (((((w21.drewN n_).setCell ⟨gb184, 0, none⟩ (.int .i64 t180)).setCell ⟨gb184, 1, none⟩ (.int .i64 t181)).setCell ⟨gb184, 2, none⟩ (.int .i64 t182))).cell? _ = some _ from hx185_1)); (try have hy185_2 := fun (n_ : Nat) => (show (((((w21.drewN n_).setCell ⟨gb184, 0, none⟩ (.int .i64 t180)).setCell ⟨gb184, 1, none⟩ (.int .i64 t181)).setCell ⟨gb184, 2, none⟩ (.int .i64 t182))).cell? _ = some _ from hx185_2)); clear hn185_0; clear hn185_1; clear hn185_2; replace p185 := eq_true p185; replace q185 := eq_true q185))
                    repeat (go_quiet (first | (go_at_call 50; (with_reducible refine (railplanref9_find.calls k2 _ _ l1 ((rd_T41 l0 x8_2).f0) t180 t181 t182 true _ ?side1 ?side2 A10.out).mono ?_); (case side1 => repeat (first | exact (Kd.C_below HR1.out HB.out) | (with_reducible refine Kd.C_alloc ?_ _) | (with_reducible refine Kd.C_drewN ?_ _) | (with_reducible refine Kd.C_drew ?_))); (case side2 => exact HC1.out); rintro e w20 ⟨rfl, hb⟩; have n0_ := Aside0.mk (below_step (by repeat (first | (with_reducible first | exact HB.out | apply below_alloc | apply pw_below_drewN | apply below_drew1) | exact HB.out)) hb); clear HB; have HB := n0_; clear n0_; (try clear hb); (try clear hb2); (try clear hk); (try clear hi)) | ((with_reducible refine gate_dst (N := 9) rfl ?_); refine box_event ?hg (N := 9) ?hd (cs := #[.int .i64 0, .int .i64 0, .int .i64 0]) (t := 41) ?hr ?_; (case hd => rfl); (case hg => rfl); (case hr => first | (go_simp; done) | (go_simp; rfl)); intro gb184 hg w21 hbox hb; have n0_ := Aside0.mk (below_step (by repeat (first | (with_reducible first | exact HB.out | apply below_alloc | apply pw_below_drewN | apply below_drew1) | exact HB.out)) hb); have n1_ := Aside0.mk (hbox); have n2_ := Aside0.mk ((by rw [hg]; exact (below_size (by repeat (first | (with_reducible first | exact HB.out | apply below_alloc | apply pw_below_drewN | apply below_drew1) | exact HB.out))) : w.heap.size ≤ gb184)); have n3_ := Aside0.mk ((by rw [hg]; exact (below_size (by repeat (first | (with_reducible first | exact HB.out | apply below_alloc | apply pw_below_drewN | apply below_drew1) | exact HB.out))) : w.heap.size ≤ gb184)); clear HB; have HB := n0_; have BK184 := n1_; have GW184 := n2_; have GE184 := n3_; clear n0_ n1_ n2_ n3_; clear hb hbox hg; have hcz22_0 : w21.cell? ⟨gb184, 0, none⟩ = some (.int .i64 0) := (blk_cell BK184.out 0).trans rfl; have hcz22_1 : w21.cell? ⟨gb184, 1, none⟩ = some (.int .i64 0) := (blk_cell BK184.out 1).trans rfl; have hcz22_2 : w21.cell? ⟨gb184, 2, none⟩ = some (.int .i64 0) := (blk_cell BK184.out 2).trans rfl; have hfz22_0 := blk_frozen BK184.out 0; have hfz22_1 := blk_frozen BK184.out 1; have hfz22_2 := blk_frozen BK184.out 2; have p185 : 0 ≤ (x8_2 : Int) := of_decide_eq_true (by first | (with_reducible assumption) | assumption); have q185 : x8_2 < (l0.length : Int) := of_decide_eq_true (by first | (with_reducible assumption) | assumption); obtain ⟨ad185, e185, hx185_0, hx185_1, hx185_2⟩ := at_T41 HR0.out x8_2 p185 q185; obtain rfl : ad179 = ad185 := (by injection e185); have hn185_0 : ad179.block ≠ gb184 := Nat.ne_of_lt (Nat.lt_of_lt_of_le (by have := World.block_lt_of_cell? _ _ hx185_0; first | rwa [add_block] at this | exact this) GW184.out); have hn185_1 : ad179.block ≠ gb184 := Nat.ne_of_lt (Nat.lt_of_lt_of_le (by have := World.block_lt_of_cell? _ _ hx185_0; first | rwa [add_block] at this | exact this) GW184.out); have hn185_2 : ad179.block ≠ gb184 := Nat.ne_of_lt (Nat.lt_of_lt_of_le (by have := World.block_lt_of_cell? _ _ hx185_0; first | rwa [add_block] at this | exact this) GW184.out); replace hx185_0 := (HB.out.cell (World.block_lt_of_cell? w _ hx185_0)).trans hx185_0; replace hx185_1 := (HB.out.cell (World.block_lt_of_cell? w _ hx185_1)).trans hx185_1; replace hx185_2 := (HB.out.cell (World.block_lt_of_cell? w _ hx185_2)).trans hx185_2; replace hx185_0 := (cell_far (p := ⟨gb184, 0, none⟩) (by first | (rw [add_block]; exact hn185_0) | (show (Addr.add _ _).block ≠ _; rw [add_block]; exact hn185_0) | exact hn185_0) (.int .i64 t180)).trans hx185_0; replace hx185_1 := (cell_far (p := ⟨gb184, 0, none⟩) (by first | (rw [add_block]; exact hn185_0) | (show (Addr.add _ _).block ≠ _; rw [add_block]; exact hn185_0) | exact hn185_0) (.int .i64 t180)).trans hx185_1; replace hx185_2 := (cell_far (p := ⟨gb184, 0, none⟩) (by first | (rw [add_block]; exact hn185_0) | (show (Addr.add _ _).block ≠ _; rw [add_block]; exact hn185_0) | exact hn185_0) (.int .i64 t180)).trans hx185_2; replace hx185_0 := (cell_far (p := ⟨gb184, 1, none⟩) (by first | (rw [add_block]; exact hn185_1) | (show (Addr.add _ _).block ≠ _; rw [add_block]; exact hn185_1) | exact hn185_1) (.int .i64 t181)).trans hx185_0; replace hx185_1 := (cell_far (p := ⟨gb184, 1, none⟩) (by first | (rw [add_block]; exact hn185_1) | (show (Addr.add _ _).block ≠ _; rw [add_block]; exact hn185_1) | exact hn185_1) (.int .i64 t181)).trans hx185_1; replace hx185_2 := (cell_far (p := ⟨gb184, 1, none⟩) (by first | (rw [add_block]; exact hn185_1) | (show (Addr.add _ _).block ≠ _; rw [add_block]; exact hn185_1) | exact hn185_1) (.int .i64 t181)).trans hx185_2; replace hx185_0 := (cell_far (p := ⟨gb184, 2, none⟩) (by first | (rw [add_block]; exact hn185_2) | (show (Addr.add _ _).block ≠ _; rw [add_block]; exact hn185_2) | exact hn185_2) (.int .i64 t182)).trans hx185_0; replace hx185_1 := (cell_far (p := ⟨gb184, 2, none⟩) (by first | (rw [add_block]; exact hn185_2) | (show (Addr.add _ _).block ≠ _; rw [add_block]; exact hn185_2) | exact hn185_2) (.int .i64 t182)).trans hx185_1; replace hx185_2 := (cell_far (p := ⟨gb184, 2, none⟩) (by first | (rw [add_block]; exact hn185_2) | (show (Addr.add _ _).block ≠ _; rw [add_block]; exact hn185_2) | exact hn185_2) (.int .i64 t182)).trans hx185_2; (try have hy185_0 := fun (n_ : Nat) => (show (((((w21.drewN n_).setCell ⟨gb184, 0, none⟩ (.int .i64 t180)).setCell ⟨gb184, 1, none⟩ (.int .i64 t181)).setCell ⟨gb184, 2, none⟩ (.int .i64 t182))).cell? _ = some _ from hx185_0)); (try have hy185_1 := fun (n_ : Nat) => (show (((((w21.drewN n_).setCell ⟨gb184, 0, none⟩ (.int .i64 t180)).setCell ⟨gb184, 1, none⟩ (.int .i64 t181)).setCell ⟨gb184, 2, none⟩ (.int .i64 t182))).cell? _ = some _ from hx185_1)); (try have hy185_2 := fun (n_ : Nat) => (show (((((w21.drewN n_).setCell ⟨gb184, 0, none⟩ (.int .i64 t180)).setCell ⟨gb184, 1, none⟩ (.int .i64 t181)).setCell ⟨gb184, 2, none⟩ (.int .i64 t182))).cell? _ = some _ from hx185_2)); clear hn185_0; clear hn185_1; clear hn185_2; replace p185 := eq_true p185; replace q185 := eq_true q185)); try go_wp2_with (first | (go_at_call 50; (with_reducible refine (railplanref9_find.calls k2 _ _ l1 ((rd_T41 l0 x8_2).f0) t180 t181 t182 true _ ?side1 ?side2 A10.out).mono ?_); (case side1 => repeat (first | exact (Kd.C_below HR1.out HB.out) | (with_reducible refine Kd.C_alloc ?_ _) | (with_reducible refine Kd.C_drewN ?_ _) | (with_reducible refine Kd.C_drew ?_))); (case side2 => exact HC1.out); rintro e w20 ⟨rfl, hb⟩; have n0_ := Aside0.mk (below_step (by repeat (first | (with_reducible first | exact HB.out | apply below_alloc | apply pw_below_drewN | apply below_drew1) | exact HB.out)) hb); clear HB; have HB := n0_; clear n0_; (try clear hb); (try clear hb2); (try clear hk); (try clear hi)) | ((with_reducible refine gate_dst (N := 9) rfl ?_); refine box_event ?hg (N := 9) ?hd (cs := #[.int .i64 0, .int .i64 0, .int .i64 0]) (t := 41) ?hr ?_; (case hd => rfl); (case hg => rfl); (case hr => first | (go_simp; done) | (go_simp; rfl)); intro gb184 hg w21 hbox hb; have n0_ := Aside0.mk (below_step (by repeat (first | (with_reducible first | exact HB.out | apply below_alloc | apply pw_below_drewN | apply below_drew1) | exact HB.out)) hb); have n1_ := Aside0.mk (hbox); have n2_ := Aside0.mk ((by rw [hg]; exact (below_size (by repeat (first | (with_reducible first | exact HB.out | apply below_alloc | apply pw_below_drewN | apply below_drew1) | exact HB.out))) : w.heap.size ≤ gb184)); have n3_ := Aside0.mk ((by rw [hg]; exact (below_size (by repeat (first | (with_reducible first | exact HB.out | apply below_alloc | apply pw_below_drewN | apply below_drew1) | exact HB.out))) : w.heap.size ≤ gb184)); clear HB; have HB := n0_; have BK184 := n1_; have GW184 := n2_; have GE184 := n3_; clear n0_ n1_ n2_ n3_; clear hb hbox hg; have hcz22_0 : w21.cell? ⟨gb184, 0, none⟩ = some (.int .i64 0) := (blk_cell BK184.out 0).trans rfl; have hcz22_1 : w21.cell? ⟨gb184, 1, none⟩ = some (.int .i64 0) := (blk_cell BK184.out 1).trans rfl; have hcz22_2 : w21.cell? ⟨gb184, 2, none⟩ = some (.int .i64 0) := (blk_cell BK184.out 2).trans rfl; have hfz22_0 := blk_frozen BK184.out 0; have hfz22_1 := blk_frozen BK184.out 1; have hfz22_2 := blk_frozen BK184.out 2; have p185 : 0 ≤ (x8_2 : Int) := of_decide_eq_true (by first | (with_reducible assumption) | assumption); have q185 : x8_2 < (l0.length : Int) := of_decide_eq_true (by first | (with_reducible assumption) | assumption); obtain ⟨ad185, e185, hx185_0, hx185_1, hx185_2⟩ := at_T41 HR0.out x8_2 p185 q185; obtain rfl : ad179 = ad185 := (by injection e185); have hn185_0 : ad179.block ≠ gb184 := Nat.ne_of_lt (Nat.lt_of_lt_of_le (by have := World.block_lt_of_cell? _ _ hx185_0; first | rwa [add_block] at this | exact this) GW184.out); have hn185_1 : ad179.block ≠ gb184 := Nat.ne_of_lt (Nat.lt_of_lt_of_le (by have := World.block_lt_of_cell? _ _ hx185_0; first | rwa [add_block] at this | exact this) GW184.out); have hn185_2 : ad179.block ≠ gb184 := Nat.ne_of_lt (Nat.lt_of_lt_of_le (by have := World.block_lt_of_cell? _ _ hx185_0; first | rwa [add_block] at this | exact this) GW184.out); replace hx185_0 := (HB.out.cell (World.block_lt_of_cell? w _ hx185_0)).trans hx185_0; replace hx185_1 := (HB.out.cell (World.block_lt_of_cell? w _ hx185_1)).trans hx185_1; replace hx185_2 := (HB.out.cell (World.block_lt_of_cell? w _ hx185_2)).trans hx185_2; replace hx185_0 := (cell_far (p := ⟨gb184, 0, none⟩) (by first | (rw [add_block]; exact hn185_0) | (show (Addr.add _ _).block ≠ _; rw [add_block]; exact hn185_0) | exact hn185_0) (.int .i64 t180)).trans hx185_0; replace hx185_1 := (cell_far (p := ⟨gb184, 0, none⟩) (by first | (rw [add_block]; exact hn185_0) | (show (Addr.add _ _).block ≠ _; rw [add_block]; exact hn185_0) | exact hn185_0) (.int .i64 t180)).trans hx185_1; replace hx185_2 := (cell_far (p := ⟨gb184, 0, none⟩) (by first | (rw [add_block]; exact hn185_0) | (show (Addr.add _ _).block ≠ _; rw [add_block]; exact hn185_0) | exact hn185_0) (.int .i64 t180)).trans hx185_2; replace hx185_0 := (cell_far (p := ⟨gb184, 1, none⟩) (by first | (rw [add_block]; exact hn185_1) | (show (Addr.add _ _).block ≠ _; rw [add_block]; exact hn185_1) | exact hn185_1) (.int .i64 t181)).trans hx185_0; replace hx185_1 := (cell_far (p := ⟨gb184, 1, none⟩) (by first | (rw [add_block]; exact hn185_1) | (show (Addr.add _ _).block ≠ _; rw [add_block]; exact hn185_1) | exact hn185_1) (.int .i64 t181)).trans hx185_1; replace hx185_2 := (cell_far (p := ⟨gb184, 1, none⟩) (by first | (rw [add_block]; exact hn185_1) | (show (Addr.add _ _).block ≠ _; rw [add_block]; exact hn185_1) | exact hn185_1) (.int .i64 t181)).trans hx185_2; replace hx185_0 := (cell_far (p := ⟨gb184, 2, none⟩) (by first | (rw [add_block]; exact hn185_2) | (show (Addr.add _ _).block ≠ _; rw [add_block]; exact hn185_2) | exact hn185_2) (.int .i64 t182)).trans hx185_0; replace hx185_1 := (cell_far (p := ⟨gb184, 2, none⟩) (by first | (rw [add_block]; exact hn185_2) | (show (Addr.add _ _).block ≠ _; rw [add_block]; exact hn185_2) | exact hn185_2) (.int .i64 t182)).trans hx185_1; replace hx185_2 := (cell_far (p := ⟨gb184, 2, none⟩) (by first | (rw [add_block]; exact hn185_2) | (show (Addr.add _ _).block ≠ _; rw [add_block]; exact hn185_2) | exact hn185_2) (.int .i64 t182)).trans hx185_2; (try have hy185_0 := fun (n_ : Nat) => (show (((((w21.drewN n_).setCell ⟨gb184, 0, none⟩ (.int .i64 t180)).setCell ⟨gb184, 1, none⟩ (.int .i64 t181)).setCell ⟨gb184, 2, none⟩ (.int .i64 t182))).cell? _ = some _ from hx185_0)); (try have hy185_1 := fun (n_ : Nat) => (show (((((w21.drewN n_).setCell ⟨gb184, 0, none⟩ (.int .i64 t180)).setCell ⟨gb184, 1, none⟩ (.int .i64 t181)).setCell ⟨gb184, 2, none⟩ (.int .i64 t182))).cell? _ = some _ from hx185_1)); (try have hy185_2 := fun (n_ : Nat) => (show (((((w21.drewN n_).setCell ⟨gb184, 0, none⟩ (.int .i64 t180)).setCell ⟨gb184, 1, none⟩ (.int .i64 t181)).setCell ⟨gb184, 2, none⟩ (.int .i64 t182))).cell? _ = some _ from hx185_2)); clear hn185_0; clear hn185_1; clear hn185_2; replace p185 := eq_true p185; replace q185 := eq_true q185)))
                    go_roundg k2
                    case measure => have := HJ2.out; have := HK2.out; omega
                    case rel => exact ⟨(wrap64 (((rd_T41 l0 x8_2).f2) - t181)), (true), (wrap64 (x8_2 + 1)), (by first | rfl | (simp; done) | (simp [*]; done)), (by first | rfl | (simp; done) | (simp [*]; done)), (by first | rfl | (simp; done) | (simp [*]; done)), H', ⟨by have := HJ2.out; have := HK2.out; omega⟩, ⟨by repeat (first | (with_reducible first | exact HB.out | apply below_alloc | apply pw_below_drewN | apply below_drew1 | refine below_set ?_ GE184.out) | exact HB.out)⟩⟩
                · replace c11 := Bool.eq_false_iff.mpr c11
                  subst c11
                  have H1 : (railplanref9_Least.l0 k2 l0 l1 x6_2 x7_2 (wrap64 (x8_2 + 1))) = some (r1, r2) := by rw [if_neg (show ¬ (false = true) by decide)] at H; exact H
                  clear H
                  have H := H1
                  clear H1
                  have H' := Aside0.mk H
                  clear H
                  have p179 : 0 ≤ (x8_2 : Int) := of_decide_eq_true (by first | (with_reducible assumption) | assumption)
                  have q179 : x8_2 < (l0.length : Int) := of_decide_eq_true (by first | (with_reducible assumption) | assumption)
                  obtain ⟨ad179, e179, hx179_0, hx179_1, hx179_2⟩ := at_T41 HR0.out x8_2 p179 q179
                  cases e179
                  replace hx179_0 := (HB.out.cell (World.block_lt_of_cell? w _ hx179_0)).trans hx179_0
                  replace hx179_1 := (HB.out.cell (World.block_lt_of_cell? w _ hx179_1)).trans hx179_1
                  replace hx179_2 := (HB.out.cell (World.block_lt_of_cell? w _ hx179_2)).trans hx179_2
                  replace p179 := eq_true p179
                  replace q179 := eq_true q179
                  go_wp2_with (first | (go_at_call 50; (with_reducible refine (railplanref9_find.calls k2 _ _ l1 ((rd_T41 l0 x8_2).f0) t180 t181 t182 false _ ?side1 ?side2 A10.out).mono ?_); (case side1 => repeat (first | exact (Kd.C_below HR1.out HB.out) | (with_reducible refine Kd.C_alloc ?_ _) | (with_reducible refine Kd.C_drewN ?_ _) | (with_reducible refine Kd.C_drew ?_))); (case side2 => exact HC1.out); rintro e w23 ⟨rfl, hb⟩; have n0_ := Aside0.mk (below_step (by repeat (first | (with_reducible first | exact HB.out | apply below_alloc | apply pw_below_drewN | apply below_drew1) | exact HB.out)) hb); clear HB; have HB := n0_; clear n0_; (try clear hb); (try clear hb2); (try clear hk); (try clear hi)) | ((with_reducible refine gate_dst (N := 9) rfl ?_); refine box_event ?hg (N := 9) ?hd (cs := #[.int .i64 0, .int .i64 0, .int .i64 0]) (t := 41) ?hr ?_; (case hd => rfl); (case hg => rfl); (case hr => first | (go_simp; done) | (go_simp; rfl)); intro gb184 hg w24 hbox hb; have n0_ := Aside0.mk (below_step (by repeat (first | (with_reducible first | exact HB.out | apply below_alloc | apply pw_below_drewN | apply below_drew1) | exact HB.out)) hb); have n1_ := Aside0.mk (hbox); have n2_ := Aside0.mk ((by rw [hg]; exact (below_size (by repeat (first | (with_reducible first | exact HB.out | apply below_alloc | apply pw_below_drewN | apply below_drew1) | exact HB.out))) : w.heap.size ≤ gb184)); have n3_ := Aside0.mk ((by rw [hg]; exact (below_size (by repeat (first | (with_reducible first | exact HB.out | apply below_alloc | apply pw_below_drewN | apply below_drew1) | exact HB.out))) : w.heap.size ≤ gb184)); clear HB; have HB := n0_; have BK184 := n1_; have GW184 := n2_; have GE184 := n3_; clear n0_ n1_ n2_ n3_; clear hb hbox hg; have hcz25_0 : w24.cell? ⟨gb184, 0, none⟩ = some (.int .i64 0) := (blk_cell BK184.out 0).trans rfl; have hcz25_1 : w24.cell? ⟨gb184, 1, none⟩ = some (.int .i64 0) := (blk_cell BK184.out 1).trans rfl; have hcz25_2 : w24.cell? ⟨gb184, 2, none⟩ = some (.int .i64 0) := (blk_cell BK184.out 2).trans rfl; have hfz25_0 := blk_frozen BK184.out 0; have hfz25_1 := blk_frozen BK184.out 1; have hfz25_2 := blk_frozen BK184.out 2))
                  repeat (go_quiet (first | (go_at_call 50; (with_reducible refine (railplanref9_find.calls k2 _ _ l1 ((rd_T41 l0 x8_2).f0) t180 t181 t182 false _ ?side1 ?side2 A10.out).mono ?_); (case side1 => repeat (first | exact (Kd.C_below HR1.out HB.out) | (with_reducible refine Kd.C_alloc ?_ _) | (with_reducible refine Kd.C_drewN ?_ _) | (with_reducible refine Kd.C_drew ?_))); (case side2 => exact HC1.out); rintro e w23 ⟨rfl, hb⟩; have n0_ := Aside0.mk (below_step (by repeat (first | (with_reducible first | exact HB.out | apply below_alloc | apply pw_below_drewN | apply below_drew1) | exact HB.out)) hb); clear HB; have HB := n0_; clear n0_; (try clear hb); (try clear hb2); (try clear hk); (try clear hi)) | ((with_reducible refine gate_dst (N := 9) rfl ?_); refine box_event ?hg (N := 9) ?hd (cs := #[.int .i64 0, .int .i64 0, .int .i64 0]) (t := 41) ?hr ?_; (case hd => rfl); (case hg => rfl); (case hr => first | (go_simp; done) | (go_simp; rfl)); intro gb184 hg w24 hbox hb; have n0_ := Aside0.mk (below_step (by repeat (first | (with_reducible first | exact HB.out | apply below_alloc | apply pw_below_drewN | apply below_drew1) | exact HB.out)) hb); have n1_ := Aside0.mk (hbox); have n2_ := Aside0.mk ((by rw [hg]; exact (below_size (by repeat (first | (with_reducible first | exact HB.out | apply below_alloc | apply pw_below_drewN | apply below_drew1) | exact HB.out))) : w.heap.size ≤ gb184)); have n3_ := Aside0.mk ((by rw [hg]; exact (below_size (by repeat (first | (with_reducible first | exact HB.out | apply below_alloc | apply pw_below_drewN | apply below_drew1) | exact HB.out))) : w.heap.size ≤ gb184)); clear HB; have HB := n0_; have BK184 := n1_; have GW184 := n2_; have GE184 := n3_; clear n0_ n1_ n2_ n3_; clear hb hbox hg; have hcz25_0 : w24.cell? ⟨gb184, 0, none⟩ = some (.int .i64 0) := (blk_cell BK184.out 0).trans rfl; have hcz25_1 : w24.cell? ⟨gb184, 1, none⟩ = some (.int .i64 0) := (blk_cell BK184.out 1).trans rfl; have hcz25_2 : w24.cell? ⟨gb184, 2, none⟩ = some (.int .i64 0) := (blk_cell BK184.out 2).trans rfl; have hfz25_0 := blk_frozen BK184.out 0; have hfz25_1 := blk_frozen BK184.out 1; have hfz25_2 := blk_frozen BK184.out 2)); try go_wp2_with (first | (go_at_call 50; (with_reducible refine (railplanref9_find.calls k2 _ _ l1 ((rd_T41 l0 x8_2).f0) t180 t181 t182 false _ ?side1 ?side2 A10.out).mono ?_); (case side1 => repeat (first | exact (Kd.C_below HR1.out HB.out) | (with_reducible refine Kd.C_alloc ?_ _) | (with_reducible refine Kd.C_drewN ?_ _) | (with_reducible refine Kd.C_drew ?_))); (case side2 => exact HC1.out); rintro e w23 ⟨rfl, hb⟩; have n0_ := Aside0.mk (below_step (by repeat (first | (with_reducible first | exact HB.out | apply below_alloc | apply pw_below_drewN | apply below_drew1) | exact HB.out)) hb); clear HB; have HB := n0_; clear n0_; (try clear hb); (try clear hb2); (try clear hk); (try clear hi)) | ((with_reducible refine gate_dst (N := 9) rfl ?_); refine box_event ?hg (N := 9) ?hd (cs := #[.int .i64 0, .int .i64 0, .int .i64 0]) (t := 41) ?hr ?_; (case hd => rfl); (case hg => rfl); (case hr => first | (go_simp; done) | (go_simp; rfl)); intro gb184 hg w24 hbox hb; have n0_ := Aside0.mk (below_step (by repeat (first | (with_reducible first | exact HB.out | apply below_alloc | apply pw_below_drewN | apply below_drew1) | exact HB.out)) hb); have n1_ := Aside0.mk (hbox); have n2_ := Aside0.mk ((by rw [hg]; exact (below_size (by repeat (first | (with_reducible first | exact HB.out | apply below_alloc | apply pw_below_drewN | apply below_drew1) | exact HB.out))) : w.heap.size ≤ gb184)); have n3_ := Aside0.mk ((by rw [hg]; exact (below_size (by repeat (first | (with_reducible first | exact HB.out | apply below_alloc | apply pw_below_drewN | apply below_drew1) | exact HB.out))) : w.heap.size ≤ gb184)); clear HB; have HB := n0_; have BK184 := n1_; have GW184 := n2_; have GE184 := n3_; clear n0_ n1_ n2_ n3_; clear hb hbox hg; have hcz25_0 : w24.cell? ⟨gb184, 0, none⟩ = some (.int .i64 0) := (blk_cell BK184.out 0).trans rfl; have hcz25_1 : w24.cell? ⟨gb184, 1, none⟩ = some (.int .i64 0) := (blk_cell BK184.out 1).trans rfl; have hcz25_2 : w24.cell? ⟨gb184, 2, none⟩ = some (.int .i64 0) := (blk_cell BK184.out 2).trans rfl; have hfz25_0 := blk_frozen BK184.out 0; have hfz25_1 := blk_frozen BK184.out 1; have hfz25_2 := blk_frozen BK184.out 2)))
                  go_roundg k2
                  case measure => have := HJ2.out; have := HK2.out; omega
                  case rel => exact ⟨(x6_2), (x7_2), (wrap64 (x8_2 + 1)), (by first | rfl | (simp; done) | (simp [*]; done)), (by first | rfl | (simp; done) | (simp [*]; done)), (by first | rfl | (simp; done) | (simp [*]; done)), H', ⟨by have := HJ2.out; have := HK2.out; omega⟩, ⟨by repeat (first | (with_reducible first | exact HB.out | apply below_alloc | apply pw_below_drewN | apply below_drew1 | refine below_set ?_ GE184.out) | exact HB.out)⟩⟩
              · rw [if_neg c9] at H
                exact absurd H (by simp)
            · rw [if_neg c8] at H
              have c8b0 : decide (x8_2 < (l0.length : Int)) = false := decide_eq_false c8
              clear c8
              simp only [Option.some.injEq, Prod.mk.injEq] at H
              obtain ⟨rfl, rfl⟩ := H
              go_wp2
              repeat (go_quiet (fail); try go_wp2)
              go_ret2
              exact ⟨by first | rfl | (simp [errW_none, errW_some] <;> rfl) | (simp [*, errW_none, errW_some] <;> rfl), by repeat (first | (with_reducible first | exact HB.out | apply below_alloc | apply pw_below_drewN | apply below_drew1) | exact HB.out)⟩

end Go.Proofs.Ytcdldldknfpkjaa.PHw
