-- (printed by the kit's print.py, called by printmany.sh)
import Derived.Test.YtkbcgahpekmlbaaPPgx0
namespace Go.Proofs.Ytkbcgahpekmlbaa.PPg
open Go.RowKit Go.Proofs.YtkbcgahpekmlbaaW.PrintWords Go.Proofs.YtkbcgahpekmlbaaW.PrintLast Go.Proofs.YtkbcgahpekmlbaaW.PrintMore
attribute [local go_sem] max2_int min2_int max_two min_two max_three min_three max_four min_four   -- for this text's walks alone
set_option linter.unusedVariables false
set_option linter.unusedSimpArgs false

/-! ### residue_marks_list: function 77 -/
def residue_marks_list.l0 : Nat → List Bool → List (S41) → List Bool → Int → Int → Option ((List (S41)))
  | 0, _, _, _, _, _ => none
  | k + 1, x0, x3, x6, x7, x8 => if x8 < x7 then (if 0 ≤ x8 then (if x8 < (x6.length : Int) then (if rdOf false x6 x8 = true then (if x8 > 0 then (if 0 ≤ (wrap64 (x8 - 1)) then (if (wrap64 (x8 - 1)) < (x0.length : Int) then (if rdOf false x0 (wrap64 (x8 - 1)) = true then (if 0 ≤ (wrap64 ((x3.length : Int) - 1)) then (if (wrap64 ((x3.length : Int) - 1)) < (x3.length : Int) then (residue_marks_list.l0 k x0 (x3.set ((wrap64 ((x3.length : Int) - 1)) : Int).toNat (⟨(rd_T41 x3 (wrap64 ((x3.length : Int) - 1))).f0, wrap64 (x8 + 1)⟩ : S41)) x6 x7 (wrap64 (x8 + 1))) else (none)) else (none)) else (if x3.length < 8796093022208 then (residue_marks_list.l0 k x0 (x3 ++ [(⟨x8, wrap64 (x8 + 1)⟩ : S41)]) x6 x7 (wrap64 (x8 + 1))) else (none))) else (none)) else (none)) else (if x3.length < 8796093022208 then (residue_marks_list.l0 k x0 (x3 ++ [(⟨x8, wrap64 (x8 + 1)⟩ : S41)]) x6 x7 (wrap64 (x8 + 1))) else (none))) else (residue_marks_list.l0 k x0 x3 x6 x7 (wrap64 (x8 + 1)))) else (none)) else (none)) else (some x3)
def residue_marks_list.f (k : Nat) (l0 : List Bool) : Option ((List (S41))) := residue_marks_list.l0 k l0 ([] : List (S41)) l0 (l0.length : Int) 0
theorem residue_marks_list.mono_l : ∀ k, (∀ y0 y1 y2 y3 y4, LeO (residue_marks_list.l0 k y0 y1 y2 y3 y4) (residue_marks_list.l0 (k + 1) y0 y1 y2 y3 y4))
  | 0 => fun _ _ _ _ _ r h => by simp [residue_marks_list.l0] at h
  | k + 1 => by
    have ih0 := residue_marks_list.mono_l k
    · intro y0 y1 y2 y3 y4
      unfold residue_marks_list.l0
      repeat' first
      | (with_reducible exact ih0 _ _ _ _ _)
      | (with_reducible exact LeO.refl _)
      | (with_reducible exact LeO.none _)
      | (with_reducible refine LeO.ite ?_ ?_)
      | (with_reducible refine LeO.bind ?_ (fun _ => ?_))
      | exact ih0 _ _ _ _ _
      | exact LeO.none _
      | refine LeO.ite ?_ ?_
      | refine LeO.bind ?_ (fun _ => ?_)
theorem residue_marks_list.mono : ∀ a0 k, LeO (residue_marks_list.f k a0) (residue_marks_list.f (k + 1) a0) := by
  intro a0 k
  have ih0 := residue_marks_list.mono_l k
  unfold residue_marks_list.f
  repeat' first
      | (with_reducible exact ih0 _ _ _ _ _)
      | (with_reducible exact LeO.refl _)
      | (with_reducible exact LeO.none _)
      | (with_reducible refine LeO.ite ?_ ?_)
      | (with_reducible refine LeO.bind ?_ (fun _ => ?_))
      | exact ih0 _ _ _ _ _
      | exact LeO.none _
      | refine LeO.ite ?_ ?_
      | refine LeO.bind ?_ (fun _ => ?_)
set_option maxHeartbeats 8000000 in
set_option maxRecDepth 100000 in
theorem residue_marks_list.calls (k : Nat) (A0 : Option Addr) (c0 : Nat) (l0 : List Bool) (r : List (S41)) (w : World) (hr0 : Kd.C Kd.bool w A0 l0.length l0) (hc0 : l0.length ≤ c0) (h : residue_marks_list.f k l0 = some r) :
    Calls Try.prog 77 #[.slice A0 l0.length c0] w fun e w' => ∃ v0_ : Value, e = .returned (v0_) ∧ Kd.R k41 41 w' w.heap.size (fun _ => True) v0_ r ∧ Below w.heap.size w w' := by
  have hu41 := Try.underlying41
  have HR0 := Aside0.mk hr0
  have HC0 := Aside0.mk hc0
  clear hr0 hc0
  have HB := Aside0.mk (Below.refl w.heap.size w)
  have H : (residue_marks_list.l0 k l0 ([] : List (S41)) l0 (l0.length : Int) 0) = some r := h
  clear h
  have H' := Aside0.mk H
  clear H
  go_enter Try.func77, Try.ntmps77
  go_wp2
  go_loopg [3, 8] k (fun kq v3 v8 w' => ∃ (x3_1 : List (S41)) (x8_1 : Int), v8 = .int .i64 x8_1 ∧ Aside0 (residue_marks_list.l0 kq l0 x3_1 l0 (l0.length : Int) x8_1 = some r) ∧ Aside0 (kq ≤ k) ∧ Aside0 (Kd.R k41 41 w' w.heap.size (fun _ => True) v3 x3_1) ∧ Aside0 (Below w.heap.size w w'))
  case atStart => exact ⟨(([] : List (S41))), (0), (by first | rfl | (simp; done) | (simp [*]; done)), H', ⟨Nat.le_refl _⟩, ⟨by first | exact Kd.R_nil _ _ _ _ _ | exact Kd.N_nil _ _ _ _ _ | exact Kd.V_nil _ _ _ _ _ | exact Kd.Q_nil _ _ _ _ _ | exact Kd.S_nil _ _ _ _ _⟩, ⟨by repeat (first | (with_reducible first | exact HB.out | apply below_alloc | apply pw_below_drewN | apply below_drew1) | exact HB.out)⟩⟩
  case round =>
    clear H'
    obtain ⟨x3_1, x8_1, rfl, HA, HK1, HO_3, HB⟩ := hrel
    cases gk with
    | zero => exact absurd HA.out (by simp [residue_marks_list.l0])
    | succ k1 =>
      have H := HA.out
      clear HA
      simp only [residue_marks_list.l0] at H
      by_cases c2 : x8_1 < (l0.length : Int)
      · rw [if_pos c2] at H
        have c2b0 : decide (x8_1 < (l0.length : Int)) = true := decide_eq_true c2
        clear c2
        by_cases c3 : 0 ≤ x8_1
        · rw [if_pos c3] at H
          have c3b0 : decide (0 ≤ x8_1) = true := decide_eq_true c3
          clear c3
          by_cases c4 : x8_1 < (l0.length : Int)
          · rw [if_pos c4] at H
            have c4b0 : decide (x8_1 < (l0.length : Int)) = true := decide_eq_true c4
            clear c4
            obtain ⟨bq5, hbq5⟩ : ∃ b_ : Bool, b_ = (rdOf false l0 x8_1) := ⟨_, rfl⟩
            replace H : (if bq5 = true then (if x8_1 > 0 then (if 0 ≤ (wrap64 (x8_1 - 1)) then (if (wrap64 (x8_1 - 1)) < (l0.length : Int) then (if rdOf false l0 (wrap64 (x8_1 - 1)) = true then (if 0 ≤ (wrap64 ((x3_1.length : Int) - 1)) then (if (wrap64 ((x3_1.length : Int) - 1)) < (x3_1.length : Int) then (residue_marks_list.l0 k1 l0 (x3_1.set ((wrap64 ((x3_1.length : Int) - 1)) : Int).toNat (⟨(rd_T41 x3_1 (wrap64 ((x3_1.length : Int) - 1))).f0, wrap64 (x8_1 + 1)⟩ : S41)) l0 (l0.length : Int) (wrap64 (x8_1 + 1))) else (none)) else (none)) else (if x3_1.length < 8796093022208 then (residue_marks_list.l0 k1 l0 (x3_1 ++ [(⟨x8_1, wrap64 (x8_1 + 1)⟩ : S41)]) l0 (l0.length : Int) (wrap64 (x8_1 + 1))) else (none))) else (none)) else (none)) else (if x3_1.length < 8796093022208 then (residue_marks_list.l0 k1 l0 (x3_1 ++ [(⟨x8_1, wrap64 (x8_1 + 1)⟩ : S41)]) l0 (l0.length : Int) (wrap64 (x8_1 + 1))) else (none))) else (residue_marks_list.l0 k1 l0 x3_1 l0 (l0.length : Int) (wrap64 (x8_1 + 1)))) = some r := by rw [← hbq5] at H; exact H
            have Nbq5 := Aside0.mk hbq5
            clear hbq5
            by_cases c6 : bq5 = true
            · subst c6
              have H1 : (if x8_1 > 0 then (if 0 ≤ (wrap64 (x8_1 - 1)) then (if (wrap64 (x8_1 - 1)) < (l0.length : Int) then (if rdOf false l0 (wrap64 (x8_1 - 1)) = true then (if 0 ≤ (wrap64 ((x3_1.length : Int) - 1)) then (if (wrap64 ((x3_1.length : Int) - 1)) < (x3_1.length : Int) then (residue_marks_list.l0 k1 l0 (x3_1.set ((wrap64 ((x3_1.length : Int) - 1)) : Int).toNat (⟨(rd_T41 x3_1 (wrap64 ((x3_1.length : Int) - 1))).f0, wrap64 (x8_1 + 1)⟩ : S41)) l0 (l0.length : Int) (wrap64 (x8_1 + 1))) else (none)) else (none)) else (if x3_1.length < 8796093022208 then (residue_marks_list.l0 k1 l0 (x3_1 ++ [(⟨x8_1, wrap64 (x8_1 + 1)⟩ : S41)]) l0 (l0.length : Int) (wrap64 (x8_1 + 1))) else (none))) else (none)) else (none)) else (if x3_1.length < 8796093022208 then (residue_marks_list.l0 k1 l0 (x3_1 ++ [(⟨x8_1, wrap64 (x8_1 + 1)⟩ : S41)]) l0 (l0.length : Int) (wrap64 (x8_1 + 1))) else (none))) = some r := by rw [if_pos rfl] at H; exact H
              clear H
              have H := H1
              clear H1
              by_cases c7 : x8_1 > 0
              · rw [if_pos c7] at H
                have c7b0 : decide (0 < x8_1) = true := decide_eq_true c7
                clear c7
                obtain ⟨ji8, hji8⟩ : ∃ j_ : Int, (wrap64 (x8_1 - 1)) = j_ := ⟨_, rfl⟩
                replace H : (if 0 ≤ (ji8) then (if (ji8) < (l0.length : Int) then (if rdOf false l0 (ji8) = true then (if 0 ≤ (wrap64 ((x3_1.length : Int) - 1)) then (if (wrap64 ((x3_1.length : Int) - 1)) < (x3_1.length : Int) then (residue_marks_list.l0 k1 l0 (x3_1.set ((wrap64 ((x3_1.length : Int) - 1)) : Int).toNat (⟨(rd_T41 x3_1 (wrap64 ((x3_1.length : Int) - 1))).f0, wrap64 (x8_1 + 1)⟩ : S41)) l0 (l0.length : Int) (wrap64 (x8_1 + 1))) else (none)) else (none)) else (if x3_1.length < 8796093022208 then (residue_marks_list.l0 k1 l0 (x3_1 ++ [(⟨x8_1, wrap64 (x8_1 + 1)⟩ : S41)]) l0 (l0.length : Int) (wrap64 (x8_1 + 1))) else (none))) else (none)) else (none)) = some r := by first | (rw [hji8] at H; exact H) | (simp only [hji8] at H ⊢; exact H)
                have hji8w : (IntKind.i64.wrap (x8_1 - 1)) = ji8 := (i64_w _).trans hji8
                by_cases c9 : 0 ≤ (ji8)
                · rw [if_pos c9] at H
                  have c9b0 : decide (0 ≤ (ji8)) = true := decide_eq_true c9
                  clear c9
                  by_cases c10 : (ji8) < (l0.length : Int)
                  · rw [if_pos c10] at H
                    have c10b0 : decide ((ji8) < (l0.length : Int)) = true := decide_eq_true c10
                    clear c10
                    obtain ⟨bq11, hbq11⟩ : ∃ b_ : Bool, b_ = (rdOf false l0 (ji8)) := ⟨_, rfl⟩
                    replace H : (if bq11 = true then (if 0 ≤ (wrap64 ((x3_1.length : Int) - 1)) then (if (wrap64 ((x3_1.length : Int) - 1)) < (x3_1.length : Int) then (residue_marks_list.l0 k1 l0 (x3_1.set ((wrap64 ((x3_1.length : Int) - 1)) : Int).toNat (⟨(rd_T41 x3_1 (wrap64 ((x3_1.length : Int) - 1))).f0, wrap64 (x8_1 + 1)⟩ : S41)) l0 (l0.length : Int) (wrap64 (x8_1 + 1))) else (none)) else (none)) else (if x3_1.length < 8796093022208 then (residue_marks_list.l0 k1 l0 (x3_1 ++ [(⟨x8_1, wrap64 (x8_1 + 1)⟩ : S41)]) l0 (l0.length : Int) (wrap64 (x8_1 + 1))) else (none))) = some r := by rw [← hbq11] at H; exact H
                    have Nbq11 := Aside0.mk hbq11
                    clear hbq11
                    by_cases c12 : bq11 = true
                    · subst c12
                      have H1 : (if 0 ≤ (wrap64 ((x3_1.length : Int) - 1)) then (if (wrap64 ((x3_1.length : Int) - 1)) < (x3_1.length : Int) then (residue_marks_list.l0 k1 l0 (x3_1.set ((wrap64 ((x3_1.length : Int) - 1)) : Int).toNat (⟨(rd_T41 x3_1 (wrap64 ((x3_1.length : Int) - 1))).f0, wrap64 (x8_1 + 1)⟩ : S41)) l0 (l0.length : Int) (wrap64 (x8_1 + 1))) else (none)) else (none)) = some r := by rw [if_pos rfl] at H; exact H
                      clear H
                      have H := H1
                      clear H1
                      obtain ⟨ji13, hji13⟩ : ∃ j_ : Int, (wrap64 ((x3_1.length : Int) - 1)) = j_ := ⟨_, rfl⟩
                      replace H : (if 0 ≤ (ji13) then (if (ji13) < (x3_1.length : Int) then (residue_marks_list.l0 k1 l0 (x3_1.set ((ji13) : Int).toNat (⟨(rd_T41 x3_1 (ji13)).f0, wrap64 (x8_1 + 1)⟩ : S41)) l0 (l0.length : Int) (wrap64 (x8_1 + 1))) else (none)) else (none)) = some r := by first | (rw [hji13] at H; exact H) | (simp only [hji13] at H ⊢; exact H)
                      have hji13w : (IntKind.i64.wrap ((x3_1.length : Int) - 1)) = ji13 := (i64_w _).trans hji13
                      by_cases c14 : 0 ≤ (ji13)
                      · rw [if_pos c14] at H
                        have c14b0 : decide (0 ≤ (ji13)) = true := decide_eq_true c14
                        clear c14
                        by_cases c15 : (ji13) < (x3_1.length : Int)
                        · rw [if_pos c15] at H
                          have c15b0 : decide ((ji13) < (x3_1.length : Int)) = true := decide_eq_true c15
                          clear c15
                          obtain ⟨y114, hy114⟩ : ∃ y_ : List (S41), y_ = (x3_1.set ((ji13) : Int).toNat (⟨(rd_T41 x3_1 (ji13)).f0, wrap64 (x8_1 + 1)⟩ : S41)) := ⟨_, rfl⟩
                          replace H : (residue_marks_list.l0 k1 l0 y114 l0 (l0.length : Int) (wrap64 (x8_1 + 1))) = some r := by first | (rw [hy114]; with_reducible exact H) | (have H2_ := (Option.bind_some _ _).symm.trans H; rw [hy114]; with_reducible exact H2_) | (have H2_ := (Option.bind_some _ _).symm.trans H; with_reducible exact H2_) | with_reducible exact H | (rw [hy114]; exact H) | exact H
                          have Ny114 := Aside0.mk hy114
                          clear hy114
                          have H' := Aside0.mk H
                          clear H
                          have p112 : 0 ≤ (x8_1 : Int) := of_decide_eq_true (by first | (with_reducible assumption) | assumption)
                          have q112 : x8_1 < (l0.length : Int) := of_decide_eq_true (by first | (with_reducible assumption) | assumption)
                          obtain ⟨ad112, e112, hx112_0⟩ := Kd.at_bool HR0.out x8_1 p112 q112
                          (try rw [← Nbq5.out] at hx112_0)
                          (try rw [← Nbq11.out] at hx112_0)
                          cases e112
                          replace hx112_0 := (HB.out.cell (World.block_lt_of_cell? w _ hx112_0)).trans hx112_0
                          replace p112 := eq_true p112
                          replace q112 := eq_true q112
                          have p113 : 0 ≤ ((ji8) : Int) := of_decide_eq_true (by first | (with_reducible assumption) | assumption)
                          have q113 : (ji8) < (l0.length : Int) := of_decide_eq_true (by first | (with_reducible assumption) | assumption)
                          obtain ⟨ad113, e113, hx113_0⟩ := Kd.at_bool HR0.out (ji8) p113 q113
                          (try rw [← Nbq5.out] at hx113_0)
                          (try rw [← Nbq11.out] at hx113_0)
                          obtain rfl : ad112 = ad113 := (by injection e113)
                          replace hx113_0 := (HB.out.cell (World.block_lt_of_cell? w _ hx113_0)).trans hx113_0
                          replace p113 := eq_true p113
                          replace q113 := eq_true q113
                          obtain ⟨Ao17, co17, eo17⟩ := Kd.R_slice HO_3.out
                          subst eo17
                          have p16 : 0 ≤ ((ji13) : Int) := of_decide_eq_true (by first | (with_reducible assumption) | assumption)
                          have q16 : ((ji13) : Int) < ((x3_1.length : Int) : Int) := of_decide_eq_true (by first | (with_reducible assumption) | assumption)
                          obtain ⟨go16, co16, eo16, gb16, gl16, cl16, HG16⟩ := Kd.R_form HO_3.out (by omega)
                          (first | cases eo16 | (injection eo16 with ea_ en_ ec_; (first | subst ea_ | (injection ea_ with ea_; subst ea_)); subst ec_; clear en_))
                          have GB16 := Aside0.mk gb16
                          have GG16 := Aside0.mk HG16
                          clear gb16 gl16 HG16
                          obtain ⟨ce16, hcl16, hM16, hcc16, hfr16⟩ := Kd.R_elem HO_3.out z41 ((ji13) : Int) p16 q16
                          obtain rfl := k41_openM hM16
                          have hx16_0 : wr.cell? ⟨go16, ((ji13) : Int).toNat * 2, none⟩ = some (.int .i64 ((rd_T41 x3_1 (ji13)).f0)) := hcc16 0 _ rfl
                          have hx16_1 : wr.cell? ⟨go16, ((ji13) : Int).toNat * 2 + 1, none⟩ = some (.int .i64 ((rd_T41 x3_1 (ji13)).f1)) := hcc16 1 _ rfl
                          have hf16_0 : wr.frozen? ⟨go16, ((ji13) : Int).toNat * 2, none⟩ = false := hfr16 0
                          have hf16_1 : wr.frozen? ⟨go16, ((ji13) : Int).toNat * 2 + 1, none⟩ = false := hfr16 1
                          clear hcl16 hcc16 hfr16 hM16
                          replace p16 := eq_true p16
                          replace q16 := eq_true q16
                          have HX18 := Aside0.mk (show Kd.R k41 41 wr w.heap.size (fun _ => True) (.slice (some ⟨go16, 0, none⟩) x3_1.length co17) x3_1 from (by (with_reducible repeat (first | apply Kd.R_alloc | apply Kd.R_drewN | apply Kd.R_drew)); exact HO_3.out))
                          obtain ⟨ce18, hcl18, hM18, hcc18, hfr18⟩ := Kd.R_elem HX18.out z41 ((ji13) : Int) (of_decide_eq_true (by first | (with_reducible assumption) | assumption)) (by have h_ : ((ji13) : Int) < ((x3_1.length : Int) : Int) := of_decide_eq_true (by first | (with_reducible assumption) | assumption); first | exact h_ | (have e_ := (Kd.R_reads' HO_3.out).1; omega) | simpa using h_)
                          obtain rfl := k41_openM hM18
                          have HP18 := Kd.R_seg HX18.out ((ji13) : Int) (of_decide_eq_true (by first | (with_reducible assumption) | assumption)) (by have h_ : ((ji13) : Int) < ((x3_1.length : Int) : Int) := of_decide_eq_true (by first | (with_reducible assumption) | assumption); first | exact h_ | (have e_ := (Kd.R_reads' HO_3.out).1; omega) | simpa using h_) (seg := [.int .i64 (wrap64 (x8_1 + 1))]) (j := 1) hcl18 hcc18 (show 2 ≤ 2 from by decide) (x' := (⟨(rd_T41 x3_1 (ji13)).f0, wrap64 (x8_1 + 1)⟩ : S41)) (k41_mkM _ _ _ (⟨(rd_T41 x3_1 (ji13)).f0, wrap64 (x8_1 + 1)⟩ : S41) ) (fun _ hk => hk)
                          have hx18_1 := hcc18 1 _ rfl
                          (try simp only [show (k41).sz = 2 from rfl, Nat.mul_one, Nat.add_zero] at hx18_1)
                          have hf18_1 := hfr18 1
                          (try simp only [show (k41).sz = 2 from rfl, Nat.mul_one, Nat.add_zero] at hf18_1)
                          clear hcl18 hcc18 hfr18 hM18
                          go_wp2_with (first | ((with_reducible refine gate_store (t := 3) (p := 40) rfl ?_); refine store_event (t := 3) (p := 40) (v := ?vo_w19) (w1 := (wr.setCell ⟨go16, ((ji13) : Int).toNat * 2 + 1, none⟩ (.int .i64 (wrap64 (x8_1 + 1))))) ?hg ?ho ?hn ?hr ?_; (case ho => rfl); (case hg => rfl); (case hn => rfl); (case hr => first | (go_simp; done) | (go_simp; rfl)); intro w19 hw; have hg : wr.grownBy w19 (some go16) := (by rw [hw]; exact HP18.2); have hp_ : Kd.R k41 41 w19 w.heap.size (fun _ => True) (.slice (some ⟨go16, 0, none⟩) x3_1.length co17) y114 := (by rw [hw, Ny114.out]; exact HP18.1); clear HP18; have n0_ := Aside0.mk (hp_); have n1_ := Aside0.mk ((by rw [hw]; exact below_set (HB.out) GB16.out : Below w.heap.size w w19)); clear HO_3; clear HB; have HO_3 := n0_; have HB := n1_; clear n0_ n1_; clear hg hw hp_))
                          go_roundg k1
                          case measure => have := HK1.out; omega
                          case rel => exact ⟨(y114), (wrap64 (x8_1 + 1)), (by first | rfl | (simp; done) | (simp [*]; done)), H', ⟨by have := HK1.out; omega⟩, ⟨by (with_reducible repeat (first | apply Kd.R_alloc | apply Kd.R_drewN | apply Kd.R_drew)); exact HO_3.out⟩, ⟨by repeat (first | (with_reducible first | exact HB.out | apply below_alloc | apply pw_below_drewN | apply below_drew1) | exact HB.out)⟩⟩
                        · rw [if_neg c15] at H
                          exact absurd H (by simp)
                      · rw [if_neg c14] at H
                        exact absurd H (by simp)
                    · replace c12 := Bool.eq_false_iff.mpr c12
                      subst c12
                      have H1 : (if x3_1.length < 8796093022208 then (residue_marks_list.l0 k1 l0 (x3_1 ++ [(⟨x8_1, wrap64 (x8_1 + 1)⟩ : S41)]) l0 (l0.length : Int) (wrap64 (x8_1 + 1))) else (none)) = some r := by rw [if_neg (show ¬ (false = true) by decide)] at H; exact H
                      clear H
                      have H := H1
                      clear H1
                      by_cases c20 : x3_1.length < 8796093022208
                      · rw [if_pos c20] at H
                        have LMc20 := Aside0.mk c20
                        clear c20
                        obtain ⟨y115, hy115⟩ : ∃ y_ : List (S41), y_ = (x3_1 ++ [(⟨x8_1, wrap64 (x8_1 + 1)⟩ : S41)]) := ⟨_, rfl⟩
                        replace H : (residue_marks_list.l0 k1 l0 y115 l0 (l0.length : Int) (wrap64 (x8_1 + 1))) = some r := by first | (rw [hy115]; with_reducible exact H) | (have H2_ := (Option.bind_some _ _).symm.trans H; rw [hy115]; with_reducible exact H2_) | (have H2_ := (Option.bind_some _ _).symm.trans H; with_reducible exact H2_) | with_reducible exact H | (rw [hy115]; exact H) | exact H
                        have Ny115 := Aside0.mk hy115
                        clear hy115
                        have H' := Aside0.mk H
                        clear H
                        have p112 : 0 ≤ (x8_1 : Int) := of_decide_eq_true (by first | (with_reducible assumption) | assumption)
                        have q112 : x8_1 < (l0.length : Int) := of_decide_eq_true (by first | (with_reducible assumption) | assumption)
                        obtain ⟨ad112, e112, hx112_0⟩ := Kd.at_bool HR0.out x8_1 p112 q112
                        (try rw [← Nbq5.out] at hx112_0)
                        (try rw [← Nbq11.out] at hx112_0)
                        cases e112
                        replace hx112_0 := (HB.out.cell (World.block_lt_of_cell? w _ hx112_0)).trans hx112_0
                        replace p112 := eq_true p112
                        replace q112 := eq_true q112
                        have p113 : 0 ≤ ((ji8) : Int) := of_decide_eq_true (by first | (with_reducible assumption) | assumption)
                        have q113 : (ji8) < (l0.length : Int) := of_decide_eq_true (by first | (with_reducible assumption) | assumption)
                        obtain ⟨ad113, e113, hx113_0⟩ := Kd.at_bool HR0.out (ji8) p113 q113
                        (try rw [← Nbq5.out] at hx113_0)
                        (try rw [← Nbq11.out] at hx113_0)
                        obtain rfl : ad112 = ad113 := (by injection e113)
                        replace hx113_0 := (HB.out.cell (World.block_lt_of_cell? w _ hx113_0)).trans hx113_0
                        replace p113 := eq_true p113
                        replace q113 := eq_true q113
                        go_wp2_with (first | ((with_reducible refine gate_builtin (b := .append) (xs := #[.tmp 13, .tmp 18]) rfl ?_); at_builtin; refine Kd.R_append k41 (w0 := w) w.heap.size rfl (.tmp 13) (.tmp 18) 42 41 (.agg #[(.int .i64 0), (.int .i64 0)]) 16 rfl Try.underlying42 info41 rfl (by decide) (by omega) u3 x3_1 (⟨x8_1, wrap64 (x8_1 + 1)⟩ : S41) [.int .i64 x8_1, .int .i64 (wrap64 (x8_1 + 1))] (fun _ => True) (fun _ => False) rfl rfl ?aP (fun _ hk => hk.elim) ?aF ?aO ?aB ?aS ?aL ?_; (case aP => exact k41_mkM _ _ _ (⟨x8_1, wrap64 (x8_1 + 1)⟩ : S41)); (case aB => exact (by repeat (first | (with_reducible first | exact HB.out | apply below_alloc | apply pw_below_drewN | apply below_drew1) | exact HB.out))); (case aF => exact (fun _ _ => trivial)); (case aO => exact (by (with_reducible repeat (first | apply Kd.R_alloc | apply Kd.R_drewN | apply Kd.R_drew)); exact HO_3.out)); (case aS => exact (below_size (by repeat (first | (with_reducible first | exact HB.out | apply below_alloc | apply pw_below_drewN | apply below_drew1) | exact HB.out)))); (case aL => have := LMc20.out; omega); intro v116 w21 ho hb hg hat; rw [← Ny115.out] at ho; have n0_ := Aside0.mk (hb); have n1_ := Aside0.mk (ho); clear HB; clear HO_3; have HB := n0_; have HO117 := n1_; clear n0_ n1_; clear ho hb hg hat))
                        go_roundg k1
                        case measure => have := HK1.out; omega
                        case rel => exact ⟨(y115), (wrap64 (x8_1 + 1)), (by first | rfl | (simp; done) | (simp [*]; done)), H', ⟨by have := HK1.out; omega⟩, ⟨by (with_reducible repeat (first | apply Kd.R_alloc | apply Kd.R_drewN | apply Kd.R_drew)); exact HO117.out⟩, ⟨by repeat (first | (with_reducible first | exact HB.out | apply below_alloc | apply pw_below_drewN | apply below_drew1) | exact HB.out)⟩⟩
                      · rw [if_neg c20] at H
                        exact absurd H (by simp)
                  · rw [if_neg c10] at H
                    exact absurd H (by simp)
                · rw [if_neg c9] at H
                  exact absurd H (by simp)
              · rw [if_neg c7] at H
                have c7b0 : decide (0 < x8_1) = false := decide_eq_false c7
                clear c7
                by_cases c22 : x3_1.length < 8796093022208
                · rw [if_pos c22] at H
                  have LMc22 := Aside0.mk c22
                  clear c22
                  obtain ⟨y118, hy118⟩ : ∃ y_ : List (S41), y_ = (x3_1 ++ [(⟨x8_1, wrap64 (x8_1 + 1)⟩ : S41)]) := ⟨_, rfl⟩
                  replace H : (residue_marks_list.l0 k1 l0 y118 l0 (l0.length : Int) (wrap64 (x8_1 + 1))) = some r := by first | (rw [hy118]; with_reducible exact H) | (have H2_ := (Option.bind_some _ _).symm.trans H; rw [hy118]; with_reducible exact H2_) | (have H2_ := (Option.bind_some _ _).symm.trans H; with_reducible exact H2_) | with_reducible exact H | (rw [hy118]; exact H) | exact H
                  have Ny118 := Aside0.mk hy118
                  clear hy118
                  have H' := Aside0.mk H
                  clear H
                  have p112 : 0 ≤ (x8_1 : Int) := of_decide_eq_true (by first | (with_reducible assumption) | assumption)
                  have q112 : x8_1 < (l0.length : Int) := of_decide_eq_true (by first | (with_reducible assumption) | assumption)
                  obtain ⟨ad112, e112, hx112_0⟩ := Kd.at_bool HR0.out x8_1 p112 q112
                  (try rw [← Nbq5.out] at hx112_0)
                  cases e112
                  replace hx112_0 := (HB.out.cell (World.block_lt_of_cell? w _ hx112_0)).trans hx112_0
                  replace p112 := eq_true p112
                  replace q112 := eq_true q112
                  go_wp2_with (first | ((with_reducible refine gate_builtin (b := .append) (xs := #[.tmp 13, .tmp 18]) rfl ?_); at_builtin; refine Kd.R_append k41 (w0 := w) w.heap.size rfl (.tmp 13) (.tmp 18) 42 41 (.agg #[(.int .i64 0), (.int .i64 0)]) 16 rfl Try.underlying42 info41 rfl (by decide) (by omega) u3 x3_1 (⟨x8_1, wrap64 (x8_1 + 1)⟩ : S41) [.int .i64 x8_1, .int .i64 (wrap64 (x8_1 + 1))] (fun _ => True) (fun _ => False) rfl rfl ?aP (fun _ hk => hk.elim) ?aF ?aO ?aB ?aS ?aL ?_; (case aP => exact k41_mkM _ _ _ (⟨x8_1, wrap64 (x8_1 + 1)⟩ : S41)); (case aB => exact (by repeat (first | (with_reducible first | exact HB.out | apply below_alloc | apply pw_below_drewN | apply below_drew1) | exact HB.out))); (case aF => exact (fun _ _ => trivial)); (case aO => exact (by (with_reducible repeat (first | apply Kd.R_alloc | apply Kd.R_drewN | apply Kd.R_drew)); exact HO_3.out)); (case aS => exact (below_size (by repeat (first | (with_reducible first | exact HB.out | apply below_alloc | apply pw_below_drewN | apply below_drew1) | exact HB.out)))); (case aL => have := LMc22.out; omega); intro v119 w23 ho hb hg hat; rw [← Ny118.out] at ho; have n0_ := Aside0.mk (hb); have n1_ := Aside0.mk (ho); clear HB; clear HO_3; have HB := n0_; have HO120 := n1_; clear n0_ n1_; clear ho hb hg hat))
                  go_roundg k1
                  case measure => have := HK1.out; omega
                  case rel => exact ⟨(y118), (wrap64 (x8_1 + 1)), (by first | rfl | (simp; done) | (simp [*]; done)), H', ⟨by have := HK1.out; omega⟩, ⟨by (with_reducible repeat (first | apply Kd.R_alloc | apply Kd.R_drewN | apply Kd.R_drew)); exact HO120.out⟩, ⟨by repeat (first | (with_reducible first | exact HB.out | apply below_alloc | apply pw_below_drewN | apply below_drew1) | exact HB.out)⟩⟩
                · rw [if_neg c22] at H
                  exact absurd H (by simp)
            · replace c6 := Bool.eq_false_iff.mpr c6
              subst c6
              have H1 : (residue_marks_list.l0 k1 l0 x3_1 l0 (l0.length : Int) (wrap64 (x8_1 + 1))) = some r := by rw [if_neg (show ¬ (false = true) by decide)] at H; exact H
              clear H
              have H := H1
              clear H1
              have H' := Aside0.mk H
              clear H
              have p112 : 0 ≤ (x8_1 : Int) := of_decide_eq_true (by first | (with_reducible assumption) | assumption)
              have q112 : x8_1 < (l0.length : Int) := of_decide_eq_true (by first | (with_reducible assumption) | assumption)
              obtain ⟨ad112, e112, hx112_0⟩ := Kd.at_bool HR0.out x8_1 p112 q112
              (try rw [← Nbq5.out] at hx112_0)
              cases e112
              replace hx112_0 := (HB.out.cell (World.block_lt_of_cell? w _ hx112_0)).trans hx112_0
              replace p112 := eq_true p112
              replace q112 := eq_true q112
              go_wp2
              go_roundg k1
              case measure => have := HK1.out; omega
              case rel => exact ⟨(x3_1), (wrap64 (x8_1 + 1)), (by first | rfl | (simp; done) | (simp [*]; done)), H', ⟨by have := HK1.out; omega⟩, ⟨by (with_reducible repeat (first | apply Kd.R_alloc | apply Kd.R_drewN | apply Kd.R_drew)); exact HO_3.out⟩, ⟨by repeat (first | (with_reducible first | exact HB.out | apply below_alloc | apply pw_below_drewN | apply below_drew1) | exact HB.out)⟩⟩
          · rw [if_neg c4] at H
            exact absurd H (by simp)
        · rw [if_neg c3] at H
          exact absurd H (by simp)
      · rw [if_neg c2] at H
        have c2b0 : decide (x8_1 < (l0.length : Int)) = false := decide_eq_false c2
        clear c2
        obtain rfl := Option.some.inj H
        go_wp2
        go_ret
        exact ⟨_, by first | rfl | (simp [errW_none, errW_some] <;> rfl) | (simp [*, errW_none, errW_some] <;> rfl), by (with_reducible repeat (first | apply Kd.R_alloc | apply Kd.R_drewN | apply Kd.R_drew)); exact HO_3.out, by repeat (first | (with_reducible first | exact HB.out | apply below_alloc | apply pw_below_drewN | apply below_drew1) | exact HB.out)⟩

end Go.Proofs.Ytkbcgahpekmlbaa.PPg
