-- (printed by the kit's print.py, called by printmany.sh)
import Derived.Test.YtkbcgahpekmlbaaPPgx0
namespace Go.Proofs.Ytkbcgahpekmlbaa.PPg
open Go.RowKit Go.Proofs.YtkbcgahpekmlbaaW.PrintWords Go.Proofs.YtkbcgahpekmlbaaW.PrintLast Go.Proofs.YtkbcgahpekmlbaaW.PrintMore
attribute [local go_sem] max2_int min2_int max_two min_two max_three min_three max_four min_four   -- for this text's walks alone
set_option linter.unusedVariables false
set_option linter.unusedSimpArgs false

/-! ### railplanref1_spans: function 41 -/
def railplanref1_spans.l0 : Nat → List Bool → List (S41) → Int → Option ((List (S41)))
  | 0, _, _, _ => none
  | k + 1, x0, x3, x4 => if x4 < (x0.length : Int) then (if 0 ≤ x4 then (if rdOf false x0 x4 = true then (if (x3.length : Int) > 0 then (if 0 ≤ (wrap64 ((x3.length : Int) - 1)) then (if (wrap64 ((x3.length : Int) - 1)) < (x3.length : Int) then (if ((rd_T41 x3 (wrap64 ((x3.length : Int) - 1))).f1) = x4 then (railplanref1_spans.l0 k x0 (x3.set ((wrap64 ((x3.length : Int) - 1)) : Int).toNat (⟨(rd_T41 x3 (wrap64 ((x3.length : Int) - 1))).f0, wrap64 (x4 + 1)⟩ : S41)) (wrap64 (x4 + 1))) else (if x3.length < 8796093022208 then (railplanref1_spans.l0 k x0 (x3 ++ [(⟨x4, wrap64 (x4 + 1)⟩ : S41)]) (wrap64 (x4 + 1))) else (none))) else (none)) else (none)) else (if x3.length < 8796093022208 then (railplanref1_spans.l0 k x0 (x3 ++ [(⟨x4, wrap64 (x4 + 1)⟩ : S41)]) (wrap64 (x4 + 1))) else (none))) else (railplanref1_spans.l0 k x0 x3 (wrap64 (x4 + 1)))) else (none)) else (some x3)
def railplanref1_spans.f (k : Nat) (l0 : List Bool) : Option ((List (S41))) := railplanref1_spans.l0 k l0 ([] : List (S41)) 0
theorem railplanref1_spans.mono_l : ∀ k, (∀ y0 y1 y2, LeO (railplanref1_spans.l0 k y0 y1 y2) (railplanref1_spans.l0 (k + 1) y0 y1 y2))
  | 0 => fun _ _ _ r h => by simp [railplanref1_spans.l0] at h
  | k + 1 => by
    have ih0 := railplanref1_spans.mono_l k
    · intro y0 y1 y2
      unfold railplanref1_spans.l0
      repeat' first
      | (with_reducible exact ih0 _ _ _)
      | (with_reducible exact LeO.refl _)
      | (with_reducible exact LeO.none _)
      | (with_reducible refine LeO.ite ?_ ?_)
      | (with_reducible refine LeO.bind ?_ (fun _ => ?_))
      | exact ih0 _ _ _
      | exact LeO.none _
      | refine LeO.ite ?_ ?_
      | refine LeO.bind ?_ (fun _ => ?_)
theorem railplanref1_spans.mono : ∀ a0 k, LeO (railplanref1_spans.f k a0) (railplanref1_spans.f (k + 1) a0) := by
  intro a0 k
  have ih0 := railplanref1_spans.mono_l k
  unfold railplanref1_spans.f
  repeat' first
      | (with_reducible exact ih0 _ _ _)
      | (with_reducible exact LeO.refl _)
      | (with_reducible exact LeO.none _)
      | (with_reducible refine LeO.ite ?_ ?_)
      | (with_reducible refine LeO.bind ?_ (fun _ => ?_))
      | exact ih0 _ _ _
      | exact LeO.none _
      | refine LeO.ite ?_ ?_
      | refine LeO.bind ?_ (fun _ => ?_)
set_option maxHeartbeats 8000000 in
set_option maxRecDepth 100000 in
theorem railplanref1_spans.calls (k : Nat) (A0 : Option Addr) (c0 : Nat) (l0 : List Bool) (r : List (S41)) (w : World) (hr0 : Kd.C Kd.bool w A0 l0.length l0) (hc0 : l0.length ≤ c0) (h : railplanref1_spans.f k l0 = some r) :
    Calls Try.prog 41 #[.slice A0 l0.length c0] w fun e w' => ∃ v0_ : Value, e = .returned (v0_) ∧ Kd.R k41 41 w' w.heap.size (fun _ => True) v0_ r ∧ Below w.heap.size w w' := by
  have hu41 := Try.underlying41
  have HR0 := Aside0.mk hr0
  have HC0 := Aside0.mk hc0
  clear hr0 hc0
  have HB := Aside0.mk (Below.refl w.heap.size w)
  have H : (railplanref1_spans.l0 k l0 ([] : List (S41)) 0) = some r := h
  clear h
  have H' := Aside0.mk H
  clear H
  go_enter Try.func41, Try.ntmps41
  go_wp2
  go_loopg [3, 4] k (fun kq v3 v4 w' => ∃ (x3_1 : List (S41)) (x4_1 : Int), v4 = .int .i64 x4_1 ∧ Aside0 (railplanref1_spans.l0 kq l0 x3_1 x4_1 = some r) ∧ Aside0 (kq ≤ k) ∧ Aside0 (Kd.R k41 41 w' w.heap.size (fun _ => True) v3 x3_1) ∧ Aside0 (Below w.heap.size w w'))
  case atStart => exact ⟨(([] : List (S41))), (0), (by first | rfl | (simp; done) | (simp [*]; done)), H', ⟨Nat.le_refl _⟩, ⟨by first | exact Kd.R_nil _ _ _ _ _ | exact Kd.N_nil _ _ _ _ _ | exact Kd.V_nil _ _ _ _ _ | exact Kd.Q_nil _ _ _ _ _ | exact Kd.S_nil _ _ _ _ _⟩, ⟨by repeat (first | (with_reducible first | exact HB.out | apply below_alloc | apply pw_below_drewN | apply below_drew1) | exact HB.out)⟩⟩
  case round =>
    clear H'
    obtain ⟨x3_1, x4_1, rfl, HA, HK1, HO_3, HB⟩ := hrel
    cases gk with
    | zero => exact absurd HA.out (by simp [railplanref1_spans.l0])
    | succ k1 =>
      have H := HA.out
      clear HA
      simp only [railplanref1_spans.l0] at H
      by_cases c2 : x4_1 < (l0.length : Int)
      · rw [if_pos c2] at H
        have c2b0 : decide (x4_1 < (l0.length : Int)) = true := decide_eq_true c2
        clear c2
        by_cases c3 : 0 ≤ x4_1
        · rw [if_pos c3] at H
          have c3b0 : decide (0 ≤ x4_1) = true := decide_eq_true c3
          clear c3
          obtain ⟨bq4, hbq4⟩ : ∃ b_ : Bool, b_ = (rdOf false l0 x4_1) := ⟨_, rfl⟩
          replace H : (if bq4 = true then (if (x3_1.length : Int) > 0 then (if 0 ≤ (wrap64 ((x3_1.length : Int) - 1)) then (if (wrap64 ((x3_1.length : Int) - 1)) < (x3_1.length : Int) then (if ((rd_T41 x3_1 (wrap64 ((x3_1.length : Int) - 1))).f1) = x4_1 then (railplanref1_spans.l0 k1 l0 (x3_1.set ((wrap64 ((x3_1.length : Int) - 1)) : Int).toNat (⟨(rd_T41 x3_1 (wrap64 ((x3_1.length : Int) - 1))).f0, wrap64 (x4_1 + 1)⟩ : S41)) (wrap64 (x4_1 + 1))) else (if x3_1.length < 8796093022208 then (railplanref1_spans.l0 k1 l0 (x3_1 ++ [(⟨x4_1, wrap64 (x4_1 + 1)⟩ : S41)]) (wrap64 (x4_1 + 1))) else (none))) else (none)) else (none)) else (if x3_1.length < 8796093022208 then (railplanref1_spans.l0 k1 l0 (x3_1 ++ [(⟨x4_1, wrap64 (x4_1 + 1)⟩ : S41)]) (wrap64 (x4_1 + 1))) else (none))) else (railplanref1_spans.l0 k1 l0 x3_1 (wrap64 (x4_1 + 1)))) = some r := by rw [← hbq4] at H; exact H
          have Nbq4 := Aside0.mk hbq4
          clear hbq4
          by_cases c5 : bq4 = true
          · subst c5
            have H1 : (if (x3_1.length : Int) > 0 then (if 0 ≤ (wrap64 ((x3_1.length : Int) - 1)) then (if (wrap64 ((x3_1.length : Int) - 1)) < (x3_1.length : Int) then (if ((rd_T41 x3_1 (wrap64 ((x3_1.length : Int) - 1))).f1) = x4_1 then (railplanref1_spans.l0 k1 l0 (x3_1.set ((wrap64 ((x3_1.length : Int) - 1)) : Int).toNat (⟨(rd_T41 x3_1 (wrap64 ((x3_1.length : Int) - 1))).f0, wrap64 (x4_1 + 1)⟩ : S41)) (wrap64 (x4_1 + 1))) else (if x3_1.length < 8796093022208 then (railplanref1_spans.l0 k1 l0 (x3_1 ++ [(⟨x4_1, wrap64 (x4_1 + 1)⟩ : S41)]) (wrap64 (x4_1 + 1))) else (none))) else (none)) else (none)) else (if x3_1.length < 8796093022208 then (railplanref1_spans.l0 k1 l0 (x3_1 ++ [(⟨x4_1, wrap64 (x4_1 + 1)⟩ : S41)]) (wrap64 (x4_1 + 1))) else (none))) = some r := by rw [if_pos rfl] at H; exact H
            clear H
            have H := H1
            clear H1
            by_cases c6 : (x3_1.length : Int) > 0
            · rw [if_pos c6] at H
              have c6b0 : decide (0 < (x3_1.length : Int)) = true := decide_eq_true c6
              have c6b1 : decide (0 < x3_1.length) = true := decide_eq_true (by omega)
              clear c6
              obtain ⟨ji7, hji7⟩ : ∃ j_ : Int, (wrap64 ((x3_1.length : Int) - 1)) = j_ := ⟨_, rfl⟩
              replace H : (if 0 ≤ (ji7) then (if (ji7) < (x3_1.length : Int) then (if ((rd_T41 x3_1 (ji7)).f1) = x4_1 then (railplanref1_spans.l0 k1 l0 (x3_1.set ((ji7) : Int).toNat (⟨(rd_T41 x3_1 (ji7)).f0, wrap64 (x4_1 + 1)⟩ : S41)) (wrap64 (x4_1 + 1))) else (if x3_1.length < 8796093022208 then (railplanref1_spans.l0 k1 l0 (x3_1 ++ [(⟨x4_1, wrap64 (x4_1 + 1)⟩ : S41)]) (wrap64 (x4_1 + 1))) else (none))) else (none)) else (none)) = some r := by first | (rw [hji7] at H; exact H) | (simp only [hji7] at H ⊢; exact H)
              have hji7w : (IntKind.i64.wrap ((x3_1.length : Int) - 1)) = ji7 := (i64_w _).trans hji7
              by_cases c8 : 0 ≤ (ji7)
              · rw [if_pos c8] at H
                have c8b0 : decide (0 ≤ (ji7)) = true := decide_eq_true c8
                clear c8
                by_cases c9 : (ji7) < (x3_1.length : Int)
                · rw [if_pos c9] at H
                  have c9b0 : decide ((ji7) < (x3_1.length : Int)) = true := decide_eq_true c9
                  clear c9
                  by_cases c10 : ((rd_T41 x3_1 (ji7)).f1) = x4_1
                  · rw [if_pos c10] at H
                    have c10b0 : (((rd_T41 x3_1 (ji7)).f1) == x4_1) = true := beq_iff_eq.mpr c10
                    have c10b1 : (((rd_T41 x3_1 (ji7)).f1) != x4_1) = false := bne_eq_false_iff_eq.mpr c10
                    clear c10
                    obtain ⟨y325, hy325⟩ : ∃ y_ : List (S41), y_ = (x3_1.set ((ji7) : Int).toNat (⟨(rd_T41 x3_1 (ji7)).f0, wrap64 (x4_1 + 1)⟩ : S41)) := ⟨_, rfl⟩
                    replace H : (railplanref1_spans.l0 k1 l0 y325 (wrap64 (x4_1 + 1))) = some r := by first | (rw [hy325]; with_reducible exact H) | (have H2_ := (Option.bind_some _ _).symm.trans H; rw [hy325]; with_reducible exact H2_) | (have H2_ := (Option.bind_some _ _).symm.trans H; with_reducible exact H2_) | with_reducible exact H | (rw [hy325]; exact H) | exact H
                    have Ny325 := Aside0.mk hy325
                    clear hy325
                    have H' := Aside0.mk H
                    clear H
                    have p323 : 0 ≤ (x4_1 : Int) := of_decide_eq_true (by first | (with_reducible assumption) | assumption)
                    have q323 : x4_1 < (l0.length : Int) := of_decide_eq_true (by first | (with_reducible assumption) | assumption)
                    obtain ⟨ad323, e323, hx323_0⟩ := Kd.at_bool HR0.out x4_1 p323 q323
                    (try rw [← Nbq4.out] at hx323_0)
                    cases e323
                    replace hx323_0 := (HB.out.cell (World.block_lt_of_cell? w _ hx323_0)).trans hx323_0
                    replace p323 := eq_true p323
                    replace q323 := eq_true q323
                    obtain ⟨Ao12, co12, eo12⟩ := Kd.R_slice HO_3.out
                    subst eo12
                    have p324 : 0 ≤ ((ji7) : Int) := of_decide_eq_true (by first | (with_reducible assumption) | assumption)
                    have q324 : (ji7) < (x3_1.length : Int) := of_decide_eq_true (by first | (with_reducible assumption) | assumption)
                    obtain ⟨ad324, e324, hx324_0, hx324_1⟩ := at_T41 (Kd.R_reads' HO_3.out).2.2 (ji7) p324 q324
                    cases e324
                    replace p324 := eq_true p324
                    replace q324 := eq_true q324
                    have p11 : 0 ≤ ((ji7) : Int) := of_decide_eq_true (by first | (with_reducible assumption) | assumption)
                    have q11 : ((ji7) : Int) < ((x3_1.length : Int) : Int) := of_decide_eq_true (by first | (with_reducible assumption) | assumption)
                    obtain ⟨go11, co11, eo11, gb11, gl11, cl11, HG11⟩ := Kd.R_form HO_3.out (by omega)
                    (first | cases eo11 | (injection eo11 with ea_ en_ ec_; (first | subst ea_ | (injection ea_ with ea_; subst ea_)); subst ec_; clear en_))
                    have GB11 := Aside0.mk gb11
                    have GG11 := Aside0.mk HG11
                    clear gb11 gl11 HG11
                    (first | simp only [add_plain] at hx324_0 | skip)
                    (first | simp only [add_plain] at hx324_1 | skip)
                    obtain ⟨ce11, hcl11, hM11, hcc11, hfr11⟩ := Kd.R_elem HO_3.out z41 ((ji7) : Int) p11 q11
                    obtain rfl := k41_openM hM11
                    have hx11_0 : wr.cell? ⟨go11, ((ji7) : Int).toNat * 2, none⟩ = some (.int .i64 ((rd_T41 x3_1 (ji7)).f0)) := hcc11 0 _ rfl
                    have hx11_1 : wr.cell? ⟨go11, ((ji7) : Int).toNat * 2 + 1, none⟩ = some (.int .i64 ((rd_T41 x3_1 (ji7)).f1)) := hcc11 1 _ rfl
                    have hf11_0 : wr.frozen? ⟨go11, ((ji7) : Int).toNat * 2, none⟩ = false := hfr11 0
                    have hf11_1 : wr.frozen? ⟨go11, ((ji7) : Int).toNat * 2 + 1, none⟩ = false := hfr11 1
                    clear hcl11 hcc11 hfr11 hM11
                    replace p11 := eq_true p11
                    replace q11 := eq_true q11
                    have HX13 := Aside0.mk (show Kd.R k41 41 wr w.heap.size (fun _ => True) (.slice (some ⟨go11, 0, none⟩) x3_1.length co12) x3_1 from (by (with_reducible repeat (first | apply Kd.R_alloc | apply Kd.R_drewN | apply Kd.R_drew)); exact HO_3.out))
                    obtain ⟨ce13, hcl13, hM13, hcc13, hfr13⟩ := Kd.R_elem HX13.out z41 ((ji7) : Int) (of_decide_eq_true (by first | (with_reducible assumption) | assumption)) (by have h_ : ((ji7) : Int) < ((x3_1.length : Int) : Int) := of_decide_eq_true (by first | (with_reducible assumption) | assumption); first | exact h_ | (have e_ := (Kd.R_reads' HO_3.out).1; omega) | simpa using h_)
                    obtain rfl := k41_openM hM13
                    have HP13 := Kd.R_seg HX13.out ((ji7) : Int) (of_decide_eq_true (by first | (with_reducible assumption) | assumption)) (by have h_ : ((ji7) : Int) < ((x3_1.length : Int) : Int) := of_decide_eq_true (by first | (with_reducible assumption) | assumption); first | exact h_ | (have e_ := (Kd.R_reads' HO_3.out).1; omega) | simpa using h_) (seg := [.int .i64 (wrap64 (x4_1 + 1))]) (j := 1) hcl13 hcc13 (show 2 ≤ 2 from by decide) (x' := (⟨(rd_T41 x3_1 (ji7)).f0, wrap64 (x4_1 + 1)⟩ : S41)) (k41_mkM _ _ _ (⟨(rd_T41 x3_1 (ji7)).f0, wrap64 (x4_1 + 1)⟩ : S41) ) (fun _ hk => hk)
                    have hx13_1 := hcc13 1 _ rfl
                    (try simp only [show (k41).sz = 2 from rfl, Nat.mul_one, Nat.add_zero] at hx13_1)
                    have hf13_1 := hfr13 1
                    (try simp only [show (k41).sz = 2 from rfl, Nat.mul_one, Nat.add_zero] at hf13_1)
                    clear hcl13 hcc13 hfr13 hM13
                    go_wp2_with (first | ((with_reducible refine gate_store (t := 3) (p := 37) rfl ?_); refine store_event (t := 3) (p := 37) (v := ?vo_w14) (w1 := (wr.setCell ⟨go11, ((ji7) : Int).toNat * 2 + 1, none⟩ (.int .i64 (wrap64 (x4_1 + 1))))) ?hg ?ho ?hn ?hr ?_; (case ho => rfl); (case hg => rfl); (case hn => rfl); (case hr => first | (go_simp; done) | (go_simp; rfl)); intro w14 hw; have hg : wr.grownBy w14 (some go11) := (by rw [hw]; exact HP13.2); have hp_ : Kd.R k41 41 w14 w.heap.size (fun _ => True) (.slice (some ⟨go11, 0, none⟩) x3_1.length co12) y325 := (by rw [hw, Ny325.out]; exact HP13.1); clear HP13; have n0_ := Aside0.mk (hp_); have n1_ := Aside0.mk ((by rw [hw]; exact below_set (HB.out) GB11.out : Below w.heap.size w w14)); clear HO_3; clear HB; have HO_3 := n0_; have HB := n1_; clear n0_ n1_; clear hg hw hp_))
                    go_roundg k1
                    case measure => have := HK1.out; omega
                    case rel => exact ⟨(y325), (wrap64 (x4_1 + 1)), (by first | rfl | (simp; done) | (simp [*]; done)), H', ⟨by have := HK1.out; omega⟩, ⟨by (with_reducible repeat (first | apply Kd.R_alloc | apply Kd.R_drewN | apply Kd.R_drew)); exact HO_3.out⟩, ⟨by repeat (first | (with_reducible first | exact HB.out | apply below_alloc | apply pw_below_drewN | apply below_drew1) | exact HB.out)⟩⟩
                  · rw [if_neg c10] at H
                    have c10b0 : (((rd_T41 x3_1 (ji7)).f1) == x4_1) = false := beq_eq_false_iff_ne.mpr c10
                    have c10b1 : (((rd_T41 x3_1 (ji7)).f1) != x4_1) = true := bne_iff_ne.mpr c10
                    by_cases c15 : x3_1.length < 8796093022208
                    · rw [if_pos c15] at H
                      have LMc15 := Aside0.mk c15
                      clear c15
                      obtain ⟨y326, hy326⟩ : ∃ y_ : List (S41), y_ = (x3_1 ++ [(⟨x4_1, wrap64 (x4_1 + 1)⟩ : S41)]) := ⟨_, rfl⟩
                      replace H : (railplanref1_spans.l0 k1 l0 y326 (wrap64 (x4_1 + 1))) = some r := by first | (rw [hy326]; with_reducible exact H) | (have H2_ := (Option.bind_some _ _).symm.trans H; rw [hy326]; with_reducible exact H2_) | (have H2_ := (Option.bind_some _ _).symm.trans H; with_reducible exact H2_) | with_reducible exact H | (rw [hy326]; exact H) | exact H
                      have Ny326 := Aside0.mk hy326
                      clear hy326
                      have H' := Aside0.mk H
                      clear H
                      have p323 : 0 ≤ (x4_1 : Int) := of_decide_eq_true (by first | (with_reducible assumption) | assumption)
                      have q323 : x4_1 < (l0.length : Int) := of_decide_eq_true (by first | (with_reducible assumption) | assumption)
                      obtain ⟨ad323, e323, hx323_0⟩ := Kd.at_bool HR0.out x4_1 p323 q323
                      (try rw [← Nbq4.out] at hx323_0)
                      cases e323
                      replace hx323_0 := (HB.out.cell (World.block_lt_of_cell? w _ hx323_0)).trans hx323_0
                      replace p323 := eq_true p323
                      replace q323 := eq_true q323
                      obtain ⟨Ao16, co16, eo16⟩ := Kd.R_slice HO_3.out
                      subst eo16
                      have p324 : 0 ≤ ((ji7) : Int) := of_decide_eq_true (by first | (with_reducible assumption) | assumption)
                      have q324 : (ji7) < (x3_1.length : Int) := of_decide_eq_true (by first | (with_reducible assumption) | assumption)
                      obtain ⟨ad324, e324, hx324_0, hx324_1⟩ := at_T41 (Kd.R_reads' HO_3.out).2.2 (ji7) p324 q324
                      cases e324
                      replace p324 := eq_true p324
                      replace q324 := eq_true q324
                      go_wp2_with (first | ((with_reducible refine gate_builtin (b := .append) (xs := #[.tmp 38, .tmp 43]) rfl ?_); at_builtin; refine Kd.R_append k41 (w0 := w) w.heap.size rfl (.tmp 38) (.tmp 43) 42 41 (.agg #[(.int .i64 0), (.int .i64 0)]) 16 rfl Try.underlying42 info41 rfl (by decide) (by omega) (.slice (some ad324) x3_1.length co16) x3_1 (⟨x4_1, wrap64 (x4_1 + 1)⟩ : S41) [.int .i64 x4_1, .int .i64 (wrap64 (x4_1 + 1))] (fun _ => True) (fun _ => False) rfl rfl ?aP (fun _ hk => hk.elim) ?aF ?aO ?aB ?aS ?aL ?_; (case aP => exact k41_mkM _ _ _ (⟨x4_1, wrap64 (x4_1 + 1)⟩ : S41)); (case aB => exact (by repeat (first | (with_reducible first | exact HB.out | apply below_alloc | apply pw_below_drewN | apply below_drew1) | exact HB.out))); (case aF => exact (fun _ _ => trivial)); (case aO => exact (by (with_reducible repeat (first | apply Kd.R_alloc | apply Kd.R_drewN | apply Kd.R_drew)); exact HO_3.out)); (case aS => exact (below_size (by repeat (first | (with_reducible first | exact HB.out | apply below_alloc | apply pw_below_drewN | apply below_drew1) | exact HB.out)))); (case aL => have := LMc15.out; omega); intro v327 w17 ho hb hg hat; rw [← Ny326.out] at ho; have n0_ := Aside0.mk (hb); have n1_ := Aside0.mk (ho); clear HB; clear HO_3; have HB := n0_; have HO328 := n1_; clear n0_ n1_; clear ho hb hg hat))
                      go_roundg k1
                      case measure => have := HK1.out; omega
                      case rel => exact ⟨(y326), (wrap64 (x4_1 + 1)), (by first | rfl | (simp; done) | (simp [*]; done)), H', ⟨by have := HK1.out; omega⟩, ⟨by (with_reducible repeat (first | apply Kd.R_alloc | apply Kd.R_drewN | apply Kd.R_drew)); exact HO328.out⟩, ⟨by repeat (first | (with_reducible first | exact HB.out | apply below_alloc | apply pw_below_drewN | apply below_drew1) | exact HB.out)⟩⟩
                    · rw [if_neg c15] at H
                      exact absurd H (by simp)
                · rw [if_neg c9] at H
                  exact absurd H (by simp)
              · rw [if_neg c8] at H
                exact absurd H (by simp)
            · rw [if_neg c6] at H
              have c6b0 : decide (0 < (x3_1.length : Int)) = false := decide_eq_false c6
              have c6b1 : decide (0 < x3_1.length) = false := decide_eq_false (by omega)
              clear c6
              by_cases c18 : x3_1.length < 8796093022208
              · rw [if_pos c18] at H
                have LMc18 := Aside0.mk c18
                clear c18
                obtain ⟨y329, hy329⟩ : ∃ y_ : List (S41), y_ = (x3_1 ++ [(⟨x4_1, wrap64 (x4_1 + 1)⟩ : S41)]) := ⟨_, rfl⟩
                replace H : (railplanref1_spans.l0 k1 l0 y329 (wrap64 (x4_1 + 1))) = some r := by first | (rw [hy329]; with_reducible exact H) | (have H2_ := (Option.bind_some _ _).symm.trans H; rw [hy329]; with_reducible exact H2_) | (have H2_ := (Option.bind_some _ _).symm.trans H; with_reducible exact H2_) | with_reducible exact H | (rw [hy329]; exact H) | exact H
                have Ny329 := Aside0.mk hy329
                clear hy329
                have H' := Aside0.mk H
                clear H
                have p323 : 0 ≤ (x4_1 : Int) := of_decide_eq_true (by first | (with_reducible assumption) | assumption)
                have q323 : x4_1 < (l0.length : Int) := of_decide_eq_true (by first | (with_reducible assumption) | assumption)
                obtain ⟨ad323, e323, hx323_0⟩ := Kd.at_bool HR0.out x4_1 p323 q323
                (try rw [← Nbq4.out] at hx323_0)
                cases e323
                replace hx323_0 := (HB.out.cell (World.block_lt_of_cell? w _ hx323_0)).trans hx323_0
                replace p323 := eq_true p323
                replace q323 := eq_true q323
                obtain ⟨Ao19, co19, eo19⟩ := Kd.R_slice HO_3.out
                subst eo19
                go_wp2_with (first | ((with_reducible refine gate_builtin (b := .append) (xs := #[.tmp 38, .tmp 43]) rfl ?_); at_builtin; refine Kd.R_append k41 (w0 := w) w.heap.size rfl (.tmp 38) (.tmp 43) 42 41 (.agg #[(.int .i64 0), (.int .i64 0)]) 16 rfl Try.underlying42 info41 rfl (by decide) (by omega) (.slice Ao19 x3_1.length co19) x3_1 (⟨x4_1, wrap64 (x4_1 + 1)⟩ : S41) [.int .i64 x4_1, .int .i64 (wrap64 (x4_1 + 1))] (fun _ => True) (fun _ => False) rfl rfl ?aP (fun _ hk => hk.elim) ?aF ?aO ?aB ?aS ?aL ?_; (case aP => exact k41_mkM _ _ _ (⟨x4_1, wrap64 (x4_1 + 1)⟩ : S41)); (case aB => exact (by repeat (first | (with_reducible first | exact HB.out | apply below_alloc | apply pw_below_drewN | apply below_drew1) | exact HB.out))); (case aF => exact (fun _ _ => trivial)); (case aO => exact (by (with_reducible repeat (first | apply Kd.R_alloc | apply Kd.R_drewN | apply Kd.R_drew)); exact HO_3.out)); (case aS => exact (below_size (by repeat (first | (with_reducible first | exact HB.out | apply below_alloc | apply pw_below_drewN | apply below_drew1) | exact HB.out)))); (case aL => have := LMc18.out; omega); intro v330 w20 ho hb hg hat; rw [← Ny329.out] at ho; have n0_ := Aside0.mk (hb); have n1_ := Aside0.mk (ho); clear HB; clear HO_3; have HB := n0_; have HO331 := n1_; clear n0_ n1_; clear ho hb hg hat))
                go_roundg k1
                case measure => have := HK1.out; omega
                case rel => exact ⟨(y329), (wrap64 (x4_1 + 1)), (by first | rfl | (simp; done) | (simp [*]; done)), H', ⟨by have := HK1.out; omega⟩, ⟨by (with_reducible repeat (first | apply Kd.R_alloc | apply Kd.R_drewN | apply Kd.R_drew)); exact HO331.out⟩, ⟨by repeat (first | (with_reducible first | exact HB.out | apply below_alloc | apply pw_below_drewN | apply below_drew1) | exact HB.out)⟩⟩
              · rw [if_neg c18] at H
                exact absurd H (by simp)
          · replace c5 := Bool.eq_false_iff.mpr c5
            subst c5
            have H1 : (railplanref1_spans.l0 k1 l0 x3_1 (wrap64 (x4_1 + 1))) = some r := by rw [if_neg (show ¬ (false = true) by decide)] at H; exact H
            clear H
            have H := H1
            clear H1
            have H' := Aside0.mk H
            clear H
            have p323 : 0 ≤ (x4_1 : Int) := of_decide_eq_true (by first | (with_reducible assumption) | assumption)
            have q323 : x4_1 < (l0.length : Int) := of_decide_eq_true (by first | (with_reducible assumption) | assumption)
            obtain ⟨ad323, e323, hx323_0⟩ := Kd.at_bool HR0.out x4_1 p323 q323
            (try rw [← Nbq4.out] at hx323_0)
            cases e323
            replace hx323_0 := (HB.out.cell (World.block_lt_of_cell? w _ hx323_0)).trans hx323_0
            replace p323 := eq_true p323
            replace q323 := eq_true q323
            go_wp2
            go_roundg k1
            case measure => have := HK1.out; omega
            case rel => exact ⟨(x3_1), (wrap64 (x4_1 + 1)), (by first | rfl | (simp; done) | (simp [*]; done)), H', ⟨by have := HK1.out; omega⟩, ⟨by (with_reducible repeat (first | apply Kd.R_alloc | apply Kd.R_drewN | apply Kd.R_drew)); exact HO_3.out⟩, ⟨by repeat (first | (with_reducible first | exact HB.out | apply below_alloc | apply pw_below_drewN | apply below_drew1) | exact HB.out)⟩⟩
        · rw [if_neg c3] at H
          exact absurd H (by simp)
      · rw [if_neg c2] at H
        have c2b0 : decide (x4_1 < (l0.length : Int)) = false := decide_eq_false c2
        clear c2
        obtain rfl := Option.some.inj H
        go_wp2
        go_ret
        exact ⟨_, by first | rfl | (simp [errW_none, errW_some] <;> rfl) | (simp [*, errW_none, errW_some] <;> rfl), by (with_reducible repeat (first | apply Kd.R_alloc | apply Kd.R_drewN | apply Kd.R_drew)); exact HO_3.out, by repeat (first | (with_reducible first | exact HB.out | apply below_alloc | apply pw_below_drewN | apply below_drew1) | exact HB.out)⟩

end Go.Proofs.Ytkbcgahpekmlbaa.PPg
