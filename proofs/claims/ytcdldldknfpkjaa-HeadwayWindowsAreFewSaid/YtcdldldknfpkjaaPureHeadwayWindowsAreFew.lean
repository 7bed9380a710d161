/- There are at most as many windows as common resources, and each one excludes at least one residue, for every argument. -/
import Derived.Test.YtcdldldknfpkjaaLHwM2
import Derived.Deep.LoopGhost
namespace Go.Proofs.Ytcdldldknfpkjaa.Pure
open Go.RowKit Go.Proofs.Ytcdldldknfpkjaa.PHw Go.Proofs.YtcdldldknfpkjaaW.PrintWords Go.Proofs.YtcdldldknfpkjaaW.PrintLast Go.Proofs.YtcdldldknfpkjaaW.PrintMore
set_option linter.unusedVariables false
set_option maxRecDepth 100000
/-- What the statement asks of each window. -/
def Wok (n : Int) (W : List S50) (i : Int) : Prop := (rd_T50 W i).f1 - (rd_T50 W i).f0 ≤ n - 2 ∧ (0 ≤ (rd_T50 W i).f0 ∧ (rd_T50 W i).f0 ≤ 20000 ∧ 0 ≤ (rd_T50 W i).f1 ∧ (rd_T50 W i).f1 ≤ 20000) ∧ (0 < i → (rd_T50 W (i - 1)).f1 < (rd_T50 W i).f1)
theorem rd50_map (n : Int) (s : List S47) (i : Nat) (hi : i < s.length) : rd_T50 (s.map (wf n)) (i : Int) = wf n s[i] := by
  unfold rd_T50
  rw [show ((i : Int)).toNat = i by omega, List.getD_eq_getElem?_getD, List.getElem?_map, List.getElem?_eq_getElem hi]; rfl
theorem win_few {n : Nat} (h1 : 1 ≤ n) (h2 : n ≤ 7200) {a b : List S41} (ha : ovld a = true) (hb : ovld b = true) :
    (∀ i : Int, 0 ≤ i → i < (win n a b).1.length → Wok n (win n a b).1 i) ∧ ((win n a b).1.length : Int) ≤ pc a b ∧ ((win n a b).2 = 0 ∨ (win n a b).2 = 13) := by
  have e : ((n : Int)).toNat = n := by omega
  unfold win
  rw [if_pos ((per_iff _).2 (by omega)), if_pos ⟨ha, hb⟩, e]
  split
  · refine ⟨fun i i0 i1 => by simp at i1; omega, ?_, .inr rfl⟩
    have := cm_pc a b
    simp; omega
  · next hc =>
    have hch := turned_ch h1 (can_vldF n (fbp n a b))
    have hln := turned_len h1 (fbp n a b) hc
    have hst := st_fbp h1 a b
    have hcm := cm_pc a b
    refine ⟨fun i i0 i1 => ?_, by simp only [List.length_map]; omega, .inl rfl⟩
    simp only [List.length_map] at i1 ⊢
    obtain ⟨j, rfl⟩ := Int.eq_ofNat_of_zero_le i0
    have hj : j < (turned n (can n (fbp n a b))).length := by omega
    have g := (ch_get _ j hj hch).1
    unfold Wok
    rw [rd50_map _ _ j hj]
    refine ⟨by simp only [wf]; omega, ⟨by simp only [wf]; omega, by simp only [wf]; omega, by simp only [wf]; omega, by simp only [wf]; omega⟩, fun hp => ?_⟩
    obtain ⟨k, rfl⟩ : ∃ k, j = k + 1 := ⟨j - 1, by omega⟩
    have g2 := (ch_get _ k (by omega) hch).2 hj
    rw [show (((k + 1 : Nat) : Int) - 1) = (k : Int) by omega, rd50_map _ _ k (by omega)]
    simp only [wf]; omega
theorem rc_drop (x : S41) (b : List S41) (k : Int) (h0 : 0 ≤ k) (h1 : k < b.length) : rc x (b.drop k.toNat) = (if x.f0 = (rd_T41 b k).f0 then 1 else 0) + rc x (b.drop (k + 1).toNat) := by
  rw [drop_rd b k h0 h1]; rfl
theorem pc_drop (a b : List S41) (k : Int) (h0 : 0 ≤ k) (h1 : k < a.length) : pc (a.drop k.toNat) b = rc (rd_T41 a k) b + pc (a.drop (k + 1).toNat) b := by
  rw [drop_rd a k h0 h1]; rfl
set_option maxHeartbeats 1000000 in
theorem walk (w : World) (k : Nat) (A1 A2 : Option Addr) (c1 c2 : Nat) (l1 l2 : List Int) (t0 q : Int) (n : Nat) (a b : List S41) (W : List S50) (E P : Int)
  (hr1 : Kd.C (Kd.int .i64) w A1 l1.length l1) (hc1 : l1.length ≤ c1) (hr2 : Kd.C (Kd.int .i64) w A2 l2.length l2) (hc2 : l2.length ≤ c2)
  (ha : railplankeep_Occupations.f k l1 = some a) (hb : railplankeep_Occupations.f k l2 = some b) (hq : railplankeep_Pick.f t0 90 = some q) (q0 : 0 ≤ q) (q1 : q < 90) (hn : (n : Int) = 1 + q)
  (fa : Fit a) (fb : Fit b) (hw : win n a b = (W, E)) (hok : ∀ i : Int, 0 ≤ i → i < W.length → Wok n W i) (hP : pc a b = P) (hlen : (W.length : Int) ≤ P) (p1 : P ≤ 36) (hE : E = 0 ∨ E = 13) (la : a.length ≤ 6) (lb : b.length ≤ 6) :
    Calls Try.prog 11 #[.int .i64 t0, .slice A1 l1.length c1, .slice A2 l2.length c2] w fun e w' => e = .returned (.bool true) ∧ Below w.heap.size w w' := by
  have HB := Aside0.mk (Below.refl w.heap.size w)
  have HA := Aside0.mk ha
  have HBb := Aside0.mk hb
  have HQ := Aside0.mk hq
  have FA := Aside0.mk fa
  have FB := Aside0.mk fb
  have HN := Aside0.mk hn
  have HW := Aside0.mk hw
  have HOK := Aside0.mk hok
  have HP := Aside0.mk hP
  have HE := Aside0.mk hE
  have n1 : 1 ≤ n := by omega
  have n2 : n ≤ 90 := by omega
  clear ha hb hq fa fb hn hw hok hP hE
  go_enter Try.func11, Try.ntmps11
  go_wp2_with fail
  refine (Pick_c HQ.out).mono ?_
  rintro _ w1 ⟨rfl, hb⟩
  replace hr1 := Kd.C_below hr1 hb
  replace hr2 := Kd.C_below hr2 hb
  replace HB := Aside0.mk (below_step HB.out hb)
  clear hb
  go_wp2_with fail
  refine (Occ_c HA.out hr1 hc1).mono ?_
  rintro _ w2 ⟨Aa, ca, rfl, Va, hb⟩
  replace hr2 := Kd.C_below hr2 hb
  replace HB := Aside0.mk (below_step HB.out hb)
  clear hb
  go_wp2_with fail
  refine (Occ_c HBb.out hr2 hc2).mono ?_
  rintro _ w3 ⟨Ab, cb, rfl, Vb, hb⟩
  replace Va := VA_below Va hb
  replace HB := Aside0.mk (below_step HB.out hb)
  clear hb
  go_wp2_with fail
  rw [← HN.out]
  refine (Windows_c w3 _ _ _ _ a b n Va FA.out Vb FB.out).mono ?_
  rw [HW.out]
  rintro _ w4 ⟨⟨Aw, cw, rfl, Vw⟩, hb⟩
  have HVA := Aside0.mk (VA_below Va hb)
  have HVB := Aside0.mk (VA_below Vb hb)
  have HVW := Aside0.mk Vw
  replace HB := Aside0.mk (below_step HB.out hb)
  clear hb hr1 hr2 Va Vb Vw
  go_wp2_with fail
  have BP : Aside0 (∀ (x : S41) (k : Nat) (i : Nat), 0 ≤ rc x (b.drop k) ∧ 0 ≤ pc (a.drop i) b) := ⟨fun x k i => ⟨(rc_bd x _).1, (pc_bd b lb _).1⟩⟩
  have BP0 : Aside0 (∀ (i : Nat), 0 ≤ pc (a.drop i) b) := ⟨fun i => (pc_bd b lb _).1⟩
  have HCA := Aside0.mk (VA_C HVA.out)
  have HCB := Aside0.mk (VA_C HVB.out)
  have HCW := Aside0.mk (VW_C HVW.out)
  have hla : (a.length : Int) ≤ 6 := by omega
  have hlb : (b.length : Int) ≤ 6 := by omega
  go_loopw [11, 31] (fun v11 v31 wr => ∃ (i N : Int), v11 = .int .i64 N ∧ v31 = .int .i64 i ∧ Aside0 (0 ≤ i ∧ i ≤ a.length) ∧ Aside0 (N + pc (a.drop i.toNat) b = P ∧ 0 ≤ N) ∧ Aside0 (Below w4.heap.size w4 wr)) (fun _ v31 _ => a.length - (intOf v31).toNat)
  case atStart => exact ⟨0, 0, rfl, rfl, ⟨by omega⟩, ⟨by have := HP.out; simp; omega⟩, ⟨Below.refl _ _⟩⟩
  case round =>
    obtain ⟨i, N, rfl, rfl, HI, HS, HBr⟩ := hrel
    obtain ⟨i0, i1⟩ := HI.out
    obtain ⟨s0, s1⟩ := HS.out
    clear HI HS
    by_cases ci : i < a.length
    · have PD := Aside0.mk (pc_drop a b i i0 ci)
      obtain ⟨ada, ea, hx0, hx1, hx2⟩ := at_T41 HCA.out i i0 ci
      subst ea
      have HX0 := Aside0.mk hx0
      clear hx0 hx1 hx2
      generalize hx : rd_T41 a i = x at *
      clear hx
      rw [PD.out] at s0
      have S0 := Aside0.mk s0
      clear s0
      go_wp2_with fail
      go_loopw [11, 36] (fun v11 v36 ws => ∃ (k M : Int), v11 = .int .i64 M ∧ v36 = .int .i64 k ∧ Aside0 (0 ≤ k ∧ k ≤ b.length) ∧ Aside0 (M + (rc x (b.drop k.toNat) + pc (a.drop (i + 1).toNat) b) = P ∧ 0 ≤ M) ∧ Aside0 (Below w4.heap.size w4 ws)) (fun _ v36 _ => b.length - (intOf v36).toNat)
      case atStart => exact ⟨0, N, rfl, rfl, ⟨by omega⟩, ⟨by have := S0.out; simp; omega⟩, HBr⟩
      case round =>
        clear HBr
        obtain ⟨k, M, rfl, rfl, HI, HS, HBs⟩ := hrel
        obtain ⟨k0, k1⟩ := HI.out
        obtain ⟨m0, m1⟩ := HS.out
        clear HI HS
        have M36 : M ≤ 36 := by
          have h1 := BP.out x k.toNat (i + 1).toNat
          omega
        by_cases ck : k < b.length
        · have RD := Aside0.mk (rc_drop x b k k0 ck)
          obtain ⟨adb, eb, hy0, hy1, hy2⟩ := at_T41 HCB.out k k0 ck
          subst eb
          generalize hy : rd_T41 b k = y at *
          clear hy
          rw [RD.out] at m0
          have M0 := Aside0.mk m0
          clear m0 RD
          have hx0 := (HBs.out.cell (World.block_lt_of_cell? w4 _ HX0.out)).trans HX0.out
          replace hy0 := (HBs.out.cell (World.block_lt_of_cell? w4 _ hy0)).trans hy0
          clear hy1 hy2
          by_cases ce : x.f0 = y.f0
          · have M1 := Aside0.mk M0.out
            rw [if_pos ce] at M1
            go_wp2_with fail
            go_quiet (fail)
            go_wp2_with fail
            go_roundw
            case rel => exact ⟨k + 1, M + 1, rfl, rfl, ⟨by omega⟩, ⟨by have := M1.out; omega⟩, ⟨pw_below_drewN HBs.out _⟩⟩
            case measure => simp [intOf]; omega
          · have M1 := Aside0.mk M0.out
            rw [if_neg ce] at M1
            go_wp2_with fail
            go_quiet (fail)
            go_wp2_with fail
            go_roundw
            case rel => exact ⟨k + 1, M, rfl, rfl, ⟨by omega⟩, ⟨by have := M1.out; omega⟩, ⟨pw_below_drewN HBs.out _⟩⟩
            case measure => simp [intOf]; omega
        · rw [drop_end b k ck] at m0
          have M0 := Aside0.mk m0
          clear m0
          go_wp2_with fail
          go_roundw
          case rel => exact ⟨i + 1, M, rfl, rfl, ⟨by omega⟩, ⟨by have := M0.out; simp only [rc] at this; omega⟩, HBs⟩
          case measure => simp [intOf]; omega
    · rw [drop_end a i ci] at s0
      have hNP : N = P := by simp only [pc] at s0; omega
      subst hNP
      clear s0
      go_wp2_with fail
      go_loopw [56] (fun v56 ws => ∃ (i : Int), v56 = .int .i64 i ∧ Aside0 (0 ≤ i ∧ i ≤ W.length) ∧ Aside0 (Below w4.heap.size w4 ws)) (fun v56 _ => W.length - (intOf v56).toNat)
      case atStart => exact ⟨0, rfl, ⟨by omega⟩, HBr⟩
      case round =>
        clear HBr
        obtain ⟨k, rfl, HI, HBs⟩ := hrel
        obtain ⟨k0, k1⟩ := HI.out
        clear HI
        by_cases ck : k < W.length
        · obtain ⟨o1, ⟨o2, o3, o4, o5⟩, o6⟩ := HOK.out k k0 ck
          obtain ⟨adw, ew, hy0, hy1⟩ := at_T50 HCW.out k k0 ck
          have OLD := Aside0.mk (fun hk : 0 < k => HOK.out (k - 1) (by omega) (by omega))
          subst ew
          replace hy0 := (HBs.out.cell (World.block_lt_of_cell? w4 _ hy0)).trans hy0
          replace hy1 := (HBs.out.cell (World.block_lt_of_cell? w4 _ hy1)).trans hy1
          have hk6 : k ≤ 40 := by omega
          by_cases hz : 0 < k
          · obtain ⟨adv, ev, hz0, hz1⟩ := at_T50 HCW.out (k - 1) (by omega) (by omega)
            cases ev
            rw [show (k - 1).toNat = k.toNat - 1 by omega] at hz1
            replace hz1 := (HBs.out.cell (World.block_lt_of_cell? w4 _ hz1)).trans hz1
            obtain ⟨_, ⟨p2, p3, p4, p5⟩, _⟩ := OLD.out hz
            have o7 := o6 hz
            clear o6 OLD hz0
            generalize rd_T50 W k = x at *
            generalize rd_T50 W (k - 1) = y at *
            have q1 : IntKind.i64.wrap ((n : Int) - 2) = n - 2 := (IntWalk.i64_left _).trans (IntWalk.wrap64_in _ (by omega))
            have q2 : IntKind.i64.wrap (x.f1 - x.f0) = x.f1 - x.f0 := (IntWalk.i64_left _).trans (IntWalk.wrap64_in _ (by omega))
            have q3 : decide ((n : Int) - 2 < x.f1 - x.f0) = false := decide_eq_false (by omega)
            have q4 : IntKind.i64.wrap (k - 1) = k - 1 := (IntWalk.i64_left _).trans (IntWalk.wrap64_in _ (by omega))
            have q5 : 1 ≤ k := by omega
            have q6 : 0 ≤ k - 1 := by omega
            have q7 : k - 1 < W.length := by omega
            have q8 : decide (x.f1 ≤ y.f1) = false := decide_eq_false (by omega)
            go_wp2_with fail
            go_quiet (fail)
            go_wp2_with fail
            go_roundw
            case rel => exact ⟨k + 1, rfl, ⟨by omega⟩, ⟨pw_below_drewN HBs.out _⟩⟩
            case measure => simp [intOf]; omega
          · have hk0 : k = 0 := by omega
            clear o6 OLD
            generalize rd_T50 W k = x at *
            subst hk0
            replace hy0 : World.cell? _ adw = some (.int .i64 x.f0) := hy0
            replace hy1 : World.cell? _ ⟨adw.block, adw.off + 1, none⟩ = some (.int .i64 x.f1) := hy1
            have q1 : IntKind.i64.wrap ((n : Int) - 2) = n - 2 := (IntWalk.i64_left _).trans (IntWalk.wrap64_in _ (by omega))
            have q2 : IntKind.i64.wrap (x.f1 - x.f0) = x.f1 - x.f0 := (IntWalk.i64_left _).trans (IntWalk.wrap64_in _ (by omega))
            have q3 : decide ((n : Int) - 2 < x.f1 - x.f0) = false := decide_eq_false (by omega)
            go_wp2_with fail
            go_quiet (fail)
            go_wp2_with fail
            go_roundw
            case rel => exact ⟨1, rfl, ⟨by omega⟩, ⟨pw_below_drewN HBs.out _⟩⟩
            case measure => simp [intOf]; omega
        · clear HVA HVB HCA HCB HVW HCW BP BP0 HOK HW HP
          go_wp2_with fail
          refine (awake_c _).mono ?_
          rintro _ w6 ⟨rfl, hb⟩
          replace HBs := Aside0.mk (below_step HBs.out hb)
          clear hb
          rcases HE.out with rfl | rfl
          · go_wp2_with fail
            go_ret
            exact ⟨rfl, below_step HB.out HBs.out⟩
          · go_wp2_with fail
            go_ret
            exact ⟨rfl, below_step HB.out HBs.out⟩
theorem HeadwayWindowsAreFew_walk (w : World) (t : Int) (wt : (Lit.int .i64 t).wf = true) (A1 : Option Addr) (c1 : Nat) (l1 : List Int) (hr1 : Kd.C (Kd.int .i64) w A1 l1.length l1) (hc1 : l1.length ≤ c1) (y1 : l1.length * 8 ≤ 140737488351232) (hw1 : ∀ x ∈ l1, (Lit.int .i64 x).wf = true)
    (A2 : Option Addr) (c2 : Nat) (l2 : List Int) (hr2 : Kd.C (Kd.int .i64) w A2 l2.length l2) (hc2 : l2.length ≤ c2) (y2 : l2.length * 8 ≤ 140737488351232) (hw2 : ∀ x ∈ l2, (Lit.int .i64 x).wf = true) :
    Calls Try.prog 11 #[.int .i64 t, .slice A1 l1.length c1, .slice A2 l2.length c2] w fun e w' => e = .returned (.bool true) ∧ Below w.heap.size w w' := by
  obtain ⟨a, ⟨K1, ea⟩, va, ta, na⟩ := Occ_ev l1 (by unfold Fit; omega)
  obtain ⟨b, ⟨K2, eb⟩, vb, tb, nb⟩ := Occ_ev l2 (by unfold Fit; omega)
  obtain ⟨q, hq, q0, q1⟩ := Pick_some t 90 (by omega) (by omega)
  obtain ⟨n, hn⟩ := Int.eq_ofNat_of_zero_le (show 0 ≤ 1 + q by omega)
  obtain ⟨f1, f2, f3⟩ := win_few (n := n) (by omega) (by omega) va vb
  have hp := pc_bd b nb a
  exact walk w (K1 + K2) A1 A2 c1 c2 l1 l2 t q n a b (win n a b).1 (win n a b).2 (pc a b) hr1 hc1 hr2 hc2 (ea _ (by omega)) (eb _ (by omega)) hq q0 q1 hn.symm (fit_le (by omega)) (fit_le (by omega)) rfl f1 rfl f2 (by omega) f3 na nb
end Go.Proofs.Ytcdldldknfpkjaa.Pure
