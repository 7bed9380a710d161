/- A residue is not forbidden exactly if it has a representative in every window, and ErrClash is returned exactly if all residues are forbidden, for every argument. -/
import Derived.Test.YtcdldldknfpkjaaLHwM2
import Derived.Deep.LoopGhost
namespace Go.Proofs.Ytcdldldknfpkjaa.Pure
open Go.RowKit Go.Proofs.Ytcdldldknfpkjaa.PHw Go.Proofs.YtcdldldknfpkjaaW.PrintWords Go.Proofs.YtcdldldknfpkjaaW.PrintLast Go.Proofs.YtcdldldknfpkjaaW.PrintMore
set_option linter.unusedVariables false
set_option maxRecDepth 100000
/-- A window as it comes out of a run of fewer than all residues. -/
def Wfit (n : Int) (x : S50) : Prop := 0 ≤ x.f0 ∧ x.f0 ≤ x.f1 ∧ x.f1 - x.f0 < n ∧ x.f1 ≤ 20000
/-- Whether a residue has a representative in a window. -/
def rep (n d : Int) (x : S50) : Bool := decide (x.f0 + (d - x.f0) % n ≤ x.f1)
def Ufit (n : Int) (u : S47) : Prop := 0 ≤ u.f0 ∧ u.f0 < u.f1 ∧ u.f0 < n ∧ u.f1 ≤ 2 * n ∧ u.f1 - u.f0 < n
theorem rep_iff {n d : Int} (d0 : 0 ≤ d) (d1 : d < n) {u : S47} (h : Ufit n u) : rep n d (wf n u) = !(inS u d || inS u (d + n)) := by
  obtain ⟨h1, h2, h3, h4, h5⟩ := h
  unfold rep wf inS
  simp only
  rcases Int.lt_or_le d u.f1 with c | c
  · rcases Int.lt_or_le (d + n) u.f1 with c2 | c2
    · have e : (d - u.f1) % n = d - u.f1 + 2 * n := by
        rw [← Int.add_mul_emod_self_right (d - u.f1) 2 n]; exact em_lo (by omega) (by omega)
      rw [e, Bool.eq_iff_iff]
      simp only [decide_eq_true_iff, Bool.not_eq_true', Bool.or_eq_false_iff, Bool.and_eq_false_iff, decide_eq_false_iff_not]
      omega
    · rw [em_neg (by omega) (by omega), Bool.eq_iff_iff]
      simp only [decide_eq_true_iff, Bool.not_eq_true', Bool.or_eq_false_iff, Bool.and_eq_false_iff, decide_eq_false_iff_not]
      omega
  · rw [em_lo (by omega) (by omega), Bool.eq_iff_iff]
    simp only [decide_eq_true_iff, Bool.not_eq_true', Bool.or_eq_false_iff, Bool.and_eq_false_iff, decide_eq_false_iff_not]
    omega
theorem turned_ok {n : Nat} (hn : 1 ≤ n) {s : List S47} (h : vldF n (-1) s = true) (hc : cnt (mem s) n ≠ n) (d : Int) (d0 : 0 ≤ d) (d1 : d < n) :
    (∀ u ∈ turned n s, Ufit n u) ∧ ((turned n s).any fun u => inS u d || inS u (d + n)) = mem s d := by
  unfold turned
  split
  · next hw =>
    obtain ⟨h1, h2, h3⟩ := hw
    cases s with
    | nil => simp at h1
    | cons x s =>
      rcases List.eq_nil_or_concat s with e | ⟨l, u, e⟩
      · subst e; simp at h1
      · have e' : s = l ++ [u] := by rw [e, List.concat_eq_append]
        subst e'
        have hx : rd_T47 (x :: (l ++ [u])) 0 = x := by simp [rd_T47]
        have hu : rd_T47 (x :: (l ++ [u])) (((x :: (l ++ [u])).length : Int) - 1) = u := by
          have : (((x :: (l ++ [u])).length : Int) - 1) = ((x :: l).length : Int) := by simp
          rw [this]; exact rd_pre (x :: l) u []
        rw [hx] at h2
        rw [hu] at h3
        have hset : ((x :: (l ++ [u])).set (((x :: (l ++ [u])).length : Int) - 1).toNat (⟨u.f0, u.f1 + x.f1⟩ : S47)).drop 1 = l ++ [⟨u.f0, u.f1 + x.f1⟩] := by
          have : (((x :: (l ++ [u])).length : Int) - 1).toNat = l.length + 1 := by simp
          rw [this, List.set_cons_succ]; simp
        rw [hx, hu, hset]
        have hv := (vldF_cons _ _ _ _).1 h
        have hr := vldF_mem _ hv.2.2.2.2
        have hum := hr u (by simp)
        refine ⟨fun z hz => ?_, ?_⟩
        · rcases List.mem_append.1 hz with hz | hz
          · have := hr z (by simp [hz]); unfold Ufit; omega
          · rw [List.mem_singleton.1 hz]; unfold Ufit; simp only; omega
        · have el : (l.any fun u => inS u d || inS u (d + n)) = mem l d := by
            unfold mem
            rw [Bool.eq_iff_iff, List.any_eq_true, List.any_eq_true]
            constructor
            · rintro ⟨z, hz, hh⟩
              refine ⟨z, hz, ?_⟩
              have := hr z (by simp [hz])
              rw [Bool.or_eq_true, inS_iff, inS_iff] at hh
              rw [inS_iff]; omega
            · rintro ⟨z, hz, hh⟩
              exact ⟨z, hz, by rw [hh]; rfl⟩
          rw [List.any_append, el, mem_cons, mem_append]
          have e3 : mem [u] d = inS u d := by simp [mem]
          have e4 : ([(⟨u.f0, u.f1 + x.f1⟩ : S47)].any fun u => inS u d || inS u (d + n)) = (inS u d || inS x d) := by
            simp only [List.any_cons, List.any_nil, Bool.or_false]
            rw [Bool.eq_iff_iff]
            simp only [Bool.or_eq_true, inS_iff]
            omega
          rw [e3, e4]
          cases mem l d <;> cases inS u d <;> cases inS x d <;> rfl
  · have hr := vldF_mem _ h
    refine ⟨fun z hz => ?_, ?_⟩
    · have := hr z hz
      unfold Ufit
      refine ⟨by omega, by omega, by omega, by omega, ?_⟩
      rcases Int.lt_or_le (z.f1 - z.f0) n with g | g
      · exact g
      · exfalso
        apply hc
        have hcn := cnt_not (mem s) n
        rw [cnt_none (p := fun x => !(mem s x)) n fun x x0 x1 => by
          have : mem s x = true := (mem_iff _ _).2 ⟨z, hz, by omega, by omega⟩
          rw [this]; rfl] at hcn
        omega
    · unfold mem
      rw [Bool.eq_iff_iff, List.any_eq_true, List.any_eq_true]
      constructor
      · rintro ⟨z, hz, hh⟩
        refine ⟨z, hz, ?_⟩
        have := hr z hz
        rw [Bool.or_eq_true, inS_iff, inS_iff] at hh
        rw [inS_iff]; omega
      · rintro ⟨z, hz, hh⟩
        exact ⟨z, hz, by rw [hh]; rfl⟩
theorem all_map_not (n : Int) (d : Int) (d0 : 0 ≤ d) (d1 : d < n) : ∀ l : List S47, (∀ u ∈ l, Ufit n u) → (l.map (wf n)).all (rep n d) = !(l.any fun u => inS u d || inS u (d + n))
  | [], _ => rfl
  | u :: l, h => by
    rw [List.map_cons, List.all_cons, List.any_cons, rep_iff d0 d1 (h u (by simp)), all_map_not n d d0 d1 l fun z hz => h z (by simp [hz])]
    exact (Bool.not_or _ _).symm
theorem win_ok {n : Nat} (h1 : 1 ≤ n) (h2 : n ≤ 7200) {a b : List S41} (ha : ovld a = true) (hb : ovld b = true) (hc : cnt (fbp n a b) n ≠ n) (d : Int) (d0 : 0 ≤ d) (d1 : d < n) :
    (win n a b).2 = 0 ∧ (win n a b).1.length ≤ 7200 ∧ (∀ x ∈ (win n a b).1, Wfit n x) ∧ (win n a b).1.all (rep n d) = !(fbp n a b d) := by
  have e : ((n : Int)).toNat = n := by omega
  have hv := can_vldF n (fbp n a b)
  have hcm : cnt (mem (can n (fbp n a b))) n ≠ n := by
    rw [cnt_congr (q := fbp n a b) fun x x0 x1 => can_in _ x0 x1]; exact hc
  obtain ⟨g1, g2⟩ := turned_ok h1 hv hcm d d0 d1
  have hl : (turned n (can n (fbp n a b))).length ≤ 7200 := by
    have := vld_fit (can_vld (fbp n a b) h1 h2)
    unfold turned
    split
    · rw [List.length_drop, List.length_set]; omega
    · exact this
  unfold win
  rw [if_pos ((per_iff _).2 (by omega)), if_pos ⟨ha, hb⟩, e, if_neg hc]
  refine ⟨rfl, by simp only [List.length_map]; exact hl, fun x hx => ?_, ?_⟩
  · obtain ⟨u, hu, rfl⟩ := List.mem_map.1 hx
    have := g1 u hu
    unfold Ufit at this
    unfold Wfit wf
    simp only
    omega
  · rw [all_map_not n d d0 d1 _ g1, g2, can_in _ d0 d1]
theorem win_clash {n : Nat} (h1 : 1 ≤ n) (h2 : n ≤ 7200) {a b : List S41} (ha : ovld a = true) (hb : ovld b = true) (hc : cnt (fbp n a b) n = n) : win n a b = ([], 13) := by
  have e : ((n : Int)).toNat = n := by omega
  unfold win
  rw [if_pos ((per_iff _).2 (by omega)), if_pos ⟨ha, hb⟩, e, if_pos hc]
theorem frb_ok {n : Nat} (h1 : 1 ≤ n) (h2 : n ≤ 7200) {a b : List S41} (ha : ovld a = true) (hb : ovld b = true) : frb n a b = (can n (fbp n a b), 0) := by
  have e : ((n : Int)).toNat = n := by omega
  unfold frb
  rw [if_pos ((per_iff _).2 (by omega)), if_pos ⟨ha, hb⟩, e]
theorem all_drop (f : S50 → Bool) (W : List S50) (k : Int) (h0 : 0 ≤ k) (h1 : k < W.length) : (W.drop k.toNat).all f = (f (rd_T50 W k) && (W.drop (k + 1).toNat).all f) := by
  have hl : k.toNat < W.length := by omega
  rw [List.drop_eq_getElem_cons hl, show (k + 1).toNat = k.toNat + 1 by omega, List.all_cons]
  congr 2
  unfold rd_T50
  rw [List.getD_eq_getElem?_getD, List.getElem?_eq_getElem hl]; rfl
theorem rd50_mem (W : List S50) (k : Int) (h0 : 0 ≤ k) (h1 : k < W.length) : rd_T50 W k ∈ W := by
  have hl : k.toNat < W.length := by omega
  unfold rd_T50
  rw [List.getD_eq_getElem?_getD, List.getElem?_eq_getElem hl]
  exact List.getElem_mem hl
theorem walk_clash (w : World) (k : Nat) (A1 A2 : Option Addr) (c1 c2 : Nat) (l1 l2 : List Int) (t0 d0 q d : Int) (n : Nat) (a b : List S41) (F : List S47) (W : List S50) (T : Bool) (CN : Int)
  (hr1 : Kd.C (Kd.int .i64) w A1 l1.length l1) (hc1 : l1.length ≤ c1) (hr2 : Kd.C (Kd.int .i64) w A2 l2.length l2) (hc2 : l2.length ≤ c2)
  (ha : railplankeep_Occupations.f k l1 = some a) (hb : railplankeep_Occupations.f k l2 = some b) (hq : railplankeep_Pick.f t0 90 = some q) (q0 : 0 ≤ q) (q1 : q < 90) (hn : (n : Int) = 1 + q) (hd : railplankeep_Pick.f d0 n = some d) (dl : 0 ≤ d) (dh : d < n)
  (fa : Fit a) (fb : Fit b) (hf : frb n a b = (F, 0)) (fF : Fit F) (hcn : (if vld n F = true then cnt (mem F) n else 0) = CN) (hw : win n a b = ([], 13)) (hcc : CN = n) :
    Calls Try.prog 10 #[.int .i64 t0, .slice A1 l1.length c1, .slice A2 l2.length c2, .int .i64 d0] w fun e w' => e = .returned (.bool true) ∧ Below w.heap.size w w' := by
  have HB := Aside0.mk (Below.refl w.heap.size w)
  have HA := Aside0.mk ha
  have HBb := Aside0.mk hb
  have HQ := Aside0.mk hq
  have HD := Aside0.mk hd
  have FA := Aside0.mk fa
  have FB := Aside0.mk fb
  have FF := Aside0.mk fF
  have HN := Aside0.mk hn
  have HF := Aside0.mk hf
  have HW := Aside0.mk hw
  have HCN := Aside0.mk hcn
  have n1 : 1 ≤ n := by omega
  have n2 : n ≤ 90 := by omega
  clear ha hb hq hd fa fb fF hn hf hw hcn
  go_enter Try.func10, Try.ntmps10
  go_wp2_with fail
  refine (Pick_c HQ.out).mono ?_
  rintro _ w1 ⟨rfl, hb⟩
  replace hr1 := Kd.C_below hr1 hb
  replace hr2 := Kd.C_below hr2 hb
  replace HB := Aside0.mk (below_step HB.out hb)
  clear hb
  go_wp2_with fail
  refine (Occ_c HA.out hr1 hc1).mono ?_
  rintro _ w2 ⟨Aa, ca, rfl, Va, hb⟩
  replace hr2 := Kd.C_below hr2 hb
  replace HB := Aside0.mk (below_step HB.out hb)
  clear hb
  go_wp2_with fail
  refine (Occ_c HBb.out hr2 hc2).mono ?_
  rintro _ w3 ⟨Ab, cb, rfl, Vb, hb⟩
  replace Va := VA_below Va hb
  replace HB := Aside0.mk (below_step HB.out hb)
  clear hb
  go_wp2_with fail
  rw [← HN.out]
  refine (rForbidden_c w3 _ _ _ _ a b n Va FA.out Vb FB.out).mono ?_
  rw [HF.out]
  rintro _ w4 ⟨⟨Af, cf, rfl, Vf⟩, hb⟩
  replace Va := VA_below Va hb
  replace Vb := VA_below Vb hb
  replace HB := Aside0.mk (below_step HB.out hb)
  clear hb
  go_wp2_with fail
  refine (Windows_c w4 _ _ _ _ a b n Va FA.out Vb FB.out).mono ?_
  rw [HW.out]
  rintro _ w5 ⟨⟨Aw, cw, rfl, Vw⟩, hb⟩
  replace Vf := VS_below Vf hb
  replace HB := Aside0.mk (below_step HB.out hb)
  clear hb hr1 hr2 Va Vb
  go_wp2_with fail
  refine (rCount_c n1 (by omega) FF.out Vf).mono ?_
  rw [HCN.out]
  rintro _ w6 ⟨rfl, hb⟩
  have HVF := Aside0.mk (VS_below Vf hb)
  have HVW := Aside0.mk (VW_below Vw hb)
  replace HB := Aside0.mk (below_step HB.out hb)
  clear hb Vf Vw
  subst hcc
  go_wp2_with fail
  refine (awake_c _).mono ?_
  rintro _ w7 ⟨rfl, hb⟩
  replace HB := Aside0.mk (below_step HB.out hb)
  clear hb
  go_wp2_with fail
  go_ret
  exact ⟨rfl, HB.out⟩
set_option maxHeartbeats 1000000 in
theorem walk_ok (w : World) (k : Nat) (A1 A2 : Option Addr) (c1 c2 : Nat) (l1 l2 : List Int) (t0 d0 q d : Int) (n : Nat) (a b : List S41) (F : List S47) (W : List S50) (T : Bool) (CN : Int)
  (hr1 : Kd.C (Kd.int .i64) w A1 l1.length l1) (hc1 : l1.length ≤ c1) (hr2 : Kd.C (Kd.int .i64) w A2 l2.length l2) (hc2 : l2.length ≤ c2)
  (ha : railplankeep_Occupations.f k l1 = some a) (hb : railplankeep_Occupations.f k l2 = some b) (hq : railplankeep_Pick.f t0 90 = some q) (q0 : 0 ≤ q) (q1 : q < 90) (hn : (n : Int) = 1 + q) (hd : railplankeep_Pick.f d0 n = some d) (dl : 0 ≤ d) (dh : d < n)
  (fa : Fit a) (fb : Fit b) (hf : frb n a b = (F, 0)) (fF : Fit F) (hcn : (if vld n F = true then cnt (mem F) n else 0) = CN) (hw : win n a b = (W, 0)) (hcc : CN ≠ n) (lW : W.length ≤ 7200) (hok : ∀ x ∈ W, Wfit n x) (hT : W.all (rep n d) = T) (hX : (vld n F && mem F (d % n)) = !T) :
    Calls Try.prog 10 #[.int .i64 t0, .slice A1 l1.length c1, .slice A2 l2.length c2, .int .i64 d0] w fun e w' => e = .returned (.bool true) ∧ Below w.heap.size w w' := by
  have HB := Aside0.mk (Below.refl w.heap.size w)
  have HA := Aside0.mk ha
  have HBb := Aside0.mk hb
  have HQ := Aside0.mk hq
  have HD := Aside0.mk hd
  have FA := Aside0.mk fa
  have FB := Aside0.mk fb
  have FF := Aside0.mk fF
  have HN := Aside0.mk hn
  have HF := Aside0.mk hf
  have HW := Aside0.mk hw
  have HCN := Aside0.mk hcn
  have n1 : 1 ≤ n := by omega
  have n2 : n ≤ 90 := by omega
  have HOK := Aside0.mk hok
  have HT := Aside0.mk hT
  have HX := Aside0.mk hX
  have hcb : (CN == (n : Int)) = false := beq_eq_false_iff_ne.2 hcc
  clear hok hT hX
  clear ha hb hq hd fa fb fF hn hf hw hcn
  go_enter Try.func10, Try.ntmps10
  go_wp2_with fail
  refine (Pick_c HQ.out).mono ?_
  rintro _ w1 ⟨rfl, hb⟩
  replace hr1 := Kd.C_below hr1 hb
  replace hr2 := Kd.C_below hr2 hb
  replace HB := Aside0.mk (below_step HB.out hb)
  clear hb
  go_wp2_with fail
  refine (Occ_c HA.out hr1 hc1).mono ?_
  rintro _ w2 ⟨Aa, ca, rfl, Va, hb⟩
  replace hr2 := Kd.C_below hr2 hb
  replace HB := Aside0.mk (below_step HB.out hb)
  clear hb
  go_wp2_with fail
  refine (Occ_c HBb.out hr2 hc2).mono ?_
  rintro _ w3 ⟨Ab, cb, rfl, Vb, hb⟩
  replace Va := VA_below Va hb
  replace HB := Aside0.mk (below_step HB.out hb)
  clear hb
  go_wp2_with fail
  rw [← HN.out]
  refine (rForbidden_c w3 _ _ _ _ a b n Va FA.out Vb FB.out).mono ?_
  rw [HF.out]
  rintro _ w4 ⟨⟨Af, cf, rfl, Vf⟩, hb⟩
  replace Va := VA_below Va hb
  replace Vb := VA_below Vb hb
  replace HB := Aside0.mk (below_step HB.out hb)
  clear hb
  go_wp2_with fail
  refine (Windows_c w4 _ _ _ _ a b n Va FA.out Vb FB.out).mono ?_
  rw [HW.out]
  rintro _ w5 ⟨⟨Aw, cw, rfl, Vw⟩, hb⟩
  replace Vf := VS_below Vf hb
  replace HB := Aside0.mk (below_step HB.out hb)
  clear hb hr1 hr2 Va Vb
  go_wp2_with fail
  refine (rCount_c n1 (by omega) FF.out Vf).mono ?_
  rw [HCN.out]
  rintro _ w6 ⟨rfl, hb⟩
  have HVF := Aside0.mk (VS_below Vf hb)
  have HVW := Aside0.mk (VW_below Vw hb)
  replace HB := Aside0.mk (below_step HB.out hb)
  clear hb Vf Vw
  go_wp2_with fail
  refine (Pick_c HD.out).mono ?_
  rintro _ w7 ⟨rfl, hb⟩
  replace HVF := Aside0.mk (VS_below HVF.out hb)
  replace HVW := Aside0.mk (VW_below HVW.out hb)
  replace HB := Aside0.mk (below_step HB.out hb)
  clear hb
  have HCW := Aside0.mk (VW_C HVW.out)
  go_wp2_with fail
  go_loopw [15, 58] (fun v15 v58 ws => ∃ (k : Int) (X : Bool), v15 = .bool X ∧ v58 = .int .i64 k ∧ Aside0 (0 ≤ k ∧ k ≤ W.length) ∧ Aside0 ((X && (W.drop k.toNat).all (rep n d)) = T) ∧ Aside0 (Below w7.heap.size w7 ws)) (fun _ v58 _ => W.length - (intOf v58).toNat)
  case atStart => exact ⟨0, true, rfl, rfl, ⟨by omega⟩, ⟨HT.out⟩, ⟨Below.refl _ _⟩⟩
  case round =>
    obtain ⟨k, X, rfl, rfl, HI, HS, HBs⟩ := hrel
    obtain ⟨k0, k1⟩ := HI.out
    clear HI
    by_cases ck : k < W.length
    · obtain ⟨o1, o2, o3, o4⟩ := HOK.out _ (rd50_mem W k k0 ck)
      have AD := Aside0.mk (all_drop (rep n d) W k k0 ck)
      obtain ⟨adw, ew, hy0, hy1⟩ := at_T50 HCW.out k k0 ck
      subst ew
      replace hy0 := (HBs.out.cell (World.block_lt_of_cell? w7 _ hy0)).trans hy0
      replace hy1 := (HBs.out.cell (World.block_lt_of_cell? w7 _ hy1)).trans hy1
      have hs := HS.out
      rw [AD.out] at hs
      clear HS AD
      generalize rd_T50 W k = x at *
      have hb9 := em_bound (d - x.f0) (show (0 : Int) < n by omega)
      have HM : Aside0 (railplanref1_Mod.f (d - x.f0) n = some ((d - x.f0) % n)) := ⟨rMod_eq (by omega) (by omega)⟩
      have hrep : rep n d x = decide (x.f0 + (d - x.f0) % n ≤ x.f1) := rfl
      rw [hrep] at hs
      clear hrep
      generalize (d - x.f0) % n = m at *
      obtain ⟨m0, m1⟩ := hb9
      have HS := Aside0.mk hs
      clear hs
      have q1 : decide (x.f1 < x.f0) = false := decide_eq_false (by omega)
      have q2 : IntKind.i64.wrap (x.f1 - x.f0) = x.f1 - x.f0 := (IntWalk.i64_left _).trans (IntWalk.wrap64_in _ (by omega))
      have q3 : decide ((n : Int) ≤ x.f1 - x.f0) = false := decide_eq_false (by omega)
      have q4 : IntKind.i64.wrap (d - x.f0) = d - x.f0 := (IntWalk.i64_left _).trans (IntWalk.wrap64_in _ (by omega))
      have q5 : IntKind.i64.wrap (x.f0 + m) = x.f0 + m := (IntWalk.i64_left _).trans (IntWalk.wrap64_in _ (by omega))
      cases X with
      | false =>
        go_wp2_with fail
        go_quiet (fail)
        go_wp2_with fail
        go_quiet (fail)
        go_wp2_with fail
        go_roundw
        case rel => exact ⟨k + 1, false, rfl, rfl, ⟨by omega⟩, ⟨by have := HS.out; simpa using this⟩, ⟨pw_below_drewN HBs.out _⟩⟩
        case measure => simp [intOf]; omega
      | true =>
        go_wp2_with fail
        go_quiet (fail)
        go_wp2_with fail
        go_quiet (first | (go_at_call 26; (with_reducible refine (railplanref1_Mod.calls (d - x.f0) n m _ HM.out).mono ?_); rintro e w' ⟨rfl, ⟨nd, rfl⟩⟩; first | exact ⟨rfl, _, World.drewN_drewN _ _ _⟩ | exact ⟨rfl, _, Eq.trans (World.drewN_drewN _ _ _) (congrArg (World.drewN _) (Nat.add_assoc _ _ _))⟩))
        go_wp2_with fail
        trace_state
        go_roundw
        case rel => exact ⟨k + 1, decide (x.f0 + m ≤ x.f1), rfl, rfl, ⟨by omega⟩, ⟨by have := HS.out; rw [Bool.true_and] at this; exact this⟩, ⟨pw_below_drewN HBs.out _⟩⟩
        case measure => simp [intOf]; omega
    · have e : W.drop k.toNat = [] := List.drop_eq_nil_of_le (by omega)
      have hs := HS.out
      rw [e, List.all_nil, Bool.and_true] at hs
      subst hs
      clear HS HOK HT e
      go_wp2_with fail
      refine (awake_c _).mono ?_
      rintro _ w8 ⟨rfl, hb⟩
      replace HBs := Aside0.mk (below_step HBs.out hb)
      clear hb
      have HVF2 := Aside0.mk (VS_below HVF.out HBs.out)
      go_wp2_with fail
      refine (rHas_c n1 (by omega) d FF.out HVF2.out).mono ?_
      rw [HX.out]
      rintro _ w9 ⟨rfl, hb⟩
      replace HBs := Aside0.mk (below_step HBs.out hb)
      clear hb
      cases X with
      | false =>
        go_wp2_with fail
        go_ret
        exact ⟨rfl, below_step HB.out HBs.out⟩
      | true =>
        go_wp2_with fail
        go_ret
        exact ⟨rfl, below_step HB.out HBs.out⟩
theorem HeadwayWindows_walk (w : World) (t : Int) (wt : (Lit.int .i64 t).wf = true) (A1 : Option Addr) (c1 : Nat) (l1 : List Int) (hr1 : Kd.C (Kd.int .i64) w A1 l1.length l1) (hc1 : l1.length ≤ c1) (y1 : l1.length * 8 ≤ 140737488351232) (hw1 : ∀ x ∈ l1, (Lit.int .i64 x).wf = true)
    (A2 : Option Addr) (c2 : Nat) (l2 : List Int) (hr2 : Kd.C (Kd.int .i64) w A2 l2.length l2) (hc2 : l2.length ≤ c2) (y2 : l2.length * 8 ≤ 140737488351232) (hw2 : ∀ x ∈ l2, (Lit.int .i64 x).wf = true) (d0 : Int) (wd : (Lit.int .i64 d0).wf = true) :
    Calls Try.prog 10 #[.int .i64 t, .slice A1 l1.length c1, .slice A2 l2.length c2, .int .i64 d0] w fun e w' => e = .returned (.bool true) ∧ Below w.heap.size w w' := by
  obtain ⟨a, ⟨K1, ea⟩, va, ta, na⟩ := Occ_ev l1 (by unfold Fit; omega)
  obtain ⟨b, ⟨K2, eb⟩, vb, tb, nb⟩ := Occ_ev l2 (by unfold Fit; omega)
  obtain ⟨q, hq, q0, q1⟩ := Pick_some t 90 (by omega) (by omega)
  obtain ⟨n, hn⟩ := Int.eq_ofNat_of_zero_le (show 0 ≤ 1 + q by omega)
  obtain ⟨d, hd, dl, dh⟩ := Pick_some d0 n (by omega) (by omega)
  have hv := can_vld (n := n) (fbp n a b) (by omega) (by omega)
  have hf := frb_ok (n := n) (by omega) (by omega) va vb
  have hcnt : (if vld n (can n (fbp n a b)) = true then cnt (mem (can n (fbp n a b))) n else 0) = cnt (fbp n a b) n := by
    rw [if_pos hv, cnt_congr (q := fbp n a b) fun x x0 x1 => can_in _ x0 x1]
  by_cases hc : cnt (fbp n a b) n = n
  · exact walk_clash w (K1 + K2) A1 A2 c1 c2 l1 l2 t d0 q d n a b (can n (fbp n a b)) [] true _ hr1 hc1 hr2 hc2 (ea _ (by omega)) (eb _ (by omega)) hq q0 q1 hn.symm hd dl dh (fit_le (by omega)) (fit_le (by omega)) hf (fit_le (vld_fit hv)) hcnt (win_clash (by omega) (by omega) va vb hc) hc
  · obtain ⟨g1, g2, g3, g4⟩ := win_ok (n := n) (by omega) (by omega) va vb hc d dl dh
    exact walk_ok w (K1 + K2) A1 A2 c1 c2 l1 l2 t d0 q d n a b (can n (fbp n a b)) (win n a b).1 (!(fbp n a b d)) _ hr1 hc1 hr2 hc2 (ea _ (by omega)) (eb _ (by omega)) hq q0 q1 hn.symm hd dl dh (fit_le (by omega)) (fit_le (by omega)) hf (fit_le (vld_fit hv)) hcnt (by rw [← g1]) hc g2 g3 g4 (by rw [hv, Bool.true_and, em_lo dl dh, can_in _ dl dh, Bool.not_not])
end Go.Proofs.Ytcdldldknfpkjaa.Pure
