/- Exchanging the movements negates the forbidden residues, for every argument. -/
import Derived.Test.YtcdldldknfpkjaaLHwM2
namespace Go.Proofs.Ytcdldldknfpkjaa.Pure
open Go.RowKit Go.Proofs.Ytcdldldknfpkjaa.PHw Go.Proofs.YtcdldldknfpkjaaW.PrintWords Go.Proofs.YtcdldldknfpkjaaW.PrintLast Go.Proofs.YtcdldldknfpkjaaW.PrintMore
set_option linter.unusedVariables false
set_option maxRecDepth 100000
theorem cnt_front (p : Int → Bool) : ∀ m : Nat, cnt p (m + 1) = b2i (p 0) + cnt (fun x => p (x + 1)) m
  | 0 => by simp [cnt]
  | m + 1 => by
    have := cnt_front p m
    rw [cnt, this]
    show _ = b2i (p 0) + (cnt (fun x => p (x + 1)) m + b2i (p ((m : Int) + 1)))
    have e : (((m + 1 : Nat)) : Int) = (m : Int) + 1 := by omega
    rw [e]; omega
theorem cnt_rev (p : Int → Bool) : ∀ m : Nat, cnt (fun x => p (m - 1 - x)) m = cnt p m
  | 0 => rfl
  | m + 1 => by
    have ih := cnt_rev p m
    rw [cnt_front (fun x => p (((m + 1 : Nat) : Int) - 1 - x)) m]
    have e : cnt (fun x => p (((m + 1 : Nat) : Int) - 1 - (x + 1))) m = cnt p m := by
      rw [← ih]; exact cnt_congr fun x _ _ => by congr 1; omega
    rw [e]
    show b2i (p (((m + 1 : Nat) : Int) - 1 - 0)) + cnt p m = cnt p m + b2i (p m)
    rw [show ((m + 1 : Nat) : Int) - 1 - 0 = m by omega]; omega
theorem cnt_neg {n : Nat} (hn : 1 ≤ n) (p : Int → Bool) : cnt (fun x => p ((-x) % n)) n = cnt p n := by
  obtain ⟨m, rfl⟩ : ∃ m, n = m + 1 := ⟨n - 1, by omega⟩
  rw [cnt_front, cnt_front p m]
  have e0 : (-0 : Int) % ((m + 1 : Nat) : Int) = 0 := by simp
  rw [e0]
  congr 1
  rw [← cnt_rev (fun x => p (x + 1)) m]
  refine cnt_congr fun x x0 x1 => ?_
  show p ((-(x + 1)) % ((m + 1 : Nat) : Int)) = p ((m : Int) - 1 - x + 1)
  rw [em_neg (by omega) (by omega)]; congr 1; omega
set_option maxHeartbeats 2000000 in
theorem walk (w : World) (k : Nat) (A1 A2 : Option Addr) (c1 c2 : Nat) (l1 l2 : List Int) (t0 d0 q d c : Int) (n : Nat) (h : Bool) (a b : List S41)
  (hr1 : Kd.C (Kd.int .i64) w A1 l1.length l1) (hc1 : l1.length ≤ c1) (hr2 : Kd.C (Kd.int .i64) w A2 l2.length l2) (hc2 : l2.length ≤ c2)
  (ha : railplankeep_Occupations.f k l1 = some a) (hb : railplankeep_Occupations.f k l2 = some b) (hq : railplankeep_Pick.f t0 90 = some q) (q0 : 0 ≤ q) (q1 : q < 90) (hn : (n : Int) = 1 + q) (hd : railplankeep_Pick.f d0 n = some d) (dl : 0 ≤ d) (dh : d < n)
  (fa : Fit a) (fb : Fit b) (va : ovld a = true) (vb : ovld b = true) (F G : List S47) (hF : can n (fbp n a b) = F) (hG : can n (fbp n b a) = G) (fF : Fit F) (fG : Fit G)
  (h1 : (vld n F && mem F (d % n)) = h) (h2 : (vld n G && mem G ((-d) % n)) = h) (h3 : (if vld n F = true then cnt (mem F) n else 0) = c) (h4 : (if vld n G = true then cnt (mem G) n else 0) = c) :
    Calls Try.prog 6 #[.int .i64 t0, .slice A1 l1.length c1, .slice A2 l2.length c2, .int .i64 d0] w fun e w' => e = .returned (.bool true) ∧ Below w.heap.size w w' := by
  have HB := Aside0.mk (Below.refl w.heap.size w)
  have HA := Aside0.mk ha
  have HBb := Aside0.mk hb
  have HQ := Aside0.mk hq
  have HD := Aside0.mk hd
  have FA := Aside0.mk fa
  have FB := Aside0.mk fb
  have VVA := Aside0.mk va
  have VVB := Aside0.mk vb
  have HF := Aside0.mk hF
  have HG := Aside0.mk hG
  have FF := Aside0.mk fF
  have FG := Aside0.mk fG
  have HN := Aside0.mk hn
  have H1 := Aside0.mk h1
  have H2 := Aside0.mk h2
  have H3 := Aside0.mk h3
  have H4 := Aside0.mk h4
  have n1 : 1 ≤ n := by omega
  have n2 : n ≤ 90 := by omega
  clear ha hb hq hd fa fb va vb hF hG fF fG hn h1 h2 h3 h4
  go_enter Try.func6, Try.ntmps6
  go_wp2_with fail
  refine (Pick_c HQ.out).mono ?_
  rintro _ w1 ⟨rfl, hb⟩
  replace hr1 := Kd.C_below hr1 hb
  replace hr2 := Kd.C_below hr2 hb
  replace HB := Aside0.mk (below_step HB.out hb)
  clear hb
  go_wp2_with fail
  refine (Occ_c HA.out hr1 hc1).mono ?_
  rintro _ w2 ⟨Aa, ca, rfl, Va, hb⟩
  replace hr2 := Kd.C_below hr2 hb
  replace HB := Aside0.mk (below_step HB.out hb)
  clear hb
  go_wp2_with fail
  refine (Occ_c HBb.out hr2 hc2).mono ?_
  rintro _ w3 ⟨Ab, cb, rfl, Vb, hb⟩
  replace Va := VA_below Va hb
  replace HB := Aside0.mk (below_step HB.out hb)
  clear hb
  go_wp2_with fail
  rw [← HN.out]
  refine (Forbidden_good w3 _ _ _ _ a b n n1 (by omega) Va FA.out VVA.out Vb FB.out VVB.out).mono ?_
  rw [HF.out]
  rintro _ w4 ⟨⟨Af, cf, rfl, Vf⟩, hb⟩
  replace Va := VA_below Va hb
  replace Vb := VA_below Vb hb
  replace HB := Aside0.mk (below_step HB.out hb)
  clear hb hr1 hr2
  go_wp2_with fail
  refine (Forbidden_good w4 _ _ _ _ b a n n1 (by omega) Vb FB.out VVB.out Va FA.out VVA.out).mono ?_
  rw [HG.out]
  rintro _ w5 ⟨⟨Ag, cg, rfl, Vg⟩, hb⟩
  replace Vf := VS_below Vf hb
  replace HB := Aside0.mk (below_step HB.out hb)
  clear hb Va Vb
  go_wp2_with fail
  refine (Pick_c HD.out).mono ?_
  rintro _ w6 ⟨rfl, hb⟩
  replace Vf := VS_below Vf hb
  replace Vg := VS_below Vg hb
  replace HB := Aside0.mk (below_step HB.out hb)
  clear hb
  go_wp2_with fail
  refine (awake_c w6).mono ?_
  rintro _ w7 ⟨rfl, hb⟩
  replace Vf := VS_below Vf hb
  replace Vg := VS_below Vg hb
  replace HB := Aside0.mk (below_step HB.out hb)
  clear hb
  go_wp2_with fail
  refine (rHas_c n1 (by omega) d FF.out Vf).mono ?_
  rw [H1.out]
  rintro _ w8 ⟨rfl, hb⟩
  replace Vf := VS_below Vf hb
  replace Vg := VS_below Vg hb
  replace HB := Aside0.mk (below_step HB.out hb)
  clear hb
  go_wp2_with fail
  refine (rHas_c n1 (by omega) (-d) FG.out Vg).mono ?_
  rw [H2.out]
  rintro _ w9 ⟨rfl, hb⟩
  replace Vf := VS_below Vf hb
  replace Vg := VS_below Vg hb
  replace HB := Aside0.mk (below_step HB.out hb)
  clear hb
  go_wp2_with fail
  refine (rCount_c n1 (by omega) FF.out Vf).mono ?_
  rw [H3.out]
  rintro _ w10 ⟨rfl, hb⟩
  replace Vg := VS_below Vg hb
  replace HB := Aside0.mk (below_step HB.out hb)
  clear hb Vf
  go_wp2_with fail
  refine (rCount_c n1 (by omega) FG.out Vg).mono ?_
  rw [H4.out]
  rintro _ w11 ⟨rfl, hb⟩
  replace HB := Aside0.mk (below_step HB.out hb)
  clear hb Vg
  go_wp2_with fail
  go_ret
  exact ⟨rfl, HB.out⟩
theorem HeadwayExchange_walk (w : World) (t : Int) (wt : (Lit.int .i64 t).wf = true) (A1 : Option Addr) (c1 : Nat) (l1 : List Int) (hr1 : Kd.C (Kd.int .i64) w A1 l1.length l1) (hc1 : l1.length ≤ c1) (y1 : l1.length * 8 ≤ 140737488351232) (hw1 : ∀ x ∈ l1, (Lit.int .i64 x).wf = true)
    (A2 : Option Addr) (c2 : Nat) (l2 : List Int) (hr2 : Kd.C (Kd.int .i64) w A2 l2.length l2) (hc2 : l2.length ≤ c2) (y2 : l2.length * 8 ≤ 140737488351232) (hw2 : ∀ x ∈ l2, (Lit.int .i64 x).wf = true) (d0 : Int) (wd : (Lit.int .i64 d0).wf = true) :
    Calls Try.prog 6 #[.int .i64 t, .slice A1 l1.length c1, .slice A2 l2.length c2, .int .i64 d0] w fun e w' => e = .returned (.bool true) ∧ Below w.heap.size w w' := by
  obtain ⟨a, ⟨K1, ea⟩, va, ta, na⟩ := Occ_ev l1 (by unfold Fit; omega)
  obtain ⟨b, ⟨K2, eb⟩, vb, tb, nb⟩ := Occ_ev l2 (by unfold Fit; omega)
  obtain ⟨q, hq, q0, q1⟩ := Pick_some t 90 (by omega) (by omega)
  obtain ⟨n, hn⟩ := Int.eq_ofNat_of_zero_le (show 0 ≤ 1 + q by omega)
  obtain ⟨d, hd, dl, dh⟩ := Pick_some d0 n (by omega) (by omega)
  have n1 : 1 ≤ n := by omega
  have vF := can_vld (n := n) (fbp n a b) n1 (by omega)
  have vG := can_vld (n := n) (fbp n b a) n1 (by omega)
  have hb := em_bound (-d) (show (0 : Int) < n by omega)
  refine walk w (K1 + K2) A1 A2 c1 c2 l1 l2 t d0 q d (cnt (fbp n a b) n) n (fbp n a b d) a b hr1 hc1 hr2 hc2 (ea _ (by omega)) (eb _ (by omega)) hq q0 q1 hn.symm hd dl dh (fit_le (by omega)) (fit_le (by omega)) va vb _ _ rfl rfl (fit_le (vld_fit vF)) (fit_le (vld_fit vG)) ?_ ?_ ?_ ?_
  · rw [vF, Bool.true_and, em_lo dl dh, can_in _ dl dh]
  · rw [vG, Bool.true_and, can_in _ hb.1 hb.2, fbp_mod n1 vb va, ← fbp_swap n1 va vb]
  · rw [if_pos vF]; exact cnt_congr fun x x0 x1 => can_in _ x0 x1
  · rw [if_pos vG, cnt_congr (q := fbp n b a) fun x x0 x1 => can_in _ x0 x1, ← cnt_neg n1 (fbp n a b)]
    refine cnt_congr fun x x0 x1 => ?_
    rw [fbp_mod n1 va vb, ← fbp_swap n1 vb va]
end Go.Proofs.Ytcdldldknfpkjaa.Pure
