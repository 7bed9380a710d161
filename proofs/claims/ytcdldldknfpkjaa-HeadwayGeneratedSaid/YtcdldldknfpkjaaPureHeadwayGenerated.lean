/- All functions return the specified results for valid lists and all periods. -/
import Derived.Test.YtcdldldknfpkjaaLHwM2
namespace Go.Proofs.Ytcdldldknfpkjaa.Pure
open Go.RowKit Go.Proofs.Ytcdldldknfpkjaa.PHw Go.Proofs.YtcdldldknfpkjaaW.PrintWords Go.Proofs.YtcdldldknfpkjaaW.PrintLast Go.Proofs.YtcdldldknfpkjaaW.PrintMore
set_option linter.unusedVariables false
set_option maxRecDepth 100000
theorem walk (w : World) (k : Nat) (A1 A2 A3 : Option Addr) (c1 c2 c3 : Nat) (l1 l2 : List Int) (t0 q : Int) (a b r : List S41)
  (hr1 : Kd.C (Kd.int .i64) w A1 l1.length l1) (hc1 : l1.length ≤ c1) (hr2 : Kd.C (Kd.int .i64) w A2 l2.length l2) (hc2 : l2.length ≤ c2) (vr : VA w (.slice A3 r.length c3) r)
  (ha : railplankeep_Occupations.f k l1 = some a) (hb : railplankeep_Occupations.f k l2 = some b) (hq : railplankeep_Pick.f t0 150 = some q) (q0 : 0 ≤ q) (q1 : q < 150)
  (fa : Fit a) (fb : Fit b) (fr : Fit r) :
    Calls Try.prog 9 #[.int .i64 t0, .slice A1 l1.length c1, .slice A2 l2.length c2, .slice A3 r.length c3] w fun e w' => e = .returned (.bool true) ∧ Below w.heap.size w w' := by
  have HB := Aside0.mk (Below.refl w.heap.size w)
  have HA := Aside0.mk ha
  have HBb := Aside0.mk hb
  have HQ := Aside0.mk hq
  have FA := Aside0.mk fa
  have FB := Aside0.mk fb
  have FR := Aside0.mk fr
  have Vr := Aside0.mk vr
  clear ha hb hq fa fb fr vr
  go_enter Try.func9, Try.ntmps9
  go_wp2_with fail
  refine (Occ_c HA.out hr1 hc1).mono ?_
  rintro _ w2 ⟨Aa, ca, rfl, va, hb⟩
  replace hr2 := Kd.C_below hr2 hb
  replace Vr := Aside0.mk (VA_below Vr.out hb)
  replace HB := Aside0.mk (below_step HB.out hb)
  have Va := Aside0.mk va
  clear hb va
  go_wp2_with fail
  refine (Occ_c HBb.out hr2 hc2).mono ?_
  rintro _ w3 ⟨Ab, cb, rfl, vb, hb⟩
  replace Va := Aside0.mk (VA_below Va.out hb)
  replace Vr := Aside0.mk (VA_below Vr.out hb)
  replace HB := Aside0.mk (below_step HB.out hb)
  have Vb := Aside0.mk vb
  clear hb vb hr1 hr2
  go_wp2_with fail
  refine (awake_c _).mono ?_
  rintro _ w4 ⟨rfl, hb⟩
  replace Va := Aside0.mk (VA_below Va.out hb)
  replace Vb := Aside0.mk (VA_below Vb.out hb)
  replace Vr := Aside0.mk (VA_below Vr.out hb)
  replace HB := Aside0.mk (below_step HB.out hb)
  clear hb
  go_wp2_with fail
  refine (Pick_c HQ.out).mono ?_
  rintro _ w5 ⟨rfl, hb⟩
  replace Va := Aside0.mk (VA_below Va.out hb)
  replace Vb := Aside0.mk (VA_below Vb.out hb)
  replace Vr := Aside0.mk (VA_below Vr.out hb)
  replace HB := Aside0.mk (below_step HB.out hb)
  clear hb
  go_wp2_with fail
  refine (agrees_c _ _ _ ca cb a b _ Va.out FA.out Vb.out FB.out).mono ?_
  rintro _ w6 ⟨rfl, hb⟩
  replace Va := Aside0.mk (VA_below Va.out hb)
  replace Vb := Aside0.mk (VA_below Vb.out hb)
  replace Vr := Aside0.mk (VA_below Vr.out hb)
  replace HB := Aside0.mk (below_step HB.out hb)
  clear hb
  go_wp2_with fail
  refine (Pick_c HQ.out).mono ?_
  rintro _ w7 ⟨rfl, hb⟩
  replace Va := Aside0.mk (VA_below Va.out hb)
  replace Vb := Aside0.mk (VA_below Vb.out hb)
  replace Vr := Aside0.mk (VA_below Vr.out hb)
  replace HB := Aside0.mk (below_step HB.out hb)
  clear hb
  go_wp2_with fail
  refine (agrees_c _ _ _ ca c3 a r _ Va.out FA.out Vr.out FR.out).mono ?_
  rintro _ w8 ⟨rfl, hb⟩
  replace Vb := Aside0.mk (VA_below Vb.out hb)
  replace Vr := Aside0.mk (VA_below Vr.out hb)
  replace HB := Aside0.mk (below_step HB.out hb)
  clear hb
  go_wp2_with fail
  refine (Pick_c HQ.out).mono ?_
  rintro _ w9 ⟨rfl, hb⟩
  replace Vb := Aside0.mk (VA_below Vb.out hb)
  replace Vr := Aside0.mk (VA_below Vr.out hb)
  replace HB := Aside0.mk (below_step HB.out hb)
  clear hb
  go_wp2_with fail
  refine (agrees_c _ _ _ c3 cb r b _ Vr.out FR.out Vb.out FB.out).mono ?_
  rintro _ w10 ⟨rfl, hb⟩
  replace HB := Aside0.mk (below_step HB.out hb)
  clear hb
  go_wp2_with fail
  go_ret
  exact ⟨rfl, HB.out⟩
theorem HeadwayGenerated_walk (w : World) (t : Int) (wt : (Lit.int .i64 t).wf = true) (A1 : Option Addr) (c1 : Nat) (l1 : List Int) (hr1 : Kd.C (Kd.int .i64) w A1 l1.length l1) (hc1 : l1.length ≤ c1) (y1 : l1.length * 8 ≤ 140737488351232) (hw1 : ∀ x ∈ l1, (Lit.int .i64 x).wf = true)
    (A2 : Option Addr) (c2 : Nat) (l2 : List Int) (hr2 : Kd.C (Kd.int .i64) w A2 l2.length l2) (hc2 : l2.length ≤ c2) (y2 : l2.length * 8 ≤ 140737488351232) (hw2 : ∀ x ∈ l2, (Lit.int .i64 x).wf = true)
    (A3 : Option Addr) (c3 : Nat) (r : List S41) (hr3 : Kd.C k41 w A3 r.length r) (hc3 : r.length ≤ c3) (fr : Fit r) (hw3 : ∀ u ∈ r, (Lit.int .i64 u.f0).wf = true ∧ (Lit.int .i64 u.f1).wf = true ∧ (Lit.int .i64 u.f2).wf = true) :
    Calls Try.prog 9 #[.int .i64 t, .slice A1 l1.length c1, .slice A2 l2.length c2, .slice A3 r.length c3] w fun e w' => e = .returned (.bool true) ∧ Below w.heap.size w w' := by
  obtain ⟨a, ⟨K1, ea⟩, va, ta, na⟩ := Occ_ev l1 (by unfold Fit; omega)
  obtain ⟨b, ⟨K2, eb⟩, vb, tb, nb⟩ := Occ_ev l2 (by unfold Fit; omega)
  obtain ⟨q, hq, q0, q1⟩ := Pick_some t 150 (by omega) (by omega)
  exact walk w (K1 + K2) A1 A2 A3 c1 c2 c3 l1 l2 t q a b r hr1 hc1 hr2 hc2 (VA_of hr3 hc3) (ea _ (by omega)) (eb _ (by omega)) hq q0 q1 (fit_le (by omega)) (fit_le (by omega)) fr
end Go.Proofs.Ytcdldldknfpkjaa.Pure
