/- Least is enough for every later departure, and one second less is not, for every argument. -/
import Derived.Test.YtcdldldknfpkjaaLHwP3
import Derived.Test.YtcdldldknfpkjaaLHwC7
namespace Go.Proofs.Ytcdldldknfpkjaa.Pure
open Go.RowKit Go.Proofs.Ytcdldldknfpkjaa.PHw Go.Proofs.YtcdldldknfpkjaaW.PrintWords Go.Proofs.YtcdldldknfpkjaaW.PrintLast Go.Proofs.YtcdldldknfpkjaaW.PrintMore
set_option linter.unusedVariables false
set_option maxRecDepth 100000
theorem no_walk (w : World) (k : Nat) (A1 A2 : Option Addr) (c1 c2 : Nat) (l1 l2 : List Int) (m q : Int) (a b : List S41)
  (hr1 : Kd.C (Kd.int .i64) w A1 l1.length l1) (hc1 : l1.length ≤ c1) (hr2 : Kd.C (Kd.int .i64) w A2 l2.length l2) (hc2 : l2.length ≤ c2)
  (ha : railplankeep_Occupations.f k l1 = some a) (hb : railplankeep_Occupations.f k l2 = some b) (hq : railplankeep_Pick.f m 200 = some q) (q0 : 0 ≤ q) (q1 : q < 200)
  (fa : Fit a) (fb : Fit b) (hsb : ∀ y ∈ b, Small y) (hl : lst a b = (0, false)) (ht : tog a b (q - 100) = false) :
    Calls Try.prog 3 #[.slice A1 l1.length c1, .slice A2 l2.length c2, .int .i64 m] w fun e w' => e = .returned (.bool true) ∧ Below w.heap.size w w' := by
  have HB := Aside0.mk (Below.refl w.heap.size w)
  have HA := Aside0.mk ha
  have HBb := Aside0.mk hb
  have HQ := Aside0.mk hq
  have HL := Aside0.mk hl
  have HT := Aside0.mk ht
  have FA := Aside0.mk fa
  have FB := Aside0.mk fb
  have SB := Aside0.mk hsb
  clear ha hb hq hl ht fa fb hsb
  go_enter Try.func3, Try.ntmps3
  go_wp2_with fail
  refine (Occ_c HA.out hr1 hc1).mono ?_
  rintro _ w1 ⟨Aa, ca, rfl, Va, hb⟩
  replace hr2 := Kd.C_below hr2 hb
  replace HB := Aside0.mk (below_step HB.out hb)
  clear hb
  go_wp2_with fail
  refine (Occ_c HBb.out hr2 hc2).mono ?_
  rintro _ w2 ⟨Ab, cb, rfl, Vb, hb⟩
  replace Va := VA_below Va hb
  replace HB := Aside0.mk (below_step HB.out hb)
  clear hb
  go_wp2_with fail
  refine (Least_c w2 _ _ _ _ a b Va Vb FA.out FB.out).mono ?_
  rw [HL.out]
  rintro _ w3 ⟨rfl, hb⟩
  replace Va := VA_below Va hb
  replace Vb := VA_below Vb hb
  replace HB := Aside0.mk (below_step HB.out hb)
  clear hb
  go_wp2_with fail
  refine (awake_c w3).mono ?_
  rintro _ w4 ⟨rfl, hb⟩
  replace Va := VA_below Va hb
  replace Vb := VA_below Vb hb
  replace HB := Aside0.mk (below_step HB.out hb)
  clear hb
  go_wp2_with fail
  refine (Pick_c HQ.out).mono ?_
  rintro _ w5 ⟨rfl, hb⟩
  replace Va := VA_below Va hb
  replace Vb := VA_below Vb hb
  replace HB := Aside0.mk (below_step HB.out hb)
  clear hb
  go_wp2_with fail
  refine (tog_c (q - 100) (by omega) (by omega) Va Vb FA.out FB.out SB.out).mono ?_
  rw [HT.out]
  rintro _ w6 ⟨rfl, hb⟩
  replace HB := Aside0.mk (below_step HB.out hb)
  clear hb
  go_wp2_with fail
  go_ret
  exact ⟨rfl, HB.out⟩
theorem yes_walk (w : World) (k : Nat) (A1 A2 : Option Addr) (c1 c2 : Nat) (l1 l2 : List Int) (m q h : Int) (a b : List S41)
  (hr1 : Kd.C (Kd.int .i64) w A1 l1.length l1) (hc1 : l1.length ≤ c1) (hr2 : Kd.C (Kd.int .i64) w A2 l2.length l2) (hc2 : l2.length ≤ c2)
  (ha : railplankeep_Occupations.f k l1 = some a) (hb : railplankeep_Occupations.f k l2 = some b) (hq : railplankeep_Pick.f m 200 = some q) (q0 : 0 ≤ q) (q1 : q < 200) (h0 : -200000 ≤ h) (h1 : h ≤ 200000)
  (fa : Fit a) (fb : Fit b) (hsb : ∀ y ∈ b, Small y) (hl : lst a b = (h, true)) (ht : tog a b (h + q) = false) (ht' : tog a b (h - 1) = true) :
    Calls Try.prog 3 #[.slice A1 l1.length c1, .slice A2 l2.length c2, .int .i64 m] w fun e w' => e = .returned (.bool true) ∧ Below w.heap.size w w' := by
  have HB := Aside0.mk (Below.refl w.heap.size w)
  have HA := Aside0.mk ha
  have HBb := Aside0.mk hb
  have HQ := Aside0.mk hq
  have HL := Aside0.mk hl
  have HT := Aside0.mk ht
  have HT' := Aside0.mk ht'
  have FA := Aside0.mk fa
  have FB := Aside0.mk fb
  have SB := Aside0.mk hsb
  clear ha hb hq hl ht ht' fa fb hsb
  go_enter Try.func3, Try.ntmps3
  go_wp2_with fail
  refine (Occ_c HA.out hr1 hc1).mono ?_
  rintro _ w1 ⟨Aa, ca, rfl, Va, hb⟩
  replace hr2 := Kd.C_below hr2 hb
  replace HB := Aside0.mk (below_step HB.out hb)
  clear hb
  go_wp2_with fail
  refine (Occ_c HBb.out hr2 hc2).mono ?_
  rintro _ w2 ⟨Ab, cb, rfl, Vb, hb⟩
  replace Va := VA_below Va hb
  replace HB := Aside0.mk (below_step HB.out hb)
  clear hb
  go_wp2_with fail
  refine (Least_c w2 _ _ _ _ a b Va Vb FA.out FB.out).mono ?_
  rw [HL.out]
  rintro _ w3 ⟨rfl, hb⟩
  replace Va := VA_below Va hb
  replace Vb := VA_below Vb hb
  replace HB := Aside0.mk (below_step HB.out hb)
  clear hb
  go_wp2_with fail
  refine (awake_c w3).mono ?_
  rintro _ w4 ⟨rfl, hb⟩
  replace Va := VA_below Va hb
  replace Vb := VA_below Vb hb
  replace HB := Aside0.mk (below_step HB.out hb)
  clear hb
  go_wp2_with fail
  refine (Pick_c HQ.out).mono ?_
  rintro _ w5 ⟨rfl, hb⟩
  replace Va := VA_below Va hb
  replace Vb := VA_below Vb hb
  replace HB := Aside0.mk (below_step HB.out hb)
  clear hb
  go_wp2_with fail
  refine (tog_c (h + q) (by omega) (by omega) Va Vb FA.out FB.out SB.out).mono ?_
  rw [HT.out]
  rintro _ w6 ⟨rfl, hb⟩
  replace Va := VA_below Va hb
  replace Vb := VA_below Vb hb
  replace HB := Aside0.mk (below_step HB.out hb)
  clear hb
  go_wp2_with fail
  refine (tog_c (h - 1) (by omega) (by omega) Va Vb FA.out FB.out SB.out).mono ?_
  rw [HT'.out]
  rintro _ w7 ⟨rfl, hb⟩
  replace HB := Aside0.mk (below_step HB.out hb)
  clear hb
  go_wp2_with fail
  go_ret
  exact ⟨rfl, HB.out⟩
theorem HeadwayLeastSeparates_walk (w : World) (A1 : Option Addr) (c1 : Nat) (l1 : List Int) (hr1 : Kd.C (Kd.int .i64) w A1 l1.length l1) (hc1 : l1.length ≤ c1) (y1 : l1.length * 8 ≤ 140737488351232) (hw1 : ∀ x ∈ l1, (Lit.int .i64 x).wf = true)
    (A2 : Option Addr) (c2 : Nat) (l2 : List Int) (hr2 : Kd.C (Kd.int .i64) w A2 l2.length l2) (hc2 : l2.length ≤ c2) (y2 : l2.length * 8 ≤ 140737488351232) (hw2 : ∀ x ∈ l2, (Lit.int .i64 x).wf = true) (m : Int) (wm : (Lit.int .i64 m).wf = true) :
    Calls Try.prog 3 #[.slice A1 l1.length c1, .slice A2 l2.length c2, .int .i64 m] w fun e w' => e = .returned (.bool true) ∧ Below w.heap.size w w' := by
  obtain ⟨a, ⟨K1, ea⟩, va, ta, na⟩ := Occ_ev l1 (by unfold Fit; omega)
  obtain ⟨b, ⟨K2, eb⟩, vb, tb, nb⟩ := Occ_ev l2 (by unfold Fit; omega)
  obtain ⟨q, hq, q0, q1⟩ := Pick_some m 200 (by omega) (by omega)
  have fa : Fit a := fit_le (by omega)
  have fb : Fit b := fit_le (by omega)
  have sb := ovld_small vb
  cases hl : (lst a b).2 with
  | false =>
    obtain ⟨e1, e2⟩ := lst_no va vb hl
    refine no_walk w (K1 + K2) A1 A2 c1 c2 l1 l2 m q a b hr1 hc1 hr2 hc2 (ea _ (by omega)) (eb _ (by omega)) hq q0 q1 fa fb sb e1 ?_
    rw [Bool.eq_false_iff]
    intro hc
    obtain ⟨p, hp, _⟩ := (tog_cm va vb _).1 hc
    rw [e2] at hp; cases hp
  | true =>
    obtain ⟨g1, p, hp, g2⟩ := lst_yes va vb hl
    obtain ⟨p1, p2, p3⟩ := (cm_mem p a b va vb).1 hp
    have t1 := ta _ p1
    have t2 := tb _ p2
    unfold Tiny at t1 t2
    refine yes_walk w (K1 + K2) A1 A2 c1 c2 l1 l2 m q (lst a b).1 a b hr1 hc1 hr2 hc2 (ea _ (by omega)) (eb _ (by omega)) hq q0 q1 (by omega) (by omega) fa fb sb (Prod.ext rfl hl) ?_ ?_
    · rw [Bool.eq_false_iff]
      intro hc
      obtain ⟨r, hr, r1, r2⟩ := (tog_cm va vb _).1 hc
      have := g1 r hr
      omega
    · exact (tog_cm va vb _).2 ⟨p, hp, by omega, by omega⟩
end Go.Proofs.Ytcdldldknfpkjaa.Pure
