/- Union, Intersect and Complement return the same sets or errors as the reference, for valid sets and for arbitrary lists, for every argument. -/
import Derived.Test.YtdnileakboefgaaLResidueSetOperationsAW
import Derived.Test.YtdnileakboefgaaLResidueSetOperationsCS
import Derived.Test.YtdnileakboefgaaLResidueSetOperationsDUnion
import Derived.Test.YtdnileakboefgaaLResidueSetOperationsDInter
import Derived.Test.YtdnileakboefgaaLResidueSetOperationsDComp
import Derived.Test.YtdnileakboefgaaLResidueSetOperationsRInter
import Derived.Test.YtdnileakboefgaaLResidueSetOperationsRComp
import Derived.Test.YtdnileakboefgaaLResidueSetOperationsVSetOps
namespace Go.Proofs.Ytdnileakboefgaa.Pure
open Go.RowKit Go.Proofs.Ytdnileakboefgaa.PResidueSetOperations Go.Proofs.YtdnileakboefgaaW.PrintWords Go.Proofs.YtdnileakboefgaaW.PrintLast Go.Proofs.YtdnileakboefgaaW.PrintMore
set_option linter.unusedVariables false
set_option maxHeartbeats 1000000 in
theorem walk_true (w : World) (k : Nat) (a0 p : Int) (A1 A2 As : Option Addr) (c1 c2 cs : Nat) (l1 l2 : List Int) (s a b u i c : List S35) (e g n : Int)
  (hr1 : Kd.C (Kd.int .i64) w A1 l1.length l1) (hc1 : l1.length ≤ c1) (hr2 : Kd.C (Kd.int .i64) w A2 l2.length l2) (hc2 : l2.length ≤ c2) (Vs : VS w (.slice As s.length cs) s)
  (hp : railplankeep_Period.f a0 = some p) (ha : railplankeep_Set.f k p l1 = some a) (hb0 : railplankeep_Set.f k p l2 = some b)
  (hu : residue_Union.f k p a s = some (u, e)) (hv : railplanref1_Union.f k p a s = some (u, e)) (hi : residue_Intersect.f k p a s = some (i, g)) (hj : railplanref1_Intersect.f k p a s = some (i, g)) (hk : residue_Complement.f k p s = some (c, n)) (hd : railplanref1_Complement.f k p s = some (c, n))
  (hw : railplanlaw2_awake.f k = some true) (s1 : api_Span.f k u u = some true) (s2 : api_Span.f k i i = some true) (s3 : api_Span.f k c c = some true) :
   Calls Try.prog 11 #[.int .i64 a0, .slice A1 l1.length c1, .slice A2 l2.length c2, .slice As s.length cs, .bool true] w fun e w' => e = .returned (.bool true) ∧ Below w.heap.size w w' := by
  have HB := Below.refl w.heap.size w
  go_enter Try.func11, Try.ntmps11
  go_wp2_with fail
  refine (Period_c hp).mono ?_
  rintro _ w1 ⟨rfl, hb⟩
  replace hr1 := Kd.C_below hr1 hb
  replace hr2 := Kd.C_below hr2 hb
  replace Vs := VS_below Vs hb
  replace HB := below_step HB hb
  clear hb
  go_wp2_with fail
  refine (Set_c ha hr1 hc1).mono ?_
  rintro _ w2 ⟨Aa, ca, rfl, Va, hb⟩
  replace hr1 := Kd.C_below hr1 hb
  replace hr2 := Kd.C_below hr2 hb
  replace Vs := VS_below Vs hb
  replace HB := below_step HB hb
  clear hb
  go_wp2_with fail
  refine (Set_c hb0 hr2 hc2).mono ?_
  rintro _ w3 ⟨Ab, cb, rfl, Vb, hb⟩
  replace hr1 := Kd.C_below hr1 hb
  replace hr2 := Kd.C_below hr2 hb
  replace Vs := VS_below Vs hb
  replace Va := VS_below Va hb
  replace HB := below_step HB hb
  clear hb
  go_wp2_with fail
  refine (Union_c hu Va Vs).mono ?_
  rintro _ w4 ⟨Au, cu, rfl, Vu, hb⟩
  replace hr1 := Kd.C_below hr1 hb
  replace hr2 := Kd.C_below hr2 hb
  replace Vs := VS_below Vs hb
  replace Va := VS_below Va hb
  replace Vb := VS_below Vb hb
  replace HB := below_step HB hb
  clear hb
  go_wp2_with fail
  refine (rUnion_c hv Va Vs).mono ?_
  rintro _ w5 ⟨Av, cv, rfl, Vv, hb⟩
  replace hr1 := Kd.C_below hr1 hb
  replace hr2 := Kd.C_below hr2 hb
  replace Vs := VS_below Vs hb
  replace Va := VS_below Va hb
  replace Vb := VS_below Vb hb
  replace Vu := VS_below Vu hb
  replace HB := below_step HB hb
  clear hb
  go_wp2_with fail
  refine (Inter_c hi Va Vs).mono ?_
  rintro _ w6 ⟨Ai, ci, rfl, Vi, hb⟩
  replace hr1 := Kd.C_below hr1 hb
  replace hr2 := Kd.C_below hr2 hb
  replace Vs := VS_below Vs hb
  replace Va := VS_below Va hb
  replace Vb := VS_below Vb hb
  replace Vu := VS_below Vu hb
  replace Vv := VS_below Vv hb
  replace HB := below_step HB hb
  clear hb
  go_wp2_with fail
  refine (rInter_c hj Va Vs).mono ?_
  rintro _ w7 ⟨Aj, cj, rfl, Vj, hb⟩
  replace hr1 := Kd.C_below hr1 hb
  replace hr2 := Kd.C_below hr2 hb
  replace Vs := VS_below Vs hb
  replace Va := VS_below Va hb
  replace Vb := VS_below Vb hb
  replace Vu := VS_below Vu hb
  replace Vv := VS_below Vv hb
  replace Vi := VS_below Vi hb
  replace HB := below_step HB hb
  clear hb
  go_wp2_with fail
  refine (Comp_c hk Vs).mono ?_
  rintro _ w8 ⟨Ac, cc, rfl, Vc, hb⟩
  replace hr1 := Kd.C_below hr1 hb
  replace hr2 := Kd.C_below hr2 hb
  replace Vs := VS_below Vs hb
  replace Va := VS_below Va hb
  replace Vb := VS_below Vb hb
  replace Vu := VS_below Vu hb
  replace Vv := VS_below Vv hb
  replace Vi := VS_below Vi hb
  replace Vj := VS_below Vj hb
  replace HB := below_step HB hb
  clear hb
  go_wp2_with fail
  refine (rComp_c hd Vs).mono ?_
  rintro _ w9 ⟨Ad, cd, rfl, Vd, hb⟩
  replace hr1 := Kd.C_below hr1 hb
  replace hr2 := Kd.C_below hr2 hb
  replace Vs := VS_below Vs hb
  replace Va := VS_below Va hb
  replace Vb := VS_below Vb hb
  replace Vu := VS_below Vu hb
  replace Vv := VS_below Vv hb
  replace Vi := VS_below Vi hb
  replace Vj := VS_below Vj hb
  replace Vc := VS_below Vc hb
  replace HB := below_step HB hb
  clear hb
  go_wp2_with fail
  refine (awake_c hw).mono ?_
  rintro _ w10 ⟨rfl, hb⟩
  replace hr1 := Kd.C_below hr1 hb
  replace hr2 := Kd.C_below hr2 hb
  replace Vs := VS_below Vs hb
  replace Va := VS_below Va hb
  replace Vb := VS_below Vb hb
  replace Vu := VS_below Vu hb
  replace Vv := VS_below Vv hb
  replace Vi := VS_below Vi hb
  replace Vj := VS_below Vj hb
  replace Vc := VS_below Vc hb
  replace Vd := VS_below Vd hb
  replace HB := below_step HB hb
  clear hb
  go_wp2_with fail
  refine (Same_c s1 Vu Vv).mono ?_
  rintro _ w11 ⟨rfl, hb⟩
  replace hr1 := Kd.C_below hr1 hb
  replace hr2 := Kd.C_below hr2 hb
  replace Vs := VS_below Vs hb
  replace Va := VS_below Va hb
  replace Vb := VS_below Vb hb
  replace Vu := VS_below Vu hb
  replace Vv := VS_below Vv hb
  replace Vi := VS_below Vi hb
  replace Vj := VS_below Vj hb
  replace Vc := VS_below Vc hb
  replace Vd := VS_below Vd hb
  replace HB := below_step HB hb
  clear hb
  go_wp2_with fail
  refine (Same_c s2 Vi Vj).mono ?_
  rintro _ w12 ⟨rfl, hb⟩
  replace hr1 := Kd.C_below hr1 hb
  replace hr2 := Kd.C_below hr2 hb
  replace Vs := VS_below Vs hb
  replace Va := VS_below Va hb
  replace Vb := VS_below Vb hb
  replace Vu := VS_below Vu hb
  replace Vv := VS_below Vv hb
  replace Vi := VS_below Vi hb
  replace Vj := VS_below Vj hb
  replace Vc := VS_below Vc hb
  replace Vd := VS_below Vd hb
  replace HB := below_step HB hb
  clear hb
  go_wp2_with fail
  refine (Same_c s3 Vc Vd).mono ?_
  rintro _ w13 ⟨rfl, hb⟩
  replace hr1 := Kd.C_below hr1 hb
  replace hr2 := Kd.C_below hr2 hb
  replace Vs := VS_below Vs hb
  replace Va := VS_below Va hb
  replace Vb := VS_below Vb hb
  replace Vu := VS_below Vu hb
  replace Vv := VS_below Vv hb
  replace Vi := VS_below Vi hb
  replace Vj := VS_below Vj hb
  replace Vc := VS_below Vc hb
  replace Vd := VS_below Vd hb
  replace HB := below_step HB hb
  clear hb
  go_wp2_with fail
  go_ret
  exact ⟨rfl, HB⟩
set_option maxHeartbeats 1000000 in
theorem walk_false (w : World) (k : Nat) (a0 p : Int) (A1 A2 As : Option Addr) (c1 c2 cs : Nat) (l1 l2 : List Int) (s a b u i c : List S35) (e g n : Int)
  (hr1 : Kd.C (Kd.int .i64) w A1 l1.length l1) (hc1 : l1.length ≤ c1) (hr2 : Kd.C (Kd.int .i64) w A2 l2.length l2) (hc2 : l2.length ≤ c2) (Vs : VS w (.slice As s.length cs) s)
  (hp : railplankeep_Period.f a0 = some p) (ha : railplankeep_Set.f k p l1 = some a) (hb0 : railplankeep_Set.f k p l2 = some b)
  (hu : residue_Union.f k p a b = some (u, e)) (hv : railplanref1_Union.f k p a b = some (u, e)) (hi : residue_Intersect.f k p a b = some (i, g)) (hj : railplanref1_Intersect.f k p a b = some (i, g)) (hk : residue_Complement.f k p b = some (c, n)) (hd : railplanref1_Complement.f k p b = some (c, n))
  (hw : railplanlaw2_awake.f k = some true) (s1 : api_Span.f k u u = some true) (s2 : api_Span.f k i i = some true) (s3 : api_Span.f k c c = some true) :
   Calls Try.prog 11 #[.int .i64 a0, .slice A1 l1.length c1, .slice A2 l2.length c2, .slice As s.length cs, .bool false] w fun e w' => e = .returned (.bool true) ∧ Below w.heap.size w w' := by
  have HB := Below.refl w.heap.size w
  go_enter Try.func11, Try.ntmps11
  go_wp2_with fail
  refine (Period_c hp).mono ?_
  rintro _ w1 ⟨rfl, hb⟩
  replace hr1 := Kd.C_below hr1 hb
  replace hr2 := Kd.C_below hr2 hb
  replace Vs := VS_below Vs hb
  replace HB := below_step HB hb
  clear hb
  go_wp2_with fail
  refine (Set_c ha hr1 hc1).mono ?_
  rintro _ w2 ⟨Aa, ca, rfl, Va, hb⟩
  replace hr1 := Kd.C_below hr1 hb
  replace hr2 := Kd.C_below hr2 hb
  replace Vs := VS_below Vs hb
  replace HB := below_step HB hb
  clear hb
  go_wp2_with fail
  refine (Set_c hb0 hr2 hc2).mono ?_
  rintro _ w3 ⟨Ab, cb, rfl, Vb, hb⟩
  replace hr1 := Kd.C_below hr1 hb
  replace hr2 := Kd.C_below hr2 hb
  replace Vs := VS_below Vs hb
  replace Va := VS_below Va hb
  replace HB := below_step HB hb
  clear hb
  go_wp2_with fail
  refine (Union_c hu Va Vb).mono ?_
  rintro _ w4 ⟨Au, cu, rfl, Vu, hb⟩
  replace hr1 := Kd.C_below hr1 hb
  replace hr2 := Kd.C_below hr2 hb
  replace Vs := VS_below Vs hb
  replace Va := VS_below Va hb
  replace Vb := VS_below Vb hb
  replace HB := below_step HB hb
  clear hb
  go_wp2_with fail
  refine (rUnion_c hv Va Vb).mono ?_
  rintro _ w5 ⟨Av, cv, rfl, Vv, hb⟩
  replace hr1 := Kd.C_below hr1 hb
  replace hr2 := Kd.C_below hr2 hb
  replace Vs := VS_below Vs hb
  replace Va := VS_below Va hb
  replace Vb := VS_below Vb hb
  replace Vu := VS_below Vu hb
  replace HB := below_step HB hb
  clear hb
  go_wp2_with fail
  refine (Inter_c hi Va Vb).mono ?_
  rintro _ w6 ⟨Ai, ci, rfl, Vi, hb⟩
  replace hr1 := Kd.C_below hr1 hb
  replace hr2 := Kd.C_below hr2 hb
  replace Vs := VS_below Vs hb
  replace Va := VS_below Va hb
  replace Vb := VS_below Vb hb
  replace Vu := VS_below Vu hb
  replace Vv := VS_below Vv hb
  replace HB := below_step HB hb
  clear hb
  go_wp2_with fail
  refine (rInter_c hj Va Vb).mono ?_
  rintro _ w7 ⟨Aj, cj, rfl, Vj, hb⟩
  replace hr1 := Kd.C_below hr1 hb
  replace hr2 := Kd.C_below hr2 hb
  replace Vs := VS_below Vs hb
  replace Va := VS_below Va hb
  replace Vb := VS_below Vb hb
  replace Vu := VS_below Vu hb
  replace Vv := VS_below Vv hb
  replace Vi := VS_below Vi hb
  replace HB := below_step HB hb
  clear hb
  go_wp2_with fail
  refine (Comp_c hk Vb).mono ?_
  rintro _ w8 ⟨Ac, cc, rfl, Vc, hb⟩
  replace hr1 := Kd.C_below hr1 hb
  replace hr2 := Kd.C_below hr2 hb
  replace Vs := VS_below Vs hb
  replace Va := VS_below Va hb
  replace Vb := VS_below Vb hb
  replace Vu := VS_below Vu hb
  replace Vv := VS_below Vv hb
  replace Vi := VS_below Vi hb
  replace Vj := VS_below Vj hb
  replace HB := below_step HB hb
  clear hb
  go_wp2_with fail
  refine (rComp_c hd Vb).mono ?_
  rintro _ w9 ⟨Ad, cd, rfl, Vd, hb⟩
  replace hr1 := Kd.C_below hr1 hb
  replace hr2 := Kd.C_below hr2 hb
  replace Vs := VS_below Vs hb
  replace Va := VS_below Va hb
  replace Vb := VS_below Vb hb
  replace Vu := VS_below Vu hb
  replace Vv := VS_below Vv hb
  replace Vi := VS_below Vi hb
  replace Vj := VS_below Vj hb
  replace Vc := VS_below Vc hb
  replace HB := below_step HB hb
  clear hb
  go_wp2_with fail
  refine (awake_c hw).mono ?_
  rintro _ w10 ⟨rfl, hb⟩
  replace hr1 := Kd.C_below hr1 hb
  replace hr2 := Kd.C_below hr2 hb
  replace Vs := VS_below Vs hb
  replace Va := VS_below Va hb
  replace Vb := VS_below Vb hb
  replace Vu := VS_below Vu hb
  replace Vv := VS_below Vv hb
  replace Vi := VS_below Vi hb
  replace Vj := VS_below Vj hb
  replace Vc := VS_below Vc hb
  replace Vd := VS_below Vd hb
  replace HB := below_step HB hb
  clear hb
  go_wp2_with fail
  refine (Same_c s1 Vu Vv).mono ?_
  rintro _ w11 ⟨rfl, hb⟩
  replace hr1 := Kd.C_below hr1 hb
  replace hr2 := Kd.C_below hr2 hb
  replace Vs := VS_below Vs hb
  replace Va := VS_below Va hb
  replace Vb := VS_below Vb hb
  replace Vu := VS_below Vu hb
  replace Vv := VS_below Vv hb
  replace Vi := VS_below Vi hb
  replace Vj := VS_below Vj hb
  replace Vc := VS_below Vc hb
  replace Vd := VS_below Vd hb
  replace HB := below_step HB hb
  clear hb
  go_wp2_with fail
  refine (Same_c s2 Vi Vj).mono ?_
  rintro _ w12 ⟨rfl, hb⟩
  replace hr1 := Kd.C_below hr1 hb
  replace hr2 := Kd.C_below hr2 hb
  replace Vs := VS_below Vs hb
  replace Va := VS_below Va hb
  replace Vb := VS_below Vb hb
  replace Vu := VS_below Vu hb
  replace Vv := VS_below Vv hb
  replace Vi := VS_below Vi hb
  replace Vj := VS_below Vj hb
  replace Vc := VS_below Vc hb
  replace Vd := VS_below Vd hb
  replace HB := below_step HB hb
  clear hb
  go_wp2_with fail
  refine (Same_c s3 Vc Vd).mono ?_
  rintro _ w13 ⟨rfl, hb⟩
  replace hr1 := Kd.C_below hr1 hb
  replace hr2 := Kd.C_below hr2 hb
  replace Vs := VS_below Vs hb
  replace Va := VS_below Va hb
  replace Vb := VS_below Vb hb
  replace Vu := VS_below Vu hb
  replace Vv := VS_below Vv hb
  replace Vi := VS_below Vi hb
  replace Vj := VS_below Vj hb
  replace Vc := VS_below Vc hb
  replace Vd := VS_below Vd hb
  replace HB := below_step HB hb
  clear hb
  go_wp2_with fail
  go_ret
  exact ⟨rfl, HB⟩
theorem cut2 {g f : Nat → Option (List S35 × Int)} {n : Nat} (h1 : 1 ≤ n) (h2 : n ≤ 7200) {P : Prop} [Decidable P] {p : Int → Bool} (hg : Ev g (if P then (can n p, 0) else ([], 1))) (hf : Ev f (if P then (can n p, 0) else ([], 1))) :
    ∃ s e, Ev g (s, e) ∧ Ev f (s, e) ∧ Fit s := by
  by_cases h : P
  · rw [if_pos h] at hg hf; exact ⟨_, _, hg, hf, fit_le (vld_fit (can_vld p h1 h2))⟩
  · rw [if_neg h] at hg hf; exact ⟨_, _, hg, hf, fit_nil⟩
theorem ResidueSetOperations_walk (w : World) (a0 : Int) (w0 : (Lit.int .i64 a0).wf = true) (A1 : Option Addr) (c1 : Nat) (l1 : List Int) (hr1 : Kd.C (Kd.int .i64) w A1 l1.length l1) (hc1 : l1.length ≤ c1) (y1 : l1.length * 8 ≤ 140737488351232) (hw1 : ∀ x ∈ l1, (Lit.int .i64 x).wf = true)
    (A2 : Option Addr) (c2 : Nat) (l2 : List Int) (hr2 : Kd.C (Kd.int .i64) w A2 l2.length l2) (hc2 : l2.length ≤ c2) (y2 : l2.length * 8 ≤ 140737488351232) (hw2 : ∀ x ∈ l2, (Lit.int .i64 x).wf = true)
    (A3 : Option Addr) (c3 : Nat) (s : List S35) (hr3 : Kd.C k35 w A3 s.length s) (hc3 : s.length ≤ c3) (hf3 : Fit s) (hw3 : ∀ u ∈ s, (Lit.int .i64 u.f0).wf = true ∧ (Lit.int .i64 u.f1).wf = true) (raw : Bool) :
    Calls Try.prog 11 #[.int .i64 a0, .slice A1 l1.length c1, .slice A2 l2.length c2, .slice A3 s.length c3, .bool raw] w fun e w' => e = .returned (.bool true) ∧ Below w.heap.size w w' := by
  obtain ⟨n, hn, n1, n2⟩ := Period_some a0
  have hn2 : n ≤ 7200 := by omega
  obtain ⟨a, ⟨K1, ea⟩, va⟩ := Set_ev l1 (by unfold Fit; omega) n n1 hn2
  obtain ⟨b, ⟨K2, eb⟩, vb⟩ := Set_ev l2 (by unfold Fit; omega) n n1 hn2
  have fa := fit_le (vld_fit va)
  have fb := fit_le (vld_fit vb)
  have all : ∀ t : List S35, Fit t → ∃ u e i g c m K, ∀ k, K ≤ k → residue_Union.f k n a t = some (u, e) ∧ railplanref1_Union.f k n a t = some (u, e) ∧ residue_Intersect.f k n a t = some (i, g) ∧ railplanref1_Intersect.f k n a t = some (i, g) ∧ residue_Complement.f k n t = some (c, m) ∧ railplanref1_Complement.f k n t = some (c, m) ∧
      api_Span.f k u u = some true ∧ api_Span.f k i i = some true ∧ api_Span.f k c c = some true := by
    intro t ft
    obtain ⟨u, e, ⟨k1, u1⟩, ⟨k2, u2⟩, fu⟩ := cut2 n1 hn2 (Union_ev n n1 hn2 a t fa ft) (rUnion_ev n n1 hn2 a t fa ft)
    obtain ⟨i, g, ⟨k3, i1⟩, ⟨k4, i2⟩, fi⟩ := cut2 n1 hn2 (Intersect_ev n n1 hn2 a t fa ft) (rIntersect_ev n n1 hn2 a t fa ft)
    obtain ⟨c, m, ⟨k5, c1⟩, ⟨k6, c2⟩, fc⟩ := cut2 n1 hn2 (Complement_ev n n1 hn2 t ft) (rComplement_ev n n1 hn2 t ft)
    obtain ⟨k7, s1⟩ := Same_ev u fu
    obtain ⟨k8, s2⟩ := Same_ev i fi
    obtain ⟨k9, s3⟩ := Same_ev c fc
    exact ⟨u, e, i, g, c, m, k1 + k2 + k3 + k4 + k5 + k6 + k7 + k8 + k9, fun k hk => ⟨u1 k (by omega), u2 k (by omega), i1 k (by omega), i2 k (by omega), c1 k (by omega), c2 k (by omega), s1 k (by omega), s2 k (by omega), s3 k (by omega)⟩⟩
  obtain ⟨K3, ew⟩ := awake_ev
  cases raw with
  | true =>
    obtain ⟨u, e, i, g, c, m, K, h⟩ := all s hf3
    obtain ⟨h1, h2, h3, h4, h5, h6, h7, h8, h9⟩ := h (K1 + K2 + K3 + K) (by omega)
    exact walk_true w (K1 + K2 + K3 + K) a0 n A1 A2 A3 c1 c2 c3 l1 l2 s a b u i c e g m hr1 hc1 hr2 hc2 (VS_of hr3 hc3) hn (ea _ (by omega)) (eb _ (by omega)) h1 h2 h3 h4 h5 h6 (ew _ (by omega)) h7 h8 h9
  | false =>
    obtain ⟨u, e, i, g, c, m, K, h⟩ := all b fb
    obtain ⟨h1, h2, h3, h4, h5, h6, h7, h8, h9⟩ := h (K1 + K2 + K3 + K) (by omega)
    exact walk_false w (K1 + K2 + K3 + K) a0 n A1 A2 A3 c1 c2 c3 l1 l2 s a b u i c e g m hr1 hc1 hr2 hc2 (VS_of hr3 hc3) hn (ea _ (by omega)) (eb _ (by omega)) h1 h2 h3 h4 h5 h6 (ew _ (by omega)) h7 h8 h9
end Go.Proofs.Ytdnileakboefgaa.Pure
