/- Has, Count and Next return the same results as the reference, for valid sets and for arbitrary lists, for every argument. -/
import Derived.Test.YtdnileakboefgaaLResidueQueriesAW
import Derived.Test.YtdnileakboefgaaLResidueQueriesCS
import Derived.Test.YtdnileakboefgaaLResidueQueriesDHas
import Derived.Test.YtdnileakboefgaaLResidueQueriesDCount
import Derived.Test.YtdnileakboefgaaLResidueQueriesDNext
import Derived.Test.YtdnileakboefgaaLResidueQueriesRHas
import Derived.Test.YtdnileakboefgaaLResidueQueriesRCount
import Derived.Test.YtdnileakboefgaaLResidueQueriesRNext
import Derived.Test.YtdnileakboefgaaLResidueQueriesVQry
namespace Go.Proofs.Ytdnileakboefgaa.Pure
open Go.RowKit Go.Proofs.Ytdnileakboefgaa.PResidueQueries Go.Proofs.YtdnileakboefgaaW.PrintWords Go.Proofs.YtdnileakboefgaaW.PrintLast Go.Proofs.YtdnileakboefgaaW.PrintMore
set_option linter.unusedVariables false
set_option maxHeartbeats 1000000 in
theorem walk_true (w : World) (k : Nat) (a0 p x d c : Int) (ok h : Bool) (A1 As : Option Addr) (c1 cs : Nat) (l1 : List Int) (s a : List S35)
  (hr1 : Kd.C (Kd.int .i64) w A1 l1.length l1) (hc1 : l1.length ≤ c1) (Vs : VS w (.slice As s.length cs) s)
  (hp : railplankeep_Period.f a0 = some p) (ha : railplankeep_Set.f k p l1 = some a)
  (h1 : residue_Next.f k p s x = some (d, ok)) (h2 : railplanref1_Next.f k p s x = some (d, ok)) (h3 : residue_Has.f k p s x = some h) (h4 : railplanref1_Has.f k p s x = some h) (h5 : residue_Count.f k p s = some c) (h6 : railplanref1_Count.f k p s = some c)
  (hw : railplanlaw2_awake.f k = some true) :
   Calls Try.prog 9 #[.int .i64 a0, .slice A1 l1.length c1, .int .i64 x, .slice As s.length cs, .bool true] w fun e w' => e = .returned (.bool true) ∧ Below w.heap.size w w' := by
  have HB := Below.refl w.heap.size w
  go_enter Try.func9, Try.ntmps9
  go_wp2_with fail
  refine (Period_c hp).mono ?_
  rintro _ w1 ⟨rfl, hb⟩
  replace hr1 := Kd.C_below hr1 hb
  replace Vs := VS_below Vs hb
  replace HB := below_step HB hb
  clear hb
  go_wp2_with fail
  refine (Set_c ha hr1 hc1).mono ?_
  rintro _ w2 ⟨Aa, ca, rfl, Va, hb⟩
  replace hr1 := Kd.C_below hr1 hb
  replace Vs := VS_below Vs hb
  replace HB := below_step HB hb
  clear hb
  go_wp2_with fail
  refine (Next_c h1 Vs).mono ?_
  rintro _ w3 ⟨rfl, hb⟩
  replace hr1 := Kd.C_below hr1 hb
  replace Vs := VS_below Vs hb
  replace Va := VS_below Va hb
  replace HB := below_step HB hb
  clear hb
  go_wp2_with fail
  refine (rNext_c h2 Vs).mono ?_
  rintro _ w4 ⟨rfl, hb⟩
  replace hr1 := Kd.C_below hr1 hb
  replace Vs := VS_below Vs hb
  replace Va := VS_below Va hb
  replace HB := below_step HB hb
  clear hb
  go_wp2_with fail
  refine (awake_c hw).mono ?_
  rintro _ w5 ⟨rfl, hb⟩
  replace hr1 := Kd.C_below hr1 hb
  replace Vs := VS_below Vs hb
  replace Va := VS_below Va hb
  replace HB := below_step HB hb
  clear hb
  go_wp2_with fail
  refine (Has_c h3 Vs).mono ?_
  rintro _ w6 ⟨rfl, hb⟩
  replace hr1 := Kd.C_below hr1 hb
  replace Vs := VS_below Vs hb
  replace Va := VS_below Va hb
  replace HB := below_step HB hb
  clear hb
  go_wp2_with fail
  refine (rHas_c h4 Vs).mono ?_
  rintro _ w7 ⟨rfl, hb⟩
  replace hr1 := Kd.C_below hr1 hb
  replace Vs := VS_below Vs hb
  replace Va := VS_below Va hb
  replace HB := below_step HB hb
  clear hb
  go_wp2_with fail
  refine (Count_c h5 Vs).mono ?_
  rintro _ w8 ⟨rfl, hb⟩
  replace hr1 := Kd.C_below hr1 hb
  replace Vs := VS_below Vs hb
  replace Va := VS_below Va hb
  replace HB := below_step HB hb
  clear hb
  go_wp2_with fail
  refine (rCount_c h6 Vs).mono ?_
  rintro _ w9 ⟨rfl, hb⟩
  replace hr1 := Kd.C_below hr1 hb
  replace Vs := VS_below Vs hb
  replace Va := VS_below Va hb
  replace HB := below_step HB hb
  clear hb
  go_wp2_with fail
  go_ret
  exact ⟨rfl, HB⟩
set_option maxHeartbeats 1000000 in
theorem walk_false (w : World) (k : Nat) (a0 p x d c : Int) (ok h : Bool) (A1 As : Option Addr) (c1 cs : Nat) (l1 : List Int) (s a : List S35)
  (hr1 : Kd.C (Kd.int .i64) w A1 l1.length l1) (hc1 : l1.length ≤ c1) (Vs : VS w (.slice As s.length cs) s)
  (hp : railplankeep_Period.f a0 = some p) (ha : railplankeep_Set.f k p l1 = some a)
  (h1 : residue_Next.f k p a x = some (d, ok)) (h2 : railplanref1_Next.f k p a x = some (d, ok)) (h3 : residue_Has.f k p a x = some h) (h4 : railplanref1_Has.f k p a x = some h) (h5 : residue_Count.f k p a = some c) (h6 : railplanref1_Count.f k p a = some c)
  (hw : railplanlaw2_awake.f k = some true) :
   Calls Try.prog 9 #[.int .i64 a0, .slice A1 l1.length c1, .int .i64 x, .slice As s.length cs, .bool false] w fun e w' => e = .returned (.bool true) ∧ Below w.heap.size w w' := by
  have HB := Below.refl w.heap.size w
  go_enter Try.func9, Try.ntmps9
  go_wp2_with fail
  refine (Period_c hp).mono ?_
  rintro _ w1 ⟨rfl, hb⟩
  replace hr1 := Kd.C_below hr1 hb
  replace Vs := VS_below Vs hb
  replace HB := below_step HB hb
  clear hb
  go_wp2_with fail
  refine (Set_c ha hr1 hc1).mono ?_
  rintro _ w2 ⟨Aa, ca, rfl, Va, hb⟩
  replace hr1 := Kd.C_below hr1 hb
  replace Vs := VS_below Vs hb
  replace HB := below_step HB hb
  clear hb
  go_wp2_with fail
  refine (Next_c h1 Va).mono ?_
  rintro _ w3 ⟨rfl, hb⟩
  replace hr1 := Kd.C_below hr1 hb
  replace Vs := VS_below Vs hb
  replace Va := VS_below Va hb
  replace HB := below_step HB hb
  clear hb
  go_wp2_with fail
  refine (rNext_c h2 Va).mono ?_
  rintro _ w4 ⟨rfl, hb⟩
  replace hr1 := Kd.C_below hr1 hb
  replace Vs := VS_below Vs hb
  replace Va := VS_below Va hb
  replace HB := below_step HB hb
  clear hb
  go_wp2_with fail
  refine (awake_c hw).mono ?_
  rintro _ w5 ⟨rfl, hb⟩
  replace hr1 := Kd.C_below hr1 hb
  replace Vs := VS_below Vs hb
  replace Va := VS_below Va hb
  replace HB := below_step HB hb
  clear hb
  go_wp2_with fail
  refine (Has_c h3 Va).mono ?_
  rintro _ w6 ⟨rfl, hb⟩
  replace hr1 := Kd.C_below hr1 hb
  replace Vs := VS_below Vs hb
  replace Va := VS_below Va hb
  replace HB := below_step HB hb
  clear hb
  go_wp2_with fail
  refine (rHas_c h4 Va).mono ?_
  rintro _ w7 ⟨rfl, hb⟩
  replace hr1 := Kd.C_below hr1 hb
  replace Vs := VS_below Vs hb
  replace Va := VS_below Va hb
  replace HB := below_step HB hb
  clear hb
  go_wp2_with fail
  refine (Count_c h5 Va).mono ?_
  rintro _ w8 ⟨rfl, hb⟩
  replace hr1 := Kd.C_below hr1 hb
  replace Vs := VS_below Vs hb
  replace Va := VS_below Va hb
  replace HB := below_step HB hb
  clear hb
  go_wp2_with fail
  refine (rCount_c h6 Va).mono ?_
  rintro _ w9 ⟨rfl, hb⟩
  replace hr1 := Kd.C_below hr1 hb
  replace Vs := VS_below Vs hb
  replace Va := VS_below Va hb
  replace HB := below_step HB hb
  clear hb
  go_wp2_with fail
  go_ret
  exact ⟨rfl, HB⟩
theorem ResidueQueries_walk (w : World) (a0 : Int) (w0 : (Lit.int .i64 a0).wf = true) (A1 : Option Addr) (c1 : Nat) (l1 : List Int) (hr1 : Kd.C (Kd.int .i64) w A1 l1.length l1) (hc1 : l1.length ≤ c1) (y1 : l1.length * 8 ≤ 140737488351232) (hw1 : ∀ x ∈ l1, (Lit.int .i64 x).wf = true)
    (x : Int) (wx : (Lit.int .i64 x).wf = true)
    (A3 : Option Addr) (c3 : Nat) (s : List S35) (hr3 : Kd.C k35 w A3 s.length s) (hc3 : s.length ≤ c3) (hf3 : Fit s) (hw3 : ∀ u ∈ s, (Lit.int .i64 u.f0).wf = true ∧ (Lit.int .i64 u.f1).wf = true) (raw : Bool) :
    Calls Try.prog 9 #[.int .i64 a0, .slice A1 l1.length c1, .int .i64 x, .slice A3 s.length c3, .bool raw] w fun e w' => e = .returned (.bool true) ∧ Below w.heap.size w w' := by
  obtain ⟨n, hn, n1, n2⟩ := Period_some a0
  have hn2 : n ≤ 7200 := by omega
  obtain ⟨a, ⟨K1, ea⟩, va⟩ := Set_ev l1 (by unfold Fit; omega) n n1 hn2
  have fa := fit_le (vld_fit va)
  have all : ∀ t : List S35, Fit t → ∃ d ok h c K, ∀ k, K ≤ k → residue_Next.f k n t x = some (d, ok) ∧ railplanref1_Next.f k n t x = some (d, ok) ∧ residue_Has.f k n t x = some h ∧ railplanref1_Has.f k n t x = some h ∧ residue_Count.f k n t = some c ∧ railplanref1_Count.f k n t = some c := by
    intro t ft
    obtain ⟨d, ok, ⟨k1, e1⟩, g1, g2⟩ := Next_ev n n1 hn2 t ft x
    obtain ⟨k2, e2⟩ := rNext_ev n n1 hn2 t ft x d ok g1 g2
    obtain ⟨k3, e3⟩ := Has_ev n n1 hn2 t ft x
    obtain ⟨k4, e4⟩ := rHas_ev n n1 hn2 t ft x
    obtain ⟨k5, e5⟩ := Count_ev n n1 hn2 t ft
    obtain ⟨k6, e6⟩ := rCount_ev n n1 hn2 t ft
    exact ⟨d, ok, _, _, k1 + k2 + k3 + k4 + k5 + k6, fun k hk => ⟨e1 k (by omega), e2 k (by omega), e3 k (by omega), e4 k (by omega), e5 k (by omega), e6 k (by omega)⟩⟩
  obtain ⟨K3, ew⟩ := awake_ev
  cases raw with
  | true =>
    obtain ⟨d, ok, h, c, K, hh⟩ := all s hf3
    obtain ⟨h1, h2, h3, h4, h5, h6⟩ := hh (K1 + K3 + K) (by omega)
    exact walk_true w (K1 + K3 + K) a0 n x d c ok h A1 A3 c1 c3 l1 s a hr1 hc1 (VS_of hr3 hc3) hn (ea _ (by omega)) h1 h2 h3 h4 h5 h6 (ew _ (by omega))
  | false =>
    obtain ⟨d, ok, h, c, K, hh⟩ := all a fa
    obtain ⟨h1, h2, h3, h4, h5, h6⟩ := hh (K1 + K3 + K) (by omega)
    exact walk_false w (K1 + K3 + K) a0 n x d c ok h A1 A3 c1 c3 l1 s a hr1 hc1 (VS_of hr3 hc3) hn (ea _ (by omega)) h1 h2 h3 h4 h5 h6 (ew _ (by omega))
end Go.Proofs.Ytdnileakboefgaa.Pure
