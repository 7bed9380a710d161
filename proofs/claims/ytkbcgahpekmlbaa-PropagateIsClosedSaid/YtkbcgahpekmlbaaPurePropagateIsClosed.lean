/- For every argument the closed table of a generated network is closed: for all its events the set of i and k is contained in the sum of those of i and j and of j and k, and that of i and i is {0} or empty. -/
import Derived.Test.YtkbcgahpekmlbaaLPgM2
namespace Go.Proofs.Ytkbcgahpekmlbaa.Pure
open Go.RowKit Go.Proofs.Ytkbcgahpekmlbaa.PPg Go.Proofs.YtkbcgahpekmlbaaW.PrintWords Go.Proofs.YtkbcgahpekmlbaaW.PrintLast Go.Proofs.YtkbcgahpekmlbaaW.PrintMore
set_option linter.unusedVariables false
set_option maxRecDepth 100000
set_option maxHeartbeats 4000000 in
theorem PropagateIsClosed_walk (w : World) (A0 : Option Addr) (c0 : Nat) (l0 : List Int) (hr0 : Kd.C (Kd.int .i64) w A0 l0.length l0) (hc0 : l0.length ≤ c0) (y0 : l0.length * 8 ≤ 140737488351232) (hw0 : ∀ x ∈ l0, (Lit.int .i64 x).wf = true) (a1 : Int) (w1 : (Lit.int .i64 a1).wf = true) (a2 : Int) (w2 : (Lit.int .i64 a2).wf = true) (a3 : Int) (w3 : (Lit.int .i64 a3).wf = true) :
    Calls Try.prog 5 #[.slice A0 l0.length c0, .int .i64 a1, .int .i64 a2, .int .i64 a3] w fun e w' => e = .returned (.bool true) ∧ Below w.heap.size w w' := by
  have HF : Aside0 (Fit l0) := ⟨by unfold Fit; omega⟩
  have H0 := Aside0.mk hr0
  clear hr0 y0 hw0 w1 w2 w3
  go_enter Try.func5, Try.ntmps5
  go_wp2_with fail
  refine (Network_c w A0 c0 l0 H0.out hc0 HF.out).mono ?_
  rintro _ w1 ⟨⟨n, ev, ac, v1, v2, rfl, h1, h2, hok⟩, hb⟩
  obtain ⟨A1, c1, rfl⟩ := Kd.R_slice h1
  obtain ⟨A2, c2, rfl⟩ := Kd.R_slice h2
  have HOK := Aside0.mk hok
  have HN := Aside0.mk (heap_alloc_new w1 (.cells #[.int .i64 n, .slice A1 ev.length c1, .slice A2 ac.length c2] 25))
  have HB := Aside0.mk (hb.alloc hb.size (.cells #[.int .i64 n, .slice A1 ev.length c1, .slice A2 ac.length c2] 25))
  have H1 := Aside0.mk (Kd.R_alloc h1 (.cells #[.int .i64 n, .slice A1 ev.length c1, .slice A2 ac.length c2] 25))
  have H2 := Aside0.mk (Kd.R_alloc h2 (.cells #[.int .i64 n, .slice A1 ev.length c1, .slice A2 ac.length c2] 25))
  obtain ⟨n2, n9, m1, m5, _, _⟩ := hok
  have n72 : n ≤ 7200 := by omega
  have n1 : 1 ≤ n := by omega
  have m48 : ev.length ≤ 48 := by omega
  have m105 : ev.length ≤ 100000 := by omega
  clear h1 h2 hb
  go_wp2_with fail
  refine (table_c (NetOk_ok HOK.out) HB.out HN.out H1.out H2.out).mono ?_
  rintro _ w2 ⟨g, q, rfl, hl, hq, _⟩
  have HL := Aside0.mk hl
  have HQ := Aside0.mk hq
  have u1 := LB_1 hl
  clear hl hq HB HN H1 H2
  generalize w1.heap.size = bn at *
  go_wp2_with fail
  refine (Pick_c _ a1 m1 m105).mono ?_
  rintro _ w3 ⟨⟨i, rfl, hi⟩, hd⟩
  replace HL := Aside0.mk (LB_next HL.out hd.below)
  clear hd u1
  go_wp2_with fail
  refine (Pick_c _ a2 m1 m105).mono ?_
  rintro _ w4 ⟨⟨j, rfl, hj⟩, hd⟩
  replace HL := Aside0.mk (LB_next HL.out hd.below)
  clear hd
  go_wp2_with fail
  refine (Pick_c _ a3 m1 m105).mono ?_
  rintro _ w5 ⟨⟨k, rfl, hk⟩, hd⟩
  replace HL := Aside0.mk (LB_next HL.out hd.below)
  clear hd
  have z0 := LB_P HL.out
  have tok1 : Tok 1 := trivial
  go_wp2_with fail
  go_region_held3 (fun w' => w'.cell? ⟨bn, 0, none⟩ = some (.int .i64 n)) (go_keep)
    (first
      | ((go_at_call 18; have _t := tok1; refine (Btw_de HL.out n1 n72 m48 hi hj).mono ?_; rintro _ w6 ⟨⟨Aa, ca, sij, rfl, hv, hij⟩, hl, hb⟩; have HIJ := Aside0.mk hij; have z1 := LB_P hl; have HL6 := Aside0.mk hl; have VA := Aside0.mk hv; clear hij hv hl hb z0 tok1 HL; have tok2 : Tok 2 := trivial))
      | ((go_at_call 18; have _t := tok2; refine (Btw_e HL6.out n1 n72 m48 hj hk).mono ?_; rintro _ w7 ⟨⟨Ab, cb, sjk, rfl, hv, hjk⟩, hl, hb⟩; have HJK := Aside0.mk hjk; have z2 := LB_P hl; have HL7 := Aside0.mk hl; have VB := Aside0.mk hv; replace VA := Aside0.mk (VS_below VA.out hb); clear hjk hv hl hb z1 tok2 HL6))
      | ((go_at_call 21; refine (rSum_e HIJ.out HJK.out n1 n72 VA.out VB.out).mono ?_; rintro _ w8 ⟨⟨As, cs, s, rfl, hv, hs⟩, hb⟩; have z3 := LB_P (LB_next HL7.out hb); have HL8 := Aside0.mk (LB_next HL7.out hb); have VS8 := Aside0.mk hv; have HS8 := Aside0.mk hs; clear hv hs hb z2 HL7 VA VB)))
  go_wp2_with fail
  go_region_held3 (fun w' => w'.cell? ⟨bn, 0, none⟩ = some (.int .i64 n)) (go_keep)
    (first
      | ((go_at_call 18; refine (Btw_de HL8.out n1 n72 m48 hi hk).mono ?_; rintro _ w9 ⟨⟨Ac, cc, sik, rfl, hv, hik⟩, hl, hb⟩; have z4 := LB_P hl; have HL9 := Aside0.mk hl; have VC := Aside0.mk hv; have HIK := Aside0.mk hik; replace VS8 := Aside0.mk (VS_below VS8.out hb); clear hik hv hl hb z3 HL8))
      | ((go_at_call 22; refine (rInt_e HS8.out HIK.out n1 n72 VS8.out VC.out).mono ?_; rintro _ w10 ⟨⟨Ax, cx, x, rfl, hv, hs⟩, hb⟩; have z5 := LB_P (LB_next HL9.out hb); have HL10 := Aside0.mk (LB_next HL9.out hb); have VX := Aside0.mk hv; have HX := Aside0.mk hs; clear hv hs hb z4 HL9 VS8 VC)))
  clear z5
  go_wp2_with fail
  refine (Btw_e HL10.out n1 n72 m48 hi hk).mono ?_
  rintro _ w11 ⟨⟨Ad, cd, sd, rfl, hv, hd⟩, hl, hb⟩
  have HL11 := Aside0.mk hl
  have VX11 := Aside0.mk (VS_below VX.out hb)
  have VD := Aside0.mk hv
  have HE : Aside0 (x = sd) := ⟨by
    rw [← HX.out, ← hd]
    exact inter_all fun y y0 y1 hy => TabOk_FC HQ.out i j k hi hj hk y y0 y1 hy⟩
  have HXL : Aside0 (x.length ≤ 7200) := ⟨by rw [HE.out, ← hd]; exact vld_fit (can_vld _ n1 n72)⟩
  clear hv hd hl hb HL10 VX
  go_wp2_with fail
  refine (Same_c HE.out HXL.out VX11.out VD.out).mono ?_
  rintro _ w12 ⟨rfl, hd⟩
  have HL12 := Aside0.mk (LB_next HL11.out hd.below)
  clear hd HL11 VX11 VD
  go_wp2_with fail
  refine (Emp_c HL12.out).mono ?_
  rcases HQ.out with ⟨hq0, hc1⟩ | hc2
  · rw [hq0, none_of hc1.1]
    rintro _ _ ⟨rfl, rfl⟩
    have HQ0 := Aside0.mk hq0
    clear hq0 hc1
    go_wp2_with fail
    refine (Btw_e HL12.out n1 n72 m48 hi hi).mono ?_
    rintro _ w13 ⟨⟨Ae, ce, se, rfl, hv, hd⟩, hl, hb⟩
    rw [HQ0.out, q0_can] at hd
    subst hd
    have HL13 := Aside0.mk hl
    clear hv hl hb
    go_wp2_with fail
    go_ret
    exact ⟨rfl, HL13.out.below⟩
  · rw [full_iff.2 hc2.full]
    rintro _ _ ⟨rfl, rfl⟩
    have HD := Aside0.mk hc2.diag
    clear hc2
    go_wp2_with fail
    refine (Btw_e HL12.out n1 n72 m48 hi hi).mono ?_
    rintro _ w13 ⟨⟨Ae, ce, se, rfl, hv, hd⟩, hl, hb⟩
    have HL13 := Aside0.mk hl
    have VE := Aside0.mk (VS_alloc hv (.cells #[.int .i64 0, .int .i64 1] 41))
    have HEQ : Aside0 (se = [⟨0, 1⟩]) := ⟨by rw [← hd]; exact one_can n1 hi HD.out⟩
    clear hv hd hl hb
    go_wp2_with fail
    refine (Same_c HEQ.out (by rw [HEQ.out]; simp) VE.out (VS_one w13 0 1)).mono ?_
    rintro _ w14 ⟨rfl, hd⟩
    have HL14 := Aside0.mk (LB_next (LB_next HL13.out ((Below.refl _ _).alloc (Nat.le_refl _) (.cells #[.int .i64 0, .int .i64 1] 41))) hd.below)
    clear hd
    go_wp2_with fail
    go_ret
    exact ⟨rfl, HL14.out.below⟩
end Go.Proofs.Ytkbcgahpekmlbaa.Pure
