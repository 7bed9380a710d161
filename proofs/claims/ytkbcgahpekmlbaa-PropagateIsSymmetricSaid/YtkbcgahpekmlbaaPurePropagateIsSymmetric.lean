/- For every argument the set of j and i in the closed table of a generated network contains exactly the negated residues of that of i and j. -/
import Derived.Test.YtkbcgahpekmlbaaLPgM3
namespace Go.Proofs.Ytkbcgahpekmlbaa.Pure
open Go.RowKit Go.Proofs.Ytkbcgahpekmlbaa.PPg Go.Proofs.YtkbcgahpekmlbaaW.PrintWords Go.Proofs.YtkbcgahpekmlbaaW.PrintLast Go.Proofs.YtkbcgahpekmlbaaW.PrintMore
set_option linter.unusedVariables false
set_option maxRecDepth 100000
set_option maxHeartbeats 4000000 in
theorem PropagateIsSymmetric_walk (w : World) (A0 : Option Addr) (c0 : Nat) (l0 : List Int) (hr0 : Kd.C (Kd.int .i64) w A0 l0.length l0) (hc0 : l0.length ≤ c0) (y0 : l0.length * 8 ≤ 140737488351232) (hw0 : ∀ x ∈ l0, (Lit.int .i64 x).wf = true) (a1 : Int) (w1 : (Lit.int .i64 a1).wf = true) (a2 : Int) (w2 : (Lit.int .i64 a2).wf = true) (a3 : Int) (w3 : (Lit.int .i64 a3).wf = true) :
    Calls Try.prog 6 #[.slice A0 l0.length c0, .int .i64 a1, .int .i64 a2, .int .i64 a3] w fun e w' => e = .returned (.bool true) ∧ Below w.heap.size w w' := by
  have HF : Aside0 (Fit l0) := ⟨by unfold Fit; omega⟩
  have H0 := Aside0.mk hr0
  clear hr0 y0 hw0 w1 w2 w3
  go_enter Try.func6, Try.ntmps6
  go_wp2_with fail
  refine (Network_c w A0 c0 l0 H0.out hc0 HF.out).mono ?_
  rintro _ w1 ⟨⟨n, ev, ac, v1, v2, rfl, h1, h2, hok⟩, hb⟩
  obtain ⟨A1, c1, rfl⟩ := Kd.R_slice h1
  obtain ⟨A2, c2, rfl⟩ := Kd.R_slice h2
  have HOK := Aside0.mk hok
  have HN := Aside0.mk (heap_alloc_new w1 (.cells #[.int .i64 n, .slice A1 ev.length c1, .slice A2 ac.length c2] 25))
  have HB := Aside0.mk (hb.alloc hb.size (.cells #[.int .i64 n, .slice A1 ev.length c1, .slice A2 ac.length c2] 25))
  have H1 := Aside0.mk (Kd.R_alloc h1 (.cells #[.int .i64 n, .slice A1 ev.length c1, .slice A2 ac.length c2] 25))
  have H2 := Aside0.mk (Kd.R_alloc h2 (.cells #[.int .i64 n, .slice A1 ev.length c1, .slice A2 ac.length c2] 25))
  obtain ⟨n2, n9, m1, m5, _, _⟩ := hok
  have n72 : n ≤ 7200 := by omega
  have n1 : 1 ≤ n := by omega
  have m48 : ev.length ≤ 48 := by omega
  have m105 : ev.length ≤ 100000 := by omega
  clear h1 h2 hb
  go_wp2_with fail
  refine (table_c (NetOk_ok HOK.out) HB.out HN.out H1.out H2.out).mono ?_
  rintro _ w2 ⟨g, q, rfl, hl, hq, _⟩
  have HL := Aside0.mk hl
  have HQ := Aside0.mk hq
  have u1 := LB_1 hl
  clear hl hq HB HN H1 H2
  generalize w1.heap.size = bn at *
  go_wp2_with fail
  refine (Pick_c _ a1 m1 m105).mono ?_
  rintro _ w3 ⟨⟨i, rfl, hi⟩, hd⟩
  replace HL := Aside0.mk (LB_next HL.out hd.below)
  clear hd u1
  go_wp2_with fail
  refine (Pick_c _ a2 m1 m105).mono ?_
  rintro _ w4 ⟨⟨j, rfl, hj⟩, hd⟩
  replace HL := Aside0.mk (LB_next HL.out hd.below)
  clear hd
  have z0 := LB_P HL.out
  go_wp2_with fail
  refine (Pick_c _ a3 n1 (by omega)).mono ?_
  rintro _ w5 ⟨⟨d, rfl, hd'⟩, hd⟩
  replace HL := Aside0.mk (LB_next HL.out hd.below)
  clear hd z0
  have z0 := LB_P HL.out
  have g1 : IntKind.i64.wrap (-(d : Int)) = -(d : Int) := (IntWalk.i64_left _).trans (IntWalk.wrap64_in _ (by omega))
  obtain ⟨b, hb⟩ : ∃ b, q i j d = b := ⟨_, rfl⟩
  have HB1 : Aside0 (q i j ((d : Int) % n) = b) := ⟨by rw [em_lo (by omega) (by omega)]; exact hb⟩
  have HB2 : Aside0 (q j i ((-(d : Int)) % n) = b) := ⟨by rw [TabOk_sym HQ.out hi hj (by omega) (by omega)]; exact hb⟩
  clear hb
  have tok1 : Tok 1 := trivial
  go_wp2_with fail
  go_region_held3 (fun w' => w'.cell? ⟨bn, 0, none⟩ = some (.int .i64 n)) (go_keep)
    (first
      | ((go_at_call 18; have _t := tok1; refine (Btw_de HL.out n1 n72 m48 hi hj).mono ?_; rintro _ w6 ⟨⟨Aa, ca, sij, rfl, hv, hij⟩, hl, hb⟩; have z1 := LB_P hl; have HL6 := Aside0.mk hl; have VA := Aside0.mk hv; have HIJ := Aside0.mk hij; clear hij hv hl hb z0 tok1 HL; have tok2 : Tok 2 := trivial))
      | ((go_at_call 23; have _t := tok2; refine (rHas_e HIJ.out n1 n72 HB1.out VA.out).mono ?_; rintro _ w7 ⟨rfl, hd⟩; have z2 := LB_P (LB_next HL6.out hd.below); have HL7 := Aside0.mk (LB_next HL6.out hd.below); clear hd z1 tok2 HL6 VA; have tok3 : Tok 3 := trivial))
      | ((go_at_call 18; have _t := tok3; refine (Btw_e HL7.out n1 n72 m48 hj hi).mono ?_; rintro _ w8 ⟨⟨Ab, cb, sji, rfl, hv, hji⟩, hl, hb⟩; have z3 := LB_P hl; have HL8 := Aside0.mk hl; have VB := Aside0.mk hv; have HJI := Aside0.mk hji; clear hji hv hl hb z2 tok3 HL7; have tok4 : Tok 4 := trivial))
      | ((go_at_call 23; have _t := tok4; refine (rHas_e HJI.out n1 n72 HB2.out VB.out).mono ?_; rintro _ w9 ⟨rfl, hd⟩; have z4 := LB_P (LB_next HL8.out hd.below); have HL9 := Aside0.mk (LB_next HL8.out hd.below); clear hd z3 tok4 HL8 VB; have tok5 : Tok 5 := trivial))
      | ((go_at_call 18; have _t := tok5; refine (Btw_o HL9.out (-1) 0 (.inl (by omega))).mono ?_; rintro _ _ ⟨rfl, rfl⟩; clear tok5)))
  go_wp2_with fail
  go_ret
  exact ⟨rfl, HL9.out.below⟩
end Go.Proofs.Ytkbcgahpekmlbaa.Pure
