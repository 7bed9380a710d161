/- For every argument the reference and the program close a generated network, and the network of the example, to one table, and all methods return the same results. -/
import Derived.Test.YtkbcgahpekmlbaaJPropagateReference1
import Derived.Test.YtkbcgahpekmlbaaPPgx41
namespace Go.Proofs.Ytkbcgahpekmlbaa.Pure
open Go.RowKit Go.Proofs.Ytkbcgahpekmlbaa.PPg Go.Proofs.YtkbcgahpekmlbaaW.PrintWords Go.Proofs.YtkbcgahpekmlbaaW.PrintLast Go.Proofs.YtkbcgahpekmlbaaW.PrintMore
set_option linter.unusedVariables false
set_option maxRecDepth 100000
/-- The example's events and activities. -/
def exE : List S65 := List.replicate 3 z65
def exA : List S30 := [⟨0, 0, 1, 2, 3, 0⟩, ⟨0, 1, 2, 4, 4, 0⟩, ⟨0, 0, 2, 7, 9, 0⟩]
theorem ex_ok : okN (10 : Nat) exE exA = true := by decide
theorem small_c (w : World) : Calls Try.prog 16 #[] w fun e w' => (∃ A1 c1 A2 c2, e = .returned (.agg #[.int .i64 (10 : Nat), .slice A1 exE.length c1, .slice A2 exA.length c2]) ∧ (Kd.C k65 w' A1 exE.length exE ∧ exE.length ≤ c1) ∧ Kd.C k30 w' A2 exA.length exA ∧ exA.length ≤ c2) ∧ Below w.heap.size w w' := by
  refine (railplanlaw13_small.calls 10 exE exA w rfl).mono ?_
  rintro _ w1 ⟨v1, v2, rfl, h1, h2, hb⟩
  obtain ⟨A1, c1, rfl⟩ := Kd.R_slice h1
  obtain ⟨A2, c2, rfl⟩ := Kd.R_slice h2
  exact ⟨⟨A1, c1, A2, c2, rfl, ⟨(Kd.R_reads' h1).2.2, (Kd.R_reads' h1).2.1⟩, (Kd.R_reads' h2).2.2, (Kd.R_reads' h2).2.1⟩, hb⟩
set_option maxHeartbeats 4000000 in
theorem PropagateReference_walk (w : World) (A0 : Option Addr) (c0 : Nat) (l0 : List Int) (hr0 : Kd.C (Kd.int .i64) w A0 l0.length l0) (hc0 : l0.length ≤ c0) (y0 : l0.length * 8 ≤ 140737488351232) (hw0 : ∀ x ∈ l0, (Lit.int .i64 x).wf = true) (A1' : Option Addr) (c1' : Nat) (l1 : List Int) (hr1 : Kd.C (Kd.int .i64) w A1' l1.length l1) (hc1 : l1.length ≤ c1') (y1 : l1.length * 8 ≤ 140737488351232) (hw1 : ∀ x ∈ l1, (Lit.int .i64 x).wf = true) :
    Calls Try.prog 11 #[.slice A0 l0.length c0, .slice A1' l1.length c1'] w fun e w' => e = .returned (.bool true) ∧ Below w.heap.size w w' := by
  have HF : Aside0 (Fit l0) := ⟨by unfold Fit; omega⟩
  have HF1 : Aside0 (Fit l1) := ⟨by unfold Fit; omega⟩
  have H0 := Aside0.mk hr0
  have H1 := Aside0.mk hr1
  clear hr0 y0 hw0 hr1 y1 hw1
  go_enter Try.func11, Try.ntmps11
  go_wp2_with fail
  refine (Network_c w A0 c0 l0 H0.out hc0 HF.out).mono ?_
  rintro _ w1 ⟨⟨n, ev, ac, v1, v2, rfl, h1, h2, hok⟩, hb⟩
  obtain ⟨A1, c1, rfl⟩ := Kd.R_slice h1
  obtain ⟨A2, c2, rfl⟩ := Kd.R_slice h2
  have HOK := Aside0.mk hok
  obtain ⟨n2, n9, m1, m5, a8, _⟩ := hok
  have n72 : n ≤ 7200 := by omega
  have n1 : 1 ≤ n := by omega
  have m48 : ev.length ≤ 48 := by omega
  have HN : Aside0 (NS w (w1.alloc (.cells #[.int .i64 n, .slice A1 ev.length c1, .slice A2 ac.length c2] 25)) w1.heap.size n (.slice A1 ev.length c1) (.slice A2 ac.length c2) ev ac) := ⟨hb.alloc hb.size _, heap_alloc_new w1 _, Kd.R_alloc h1 _, Kd.R_alloc h2 _⟩
  clear h1 h2 hb
  go_wp2_with fail
  generalize w1.alloc (.cells #[.int .i64 n, .slice A1 ev.length c1, .slice A2 ac.length c2] 25) = W at *
  generalize w1.heap.size = bn at *
  have u0 := NS_0 HN.out
  have u1 := NS_1 HN.out
  have u2 := NS_2 HN.out
  have HC1 := Aside0.mk (Kd.C_below H1.out HN.out.below)
  have tok1 : Tok 1 := trivial
  go_region_held3 (fun w' => w'.cell? ⟨bn, 0, none⟩ = some (.int .i64 n) ∧ w'.cell? ⟨bn, 1, none⟩ = some (.slice A1 ev.length c1) ∧ w'.cell? ⟨bn, 2, none⟩ = some (.slice A2 ac.length c2)) (go_keep)
    (first
      | ((go_at_call 26; refine (Times_c _ (.slice A2 ac.length c2) A1 A1' ev.length c1 c1' l1 (Kd.C_below HC1.out (below_drew (Below.refl _ _))) hc1 HF1.out n1 n72 m48).mono ?_; rintro _ w3 ⟨⟨v, xs, rfl, hx, hxl, hxr⟩, hb⟩; obtain ⟨Ax, cx, rfl⟩ := Kd.R_slice hx; have HN3 := Aside0.mk (NS_next HN.out (below_step (below_drew (Below.refl _ _)) hb)); have HX := Aside0.mk (Kd.R_reads' hx); have z0 := NS_0 HN3.out; have z1 := NS_1 HN3.out; have z2 := NS_2 HN3.out; clear hx hxl hxr hb u0 u1 u2 HN HC1))
      | ((go_at_call 33; have _t := tok1; refine (agrees_c _ A1 A2 Ax c1 c2 cx ev ac xs (Kd.R_reads' HN3.out.evs).2.2 (Kd.R_reads' HN3.out.evs).2.1 (Kd.R_reads' HN3.out.acs).2.2 (Kd.R_reads' HN3.out.acs).2.1 HX.out.2.2 HX.out.2.1 (NetOk_ok HOK.out)).mono ?_; rintro _ w4 ⟨rfl, hb⟩; have HN4 := Aside0.mk (NS_next HN3.out hb); have s0 := NS_0 HN4.out; have s1 := NS_1 HN4.out; have s2 := NS_2 HN4.out; have tok2 : Tok 2 := trivial; clear hb z0 z1 z2 HN3 HX tok1 _t))
      | ((go_at_call 16; refine (small_c _).mono ?_; rintro _ w5 ⟨⟨B1, d1, B2, d2, rfl, hx1, hx2⟩, hb⟩; have HN5 := Aside0.mk (NS_next HN4.out hb); have HX1 := Aside0.mk hx1; have HX2 := Aside0.mk hx2; have r0 := NS_0 HN5.out; have r1 := NS_1 HN5.out; have r2 := NS_2 HN5.out; clear hb s0 s1 s2 HN4 hx1 hx2))
      | ((go_at_call 33; have _t := tok2; refine (agrees_c (n := 10) _ B1 B2 A1' d1 d2 c1' exE exA l1 HX1.out.1 HX1.out.2 HX2.out.1 HX2.out.2 (Kd.C_below H1.out HN5.out.below) hc1 ex_ok).mono ?_; rintro _ w6 ⟨rfl, hb⟩; have HN6 := Aside0.mk (NS_next HN5.out hb); have q0 := NS_0 HN6.out; have q1 := NS_1 HN6.out; have q2 := NS_2 HN6.out; clear hb r0 r1 r2 HN5 HX1 HX2 tok2 _t)))
  clear q0 q1 q2
  go_wp2_with fail
  go_ret
  exact ⟨rfl, HN6.out.below⟩
end Go.Proofs.Ytkbcgahpekmlbaa.Pure
