/- For every argument feasible times of a generated network are allowed by its closed table, and there are none if the table is empty. -/
import Derived.Test.YtkbcgahpekmlbaaLPgN4
namespace Go.Proofs.Ytkbcgahpekmlbaa.Pure
open Go.RowKit Go.Proofs.Ytkbcgahpekmlbaa.PPg Go.Proofs.YtkbcgahpekmlbaaW.PrintWords Go.Proofs.YtkbcgahpekmlbaaW.PrintLast Go.Proofs.YtkbcgahpekmlbaaW.PrintMore
set_option linter.unusedVariables false
set_option maxRecDepth 100000
set_option maxHeartbeats 4000000 in
theorem PropagateIsSound_walk (w : World) (A0 : Option Addr) (c0 : Nat) (l0 : List Int) (hr0 : Kd.C (Kd.int .i64) w A0 l0.length l0) (hc0 : l0.length ≤ c0) (y0 : l0.length * 8 ≤ 140737488351232) (hw0 : ∀ x ∈ l0, (Lit.int .i64 x).wf = true) (A1' : Option Addr) (c1' : Nat) (l1 : List Int) (hr1 : Kd.C (Kd.int .i64) w A1' l1.length l1) (hc1 : l1.length ≤ c1') (y1 : l1.length * 8 ≤ 140737488351232) (hw1 : ∀ x ∈ l1, (Lit.int .i64 x).wf = true) :
    Calls Try.prog 9 #[.slice A0 l0.length c0, .slice A1' l1.length c1'] w fun e w' => e = .returned (.bool true) ∧ Below w.heap.size w w' := by
  have HF : Aside0 (Fit l0) := ⟨by unfold Fit; omega⟩
  have HF1 : Aside0 (Fit l1) := ⟨by unfold Fit; omega⟩
  have H0 := Aside0.mk hr0
  have H1 := Aside0.mk hr1
  clear hr0 y0 hw0 hr1 y1 hw1
  go_enter Try.func9, Try.ntmps9
  go_wp2_with fail
  refine (Slack_c w A0 c0 l0 H0.out hc0 HF.out).mono ?_
  rintro _ w1 ⟨⟨n, ev, ac, v1, v2, rfl, h1, h2, hok⟩, hb⟩
  obtain ⟨A1, c1, rfl⟩ := Kd.R_slice h1
  obtain ⟨A2, c2, rfl⟩ := Kd.R_slice h2
  have HOK := Aside0.mk hok
  have HC1 := Aside0.mk (Kd.C_below H1.out hb)
  obtain ⟨n2, n9, m1, m5, a8, _⟩ := hok
  have n72 : n ≤ 7200 := by omega
  have n1 : 1 ≤ n := by omega
  have m48 : ev.length ≤ 48 := by omega
  have HE := Aside0.mk h1
  have HA := Aside0.mk h2
  have HB := Aside0.mk hb
  clear h1 h2 hb
  go_wp2_with fail
  have HN : Aside0 (NS w (w1.alloc (.cells #[.int .i64 n, .slice A1 ev.length c1, .slice A2 ac.length c2] 25)) w1.heap.size n (.slice A1 ev.length c1) (.slice A2 ac.length c2) ev ac) := ⟨HB.out.alloc HB.out.size _, heap_alloc_new w1 _, Kd.R_alloc HE.out _, Kd.R_alloc HA.out _⟩
  refine (Times_c _ (.slice A2 ac.length c2) A1 A1' ev.length c1 c1' l1 (Kd.C_below HC1.out ((Below.refl w1.heap.size w1).alloc (Nat.le_refl _) (.cells #[.int .i64 n, .slice A1 ev.length c1, .slice A2 ac.length c2] 25))) hc1 HF1.out n1 n72 m48).mono ?_
  rintro _ w2 ⟨⟨v, xs, rfl, hx, hxl, hxr⟩, hb⟩
  obtain ⟨Ax, cx, rfl⟩ := Kd.R_slice hx
  replace HN := Aside0.mk (NS_next HN.out hb)
  have HX := Aside0.mk hx
  clear hx hxl hxr hb HE HA HB HC1
  generalize w1.heap.size = bn at *
  have u0 := NS_0 HN.out
  have u1 := NS_1 HN.out
  have u2 := NS_2 HN.out
  go_wp2_with fail
  refine (NS_table HN.out (NetOk_ok HOK.out)).mono ?_
  rintro _ w3 ⟨g, q, rfl, hl, hq, hb⟩
  replace HN := Aside0.mk (NS_next HN.out hb)
  have HL := Aside0.mk hl
  have HQ := Aside0.mk hq
  have HC := Aside0.mk (Kd.C_below (Kd.R_reads' HX.out).2.2 hb)
  have mx := (Kd.R_reads' HX.out).2.1
  clear hl hq hb u0 u1 u2 HX
  have u0 := NS_0 HN.out
  have u1 := NS_1 HN.out
  have u2 := NS_2 HN.out
  obtain ⟨fe, hfe⟩ : ∃ fe, (okT n ev ac xs && !ac.any (overA n xs)) = fe := ⟨_, rfl⟩
  have HFE : Aside0 (∃ K, railplanref11_Feasible.f K n ev ac xs = some fe) := ⟨by rw [← hfe]; exact (Feasible_ev n ev ac xs (fit_le (by omega)) (fit_le (by omega))).rounds⟩
  have HCE := Aside0.mk (Kd.R_reads' HN.out.evs).2
  have HCA := Aside0.mk (Kd.R_reads' HN.out.acs).2
  cases fe with
  | false =>
    clear hfe
    go_wp2_with fail
    obtain ⟨K, hK⟩ := HFE.out
    refine (railplanref11_Feasible.calls K n A1 c1 ev A2 c2 ac Ax cx xs _ _ HCE.out.2 HCE.out.1 HCA.out.2 HCA.out.1 HC.out mx hK).mono ?_
    rintro _ w4 ⟨rfl, hb⟩
    have HL4 := Aside0.mk (LB_next HL.out hb)
    clear hb hK
    go_wp2_with fail
    go_ret
    exact ⟨rfl, HL4.out.below⟩
  | true =>
    rw [Bool.and_eq_true, Bool.not_eq_true'] at hfe
    have HS := Aside0.mk (sound HQ.out (NetOk_ok HOK.out) hfe.2)
    have HT := Aside0.mk hfe.1
    clear hfe
    go_wp2_with fail
    obtain ⟨K, hK⟩ := HFE.out
    refine (railplanref11_Feasible.calls K n A1 c1 ev A2 c2 ac Ax cx xs _ _ HCE.out.2 HCE.out.1 HCA.out.2 HCA.out.1 HC.out mx hK).mono ?_
    rintro _ w4 ⟨rfl, hb⟩
    have HL4 := Aside0.mk (LB_next HL.out hb)
    have HC4 := Aside0.mk (Kd.C_below HC.out hb)
    clear hb hK u0 u1 u2
    go_wp2_with fail
    obtain ⟨B, hB⟩ := HL4.out.tab
    refine (Allows_c _ B g ev ac q Ax cx xs hB HC4.out).mono ?_
    rw [HT.out, HS.out.1]
    rintro _ w5 ⟨rfl, hb⟩
    have HL5 := Aside0.mk (LB_next HL4.out hb)
    clear hb hB
    go_wp2_with fail
    refine (Emp_c HL5.out).mono ?_
    rw [full_iff.2 HS.out.2]
    rintro _ _ ⟨rfl, rfl⟩
    go_wp2_with fail
    go_ret
    exact ⟨rfl, HL5.out.below⟩
end Go.Proofs.Ytkbcgahpekmlbaa.Pure
