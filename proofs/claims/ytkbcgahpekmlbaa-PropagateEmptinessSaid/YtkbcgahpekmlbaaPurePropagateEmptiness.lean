/- For every argument one set of the closed table of a generated network is empty exactly if the table says that a set is empty, and the count of all sets is 0 exactly then. -/
import Derived.Test.YtkbcgahpekmlbaaLPgM3
namespace Go.Proofs.Ytkbcgahpekmlbaa.Pure
open Go.RowKit Go.Proofs.Ytkbcgahpekmlbaa.PPg Go.Proofs.YtkbcgahpekmlbaaW.PrintWords Go.Proofs.YtkbcgahpekmlbaaW.PrintLast Go.Proofs.YtkbcgahpekmlbaaW.PrintMore
set_option linter.unusedVariables false
set_option maxRecDepth 100000
set_option maxHeartbeats 4000000 in
theorem PropagateEmptiness_walk (w : World) (A0 : Option Addr) (c0 : Nat) (l0 : List Int) (hr0 : Kd.C (Kd.int .i64) w A0 l0.length l0) (hc0 : l0.length ≤ c0) (y0 : l0.length * 8 ≤ 140737488351232) (hw0 : ∀ x ∈ l0, (Lit.int .i64 x).wf = true) (a1 : Int) (w1 : (Lit.int .i64 a1).wf = true) (a2 : Int) (w2 : (Lit.int .i64 a2).wf = true) :
    Calls Try.prog 7 #[.slice A0 l0.length c0, .int .i64 a1, .int .i64 a2] w fun e w' => e = .returned (.bool true) ∧ Below w.heap.size w w' := by
  have HF : Aside0 (Fit l0) := ⟨by unfold Fit; omega⟩
  have H0 := Aside0.mk hr0
  clear hr0 y0 hw0 w1 w2
  go_enter Try.func7, Try.ntmps7
  go_wp2_with fail
  refine (Network_c w A0 c0 l0 H0.out hc0 HF.out).mono ?_
  rintro _ w1 ⟨⟨n, ev, ac, v1, v2, rfl, h1, h2, hok⟩, hb⟩
  obtain ⟨A1, c1, rfl⟩ := Kd.R_slice h1
  obtain ⟨A2, c2, rfl⟩ := Kd.R_slice h2
  have HOK := Aside0.mk hok
  have HN := Aside0.mk (heap_alloc_new w1 (.cells #[.int .i64 n, .slice A1 ev.length c1, .slice A2 ac.length c2] 25))
  have HB := Aside0.mk (hb.alloc hb.size (.cells #[.int .i64 n, .slice A1 ev.length c1, .slice A2 ac.length c2] 25))
  have H1 := Aside0.mk (Kd.R_alloc h1 (.cells #[.int .i64 n, .slice A1 ev.length c1, .slice A2 ac.length c2] 25))
  have H2 := Aside0.mk (Kd.R_alloc h2 (.cells #[.int .i64 n, .slice A1 ev.length c1, .slice A2 ac.length c2] 25))
  obtain ⟨n2, n9, m1, m5, _, _⟩ := hok
  have n72 : n ≤ 7200 := by omega
  have n1 : 1 ≤ n := by omega
  have m48 : ev.length ≤ 48 := by omega
  have m105 : ev.length ≤ 100000 := by omega
  clear h1 h2 hb
  go_wp2_with fail
  refine (table_c (NetOk_ok HOK.out) HB.out HN.out H1.out H2.out).mono ?_
  rintro _ w2 ⟨g, q, rfl, hl, hq, _⟩
  have HL := Aside0.mk hl
  have HQ := Aside0.mk hq
  have u1 := LB_1 hl
  clear hl hq HB HN H1 H2
  generalize w1.heap.size = bn at *
  go_wp2_with fail
  refine (Pick_c _ a1 m1 m105).mono ?_
  rintro _ w3 ⟨⟨i, rfl, hi⟩, hd⟩
  replace HL := Aside0.mk (LB_next HL.out hd.below)
  clear hd u1
  go_wp2_with fail
  refine (Pick_c _ a2 m1 m105).mono ?_
  rintro _ w4 ⟨⟨j, rfl, hj⟩, hd⟩
  replace HL := Aside0.mk (LB_next HL.out hd.below)
  clear hd
  go_wp2_with fail
  refine (Btw_e HL.out n1 n72 m48 hi hj).mono ?_
  rintro _ w5 ⟨⟨Aa, ca, s, rfl, hv, hs⟩, hl, hb⟩
  have HL5 := Aside0.mk hl
  clear hv hl hb HL
  rcases HQ.out with ⟨hq0, hc1⟩ | hc2
  · rw [hq0, q0_can] at hs
    subst hs
    have HE : Aside0 (noneIn (tabl n ev.length q) = true) := ⟨by rw [hq0]; exact none_of hc1.1⟩
    have HT : Aside0 (tot n ev.length q = 0) := ⟨by rw [hq0]; exact tot_none n ev.length⟩
    clear hq0 hc1
    go_wp2_with fail
    refine (Emp_c HL5.out).mono ?_
    rw [HE.out]
    rintro _ _ ⟨rfl, rfl⟩
    go_wp2_with fail
    refine (Cnt_c HL5.out n1 n72 m48).mono ?_
    rw [HT.out]
    rintro _ w6 ⟨rfl, hl, hb⟩
    have HL6 := Aside0.mk hl
    clear hl hb
    go_wp2_with fail
    go_ret
    exact ⟨rfl, HL6.out.below⟩
  · have hne : ((s.length : Int) == 0) = false := by
      have : s ≠ [] := by
        rw [← hs]
        obtain ⟨x, x0, x1, hx⟩ := hc2.full i j hi hj
        exact ne_can x0 x1 hx
      have : s.length ≠ 0 := fun e => this (List.eq_nil_of_length_eq_zero e)
      exact beq_eq_false_iff_ne.2 (by omega)
    have hne2 : s ≠ [] := fun e => by rw [e] at hne; simp at hne
    have HE : Aside0 (noneIn (tabl n ev.length q) = false) := ⟨full_iff.2 hc2.full⟩
    obtain ⟨t, ht⟩ : ∃ t, tot n ev.length q = t := ⟨_, rfl⟩
    have htp : (t == 0) = false := by
      have := tot_full n72 m1 hc2.full
      rw [ht] at this
      exact beq_eq_false_iff_ne.2 (by omega)
    have HT := Aside0.mk ht
    clear hc2 hs ht
    go_wp2_with fail
    refine (Emp_c HL5.out).mono ?_
    rw [HE.out]
    rintro _ _ ⟨rfl, rfl⟩
    go_wp2_with fail
    refine (Cnt_c HL5.out n1 n72 m48).mono ?_
    rw [HT.out]
    rintro _ w6 ⟨rfl, hl, hb⟩
    have HL6 := Aside0.mk hl
    clear hl hb
    go_wp2_with fail
    go_ret
    exact ⟨rfl, HL6.out.below⟩
end Go.Proofs.Ytkbcgahpekmlbaa.Pure
