/- For every argument Close rejects exactly the networks that are not valid: a generated network with one number changed, and any network. -/
import Derived.Test.YtkbcgahpekmlbaaJPropagateRejects0
namespace Go.Proofs.Ytkbcgahpekmlbaa.PPg
open Go.RowKit Go.Proofs.YtkbcgahpekmlbaaW.PrintWords Go.Proofs.YtkbcgahpekmlbaaW.PrintLast Go.Proofs.YtkbcgahpekmlbaaW.PrintMore
set_option linter.unusedVariables false
set_option maxRecDepth 100000
/-- The law's memory: the network that came in at bn, the changed one at bm. -/
structure RJ (w0 W : World) (bn bm : Nat) (P : Int) (A1 A2 : Option Addr) (c1 c2 : Nat) (evn : List S65) (acn : List S30) (P' : Int) (v3 v4 : Value) (ev : List S65) (ac : List S30) : Prop where
  netn : W.heap[bn]? = some (.cells #[.int .i64 P, .slice A1 evn.length c1, .slice A2 acn.length c2] 25 (0, 0))
  nev : Kd.C k65 w0 A1 evn.length evn
  nac : Kd.C k30 w0 A2 acn.length acn
  netm : W.heap[bm]? = some (.cells #[.int .i64 P', v3, v4] 25 (0, 0))
  evs : Kd.R k65 65 W w0.heap.size (fun _ => True) v3 ev
  acs : Kd.R k30 30 W w0.heap.size (fun _ => True) v4 ac
  below : Below w0.heap.size w0 W
  ge : w0.heap.size ≤ bm
  ne : bn ≠ bm
section
variable {w0 W W' : World} {bn bm : Nat} {P : Int} {A1 A2 : Option Addr} {c1 c2 : Nat} {evn : List S65} {acn : List S30} {P' : Int} {v3 v4 : Value} {ev : List S65} {ac : List S30}
theorem RJ_next (h : RJ w0 W bn bm P A1 A2 c1 c2 evn acn P' v3 v4 ev ac) (hb : Below W.heap.size W W') : RJ w0 W' bn bm P A1 A2 c1 c2 evn acn P' v3 v4 ev ac :=
  ⟨(hb.block bn (blk_lt h.netn)).trans h.netn, h.nev, h.nac, (hb.block bm (blk_lt h.netm)).trans h.netm, Kd.R_below h.evs hb, Kd.R_below h.acs hb, below_step h.below hb, h.ge, h.ne⟩
theorem RJ_S (h : RJ w0 W bn bm P A1 A2 c1 c2 evn acn P' v3 v4 ev ac) : (W.cell? ⟨bm, 0, none⟩ = some (.int .i64 P') ∧ W.cell? ⟨bm, 1, none⟩ = some v3 ∧ W.cell? ⟨bm, 2, none⟩ = some v4) ∧ W.cell? ⟨bn, 0, none⟩ = some (.int .i64 P) ∧ W.cell? ⟨bn, 1, none⟩ = some (.slice A1 evn.length c1) ∧ W.cell? ⟨bn, 2, none⟩ = some (.slice A2 acn.length c2) :=
  ⟨⟨(blk_cell h.netm 0).trans rfl, (blk_cell h.netm 1).trans rfl, (blk_cell h.netm 2).trans rfl⟩, (blk_cell h.netn 0).trans rfl, (blk_cell h.netn 1).trans rfl, (blk_cell h.netn 2).trans rfl⟩
theorem RJ_n (h : RJ w0 W bn bm P A1 A2 c1 c2 evn acn P' v3 v4 ev ac) : Kd.C k65 W A1 evn.length evn ∧ Kd.C k30 W A2 acn.length acn := ⟨Kd.C_below h.nev h.below, Kd.C_below h.nac h.below⟩
theorem RJ_row {g K cap : Nat} (h : RJ w0 W bn bm P A1 A2 c1 c2 evn acn P' v3 (.slice (some ⟨g, 0, none⟩) K cap) ev ac) (hK : 0 < K) : w0.heap.size ≤ g ∧ ∃ cells, W.heap[g]? = some (.cells cells 30 (0, 0)) := by
  have hn := (Kd.R_reads' h.acs).1
  obtain ⟨g', c', e, hb, _, cells, hc⟩ := Kd.R_form h.acs (by omega)
  injection e with e _ _
  injection e with e
  injection e with e
  subst e
  exact ⟨hb, cells, hc⟩
theorem RJ_far {g K cap j : Nat} {u : Value} {ac' : List S30} (h : RJ w0 W bn bm P A1 A2 c1 c2 evn acn P' v3 (.slice (some ⟨g, 0, none⟩) K cap) ev ac) (hK : 0 < K) (ha : Kd.R k30 30 (W.setCell ⟨g, j, none⟩ u) w0.heap.size (fun _ => True) (.slice (some ⟨g, 0, none⟩) K cap) ac') :
    RJ w0 (W.setCell ⟨g, j, none⟩ u) bn bm P A1 A2 c1 c2 evn acn P' v3 (.slice (some ⟨g, 0, none⟩) K cap) ev ac' := by
  obtain ⟨hb, cells, hc⟩ := RJ_row h hK
  exact ⟨blk_other h.netn hc (by decide) _ _, h.nev, h.nac, blk_other h.netm hc (by decide) _ _, Kd.R_set h.evs hc (fun q hq => by have := E65 q hq; omega) _ _, ha, h.below.setCell (p := ⟨g, j, none⟩) hb _, h.ge, h.ne⟩
theorem RJ_period (h : RJ w0 W bn bm P A1 A2 c1 c2 evn acn P' v3 v4 ev ac) (x : Int) : RJ w0 (W.setCell ⟨bm, 0, none⟩ (.int .i64 x)) bn bm P A1 A2 c1 c2 evn acn x v3 v4 ev ac :=
  ⟨(Below.heap_setCell W ⟨bm, 0, none⟩ _ bn h.ne).trans h.netn, h.nev, h.nac, blk_set h.netm 0 _, Kd.R_set h.evs h.netm (fun q hq => by have := E65 q hq; omega) _ _, Kd.R_set h.acs h.netm (fun q hq => by have := E30 q hq; omega) _ _, h.below.setCell h.ge _, h.ge, h.ne⟩
end
theorem Pick_q {w : World} {n : Nat} {a m r : Int} (h : railplankeep_Pick.f a m = some r) :
    Calls Try.prog 13 #[.int .i64 a, .int .i64 m] (w.drewN n) fun e w'' => e = .returned (.int .i64 r) ∧ ∃ q, w'' = w.drewN q := by
  refine (railplankeep_Pick.calls a m r (w.drewN n) h).mono ?_
  rintro e w' ⟨he, ⟨m, hm⟩⟩
  exact ⟨he, n + m, by rw [hm, World.drewN_drewN]⟩
theorem rChk {w : World} {P : Int} {A1 A2 : Option Addr} {c1 c2 : Nat} {ev : List S65} {ac : List S30} {b : Bool} (h1 : Kd.C k65 w A1 ev.length ev) (h2 : Kd.C k30 w A2 ac.length ac) (hc1 : ev.length ≤ c1) (hc2 : ac.length ≤ c2) (hb : okN P ev ac = b) :
    Calls Try.prog 15 #[.agg #[.int .i64 P, .slice A1 ev.length c1, .slice A2 ac.length c2]] w fun e w' => e = .returned (.bool b) ∧ Below w.heap.size w w' := by
  subst hb
  obtain ⟨K, hK⟩ := (Check_ev P ev ac).rounds
  exact railplanref11_Check.calls K P A1 c1 ev A2 c2 ac _ w h1 hc1 h2 hc2 hK
end Go.Proofs.Ytkbcgahpekmlbaa.PPg
namespace Go.Proofs.Ytkbcgahpekmlbaa.Pure
open Go.RowKit Go.Proofs.Ytkbcgahpekmlbaa.PPg Go.Proofs.YtkbcgahpekmlbaaW.PrintWords Go.Proofs.YtkbcgahpekmlbaaW.PrintLast Go.Proofs.YtkbcgahpekmlbaaW.PrintMore
set_option linter.unusedVariables false
set_option maxRecDepth 100000
set_option maxHeartbeats 4000000 in
theorem PropagateRejects_walk (w : World) (P : Int) (A1 A2 : Option Addr) (c1 c2 : Nat) (evn : List S65) (acn : List S30) (h1 : Kd.C k65 w A1 evn.length evn) (hc1 : evn.length ≤ c1) (h2 : Kd.C k30 w A2 acn.length acn) (hc2 : acn.length ≤ c2)
    (A0 : Option Addr) (c0 : Nat) (l0 : List Int) (hr0 : Kd.C (Kd.int .i64) w A0 l0.length l0) (hc0 : l0.length ≤ c0) (y0 : l0.length * 8 ≤ 140737488351232) (hw0 : ∀ x ∈ l0, (Lit.int .i64 x).wf = true) (a2 : Int) (w2 : (Lit.int .i64 a2).wf = true) (a3 : Int) (w3 : (Lit.int .i64 a3).wf = true) (a4 : Int) (w4 : (Lit.int .i64 a4).wf = true) :
    Calls Try.prog 3 #[.agg #[.int .i64 P, .slice A1 evn.length c1, .slice A2 acn.length c2], .slice A0 l0.length c0, .int .i64 a2, .int .i64 a3, .int .i64 a4] w fun e w' => e = .returned (.bool true) ∧ Below w.heap.size w w' := by
  have HF : Aside0 (Fit l0) := ⟨by unfold Fit; omega⟩
  have H0 := Aside0.mk hr0
  have H1 := Aside0.mk h1
  have H2 := Aside0.mk h2
  clear hr0 y0 hw0 w2 w3 w4 h1 h2
  go_enter Try.func3, Try.ntmps3
  go_wp2_with fail
  refine (Network_c _ A0 c0 l0 (Kd.C_alloc H0.out _) hc0 HF.out).mono ?_
  rintro _ w1 ⟨⟨n, ev, ac, v3, v4, rfl, g1, g2, hok⟩, hb⟩
  obtain ⟨A3, c3, rfl⟩ := Kd.R_slice g1
  obtain ⟨A4, c4, rfl⟩ := Kd.R_slice g2
  have HJ : Aside0 (RJ w (w1.alloc (.cells #[.int .i64 n, .slice A3 ev.length c3, .slice A4 ac.length c4] 25)) w.heap.size w1.heap.size P A1 A2 c1 c2 evn acn n (.slice A3 ev.length c3) (.slice A4 ac.length c4) ev ac) := ⟨by
    have hB := below_step ((Below.refl w.heap.size w).alloc (Nat.le_refl _) (.cells #[.int .i64 P, .slice A1 evn.length c1, .slice A2 acn.length c2] 25)) hb
    have hs := hb.size
    rw [World.size_alloc] at hs g1 g2
    exact ⟨(Below.heap_alloc w1 _ _ (by omega)).trans ((hb.block w.heap.size (by rw [World.size_alloc]; omega)).trans (heap_alloc_new w _)), H1.out, H2.out, heap_alloc_new w1 _, Kd.R_alloc (Kd.R_lower g1 (Nat.le_succ _)) _, Kd.R_alloc (Kd.R_lower g2 (Nat.le_succ _)) _, hB.alloc hB.size _, hB.size, by omega⟩⟩
  obtain ⟨n2, n9, m1, m5, a8, ha⟩ := hok
  clear g1 g2 hb ha H1 H2
  by_cases c : 0 < ac.length
  · obtain ⟨r, hr, r0, r1⟩ := Pick_some a2 ac.length (by omega) (by omega)
    obtain ⟨rn, rfl⟩ : ∃ rn : Nat, r = (rn : Int) := ⟨r.toNat, by omega⟩
    have HR := Aside0.mk hr
    clear hr
    go_wp2_with fail
    have hgm := HJ.out.ge
    generalize hW : w1.alloc (.cells #[.int .i64 n, .slice A3 ev.length c3, .slice A4 ac.length c4] 25) = W at *
    generalize w1.heap.size = bm at *
    clear hW
    obtain ⟨g, cx, ex, hgx, _, cells, hcx⟩ := Kd.R_form HJ.out.acs (by omega)
    injection ex with ex exl exc
    subst ex exc
    clear exl
    have FZ2 := blk_frozen hcx (rn * 6 + 2)
    have FZ4 := blk_frozen hcx (rn * 6 + 4)
    obtain ⟨⟨u0, u1, u2⟩, _⟩ := RJ_S HJ.out
    clear hcx hgx hgm
    go_quiet ((go_at_call 13; exact Pick_q HR.out))
    go_wp2_with fail
    refine (PickI_c _ a3 3 (by decide) (by decide)).mono ?_
    rintro _ w2 ⟨⟨s, rfl, s0, s1⟩, hd⟩
    have HJ2 := Aside0.mk (RJ_next (RJ_next HJ.out (pw_below_drewN (Below.refl _ _) _)) hd.below)
    clear hd HJ u0 u1 u2 FZ2 FZ4 HR
    obtain ⟨_, cells, hcx⟩ := RJ_row HJ2.out c
    have FZ2 := blk_frozen hcx (rn * 6 + 2)
    have FZ4 := blk_frozen hcx (rn * 6 + 4)
    clear hcx
    obtain ⟨x2, x4⟩ := R_rd24 HJ2.out.acs (i := rn) (by omega)
    have hs' : s = 0 ∨ s = 1 ∨ s = 2 := by omega
    clear s0 s1
    rcases hs' with rfl | rfl | rfl
    · have HJ3 := Aside0.mk (RJ_far HJ2.out c (R_poke2 HJ2.out.acs (i := rn) (by omega) a4).1)
      obtain ⟨⟨u0, u1, u2⟩, _⟩ := RJ_S HJ3.out
      go_wp2_with fail
      clear u0 u1 u2 x2 x4 FZ2 FZ4 HJ2
      generalize w2.setCell ⟨g, rn * 6 + 2, none⟩ (.int .i64 a4) = W3 at *
      have HJ := HJ3
      clear HJ3
      generalize hA4 : (some (⟨g, 0, none⟩ : Addr)) = A4 at *
      have hl : (ac.set rn { rd_T30 ac rn with f2 := a4 }).length = ac.length := List.length_set ..
      generalize ac.set rn { rd_T30 ac rn with f2 := a4 } = ac' at *
      rw [← hl] at HJ ⊢
      clear hl hA4
      cases hok : okN n ev ac' with
      | false =>
        have HOK := Aside0.mk hok
        clear hok
        refine (Close_bad _ n A3 A4 c3 c4 ev ac' (Kd.R_reads' HJ.out.evs).2.2 (Kd.R_reads' HJ.out.acs).2.2 HOK.out).mono ?_
        rintro _ w2 ⟨rfl, hb⟩
        have HJ2 := Aside0.mk (RJ_next HJ.out hb)
        clear hb HJ
        obtain ⟨⟨u0, u1, u2⟩, _⟩ := RJ_S HJ2.out
        go_wp2_with fail
        refine (rChk (Kd.R_reads' HJ2.out.evs).2.2 (Kd.R_reads' HJ2.out.acs).2.2 (Kd.R_reads' HJ2.out.evs).2.1 (Kd.R_reads' HJ2.out.acs).2.1 HOK.out).mono ?_
        rintro _ w3 ⟨rfl, hb⟩
        have HJ3 := Aside0.mk (RJ_next HJ2.out hb)
        clear hb HJ2 u0 u1 u2
        obtain ⟨_, u3, u4, u5⟩ := RJ_S HJ3.out
        go_wp2_with fail
        clear u3 u4 u5
        cases hokn : okN P evn acn with
        | false =>
          have HOKN := Aside0.mk hokn
          clear hokn
          refine (rChk (RJ_n HJ3.out).1 (RJ_n HJ3.out).2 hc1 hc2 HOKN.out).mono ?_
          rintro _ w4 ⟨rfl, hb⟩
          have HJ4 := Aside0.mk (RJ_next HJ3.out hb)
          obtain ⟨_, u3, u4, u5⟩ := RJ_S HJ4.out
          clear hb HJ3
          go_wp2_with fail
          refine (Close_bad _ P A1 A2 c1 c2 evn acn (RJ_n HJ4.out).1 (RJ_n HJ4.out).2 HOKN.out).mono ?_
          rintro _ w5 ⟨rfl, hb⟩
          have HB5 := Aside0.mk (below_step HJ4.out.below hb)
          clear hb HJ4 u3 u4 u5
          go_wp2_with fail
          go_ret
          exact ⟨rfl, HB5.out⟩
        | true =>
          have HOKN := Aside0.mk hokn
          clear hokn
          refine (rChk (RJ_n HJ3.out).1 (RJ_n HJ3.out).2 hc1 hc2 HOKN.out).mono ?_
          rintro _ w4 ⟨rfl, hb⟩
          have HB4 := Aside0.mk (below_step HJ3.out.below hb)
          clear hb HJ3
          go_wp2_with fail
          go_ret
          exact ⟨rfl, HB4.out⟩
      | true =>
        obtain ⟨nn, hnn⟩ : ∃ nn : Nat, n = (nn : Int) := by
          have := hok
          unfold okN at this
          simp only [Bool.and_eq_true, decide_eq_true_eq] at this
          exact ⟨(n : Int).toNat, by omega⟩
        rw [hnn] at HJ hok ⊢
        clear hnn
        have HOK := Aside0.mk hok
        clear hok
        refine (Close_ok _ A3 A4 c3 c4 ev ac' (Kd.R_reads' HJ.out.evs).2.2 (Kd.R_reads' HJ.out.acs).2.2 HOK.out).mono ?_
        rintro _ w2 ⟨⟨g, sets, rfl, _, _⟩, hb⟩
        have HJ2 := Aside0.mk (RJ_next HJ.out hb)
        clear hb HJ
        obtain ⟨⟨u0, u1, u2⟩, _⟩ := RJ_S HJ2.out
        go_wp2_with fail
        refine (rChk (Kd.R_reads' HJ2.out.evs).2.2 (Kd.R_reads' HJ2.out.acs).2.2 (Kd.R_reads' HJ2.out.evs).2.1 (Kd.R_reads' HJ2.out.acs).2.1 HOK.out).mono ?_
        rintro _ w3 ⟨rfl, hb⟩
        have HJ3 := Aside0.mk (RJ_next HJ2.out hb)
        clear hb HJ2 u0 u1 u2
        obtain ⟨_, u3, u4, u5⟩ := RJ_S HJ3.out
        go_wp2_with fail
        clear u3 u4 u5
        cases hokn : okN P evn acn with
        | false =>
          have HOKN := Aside0.mk hokn
          clear hokn
          refine (rChk (RJ_n HJ3.out).1 (RJ_n HJ3.out).2 hc1 hc2 HOKN.out).mono ?_
          rintro _ w4 ⟨rfl, hb⟩
          have HJ4 := Aside0.mk (RJ_next HJ3.out hb)
          obtain ⟨_, u3, u4, u5⟩ := RJ_S HJ4.out
          clear hb HJ3
          go_wp2_with fail
          refine (Close_bad _ P A1 A2 c1 c2 evn acn (RJ_n HJ4.out).1 (RJ_n HJ4.out).2 HOKN.out).mono ?_
          rintro _ w5 ⟨rfl, hb⟩
          have HB5 := Aside0.mk (below_step HJ4.out.below hb)
          clear hb HJ4 u3 u4 u5
          go_wp2_with fail
          go_ret
          exact ⟨rfl, HB5.out⟩
        | true =>
          have HOKN := Aside0.mk hokn
          clear hokn
          refine (rChk (RJ_n HJ3.out).1 (RJ_n HJ3.out).2 hc1 hc2 HOKN.out).mono ?_
          rintro _ w4 ⟨rfl, hb⟩
          have HB4 := Aside0.mk (below_step HJ3.out.below hb)
          clear hb HJ3
          go_wp2_with fail
          go_ret
          exact ⟨rfl, HB4.out⟩
    · have HJ3 := Aside0.mk (RJ_far HJ2.out c (R_poke4 HJ2.out.acs (i := rn) (by omega) a4).1)
      obtain ⟨⟨u0, u1, u2⟩, _⟩ := RJ_S HJ3.out
      go_wp2_with fail
      clear u0 u1 u2 x2 x4 FZ2 FZ4 HJ2
      generalize w2.setCell ⟨g, rn * 6 + 4, none⟩ (.int .i64 a4) = W3 at *
      have HJ := HJ3
      clear HJ3
      generalize hA4 : (some (⟨g, 0, none⟩ : Addr)) = A4 at *
      have hl : (ac.set rn { rd_T30 ac rn with f4 := a4 }).length = ac.length := List.length_set ..
      generalize ac.set rn { rd_T30 ac rn with f4 := a4 } = ac' at *
      rw [← hl] at HJ ⊢
      clear hl hA4
      cases hok : okN n ev ac' with
      | false =>
        have HOK := Aside0.mk hok
        clear hok
        refine (Close_bad _ n A3 A4 c3 c4 ev ac' (Kd.R_reads' HJ.out.evs).2.2 (Kd.R_reads' HJ.out.acs).2.2 HOK.out).mono ?_
        rintro _ w2 ⟨rfl, hb⟩
        have HJ2 := Aside0.mk (RJ_next HJ.out hb)
        clear hb HJ
        obtain ⟨⟨u0, u1, u2⟩, _⟩ := RJ_S HJ2.out
        go_wp2_with fail
        refine (rChk (Kd.R_reads' HJ2.out.evs).2.2 (Kd.R_reads' HJ2.out.acs).2.2 (Kd.R_reads' HJ2.out.evs).2.1 (Kd.R_reads' HJ2.out.acs).2.1 HOK.out).mono ?_
        rintro _ w3 ⟨rfl, hb⟩
        have HJ3 := Aside0.mk (RJ_next HJ2.out hb)
        clear hb HJ2 u0 u1 u2
        obtain ⟨_, u3, u4, u5⟩ := RJ_S HJ3.out
        go_wp2_with fail
        clear u3 u4 u5
        cases hokn : okN P evn acn with
        | false =>
          have HOKN := Aside0.mk hokn
          clear hokn
          refine (rChk (RJ_n HJ3.out).1 (RJ_n HJ3.out).2 hc1 hc2 HOKN.out).mono ?_
          rintro _ w4 ⟨rfl, hb⟩
          have HJ4 := Aside0.mk (RJ_next HJ3.out hb)
          obtain ⟨_, u3, u4, u5⟩ := RJ_S HJ4.out
          clear hb HJ3
          go_wp2_with fail
          refine (Close_bad _ P A1 A2 c1 c2 evn acn (RJ_n HJ4.out).1 (RJ_n HJ4.out).2 HOKN.out).mono ?_
          rintro _ w5 ⟨rfl, hb⟩
          have HB5 := Aside0.mk (below_step HJ4.out.below hb)
          clear hb HJ4 u3 u4 u5
          go_wp2_with fail
          go_ret
          exact ⟨rfl, HB5.out⟩
        | true =>
          have HOKN := Aside0.mk hokn
          clear hokn
          refine (rChk (RJ_n HJ3.out).1 (RJ_n HJ3.out).2 hc1 hc2 HOKN.out).mono ?_
          rintro _ w4 ⟨rfl, hb⟩
          have HB4 := Aside0.mk (below_step HJ3.out.below hb)
          clear hb HJ3
          go_wp2_with fail
          go_ret
          exact ⟨rfl, HB4.out⟩
      | true =>
        obtain ⟨nn, hnn⟩ : ∃ nn : Nat, n = (nn : Int) := by
          have := hok
          unfold okN at this
          simp only [Bool.and_eq_true, decide_eq_true_eq] at this
          exact ⟨(n : Int).toNat, by omega⟩
        rw [hnn] at HJ hok ⊢
        clear hnn
        have HOK := Aside0.mk hok
        clear hok
        refine (Close_ok _ A3 A4 c3 c4 ev ac' (Kd.R_reads' HJ.out.evs).2.2 (Kd.R_reads' HJ.out.acs).2.2 HOK.out).mono ?_
        rintro _ w2 ⟨⟨g, sets, rfl, _, _⟩, hb⟩
        have HJ2 := Aside0.mk (RJ_next HJ.out hb)
        clear hb HJ
        obtain ⟨⟨u0, u1, u2⟩, _⟩ := RJ_S HJ2.out
        go_wp2_with fail
        refine (rChk (Kd.R_reads' HJ2.out.evs).2.2 (Kd.R_reads' HJ2.out.acs).2.2 (Kd.R_reads' HJ2.out.evs).2.1 (Kd.R_reads' HJ2.out.acs).2.1 HOK.out).mono ?_
        rintro _ w3 ⟨rfl, hb⟩
        have HJ3 := Aside0.mk (RJ_next HJ2.out hb)
        clear hb HJ2 u0 u1 u2
        obtain ⟨_, u3, u4, u5⟩ := RJ_S HJ3.out
        go_wp2_with fail
        clear u3 u4 u5
        cases hokn : okN P evn acn with
        | false =>
          have HOKN := Aside0.mk hokn
          clear hokn
          refine (rChk (RJ_n HJ3.out).1 (RJ_n HJ3.out).2 hc1 hc2 HOKN.out).mono ?_
          rintro _ w4 ⟨rfl, hb⟩
          have HJ4 := Aside0.mk (RJ_next HJ3.out hb)
          obtain ⟨_, u3, u4, u5⟩ := RJ_S HJ4.out
          clear hb HJ3
          go_wp2_with fail
          refine (Close_bad _ P A1 A2 c1 c2 evn acn (RJ_n HJ4.out).1 (RJ_n HJ4.out).2 HOKN.out).mono ?_
          rintro _ w5 ⟨rfl, hb⟩
          have HB5 := Aside0.mk (below_step HJ4.out.below hb)
          clear hb HJ4 u3 u4 u5
          go_wp2_with fail
          go_ret
          exact ⟨rfl, HB5.out⟩
        | true =>
          have HOKN := Aside0.mk hokn
          clear hokn
          refine (rChk (RJ_n HJ3.out).1 (RJ_n HJ3.out).2 hc1 hc2 HOKN.out).mono ?_
          rintro _ w4 ⟨rfl, hb⟩
          have HB4 := Aside0.mk (below_step HJ3.out.below hb)
          clear hb HJ3
          go_wp2_with fail
          go_ret
          exact ⟨rfl, HB4.out⟩
    · have FM := blk_frozen HJ2.out.netm 0
      obtain ⟨⟨u0, u1, u2⟩, _⟩ := RJ_S HJ2.out
      go_wp2_with fail
      refine (PickI_c _ a4 12 (by decide) (by decide)).mono ?_
      rintro _ w3 ⟨⟨x, rfl, x0, x1⟩, hd⟩
      have HJ3 := Aside0.mk (RJ_next HJ2.out hd.below)
      clear hd u0 u1 u2 x2 x4 FZ2 FZ4 HJ2 FM
      have FM := blk_frozen HJ3.out.netm 0
      obtain ⟨⟨v0, v1, v2⟩, _⟩ := RJ_S HJ3.out
      have HJ := Aside0.mk (RJ_period HJ3.out (x - 1))
      obtain ⟨⟨u0, u1, u2⟩, _⟩ := RJ_S HJ.out
      go_wp2_with fail
      clear HJ3 u0 u1 u2 v0 v1 v2 FM
      generalize w3.setCell ⟨bm, 0, none⟩ (.int .i64 (x - 1)) = W3 at *
      generalize hA4 : (some (⟨g, 0, none⟩ : Addr)) = A4 at *
      generalize hx : x - 1 = P' at *
      clear hA4 hx
      cases hok : okN P' ev ac with
      | false =>
        have HOK := Aside0.mk hok
        clear hok
        refine (Close_bad _ P' A3 A4 c3 c4 ev ac (Kd.R_reads' HJ.out.evs).2.2 (Kd.R_reads' HJ.out.acs).2.2 HOK.out).mono ?_
        rintro _ w2 ⟨rfl, hb⟩
        have HJ2 := Aside0.mk (RJ_next HJ.out hb)
        clear hb HJ
        obtain ⟨⟨u0, u1, u2⟩, _⟩ := RJ_S HJ2.out
        go_wp2_with fail
        refine (rChk (Kd.R_reads' HJ2.out.evs).2.2 (Kd.R_reads' HJ2.out.acs).2.2 (Kd.R_reads' HJ2.out.evs).2.1 (Kd.R_reads' HJ2.out.acs).2.1 HOK.out).mono ?_
        rintro _ w3 ⟨rfl, hb⟩
        have HJ3 := Aside0.mk (RJ_next HJ2.out hb)
        clear hb HJ2 u0 u1 u2
        obtain ⟨_, u3, u4, u5⟩ := RJ_S HJ3.out
        go_wp2_with fail
        clear u3 u4 u5
        cases hokn : okN P evn acn with
        | false =>
          have HOKN := Aside0.mk hokn
          clear hokn
          refine (rChk (RJ_n HJ3.out).1 (RJ_n HJ3.out).2 hc1 hc2 HOKN.out).mono ?_
          rintro _ w4 ⟨rfl, hb⟩
          have HJ4 := Aside0.mk (RJ_next HJ3.out hb)
          obtain ⟨_, u3, u4, u5⟩ := RJ_S HJ4.out
          clear hb HJ3
          go_wp2_with fail
          refine (Close_bad _ P A1 A2 c1 c2 evn acn (RJ_n HJ4.out).1 (RJ_n HJ4.out).2 HOKN.out).mono ?_
          rintro _ w5 ⟨rfl, hb⟩
          have HB5 := Aside0.mk (below_step HJ4.out.below hb)
          clear hb HJ4 u3 u4 u5
          go_wp2_with fail
          go_ret
          exact ⟨rfl, HB5.out⟩
        | true =>
          have HOKN := Aside0.mk hokn
          clear hokn
          refine (rChk (RJ_n HJ3.out).1 (RJ_n HJ3.out).2 hc1 hc2 HOKN.out).mono ?_
          rintro _ w4 ⟨rfl, hb⟩
          have HB4 := Aside0.mk (below_step HJ3.out.below hb)
          clear hb HJ3
          go_wp2_with fail
          go_ret
          exact ⟨rfl, HB4.out⟩
      | true =>
        obtain ⟨nn, hnn⟩ : ∃ nn : Nat, P' = (nn : Int) := by
          have := hok
          unfold okN at this
          simp only [Bool.and_eq_true, decide_eq_true_eq] at this
          exact ⟨(P' : Int).toNat, by omega⟩
        rw [hnn] at HJ hok ⊢
        clear hnn
        have HOK := Aside0.mk hok
        clear hok
        refine (Close_ok _ A3 A4 c3 c4 ev ac (Kd.R_reads' HJ.out.evs).2.2 (Kd.R_reads' HJ.out.acs).2.2 HOK.out).mono ?_
        rintro _ w2 ⟨⟨g, sets, rfl, _, _⟩, hb⟩
        have HJ2 := Aside0.mk (RJ_next HJ.out hb)
        clear hb HJ
        obtain ⟨⟨u0, u1, u2⟩, _⟩ := RJ_S HJ2.out
        go_wp2_with fail
        refine (rChk (Kd.R_reads' HJ2.out.evs).2.2 (Kd.R_reads' HJ2.out.acs).2.2 (Kd.R_reads' HJ2.out.evs).2.1 (Kd.R_reads' HJ2.out.acs).2.1 HOK.out).mono ?_
        rintro _ w3 ⟨rfl, hb⟩
        have HJ3 := Aside0.mk (RJ_next HJ2.out hb)
        clear hb HJ2 u0 u1 u2
        obtain ⟨_, u3, u4, u5⟩ := RJ_S HJ3.out
        go_wp2_with fail
        clear u3 u4 u5
        cases hokn : okN P evn acn with
        | false =>
          have HOKN := Aside0.mk hokn
          clear hokn
          refine (rChk (RJ_n HJ3.out).1 (RJ_n HJ3.out).2 hc1 hc2 HOKN.out).mono ?_
          rintro _ w4 ⟨rfl, hb⟩
          have HJ4 := Aside0.mk (RJ_next HJ3.out hb)
          obtain ⟨_, u3, u4, u5⟩ := RJ_S HJ4.out
          clear hb HJ3
          go_wp2_with fail
          refine (Close_bad _ P A1 A2 c1 c2 evn acn (RJ_n HJ4.out).1 (RJ_n HJ4.out).2 HOKN.out).mono ?_
          rintro _ w5 ⟨rfl, hb⟩
          have HB5 := Aside0.mk (below_step HJ4.out.below hb)
          clear hb HJ4 u3 u4 u5
          go_wp2_with fail
          go_ret
          exact ⟨rfl, HB5.out⟩
        | true =>
          have HOKN := Aside0.mk hokn
          clear hokn
          refine (rChk (RJ_n HJ3.out).1 (RJ_n HJ3.out).2 hc1 hc2 HOKN.out).mono ?_
          rintro _ w4 ⟨rfl, hb⟩
          have HB4 := Aside0.mk (below_step HJ3.out.below hb)
          clear hb HJ3
          go_wp2_with fail
          go_ret
          exact ⟨rfl, HB4.out⟩
  · go_wp2_with fail
    generalize w1.alloc (.cells #[.int .i64 n, .slice A3 ev.length c3, .slice A4 ac.length c4] 25) = W at *
    generalize w1.heap.size = bm at *
    cases hok : okN n ev ac with
    | false =>
      have HOK := Aside0.mk hok
      clear hok
      refine (Close_bad _ n A3 A4 c3 c4 ev ac (Kd.R_reads' HJ.out.evs).2.2 (Kd.R_reads' HJ.out.acs).2.2 HOK.out).mono ?_
      rintro _ w2 ⟨rfl, hb⟩
      have HJ2 := Aside0.mk (RJ_next HJ.out hb)
      clear hb HJ
      obtain ⟨⟨u0, u1, u2⟩, _⟩ := RJ_S HJ2.out
      go_wp2_with fail
      refine (rChk (Kd.R_reads' HJ2.out.evs).2.2 (Kd.R_reads' HJ2.out.acs).2.2 (Kd.R_reads' HJ2.out.evs).2.1 (Kd.R_reads' HJ2.out.acs).2.1 HOK.out).mono ?_
      rintro _ w3 ⟨rfl, hb⟩
      have HJ3 := Aside0.mk (RJ_next HJ2.out hb)
      clear hb HJ2 u0 u1 u2
      obtain ⟨_, u3, u4, u5⟩ := RJ_S HJ3.out
      go_wp2_with fail
      clear u3 u4 u5
      cases hokn : okN P evn acn with
      | false =>
        have HOKN := Aside0.mk hokn
        clear hokn
        refine (rChk (RJ_n HJ3.out).1 (RJ_n HJ3.out).2 hc1 hc2 HOKN.out).mono ?_
        rintro _ w4 ⟨rfl, hb⟩
        have HJ4 := Aside0.mk (RJ_next HJ3.out hb)
        obtain ⟨_, u3, u4, u5⟩ := RJ_S HJ4.out
        clear hb HJ3
        go_wp2_with fail
        refine (Close_bad _ P A1 A2 c1 c2 evn acn (RJ_n HJ4.out).1 (RJ_n HJ4.out).2 HOKN.out).mono ?_
        rintro _ w5 ⟨rfl, hb⟩
        have HB5 := Aside0.mk (below_step HJ4.out.below hb)
        clear hb HJ4 u3 u4 u5
        go_wp2_with fail
        go_ret
        exact ⟨rfl, HB5.out⟩
      | true =>
        have HOKN := Aside0.mk hokn
        clear hokn
        refine (rChk (RJ_n HJ3.out).1 (RJ_n HJ3.out).2 hc1 hc2 HOKN.out).mono ?_
        rintro _ w4 ⟨rfl, hb⟩
        have HB4 := Aside0.mk (below_step HJ3.out.below hb)
        clear hb HJ3
        go_wp2_with fail
        go_ret
        exact ⟨rfl, HB4.out⟩
    | true =>
      obtain ⟨nn, hnn⟩ : ∃ nn : Nat, n = (nn : Int) := by
        have := hok
        unfold okN at this
        simp only [Bool.and_eq_true, decide_eq_true_eq] at this
        exact ⟨(n : Int).toNat, by omega⟩
      rw [hnn] at HJ hok ⊢
      clear hnn
      have HOK := Aside0.mk hok
      clear hok
      refine (Close_ok _ A3 A4 c3 c4 ev ac (Kd.R_reads' HJ.out.evs).2.2 (Kd.R_reads' HJ.out.acs).2.2 HOK.out).mono ?_
      rintro _ w2 ⟨⟨g, sets, rfl, _, _⟩, hb⟩
      have HJ2 := Aside0.mk (RJ_next HJ.out hb)
      clear hb HJ
      obtain ⟨⟨u0, u1, u2⟩, _⟩ := RJ_S HJ2.out
      go_wp2_with fail
      refine (rChk (Kd.R_reads' HJ2.out.evs).2.2 (Kd.R_reads' HJ2.out.acs).2.2 (Kd.R_reads' HJ2.out.evs).2.1 (Kd.R_reads' HJ2.out.acs).2.1 HOK.out).mono ?_
      rintro _ w3 ⟨rfl, hb⟩
      have HJ3 := Aside0.mk (RJ_next HJ2.out hb)
      clear hb HJ2 u0 u1 u2
      obtain ⟨_, u3, u4, u5⟩ := RJ_S HJ3.out
      go_wp2_with fail
      clear u3 u4 u5
      cases hokn : okN P evn acn with
      | false =>
        have HOKN := Aside0.mk hokn
        clear hokn
        refine (rChk (RJ_n HJ3.out).1 (RJ_n HJ3.out).2 hc1 hc2 HOKN.out).mono ?_
        rintro _ w4 ⟨rfl, hb⟩
        have HJ4 := Aside0.mk (RJ_next HJ3.out hb)
        obtain ⟨_, u3, u4, u5⟩ := RJ_S HJ4.out
        clear hb HJ3
        go_wp2_with fail
        refine (Close_bad _ P A1 A2 c1 c2 evn acn (RJ_n HJ4.out).1 (RJ_n HJ4.out).2 HOKN.out).mono ?_
        rintro _ w5 ⟨rfl, hb⟩
        have HB5 := Aside0.mk (below_step HJ4.out.below hb)
        clear hb HJ4 u3 u4 u5
        go_wp2_with fail
        go_ret
        exact ⟨rfl, HB5.out⟩
      | true =>
        have HOKN := Aside0.mk hokn
        clear hokn
        refine (rChk (RJ_n HJ3.out).1 (RJ_n HJ3.out).2 hc1 hc2 HOKN.out).mono ?_
        rintro _ w4 ⟨rfl, hb⟩
        have HB4 := Aside0.mk (below_step HJ3.out.below hb)
        clear hb HJ3
        go_wp2_with fail
        go_ret
        exact ⟨rfl, HB4.out⟩
end Go.Proofs.Ytkbcgahpekmlbaa.Pure
