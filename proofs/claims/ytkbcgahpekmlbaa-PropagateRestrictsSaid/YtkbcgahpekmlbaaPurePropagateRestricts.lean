/- For every argument an activity added to a generated network never adds a residue to a set of the closed table. -/
import Derived.Test.YtkbcgahpekmlbaaLPgM4
namespace Go.Proofs.Ytkbcgahpekmlbaa.Pure
open Go.RowKit Go.Proofs.Ytkbcgahpekmlbaa.PPg Go.Proofs.YtkbcgahpekmlbaaW.PrintWords Go.Proofs.YtkbcgahpekmlbaaW.PrintLast Go.Proofs.YtkbcgahpekmlbaaW.PrintMore
set_option linter.unusedVariables false
set_option maxRecDepth 100000
set_option maxHeartbeats 8000000 in
theorem PropagateRestricts_walk (w : World) (A0 : Option Addr) (c0 : Nat) (l0 : List Int) (hr0 : Kd.C (Kd.int .i64) w A0 l0.length l0) (hc0 : l0.length ≤ c0) (y0 : l0.length * 8 ≤ 140737488351232) (hw0 : ∀ x ∈ l0, (Lit.int .i64 x).wf = true) (a1 : Int) (w1 : (Lit.int .i64 a1).wf = true) (a2 : Int) (w2 : (Lit.int .i64 a2).wf = true) (a3 : Int) (w3 : (Lit.int .i64 a3).wf = true) (a4 : Int) (w4 : (Lit.int .i64 a4).wf = true) (a5 : Int) (w5 : (Lit.int .i64 a5).wf = true) (a6 : Int) (w6 : (Lit.int .i64 a6).wf = true) :
    Calls Try.prog 8 #[.slice A0 l0.length c0, .int .i64 a1, .int .i64 a2, .int .i64 a3, .int .i64 a4, .int .i64 a5, .int .i64 a6] w fun e w' => e = .returned (.bool true) ∧ Below w.heap.size w w' := by
  have HF : Aside0 (Fit l0) := ⟨by unfold Fit; omega⟩
  have H0 := Aside0.mk hr0
  clear hr0 y0 hw0 w1 w2 w3 w4 w5 w6
  go_enter Try.func8, Try.ntmps8
  go_wp2_with fail
  refine (Network_c w A0 c0 l0 H0.out hc0 HF.out).mono ?_
  rintro _ w1 ⟨⟨n, ev, ac, v1, v2, rfl, h1, h2, hok⟩, hb⟩
  obtain ⟨A1, c1, rfl⟩ := Kd.R_slice h1
  obtain ⟨A2, c2, rfl⟩ := Kd.R_slice h2
  have HOK := Aside0.mk hok
  have HN : Aside0 (NS w (w1.alloc (.cells #[.int .i64 n, .slice A1 ev.length c1, .slice A2 ac.length c2] 25)) w1.heap.size n (.slice A1 ev.length c1) (.slice A2 ac.length c2) ev ac) := ⟨hb.alloc hb.size _, heap_alloc_new w1 _, Kd.R_alloc h1 _, Kd.R_alloc h2 _⟩
  obtain ⟨n2, n9, m1, m5, a8, _⟩ := hok
  have n72 : n ≤ 7200 := by omega
  have n1 : 1 ≤ n := by omega
  have m48 : ev.length ≤ 48 := by omega
  have m105 : ev.length ≤ 100000 := by omega
  clear h1 h2 hb
  by_cases cm : (ev.length : Int) < 2
  · go_wp2_with fail
    refine (NS_table HN.out (NetOk_ok HOK.out)).mono ?_
    rintro _ w2 ⟨g, q, rfl, hl, hq, _⟩
    have HL := Aside0.mk hl
    clear hl hq HN
    go_wp2_with fail
    go_ret
    exact ⟨rfl, HL.out.below⟩
  · go_wp2_with fail
    generalize w1.alloc (.cells #[.int .i64 n, .slice A1 ev.length c1, .slice A2 ac.length c2] 25) = W at *
    generalize w1.heap.size = bn at *
    have u0 := NS_0 HN.out
    have u1 := NS_1 HN.out
    have u2 := NS_2 HN.out
    go_wp2_with fail
    refine (Pick_c _ a1 m1 m105).mono ?_
    rintro _ w2 ⟨⟨i, rfl, hi⟩, hd⟩
    replace HN := Aside0.mk (NS_next HN.out hd.below)
    clear hd u0 u1 u2
    have u0 := NS_0 HN.out
    have u1 := NS_1 HN.out
    have u2 := NS_2 HN.out
    have HNE : Aside0 (bn ≠ w2.heap.size ∧ w.heap.size ≤ w2.heap.size) := ⟨by have := blk_lt HN.out.net; omega, HN.out.below.size⟩
    have HX : Aside0 (NS w (w2.alloc (.cells #[.int .i64 n, .slice A1 ev.length c1, .slice A2 ac.length c2] 25)) w2.heap.size n (.slice A1 ev.length c1) (.slice A2 ac.length c2) ev ac) := ⟨HN.out.below.alloc HN.out.below.size _, heap_alloc_new w2 _, Kd.R_alloc HN.out.evs _, Kd.R_alloc HN.out.acs _⟩
    have HY := Aside0.mk (NS_next HN.out ((Below.refl w2.heap.size w2).alloc (Nat.le_refl _) (.cells #[.int .i64 n, .slice A1 ev.length c1, .slice A2 ac.length c2] 25)))
    clear HN
    go_wp2_with fail
    generalize w2.alloc (.cells #[.int .i64 n, .slice A1 ev.length c1, .slice A2 ac.length c2] 25) = W at *
    generalize w2.heap.size = bx at *
    clear u0 u1 u2
    have u0 := NS_0 HY.out
    have g1 : IntKind.i64.wrap ((i : Int) + 1) = i + 1 := (IntWalk.i64_left _).trans (IntWalk.wrap64_in _ (by omega))
    have g2 : IntKind.i64.wrap ((ev.length : Int) - 1) = (ev.length : Int) - 1 := (IntWalk.i64_left _).trans (IntWalk.wrap64_in _ (by omega))
    have g0 : ((ev.length : Int) == 0) = false := beq_eq_false_iff_ne.2 (by omega)
    have gm : ev ≠ [] := fun e => by rw [e] at cm; simp at cm
    have tok1 : Tok 1 := trivial
    go_region_held3 (fun w' => w'.cell? ⟨bn, 0, none⟩ = some (.int .i64 n)) (first | go_keep | exact NA_0 (NA_six HA4.out _ _ _ _ _ _))
      (first
        | ((go_at_call 13; have _t := tok1; refine (PickI_c W.drew a2 ((ev.length : Int) - 1) (by omega) (by omega)).mono ?_; rintro _ w3 ⟨⟨y3, rfl, y30, y31⟩, hd⟩; have b3 := drew_drawn hd; have HX3 := Aside0.mk (NS_next HX.out b3); have HY3 := Aside0.mk (NS_next HY.out b3); have v0 := NS_0 HY3.out; have g3 : IntKind.i64.wrap ((i : Int) + 1 + y3) = i + 1 + y3 := ((IntWalk.i64_left _).trans (IntWalk.wrap64_in _ (by omega))); have g4 : ((i : Int) + 1 + y3).tmod (ev.length : Int) = (i + 1 + y3) % (ev.length : Int) := tmod_pos (by omega); have g5 := em_bound ((i : Int) + 1 + y3) (show (0 : Int) < (ev.length : Int) by omega); clear hd b3 tok1 u0 HX HY; have tok2 : Tok 2 := trivial))
        | ((go_at_call 13; have _t := tok2; refine (PickI_c (w3.alloc (.cells #[.int .i64 0, .int .i64 0, .int .i64 0, .int .i64 0, .int .i64 0, .int .i64 0] 30)) a3 n (by omega) (by omega)).mono ?_; rintro _ w4 ⟨⟨y4, rfl, y40, y41⟩, hd⟩; have HA4 := Aside0.mk (NA_next (NA_new HX3.out HY3.out HNE.out #[.int .i64 0, .int .i64 0, .int .i64 0, .int .i64 0, .int .i64 0, .int .i64 0]) hd.below); have ka0 : w4.cell? ⟨w3.heap.size, 0, none⟩ = some (.int .i64 0) := (by rw [blk_cell HA4.out.act]; rfl); have kf0 := blk_frozen HA4.out.act 0; have ka1 : w4.cell? ⟨w3.heap.size, 1, none⟩ = some (.int .i64 0) := (by rw [blk_cell HA4.out.act]; rfl); have kf1 := blk_frozen HA4.out.act 1; have ka2 : w4.cell? ⟨w3.heap.size, 2, none⟩ = some (.int .i64 0) := (by rw [blk_cell HA4.out.act]; rfl); have kf2 := blk_frozen HA4.out.act 2; have ka3 : w4.cell? ⟨w3.heap.size, 3, none⟩ = some (.int .i64 0) := (by rw [blk_cell HA4.out.act]; rfl); have kf3 := blk_frozen HA4.out.act 3; have ka4 : w4.cell? ⟨w3.heap.size, 4, none⟩ = some (.int .i64 0) := (by rw [blk_cell HA4.out.act]; rfl); have kf4 := blk_frozen HA4.out.act 4; have ka5 : w4.cell? ⟨w3.heap.size, 5, none⟩ = some (.int .i64 0) := (by rw [blk_cell HA4.out.act]; rfl); have kf5 := blk_frozen HA4.out.act 5; have v4 := NA_0 HA4.out; clear hd tok2 v0 HX3 HY3))
        | ((go_at_call 13; have _t := tok2; refine (PickI_c w3 a3 n (by omega) (by omega)).mono ?_; rintro _ w4 ⟨⟨y4, rfl, y40, y41⟩, hd⟩; have HX4 := Aside0.mk (NS_next HX3.out hd.below); have HY4 := Aside0.mk (NS_next HY3.out hd.below); have v4 := NS_0 HY4.out; clear hd tok2 v0 HX3 HY3))
        | ((go_at_call 13; have _t := tok1; refine (PickI_c (W.drew.alloc (.cells #[.int .i64 0, .int .i64 0, .int .i64 0, .int .i64 0, .int .i64 0, .int .i64 0] 30)) a2 ((ev.length : Int) - 1) (by omega) (by omega)).mono ?_; rintro _ w3 ⟨⟨y3, rfl, y30, y31⟩, hd⟩; have HA3 := Aside0.mk (NA_next (NA_newD HX.out HY.out HNE.out #[.int .i64 0, .int .i64 0, .int .i64 0, .int .i64 0, .int .i64 0, .int .i64 0]) hd.below); have v0 := NA_0 HA3.out; have g3 : IntKind.i64.wrap ((i : Int) + 1 + y3) = i + 1 + y3 := ((IntWalk.i64_left _).trans (IntWalk.wrap64_in _ (by omega))); have g4 : ((i : Int) + 1 + y3).tmod (ev.length : Int) = (i + 1 + y3) % (ev.length : Int) := tmod_pos (by omega); have g5 := em_bound ((i : Int) + 1 + y3) (show (0 : Int) < (ev.length : Int) by omega); clear hd tok1 u0 HX HY; have tok3 : Tok 3 := trivial))
        | ((go_at_call 13; have _t := tok3; refine (PickI_c w3 a3 n (by omega) (by omega)).mono ?_; rintro _ w4 ⟨⟨y4, rfl, y40, y41⟩, hd⟩; have HA4 := Aside0.mk (NA_next HA3.out hd.below); have ka0 : w4.cell? ⟨W.heap.size, 0, none⟩ = some (.int .i64 0) := (by rw [blk_cell HA4.out.act]; rfl); have kf0 := blk_frozen HA4.out.act 0; have ka1 : w4.cell? ⟨W.heap.size, 1, none⟩ = some (.int .i64 0) := (by rw [blk_cell HA4.out.act]; rfl); have kf1 := blk_frozen HA4.out.act 1; have ka2 : w4.cell? ⟨W.heap.size, 2, none⟩ = some (.int .i64 0) := (by rw [blk_cell HA4.out.act]; rfl); have kf2 := blk_frozen HA4.out.act 2; have ka3 : w4.cell? ⟨W.heap.size, 3, none⟩ = some (.int .i64 0) := (by rw [blk_cell HA4.out.act]; rfl); have kf3 := blk_frozen HA4.out.act 3; have ka4 : w4.cell? ⟨W.heap.size, 4, none⟩ = some (.int .i64 0) := (by rw [blk_cell HA4.out.act]; rfl); have kf4 := blk_frozen HA4.out.act 4; have ka5 : w4.cell? ⟨W.heap.size, 5, none⟩ = some (.int .i64 0) := (by rw [blk_cell HA4.out.act]; rfl); have kf5 := blk_frozen HA4.out.act 5; have v4 := NA_0 HA4.out; clear hd tok3 v0 HA3)))
    have HA5 := Aside0.mk (NA_new HX4.out HY4.out HNE.out #[.int .i64 0, .int .i64 i, .int .i64 (((i : Int) + 1 + y3) % (ev.length : Int)), .int .i64 y4, .int .i64 0, .int .i64 0])
    clear HX4 HY4 v4
    generalize hW5 : w4.alloc (.cells #[.int .i64 0, .int .i64 i, .int .i64 (((i : Int) + 1 + y3) % (ev.length : Int)), .int .i64 y4, .int .i64 0, .int .i64 0] 30) = W5 at *
    clear hW5
    generalize hga : w4.heap.size = ga at *
    clear hga
    rotate_left
    have HA5 := Aside0.mk (NA_six HA4.out (.int .i64 0) (.int .i64 i) (.int .i64 (((i : Int) + 1 + y3) % (ev.length : Int))) (.int .i64 y4) (.int .i64 0) (.int .i64 0))
    clear HA4 ka0 kf0 ka1 kf1 ka2 kf2 ka3 kf3 ka4 kf4 ka5 kf5 v4
    generalize hW5 : ((((((w4.setCell ⟨w3.heap.size, 0, none⟩ (.int .i64 0)).setCell ⟨w3.heap.size, 1, none⟩ (.int .i64 i)).setCell ⟨w3.heap.size, 2, none⟩ (.int .i64 (((i : Int) + 1 + y3) % (ev.length : Int)))).setCell ⟨w3.heap.size, 3, none⟩ (.int .i64 y4)).setCell ⟨w3.heap.size, 4, none⟩ (.int .i64 0)).setCell ⟨w3.heap.size, 5, none⟩ (.int .i64 0)) = W5 at *
    clear hW5
    generalize hga : w3.heap.size = ga at *
    clear hga
    rotate_left
    have HA5 := Aside0.mk (NA_six HA4.out (.int .i64 0) (.int .i64 i) (.int .i64 (((i : Int) + 1 + y3) % (ev.length : Int))) (.int .i64 y4) (.int .i64 0) (.int .i64 0))
    clear HA4 ka0 kf0 ka1 kf1 ka2 kf2 ka3 kf3 ka4 kf4 ka5 kf5 v4
    generalize hW5 : ((((((w4.setCell ⟨W.heap.size, 0, none⟩ (.int .i64 0)).setCell ⟨W.heap.size, 1, none⟩ (.int .i64 i)).setCell ⟨W.heap.size, 2, none⟩ (.int .i64 (((i : Int) + 1 + y3) % (ev.length : Int)))).setCell ⟨W.heap.size, 3, none⟩ (.int .i64 y4)).setCell ⟨W.heap.size, 4, none⟩ (.int .i64 0)).setCell ⟨W.heap.size, 5, none⟩ (.int .i64 0)) = W5 at *
    clear hW5
    generalize hga : W.heap.size = ga at *
    clear hga
    rotate_left
    all_goals
      have HZ := Aside0.mk (mod_ne (y := i) (m := ev.length) (by omega) (by omega) y30 y31)
      clear g0 g1 g2 g3 g4 g5 gm _t
      generalize hz2 : ((i : Int) + 1 + y3) % (ev.length : Int) = z2 at *
      clear hz2
      have u0 := NA_0 HA5.out
      have u3 : W5.cell? ⟨ga, 3, none⟩ = some (.int .i64 y4) := by rw [blk_cell HA5.out.act]; rfl
      go_wp2_with fail
      have g1 : ∀ y : Int, 0 ≤ y → y < n → IntKind.i64.wrap (y4 + y) = y4 + y := fun y h1 h2 => (IntWalk.i64_left _).trans (IntWalk.wrap64_in _ (by omega))
      go_region_held3 (fun w' => w'.cell? ⟨bn, 0, none⟩ = some (.int .i64 n) ∧ w'.cell? ⟨ga, 3, none⟩ = some (.int .i64 y4)) (first | go_keep | exact ⟨NA_0 (NA_set HA6.out 4 _), (World.cell?_setCell_other _ _ _ _ (by simp)).trans p3⟩)
        (first
          | ((go_at_call 13; refine (PickI_c W5.drew a4 n (by omega) (by omega)).mono ?_; rintro _ w6 ⟨⟨y5, rfl, y50, y51⟩, hd⟩; have HA6 := Aside0.mk (NA_next HA5.out (drew_drawn hd)); have p0 := NA_0 HA6.out; have p3 : w6.cell? ⟨ga, 3, none⟩ = some (.int .i64 y4) := (by rw [blk_cell HA6.out.act]; rfl); have p4 : w6.cell? ⟨ga, 4, none⟩ = some (.int .i64 0) := (by rw [blk_cell HA6.out.act]; rfl); have pf := blk_frozen HA6.out.act 4; have g2 := g1 y5 y50 y51; clear hd u0 u3 HA5)))
      have HA7 : Aside0 (NA w (w6.setCell ⟨ga, 4, none⟩ (.int .i64 (y4 + y5))) bn bx ga n (.slice A1 ev.length c1) (.slice A2 ac.length c2) ev ac #[.int .i64 0, .int .i64 i, .int .i64 z2, .int .i64 y4, .int .i64 (y4 + y5), .int .i64 0]) := ⟨NA_set HA6.out 4 _⟩
      clear HA6 p0 p3 p4 pf g1 g2
      generalize hW7 : w6.setCell ⟨ga, 4, none⟩ (.int .i64 (y4 + y5)) = W7 at *
      clear hW7
      generalize hz4 : y4 + y5 = z4 at *
      have HZ4 := Aside0.mk (show y4 ≤ z4 ∧ z4 < y4 + n by omega)
      clear hz4
      have u2 := NA_2 HA7.out
      have x0 : W7.cell? ⟨ga, 0, none⟩ = some (.int .i64 0) := by rw [blk_cell HA7.out.act]; rfl
      have x1 : W7.cell? ⟨ga, 1, none⟩ = some (.int .i64 i) := by rw [blk_cell HA7.out.act]; rfl
      have x2 : W7.cell? ⟨ga, 2, none⟩ = some (.int .i64 z2) := by rw [blk_cell HA7.out.act]; rfl
      have x3 : W7.cell? ⟨ga, 3, none⟩ = some (.int .i64 y4) := by rw [blk_cell HA7.out.act]; rfl
      have x4 : W7.cell? ⟨ga, 4, none⟩ = some (.int .i64 z4) := by rw [blk_cell HA7.out.act]; rfl
      have x5 : W7.cell? ⟨ga, 5, none⟩ = some (.int .i64 0) := by rw [blk_cell HA7.out.act]; rfl
      have HD := Aside0.mk (NA_next HA7.out (below_drew (Below.refl _ _)))
      have HL := Aside0.mk (NA_next HA7.out ((below_drew (Below.refl W7.heap.size W7)).alloc (Nat.le_refl _) (.cells #[.int .i64 0, .int .i64 i, .int .i64 z2, .int .i64 y4, .int .i64 z4, .int .i64 0] 30)))
      have HDf : Aside0 (∀ k, W7.drew.heap.size ≤ k → W7.heap.size ≤ k) := ⟨fun k hk => hk⟩
      have HLf : Aside0 (∀ k, (W7.drew.alloc (.cells #[.int .i64 0, .int .i64 i, .int .i64 z2, .int .i64 y4, .int .i64 z4, .int .i64 0] 30)).heap.size ≤ k → W7.heap.size ≤ k) := ⟨fun k hk => by rw [World.size_alloc] at hk; exact Nat.le_of_succ_le hk⟩
      have tok1 : Tok 1 := trivial
      go_wp2_with fail
      go_region_held3 (fun w' => w'.cell? ⟨bn, 2, none⟩ = some (.slice A2 ac.length c2) ∧ w'.cell? ⟨ga, 0, none⟩ = some (.int .i64 0) ∧ w'.cell? ⟨ga, 1, none⟩ = some (.int .i64 i) ∧ w'.cell? ⟨ga, 2, none⟩ = some (.int .i64 z2) ∧ w'.cell? ⟨ga, 3, none⟩ = some (.int .i64 y4) ∧ w'.cell? ⟨ga, 4, none⟩ = some (.int .i64 z4) ∧ w'.cell? ⟨ga, 5, none⟩ = some (.int .i64 0)) (first | go_keep | exact NA_S HP8.out.na | exact NA_S HP10.out.na | exact NA_Sset HP10.out.na _)
        (first
          | (((with_reducible refine gate_bstep (b := .append) (xs := #[.const (.slice none 0 0), .tmp 61]) (ts := #[23, 23]) rfl ?_); have _t := tok1; refine Kd.R_append_rows_step k30 (w0 := w) (W := W7.drew) w.heap.size (by rfl) (.const (.slice none 0 0)) (.tmp 61) 23 30 (.agg #[(.int .i64 0), (.int .i64 0), (.int .i64 0), (.int .i64 0), (.int .i64 0), (.int .i64 0)]) 48 (by rfl) Try.underlying23 info30 (by rfl) (by decide) (by omega) (.slice none 0 0) ([] : List S30) ac A2 ac.length c2 (fun k => W7.heap.size ≤ k) (fun _ => False) (by rfl) (by rfl) (Kd.R_nil _ _ _ _ _) (Kd.R_reads' HD.out.acs).2.2 (fun x cs hk => by rw [k30_open hk]; exact k30_mkM _ _ _ x) (fun _ hk => hk.elim) HDf.out HD.out.below HD.out.below.size (by simp; omega) ?_; intro v8 w8 ho hb hg hat; rw [List.nil_append] at ho; obtain ⟨A8, c8, e8⟩ := Kd.R_slice ho; subst e8; have HP8 := Aside0.mk (AP_g HA7.out (V := W7.drew) (fun _ _ => rfl) (by first | exact Nat.le_refl _ | (rw [World.size_alloc]; exact Nat.le_succ _)) (by simp [Value.ownBlock]) ho hb hg); have HZ8 : Aside0 (W7.heap.size ≤ w8.heap.size) := ⟨hg.size⟩; clear ho hb hg hat tok1 u2; have tok2 : Tok 2 := trivial))
          | (((with_reducible refine gate_bstep (b := .append) (xs := #[.const (.slice none 0 0), .tmp 61]) (ts := #[23, 23]) rfl ?_); have _t := tok1; refine Kd.R_append_rows_step k30 (w0 := w) (W := W7.drew.alloc (.cells #[.int .i64 0, .int .i64 i, .int .i64 z2, .int .i64 y4, .int .i64 z4, .int .i64 0] 30)) w.heap.size (by rfl) (.const (.slice none 0 0)) (.tmp 61) 23 30 (.agg #[(.int .i64 0), (.int .i64 0), (.int .i64 0), (.int .i64 0), (.int .i64 0), (.int .i64 0)]) 48 (by rfl) Try.underlying23 info30 (by rfl) (by decide) (by omega) (.slice none 0 0) ([] : List S30) ac A2 ac.length c2 (fun k => W7.heap.size ≤ k) (fun _ => False) (by rfl) (by rfl) (Kd.R_nil _ _ _ _ _) (Kd.R_reads' HL.out.acs).2.2 (fun x cs hk => by rw [k30_open hk]; exact k30_mkM _ _ _ x) (fun _ hk => hk.elim) HLf.out HL.out.below HL.out.below.size (by simp; omega) ?_; intro v8 w8 ho hb hg hat; rw [List.nil_append] at ho; obtain ⟨A8, c8, e8⟩ := Kd.R_slice ho; subst e8; have HP8 := Aside0.mk (AP_g HA7.out (V := W7.drew.alloc (.cells #[.int .i64 0, .int .i64 i, .int .i64 z2, .int .i64 y4, .int .i64 z4, .int .i64 0] 30)) (fun k hk => Below.heap_alloc W7.drew _ k hk) (by first | exact Nat.le_refl _ | (rw [World.size_alloc]; exact Nat.le_succ _)) (by simp [Value.ownBlock]) ho hb hg); have HG8 := Aside0.mk ((hg.block W7.heap.size (by rw [World.size_alloc]; exact Nat.lt_succ_self _) (by simp [Value.ownBlock])).trans (heap_alloc_new W7.drew (.cells #[.int .i64 0, .int .i64 i, .int .i64 z2, .int .i64 y4, .int .i64 z4, .int .i64 0] 30))); have HZ8 : Aside0 (W7.heap.size ≤ w8.heap.size) := ⟨Nat.le_trans (Nat.le_succ _) (by have := hg.size; rwa [World.size_alloc] at this)⟩; clear ho hb hg hat tok1 u2; have tok3 : Tok 2 := trivial))
          | (((with_reducible refine gate_bstep (b := .append) (xs := #[.tmp 62, .tmp 64]) (ts := #[23, 23]) rfl ?_); have _t := tok2; refine Kd.R_append_rows_step k30 (w0 := w) (W := w8.alloc (.cells #[.int .i64 0, .int .i64 i, .int .i64 z2, .int .i64 y4, .int .i64 z4, .int .i64 0] 30)) w.heap.size (by rfl) (.tmp 62) (.tmp 64) 23 30 (.agg #[(.int .i64 0), (.int .i64 0), (.int .i64 0), (.int .i64 0), (.int .i64 0), (.int .i64 0)]) 48 (by rfl) Try.underlying23 info30 (by rfl) (by decide) (by omega) (.slice A8 ac.length c8) ac [(⟨0, i, z2, y4, z4, 0⟩ : S30)] (some ⟨w8.heap.size, 0, none⟩) 1 1 (fun k => W7.heap.size ≤ k) (fun _ => False) (by rfl) (by rfl) (Kd.R_alloc HP8.out.row _) (AS_at (heap_alloc_new w8 (.cells #[.int .i64 0, .int .i64 i, .int .i64 z2, .int .i64 y4, .int .i64 z4, .int .i64 0] 30))) (fun x cs hk => by rw [k30_open hk]; exact k30_mkM _ _ _ x) (fun _ hk => hk.elim) (fun k hk => Nat.le_trans HZ8.out (Nat.le_trans (Nat.le_succ _) (by rw [World.size_alloc] at hk; exact hk))) (HP8.out.na.below.alloc HP8.out.na.below.size _) (HP8.out.na.below.alloc HP8.out.na.below.size _).size (by first | omega | (simp only [List.length_singleton]; omega)) ?_; intro v10 w10 ho hb hg hat; obtain ⟨A10, c10, e10⟩ := Kd.R_slice ho; rw [List.length_append, List.length_singleton] at e10; subst e10; have HP10 := Aside0.mk (AP_g HA7.out (V := w8.alloc (.cells #[.int .i64 0, .int .i64 i, .int .i64 z2, .int .i64 y4, .int .i64 z4, .int .i64 0] 30)) (fun k hk => (Below.heap_alloc w8 _ k (Nat.lt_of_lt_of_le hk HZ8.out)).trans (HP8.out.keep k hk)) (by rw [World.size_alloc]; exact Nat.le_succ_of_le HZ8.out) (AP_own HP8.out) ho hb hg); have q2 : w10.cell? ⟨bx, 2, none⟩ = some (.slice A2 ac.length c2) := (by rw [blk_cell HP10.out.na.net']; rfl); have qf := blk_frozen HP10.out.na.net' 2; clear ho hb hg hat tok2 HP8))
          | (((with_reducible refine gate_bstep (b := .append) (xs := #[.tmp 62, .tmp 64]) (ts := #[23, 23]) rfl ?_); have _t := tok3; refine Kd.R_append_rows_step k30 (w0 := w) (W := w8) w.heap.size (by rfl) (.tmp 62) (.tmp 64) 23 30 (.agg #[(.int .i64 0), (.int .i64 0), (.int .i64 0), (.int .i64 0), (.int .i64 0), (.int .i64 0)]) 48 (by rfl) Try.underlying23 info30 (by rfl) (by decide) (by omega) (.slice A8 ac.length c8) ac [(⟨0, i, z2, y4, z4, 0⟩ : S30)] (some ⟨W7.heap.size, 0, none⟩) 1 1 (fun k => W7.heap.size ≤ k) (fun _ => False) (by rfl) (by rfl) HP8.out.row (AS_at HG8.out) (fun x cs hk => by rw [k30_open hk]; exact k30_mkM _ _ _ x) (fun _ hk => hk.elim) (fun k hk => Nat.le_trans HZ8.out hk) HP8.out.na.below HP8.out.na.below.size (by first | omega | (simp only [List.length_singleton]; omega)) ?_; intro v10 w10 ho hb hg hat; obtain ⟨A10, c10, e10⟩ := Kd.R_slice ho; rw [List.length_append, List.length_singleton] at e10; subst e10; have HP10 := Aside0.mk (AP_g HA7.out (V := w8) HP8.out.keep HZ8.out (AP_own HP8.out) ho hb hg); have q2 : w10.cell? ⟨bx, 2, none⟩ = some (.slice A2 ac.length c2) := (by rw [blk_cell HP10.out.na.net']; rfl); have qf := blk_frozen HP10.out.na.net' 2; clear ho hb hg hat tok3 HP8)))
      all_goals
        have HN := Aside0.mk (NA_bn HP10.out.na (.slice A10 (ac.length + 1) c10))
        have HX := Aside0.mk (NA_bx HP10.out.na HP10.out.row)
        have HO1 := Aside0.mk (NetOk_ok HOK.out)
        have HO2 := Aside0.mk (okN_snoc HO1.out (by omega) (okA_net (a := ⟨0, i, z2, y4, z4, 0⟩) ⟨n2, n9⟩ ⟨by show (0 : Int) ≤ i; omega, by show (i : Int) < ev.length; omega, HZ.out.1, HZ.out.2.1, fun e => HZ.out.2.2 e.symm, by show -(n : Int) ≤ y4; omega, by show y4 < 2 * n; omega, HZ4.out.1, HZ4.out.2, by show (0 : Int) ≤ 0; omega, by show (0 : Int) ≤ 4; omega⟩))
        clear HP10 q2 qf x0 x1 x2 x3 x4 x5 HZ HZ4 HA7 HD HL HDf HLf HZ8 _t
        generalize w10.setCell ⟨bx, 2, none⟩ (.slice A10 (ac.length + 1) c10) = W11 at *
        have s0 := NS_S HN.out HX.out
        obtain ⟨s0, s1, s2, s3, s4, s5⟩ := s0
        go_wp2_with fail
        go_region_held3 (fun w' => w'.cell? ⟨bn, 0, none⟩ = some (.int .i64 n) ∧ w'.cell? ⟨bn, 1, none⟩ = some (.slice A1 ev.length c1) ∧ w'.cell? ⟨bn, 2, none⟩ = some (.slice A2 ac.length c2) ∧ w'.cell? ⟨bx, 0, none⟩ = some (.int .i64 n) ∧ w'.cell? ⟨bx, 1, none⟩ = some (.slice A1 ev.length c1) ∧ w'.cell? ⟨bx, 2, none⟩ = some (.slice A10 (ac.length + 1) c10)) (first | go_keep | exact NS_S HN12.out HX12.out | exact NS_S HN13.out HX13.out)
          (first
            | ((go_at_call 20; refine (NS_tableD HN.out HO1.out).mono ?_; rintro _ w12 ⟨gp, qp, rfl, hl, hq, hb⟩; have HLP := Aside0.mk hl; have HQP := Aside0.mk hq; have HN12 := Aside0.mk (NS_next HN.out hb); have HX12 := Aside0.mk (NS_next HX.out hb); clear hl hq hb s0 s1 s2 s3 s4 s5 HN HX))
            | ((go_at_call 20; refine (NS_table HX12.out HO2.out).mono ?_; rintro _ w13 ⟨gq, qq, rfl, hl, hq, hb⟩; have HLQ := Aside0.mk hl; have HQQ := Aside0.mk hq; have HN13 := Aside0.mk (NS_next HN12.out hb); have HX13 := Aside0.mk (NS_next HX12.out hb); replace HLP := Aside0.mk (LB_next HLP.out hb); clear hl hq hb HN12 HX12)))
        clear HN13 HX13
        go_wp2_with fail
        refine (Pick_c _ a5 m1 m105).mono ?_
        rintro _ w14 ⟨⟨i', rfl, hi'⟩, hd⟩
        replace HLP := Aside0.mk (LB_next HLP.out hd.below)
        replace HLQ := Aside0.mk (LB_next HLQ.out hd.below)
        clear hd
        go_wp2_with fail
        refine (Pick_c _ a6 m1 m105).mono ?_
        rintro _ w15 ⟨⟨j', rfl, hj'⟩, hd⟩
        replace HLP := Aside0.mk (LB_next HLP.out hd.below)
        replace HLQ := Aside0.mk (LB_next HLQ.out hd.below)
        clear hd
        have z0 := LB_P HLP.out
        go_wp2_with fail
        go_region_held3 (fun w' => w'.cell? ⟨bn, 0, none⟩ = some (.int .i64 n)) (go_keep)
          (first
            | ((go_at_call 18; refine (Btw_de HLP.out n1 n72 m48 hi' hj').mono ?_; rintro _ w16 ⟨⟨Aa, ca, sp, rfl, hv, hs⟩, hl, hb⟩; have HSP := Aside0.mk hs; have z1 := LB_P hl; have HLP16 := Aside0.mk hl; have HLQ16 := Aside0.mk (LB_next HLQ.out hb); have VA := Aside0.mk hv; clear hs hv hl hb z0 HLP HLQ))
            | ((go_at_call 18; refine (Btw_e HLQ16.out n1 n72 m48 hi' hj').mono ?_; rintro _ w17 ⟨⟨Ab, cb, sq, rfl, hv, hs⟩, hl, hb⟩; have HSQ := Aside0.mk hs; have HLQ17 := Aside0.mk hl; have HLP17 := Aside0.mk (LB_next HLP16.out hb); have z2 := LB_P HLP17.out; have VB := Aside0.mk hv; replace VA := Aside0.mk (VS_below VA.out hb); clear hs hv hl hb z1 HLP16 HLQ16))
            | ((go_at_call 22; refine (rInt_e HSP.out HSQ.out n1 n72 VA.out VB.out).mono ?_; rintro _ w18 ⟨⟨Ac, cc, x, rfl, hv, hs⟩, hb⟩; have HSX := Aside0.mk hs; have HLP18 := Aside0.mk (LB_next HLP17.out hb); have HLQ18 := Aside0.mk (LB_next HLQ17.out hb); have z3 := LB_P HLP18.out; have VX := Aside0.mk hv; clear hs hv hb z2 VA VB HLP17 HLQ17)))
        clear z3
        have HLE := Aside0.mk (TabOk_le (okN_act HO2.out) HQP.out HQQ.out)
        go_wp2_with fail
        refine (Btw_e HLQ18.out n1 n72 m48 hi' hj').mono ?_
        rintro _ w19 ⟨⟨Ad, cd, sd, rfl, hv, hd⟩, hl, hb⟩
        have HLQ19 := Aside0.mk hl
        have HLP19 := Aside0.mk (LB_next HLP18.out hb)
        have VX19 := Aside0.mk (VS_below VX.out hb)
        have VD := Aside0.mk hv
        have HE : Aside0 (x = sd) := ⟨by
          rw [← HSX.out, ← hd]
          exact inter_all fun y y0 y1 hy => HLE.out i' j' hi' hj' y y0 y1 hy⟩
        have HXL : Aside0 (x.length ≤ 7200) := ⟨by rw [HE.out, ← hd]; exact vld_fit (can_vld _ n1 n72)⟩
        clear hv hd hl hb HLQ18 HLP18 VX HSP HSQ HSX
        go_wp2_with fail
        refine (Same_c HE.out HXL.out VX19.out VD.out).mono ?_
        rintro _ w20 ⟨rfl, hd⟩
        have HLQ20 := Aside0.mk (LB_next HLQ19.out hd.below)
        have HLP20 := Aside0.mk (LB_next HLP19.out hd.below)
        clear hd HLQ19 HLP19 VX19 VD
        go_wp2_with fail
        refine (Cnt_c HLQ20.out n1 n72 m48).mono ?_
        rintro _ w21 ⟨rfl, hl, hb⟩
        have HLP21 := Aside0.mk (LB_next HLP20.out hb)
        clear hl hb HLQ20 HLP20
        go_wp2_with fail
        refine (Cnt_c HLP21.out n1 n72 m48).mono ?_
        rintro _ w22 ⟨rfl, hl, hb⟩
        have HB22 := Aside0.mk hl.below
        have hle : tot n ev.length qq ≤ tot n ev.length qp := tot_mono HLE.out
        clear hl hb HLP21
        go_wp2_with fail
        go_ret
        exact ⟨rfl, HB22.out⟩
end Go.Proofs.Ytkbcgahpekmlbaa.Pure
