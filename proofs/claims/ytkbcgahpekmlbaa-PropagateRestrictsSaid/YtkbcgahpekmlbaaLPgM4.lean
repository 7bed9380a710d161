/- Contracts that some laws of layer 13 need besides. -/
import Derived.Test.YtkbcgahpekmlbaaLPgM3
namespace Go.Proofs.Ytkbcgahpekmlbaa.PPg
open Go.RowKit Go.Proofs.YtkbcgahpekmlbaaW.PrintWords Go.Proofs.YtkbcgahpekmlbaaW.PrintLast Go.Proofs.YtkbcgahpekmlbaaW.PrintMore
set_option linter.unusedVariables false
theorem okN_snoc {n : Nat} {ev : List S65} {ac : List S30} {a : S30} (h : okN n ev ac = true) (hl : ac.length ≤ 511) (ha : okA ((ev.length : Int) - 1) n a = true) : okN n ev (ac ++ [a]) = true := by
  unfold okN badA at *
  simp only [Bool.and_eq_true, decide_eq_true_eq, Bool.not_eq_true', List.any_append, List.length_append, List.length_singleton, Bool.or_eq_false_iff] at *
  obtain ⟨h1, h2, h3, h4⟩ := h
  exact ⟨h1, h2, by omega, h4, by simp [ha]⟩
theorem init_snoc_le {n m : Nat} {ac : List S30} {a : S30} (h : ∀ b ∈ ac ++ [a], okAct n b) : le n m (initM n (ac ++ [a])) (initM n ac) := by
  intro i j hi hj x x0 x1 hx
  rw [initM_iff (fun b hb => (h b hb).1)] at hx
  rw [initM_iff (fun b hb => (h b (List.mem_append_left _ hb)).1)]
  exact ⟨hx.1, fun b hb => hx.2 b (List.mem_append_left _ hb)⟩
/-- One activity more never adds a residue. -/
theorem TabOk_le {n : Nat} {ev : List S65} {ac : List S30} {a : S30} {q q' : Mx} (h : ∀ b ∈ ac ++ [a], okAct n b) (hq : TabOk n ev ac q) (hq' : TabOk n ev (ac ++ [a]) q') : le n ev.length q' q := by
  rcases hq' with ⟨rfl, _⟩ | h2
  · intro i j _ _ x _ _ hx; cases hx
  · have hle := le_trans' h2.sub (init_snoc_le h)
    rcases hq with ⟨_, h1⟩ | h1
    · exact absurd h2.full (h1.2 q' (FC_WC h2.fc) hle)
    · exact h1.most q' (FC_WC h2.fc) hle
theorem total_map {α : Type} (f : List S41 → Int) (g g' : α → List S41) : ∀ l : List α, (∀ k ∈ l, f (g k) ≤ f (g' k)) → total f (l.map g) ≤ total f (l.map g')
  | [], _ => Int.le_refl _
  | a :: l, h => by
    have h1 := h a List.mem_cons_self
    have h2 := total_map f g g' l fun k hk => h k (List.mem_cons_of_mem _ hk)
    simp only [List.map_cons, total]; omega
theorem tot_mono {n m : Nat} {q q' : Mx} (h : le n m q' q) : tot n m q' ≤ tot n m q := by
  unfold tot tabl
  refine total_map _ _ _ _ fun k hk => ?_
  rw [List.mem_range] at hk
  obtain ⟨i, j, hi, hj, rfl⟩ := ix_form hk
  rw [ix_div hj, ix_mod hj, cnt_can, cnt_can]
  exact cnt_le (h i j hi hj)
/-- A law's memory without a table. -/
structure NS (w0 W : World) (bn n : Nat) (v1 v2 : Value) (ev : List S65) (ac : List S30) : Prop where
  below : Below w0.heap.size w0 W
  net : W.heap[bn]? = some (.cells #[.int .i64 n, v1, v2] 25 (0, 0))
  evs : Kd.R k65 65 W w0.heap.size (fun _ => True) v1 ev
  acs : Kd.R k30 30 W w0.heap.size (fun _ => True) v2 ac
theorem NS_0 {w0 W : World} {bn n : Nat} {v1 v2 : Value} {ev : List S65} {ac : List S30} (h : NS w0 W bn n v1 v2 ev ac) : W.cell? ⟨bn, 0, none⟩ = some (.int .i64 n) := by rw [blk_cell h.net]; rfl
theorem NS_1 {w0 W : World} {bn n : Nat} {v1 v2 : Value} {ev : List S65} {ac : List S30} (h : NS w0 W bn n v1 v2 ev ac) : W.cell? ⟨bn, 1, none⟩ = some v1 := by rw [blk_cell h.net]; rfl
theorem NS_2 {w0 W : World} {bn n : Nat} {v1 v2 : Value} {ev : List S65} {ac : List S30} (h : NS w0 W bn n v1 v2 ev ac) : W.cell? ⟨bn, 2, none⟩ = some v2 := by rw [blk_cell h.net]; rfl
theorem NS_next {w0 W W' : World} {bn n : Nat} {v1 v2 : Value} {ev : List S65} {ac : List S30} (h : NS w0 W bn n v1 v2 ev ac) (hb : Below W.heap.size W W') : NS w0 W' bn n v1 v2 ev ac :=
  ⟨below_step h.below hb, (hb.block bn (blk_lt h.net)).trans h.net, Kd.R_below h.evs hb, Kd.R_below h.acs hb⟩
theorem PickI_c (w : World) (a m : Int) (h1 : 1 ≤ m) (h2 : m ≤ 100000) : Calls Try.prog 13 #[.int .i64 a, .int .i64 m] w fun e w' => (∃ r : Int, e = .returned (.int .i64 r) ∧ 0 ≤ r ∧ r < m) ∧ Drawn0 w w' := by
  obtain ⟨r, hr, r0, r1⟩ := Pick_some a m h1 (by omega)
  refine (railplankeep_Pick.calls a m r w hr).mono ?_
  rintro _ w' ⟨rfl, hd⟩
  exact ⟨⟨r, rfl, r0, r1⟩, hd⟩
theorem drew_drawn {w w' : World} (h : Drawn0 w.drew w') : Below w.heap.size w w' := below_step (below_drew (Below.refl _ _)) h.below
theorem NS_table {w0 w : World} {bn n : Nat} {v1 v2 : Value} {ev : List S65} {ac : List S30} (h : NS w0 w bn n v1 v2 ev ac) (hok : okN n ev ac = true) :
    Calls Try.prog 20 #[.agg #[.int .i64 n, v1, v2]] w fun e w' => ∃ g q, e = .returned (.pointer (some ⟨g, 0, none⟩)) ∧ LB w0 w' bn g n v1 v2 ev ac q ∧ TabOk n ev ac q ∧ Below w.heap.size w w' := table_c hok h.below h.net h.evs h.acs
/-- Two networks of the same rows and an activity beside them. -/
structure NA (w0 W : World) (bn bx ga n : Nat) (v1 v2 : Value) (ev : List S65) (ac : List S30) (cs : Array Value) : Prop where
  below : Below w0.heap.size w0 W
  net : W.heap[bn]? = some (.cells #[.int .i64 n, v1, v2] 25 (0, 0))
  net' : W.heap[bx]? = some (.cells #[.int .i64 n, v1, v2] 25 (0, 0))
  evs : Kd.R k65 65 W w0.heap.size (fun _ => True) v1 ev
  acs : Kd.R k30 30 W w0.heap.size (fun k => k ≠ ga) v2 ac
  act : W.heap[ga]? = some (.cells cs 30 (0, 0))
  ge : w0.heap.size ≤ ga
  ne : bn ≠ bx
  gx : w0.heap.size ≤ bx
section
variable {w0 W W' : World} {bn bx ga n : Nat} {v1 v2 : Value} {ev : List S65} {ac : List S30} {cs : Array Value}
theorem NA_new (hx : NS w0 W bx n v1 v2 ev ac) (hy : NS w0 W bn n v1 v2 ev ac) (hne : bn ≠ bx ∧ w0.heap.size ≤ bx) (cs : Array Value) : NA w0 (W.alloc (.cells cs 30)) bn bx W.heap.size n v1 v2 ev ac cs :=
  ⟨hx.below.alloc hx.below.size _, (Below.heap_alloc W _ _ (blk_lt hy.net)).trans hy.net, (Below.heap_alloc W _ _ (blk_lt hx.net)).trans hx.net, Kd.R_alloc hx.evs _, Kd.R_alloc (Kd.R_mono (Kd.R_bound hx.acs) (fun q hq => by obtain ⟨_, _, h3, _⟩ := hq; omega)) _, heap_alloc_new W _, hx.below.size, hne.1, hne.2⟩
theorem NA_newD (hx : NS w0 W bx n v1 v2 ev ac) (hy : NS w0 W bn n v1 v2 ev ac) (hne : bn ≠ bx ∧ w0.heap.size ≤ bx) (cs : Array Value) : NA w0 (W.drew.alloc (.cells cs 30)) bn bx W.heap.size n v1 v2 ev ac cs := NA_new (W := W.drew) (NS_next hx (below_drew (Below.refl _ _))) (NS_next hy (below_drew (Below.refl _ _))) hne cs
theorem NA_next (h : NA w0 W bn bx ga n v1 v2 ev ac cs) (hb : Below W.heap.size W W') : NA w0 W' bn bx ga n v1 v2 ev ac cs :=
  ⟨below_step h.below hb, (hb.block bn (blk_lt h.net)).trans h.net, (hb.block bx (blk_lt h.net')).trans h.net', Kd.R_below h.evs hb, Kd.R_below h.acs hb, (hb.block ga (blk_lt h.act)).trans h.act, h.ge, h.ne, h.gx⟩
theorem NA_set (h : NA w0 W bn bx ga n v1 v2 ev ac cs) (j : Nat) (u : Value) : NA w0 (W.setCell ⟨ga, j, none⟩ u) bn bx ga n v1 v2 ev ac (cs.setIfInBounds j u) :=
  ⟨h.below.setCell h.ge u, blk_other h.net h.act (by decide) j u, blk_other h.net' h.act (by decide) j u, Kd.R_set h.evs h.act (fun q hq => by have := E65 q hq; omega) j u, Kd.R_far (p := ⟨ga, j, none⟩) h.acs (fun k hk => hk) u, blk_set h.act j u, h.ge, h.ne, h.gx⟩
theorem NA_0 (h : NA w0 W bn bx ga n v1 v2 ev ac cs) : W.cell? ⟨bn, 0, none⟩ = some (.int .i64 n) := by rw [blk_cell h.net]; rfl
theorem NA_2 (h : NA w0 W bn bx ga n v1 v2 ev ac cs) : W.cell? ⟨bn, 2, none⟩ = some v2 := by rw [blk_cell h.net]; rfl
theorem NA_six (h : NA w0 W bn bx ga n v1 v2 ev ac #[.int .i64 0, .int .i64 0, .int .i64 0, .int .i64 0, .int .i64 0, .int .i64 0]) (u0 u1 u2 u3 u4 u5 : Value) : NA w0 ((((((W.setCell ⟨ga, 0, none⟩ u0).setCell ⟨ga, 1, none⟩ u1).setCell ⟨ga, 2, none⟩ u2).setCell ⟨ga, 3, none⟩ u3).setCell ⟨ga, 4, none⟩ u4).setCell ⟨ga, 5, none⟩ u5) bn bx ga n v1 v2 ev ac #[u0, u1, u2, u3, u4, u5] :=
  NA_set (NA_set (NA_set (NA_set (NA_set (NA_set h 0 u0) 1 u1) 2 u2) 3 u3) 4 u4) 5 u5
theorem NA_S {u0 u1 u2 u3 u4 u5 : Value} (h : NA w0 W bn bx ga n v1 v2 ev ac #[u0, u1, u2, u3, u4, u5]) : W.cell? ⟨bn, 2, none⟩ = some v2 ∧ W.cell? ⟨ga, 0, none⟩ = some u0 ∧ W.cell? ⟨ga, 1, none⟩ = some u1 ∧ W.cell? ⟨ga, 2, none⟩ = some u2 ∧ W.cell? ⟨ga, 3, none⟩ = some u3 ∧ W.cell? ⟨ga, 4, none⟩ = some u4 ∧ W.cell? ⟨ga, 5, none⟩ = some u5 :=
  ⟨NA_2 h, (blk_cell h.act 0).trans rfl, (blk_cell h.act 1).trans rfl, (blk_cell h.act 2).trans rfl, (blk_cell h.act 3).trans rfl, (blk_cell h.act 4).trans rfl, (blk_cell h.act 5).trans rfl⟩
theorem NA_Sset {u0 u1 u2 u3 u4 u5 : Value} (h : NA w0 W bn bx ga n v1 v2 ev ac #[u0, u1, u2, u3, u4, u5]) (u : Value) : (W.setCell ⟨bx, 2, none⟩ u).cell? ⟨bn, 2, none⟩ = some v2 ∧ (W.setCell ⟨bx, 2, none⟩ u).cell? ⟨ga, 0, none⟩ = some u0 ∧ (W.setCell ⟨bx, 2, none⟩ u).cell? ⟨ga, 1, none⟩ = some u1 ∧ (W.setCell ⟨bx, 2, none⟩ u).cell? ⟨ga, 2, none⟩ = some u2 ∧ (W.setCell ⟨bx, 2, none⟩ u).cell? ⟨ga, 3, none⟩ = some u3 ∧ (W.setCell ⟨bx, 2, none⟩ u).cell? ⟨ga, 4, none⟩ = some u4 ∧ (W.setCell ⟨bx, 2, none⟩ u).cell? ⟨ga, 5, none⟩ = some u5 := by
  have hb := (Below.heap_setCell W ⟨bx, 2, none⟩ u bn h.ne).trans h.net
  have ha := blk_other h.act h.net' (by decide) 2 u
  exact ⟨(blk_cell hb 2).trans rfl, (blk_cell ha 0).trans rfl, (blk_cell ha 1).trans rfl, (blk_cell ha 2).trans rfl, (blk_cell ha 3).trans rfl, (blk_cell ha 4).trans rfl, (blk_cell ha 5).trans rfl⟩
/-- The blocks of before are kept. -/
theorem NA_blk (h : NA w0 W bn bx ga n v1 v2 ev ac cs) (hb : Below w0.heap.size w0 W') (hk : ∀ k, k < W.heap.size → W'.heap[k]? = W.heap[k]?) : NA w0 W' bn bx ga n v1 v2 ev ac cs :=
  ⟨hb, (hk bn (blk_lt h.net)).trans h.net, (hk bx (blk_lt h.net')).trans h.net', Kd.R_mono (Kd.R_move (Kd.R_bound h.evs) (fun k hk' => hk k hk'.2.2.1)) (fun _ h => h.1), Kd.R_mono (Kd.R_move (Kd.R_bound h.acs) (fun k hk' => hk k hk'.2.2.1)) (fun _ h => h.1), (hk ga (blk_lt h.act)).trans h.act, h.ge, h.ne, h.gx⟩
theorem NA_bn (h : NA w0 W bn bx ga n v1 v2 ev ac cs) (u : Value) : NS w0 (W.setCell ⟨bx, 2, none⟩ u) bn n v1 v2 ev ac :=
  ⟨h.below.setCell (p := ⟨bx, 2, none⟩) h.gx u, (Below.heap_setCell W ⟨bx, 2, none⟩ u bn h.ne).trans h.net, Kd.R_set h.evs h.net' (fun q hq => by have := E65 q hq; omega) 2 u, Kd.R_mono (Kd.R_set h.acs h.net' (fun q hq => by have := E30 q hq; omega) 2 u) (fun _ _ => trivial)⟩
theorem NA_bx (h : NA w0 W bn bx ga n v1 v2 ev ac cs) {u : Value} {ac' : List S30} {ok : Nat → Prop} (hr : Kd.R k30 30 W w0.heap.size ok u ac') : NS w0 (W.setCell ⟨bx, 2, none⟩ u) bx n v1 u ev ac' :=
  ⟨h.below.setCell (p := ⟨bx, 2, none⟩) h.gx u, blk_set h.net' 2 u, Kd.R_set h.evs h.net' (fun q hq => by have := E65 q hq; omega) 2 u, Kd.R_mono (Kd.R_set hr h.net' (fun q hq => by have := E30 q hq; omega) 2 u) (fun _ _ => trivial)⟩
end
/-- Behind an append: the new row lies above W7. -/
structure AP (w0 W7 W : World) (bn bx ga n : Nat) (v1 v2 : Value) (ev : List S65) (ac : List S30) (cs : Array Value) (v8 : Value) (xs : List S30) : Prop where
  na : NA w0 W bn bx ga n v1 v2 ev ac cs
  row : Kd.R k30 30 W w0.heap.size (fun k => W7.heap.size ≤ k) v8 xs
  keep : ∀ k, k < W7.heap.size → W.heap[k]? = W7.heap[k]?
section
variable {w0 W7 W V W' : World} {bn bx ga n : Nat} {v1 v2 v8 v9 v10 : Value} {ev : List S65} {ac xs : List S30} {cs : Array Value}
theorem AP_g (h7 : NA w0 W7 bn bx ga n v1 v2 ev ac cs) (hV : ∀ k, k < W7.heap.size → V.heap[k]? = W7.heap[k]?) (hs : W7.heap.size ≤ V.heap.size) (hown : ∀ k, v9.ownBlock = some k → W7.heap.size ≤ k)
    (ho : Kd.R k30 30 W w0.heap.size (fun k => W7.heap.size ≤ k) v8 xs) (hb : Below w0.heap.size w0 W) (hg : V.grownBy W v9.ownBlock) : AP w0 W7 W bn bx ga n v1 v2 ev ac cs v8 xs := by
  have hk : ∀ k, k < W7.heap.size → W.heap[k]? = W7.heap[k]? := fun k hk => (hg.block k (by omega) (fun e => by have := hown k e.symm; omega)).trans (hV k hk)
  exact ⟨NA_blk h7 hb hk, ho, hk⟩
theorem AP_own (h : AP w0 W7 W bn bx ga n v1 v2 ev ac cs v8 xs) : ∀ k, v8.ownBlock = some k → W7.heap.size ≤ k := fun k hk => h.row.1 k hk
end
/-- A literal of one activity. -/
theorem AS_at {W : World} {g : Nat} {a : S30} (h : W.heap[g]? = some (.cells #[.int .i64 a.f0, .int .i64 a.f1, .int .i64 a.f2, .int .i64 a.f3, .int .i64 a.f4, .int .i64 a.f5] 30 (0, 0))) : Kd.C k30 W (some ⟨g, 0, none⟩) 1 [a] := by
  refine ⟨rfl, by simp, fun _ => ⟨_, rfl, fun j p hj => ?_⟩⟩
  match j, hj with
  | 0, hj =>
    simp only [List.getElem?_cons_zero, Option.some.injEq] at hj
    subst hj
    refine ⟨[.int .i64 a.f0, .int .i64 a.f1, .int .i64 a.f2, .int .i64 a.f3, .int .i64 a.f4, .int .i64 a.f5], rfl, k30_mk _ _, fun i u hu => ?_⟩
    match i, hu with
    | 0, hu => simp only [List.getElem?_cons_zero, Option.some.injEq] at hu; subst hu; exact (blk_cell h 0).trans rfl
    | 1, hu => simp only [List.getElem?_cons_succ, List.getElem?_cons_zero, Option.some.injEq] at hu; subst hu; exact (blk_cell h 1).trans rfl
    | 2, hu => simp only [List.getElem?_cons_succ, List.getElem?_cons_zero, Option.some.injEq] at hu; subst hu; exact (blk_cell h 2).trans rfl
    | 3, hu => simp only [List.getElem?_cons_succ, List.getElem?_cons_zero, Option.some.injEq] at hu; subst hu; exact (blk_cell h 3).trans rfl
    | 4, hu => simp only [List.getElem?_cons_succ, List.getElem?_cons_zero, Option.some.injEq] at hu; subst hu; exact (blk_cell h 4).trans rfl
    | 5, hu => simp only [List.getElem?_cons_succ, List.getElem?_cons_zero, Option.some.injEq] at hu; subst hu; exact (blk_cell h 5).trans rfl
    | i + 6, hu => simp at hu
  | j + 1, hj => simp at hj
theorem NS_S {w0 W : World} {bn bx n : Nat} {v1 v2 v3 : Value} {ev : List S65} {ac ac' : List S30} (h : NS w0 W bn n v1 v2 ev ac) (h' : NS w0 W bx n v1 v3 ev ac') : W.cell? ⟨bn, 0, none⟩ = some (.int .i64 n) ∧ W.cell? ⟨bn, 1, none⟩ = some v1 ∧ W.cell? ⟨bn, 2, none⟩ = some v2 ∧ W.cell? ⟨bx, 0, none⟩ = some (.int .i64 n) ∧ W.cell? ⟨bx, 1, none⟩ = some v1 ∧ W.cell? ⟨bx, 2, none⟩ = some v3 :=
  ⟨NS_0 h, NS_1 h, NS_2 h, NS_0 h', NS_1 h', NS_2 h'⟩
theorem NS_drew {w0 W : World} {bn n : Nat} {v1 v2 : Value} {ev : List S65} {ac : List S30} (h : NS w0 W bn n v1 v2 ev ac) : NS w0 W.drew bn n v1 v2 ev ac := NS_next h (below_drew (Below.refl _ _))
theorem NS_tableD {n : Nat} {w0 w : World} {bn : Nat} {v1 v2 : Value} {ev : List S65} {ac : List S30} (h : NS w0 w bn n v1 v2 ev ac) (hok : okN n ev ac = true) :
    Calls Try.prog 20 #[.agg #[.int .i64 n, v1, v2]] w.drew fun e w' => ∃ g q, e = .returned (.pointer (some ⟨g, 0, none⟩)) ∧ LB w0 w' bn g n v1 v2 ev ac q ∧ TabOk n ev ac q ∧ Below w.heap.size w w' :=
  (NS_table (NS_drew h) hok).mono fun _ _ ⟨g, q, a, b, c, d⟩ => ⟨g, q, a, b, c, below_step (below_drew (Below.refl _ _)) d⟩
theorem okA_net {n m : Nat} {a : S30} (hn : 2 ≤ n ∧ n ≤ 9) (h : actNet n m a) : okA ((m : Int) - 1) n a = true := by
  obtain ⟨a1, a2, a3, a4, a5, a6, a7, a8, a9, a10, a11⟩ := h
  exact okA_iff.2 ⟨by omega, by omega, a5, by omega, a8, by omega, by omega, by omega⟩
end Go.Proofs.Ytkbcgahpekmlbaa.PPg
