/- What the laws of layer 13 meet. -/
import Derived.Test.YtkbcgahpekmlbaaLPgN2
namespace Go.Proofs.Ytkbcgahpekmlbaa.PPg
open Go.RowKit Go.Proofs.YtkbcgahpekmlbaaW.PrintWords Go.Proofs.YtkbcgahpekmlbaaW.PrintLast Go.Proofs.YtkbcgahpekmlbaaW.PrintMore
set_option linter.unusedVariables false
set_option maxRecDepth 100000
/-- A law's memory: its network at bn, the closed table at g. -/
structure LB (w0 W : World) (bn g n : Nat) (v1 v2 : Value) (ev : List S65) (ac : List S30) (q : Mx) : Prop where
  below : Below w0.heap.size w0 W
  net : W.heap[bn]? = some (.cells #[.int .i64 n, v1, v2] 25 (0, 0))
  evs : Kd.R k65 65 W w0.heap.size (fun _ => True) v1 ev
  acs : Kd.R k30 30 W w0.heap.size (fun _ => True) v2 ac
  tab : ∃ B, Tb W B g n ev ac ev.length (tabl n ev.length q)
/-- The matrix without residues. -/
def q0M : Mx := fun _ _ _ => false
theorem tabl_none (n m : Nat) : tabl n m q0M = List.replicate (m * m) [] := by
  refine (tabl_ext (by simp) fun i j hi hj => ?_).symm
  rw [List.getElem?_replicate, if_pos (ix_lt hi hj)]
  exact congrArg some (can_nil fun x _ _ => rfl).symm
/-- What the table is. -/
def TabOk (n : Nat) (ev : List S65) (ac : List S30) (q : Mx) : Prop := (q = q0M ∧ Case1 n ev.length (initM n ac)) ∨ Case2 n ev.length (initM n ac) q
section
variable {w0 W W' : World} {bn g n : Nat} {v1 v2 : Value} {ev : List S65} {ac : List S30} {q : Mx}
theorem LB_next (h : LB w0 W bn g n v1 v2 ev ac q) (hb : Below W.heap.size W W') : LB w0 W' bn g n v1 v2 ev ac q :=
  ⟨below_step h.below hb, (hb.block bn (blk_lt h.net)).trans h.net, Kd.R_below h.evs hb, Kd.R_below h.acs hb, h.tab.elim fun B ht => ⟨B, Tb_below ht hb⟩⟩
theorem LB_drew (h : LB w0 W bn g n v1 v2 ev ac q) : LB w0 W.drew bn g n v1 v2 ev ac q := LB_next h (below_drew (Below.refl _ _))
theorem LB_drewN (h : LB w0 W bn g n v1 v2 ev ac q) (k : Nat) : LB w0 (W.drewN k) bn g n v1 v2 ev ac q := LB_next h (pw_below_drewN (Below.refl _ _) k)
theorem LB_P (h : LB w0 W bn g n v1 v2 ev ac q) : W.cell? ⟨bn, 0, none⟩ = some (.int .i64 n) := by rw [blk_cell h.net]; rfl
theorem LB_1 (h : LB w0 W bn g n v1 v2 ev ac q) : W.cell? ⟨bn, 1, none⟩ = some v1 := by rw [blk_cell h.net]; rfl
theorem LB_2 (h : LB w0 W bn g n v1 v2 ev ac q) : W.cell? ⟨bn, 2, none⟩ = some v2 := by rw [blk_cell h.net]; rfl
/-- Between, of a pair. -/
theorem Btw_c {i j : Nat} (h : LB w0 W bn g n v1 v2 ev ac q) (h1 : 1 ≤ n) (h2 : n ≤ 7200) (hm : ev.length ≤ 48) (hi : i < ev.length) (hj : j < ev.length) :
    Calls Try.prog 18 #[.pointer (some ⟨g, 0, none⟩), .int .i64 i, .int .i64 j] W fun e w' => (∃ A c, e = .returned (.slice A (can n (q i j)).length c) ∧ VS w' (.slice A (can n (q i j)).length c) (can n (q i j))) ∧ LB w0 w' bn g n v1 v2 ev ac q ∧ Below W.heap.size W w' := by
  obtain ⟨B, ht⟩ := h.tab
  have hx := ix_ok (n := n) q hi hj hm
  have e := tabl_rd (n := n) q hi hj
  refine (Between_in W B g n ev ac ev.length (tabl n ev.length q) i j _ ht hx (by omega) (by omega) (by omega) (by rw [e]; exact vld_fit (can_vld _ h1 h2))).mono ?_
  rw [e]
  rintro _ w' ⟨⟨v, rfl, hr⟩, hb⟩
  obtain ⟨A, c, rfl⟩ := Kd.R_slice hr
  exact ⟨⟨A, c, rfl, VS_R hr⟩, LB_next h hb, hb⟩
theorem Btw_d {i j : Nat} (h : LB w0 W bn g n v1 v2 ev ac q) (h1 : 1 ≤ n) (h2 : n ≤ 7200) (hm : ev.length ≤ 48) (hi : i < ev.length) (hj : j < ev.length) :
    Calls Try.prog 18 #[.pointer (some ⟨g, 0, none⟩), .int .i64 i, .int .i64 j] W.drew fun e w' => (∃ A c, e = .returned (.slice A (can n (q i j)).length c) ∧ VS w' (.slice A (can n (q i j)).length c) (can n (q i j))) ∧ LB w0 w' bn g n v1 v2 ev ac q ∧ Below W.heap.size W w' :=
  (Btw_c (LB_drew h) h1 h2 hm hi hj).mono fun _ _ ⟨a, b, c⟩ => ⟨a, b, below_step (below_drew (Below.refl _ _)) c⟩
theorem Btw_e {i j : Nat} (h : LB w0 W bn g n v1 v2 ev ac q) (h1 : 1 ≤ n) (h2 : n ≤ 7200) (hm : ev.length ≤ 48) (hi : i < ev.length) (hj : j < ev.length) :
    Calls Try.prog 18 #[.pointer (some ⟨g, 0, none⟩), .int .i64 i, .int .i64 j] W fun e w' => (∃ A c s, e = .returned (.slice A (List.length s) c) ∧ VS w' (.slice A (List.length s) c) s ∧ can n (q i j) = s) ∧ LB w0 w' bn g n v1 v2 ev ac q ∧ Below W.heap.size W w' :=
  (Btw_c h h1 h2 hm hi hj).mono fun _ _ ⟨⟨A, c, e, h⟩, b, d⟩ => ⟨⟨A, c, _, e, h, rfl⟩, b, d⟩
theorem Btw_de {i j : Nat} (h : LB w0 W bn g n v1 v2 ev ac q) (h1 : 1 ≤ n) (h2 : n ≤ 7200) (hm : ev.length ≤ 48) (hi : i < ev.length) (hj : j < ev.length) :
    Calls Try.prog 18 #[.pointer (some ⟨g, 0, none⟩), .int .i64 i, .int .i64 j] W.drew fun e w' => (∃ A c s, e = .returned (.slice A (List.length s) c) ∧ VS w' (.slice A (List.length s) c) s ∧ can n (q i j) = s) ∧ LB w0 w' bn g n v1 v2 ev ac q ∧ Below W.heap.size W w' :=
  (Btw_d h h1 h2 hm hi hj).mono fun _ _ ⟨⟨A, c, e, h⟩, b, d⟩ => ⟨⟨A, c, _, e, h, rfl⟩, b, d⟩
theorem Btw_o (h : LB w0 W bn g n v1 v2 ev ac q) (i j : Int) (ho : i < 0 ∨ j < 0 ∨ (ev.length : Int) ≤ i ∨ (ev.length : Int) ≤ j) :
    Calls Try.prog 18 #[.pointer (some ⟨g, 0, none⟩), .int .i64 i, .int .i64 j] W fun e w' => e = .returned (.slice none 0 0) ∧ W = w' := by
  obtain ⟨B, ht⟩ := h.tab
  exact Between_out W B g n ev ac ev.length _ i j ht ho
theorem Emp_c (h : LB w0 W bn g n v1 v2 ev ac q) :
    Calls Try.prog 19 #[.pointer (some ⟨g, 0, none⟩)] W fun e w' => e = .returned (.bool (noneIn (tabl n ev.length q))) ∧ W = w' := by
  obtain ⟨B, ht⟩ := h.tab
  exact Empty_c W B g n ev ac ev.length _ ht
theorem Cnt_c (h : LB w0 W bn g n v1 v2 ev ac q) (h1 : 1 ≤ n) (h2 : n ≤ 7200) (hm : ev.length ≤ 48) :
    Calls Try.prog 24 #[.pointer (some ⟨g, 0, none⟩)] W fun e w' => e = .returned (.int .i64 (tot n ev.length q)) ∧ LB w0 w' bn g n v1 v2 ev ac q ∧ Below W.heap.size W w' := by
  obtain ⟨B, ht⟩ := h.tab
  have hl : (tabl n ev.length q).length ≤ 2304 := by rw [tabl_len]; exact Nat.mul_le_mul hm hm
  have hex : ∀ l : List (List S41), (∀ s ∈ l, ∃ p, s = can n p) → ∃ K, ∀ s ∈ l, residue_Count.f K n s = some (cnt (mem s) n) := by
    intro l
    induction l with
    | nil => intro _; exact ⟨0, fun s hs => by cases hs⟩
    | cons a l ih =>
      intro h
      obtain ⟨K1, k1⟩ := ih fun s hs => h s (List.mem_cons_of_mem _ hs)
      obtain ⟨p, rfl⟩ := h a List.mem_cons_self
      obtain ⟨K2, k2⟩ := count_can h1 h2 p
      refine ⟨K1 + K2, fun s hs => ?_⟩
      rcases List.mem_cons.1 hs with rfl | hs
      · rw [cnt_can]; exact k2 _ (by omega)
      · exact at_rounds (g := fun k => residue_Count.f k n s) (fun k => residue_Count.mono _ _ k) (Nat.le_add_right K1 K2) (k1 s hs)
  obtain ⟨K, hK⟩ := hex (tabl n ev.length q) (fun s hs => by
    unfold tabl at hs
    obtain ⟨k, _, rfl⟩ := List.mem_map.1 hs
    exact ⟨_, rfl⟩)
  refine (Count_c K W B g n ev ac ev.length (tabl n ev.length q) (fun s => cnt (mem s) n) ht (by omega) fun s hs => ⟨hK s hs, ?_⟩).mono ?_
  · have := cnt_bounds (mem s) n; omega
  · rintro e w' ⟨rfl, hb⟩
    exact ⟨rfl, LB_next h hb, hb⟩
end
/-- The statements' table of a valid network. -/
theorem table_c {n : Nat} {w0 w : World} {bn : Nat} {v1 v2 : Value} {ev : List S65} {ac : List S30} (hok : okN n ev ac = true) (hB : Below w0.heap.size w0 w) (hn : w.heap[bn]? = some (.cells #[.int .i64 n, v1, v2] 25 (0, 0))) (h1 : Kd.R k65 65 w w0.heap.size (fun _ => True) v1 ev) (h2 : Kd.R k30 30 w w0.heap.size (fun _ => True) v2 ac) :
    Calls Try.prog 20 #[.agg #[.int .i64 n, v1, v2]] w fun e w' => ∃ g q, e = .returned (.pointer (some ⟨g, 0, none⟩)) ∧ LB w0 w' bn g n v1 v2 ev ac q ∧ TabOk n ev ac q ∧ Below w.heap.size w w' := by
  obtain ⟨A1, c1, rfl⟩ := Kd.R_slice h1
  obtain ⟨A2, c2, rfl⟩ := Kd.R_slice h2
  have H1 := Aside0.mk h1
  have H2 := Aside0.mk h2
  have HN := Aside0.mk hn
  have HB := Aside0.mk hB
  have HK := Aside0.mk hok
  clear h1 h2 hn hB hok
  go_enter Try.func20, Try.ntmps20
  go_wp2_with fail
  refine (Close_ok _ A1 A2 c1 c2 ev ac (Kd.R_reads' (Kd.R_alloc H1.out _)).2.2 (Kd.R_reads' (Kd.R_alloc H2.out _)).2.2 HK.out).mono ?_
  rintro _ w1 ⟨⟨g, sets, rfl, ht, hc⟩, hb⟩
  have n1 : 1 ≤ n := by
    have := HK.out
    unfold okN at this
    simp only [Bool.and_eq_true, decide_eq_true_eq] at this
    omega
  have HB1 := Aside0.mk (below_step ((Below.refl w.heap.size w).alloc (Nat.le_refl _) _) hb)
  have HT := Aside0.mk ht
  have HC := Aside0.mk (Closed_cases n1 (okN_act HK.out) hc)
  clear ht hc hb n1
  go_wp2_with fail
  go_ret
  rcases HC.out with ⟨rfl, hc⟩ | ⟨q, rfl, hc⟩
  · have ht := HT.out
    rw [← tabl_none n] at ht
    exact ⟨g, q0M, rfl, ⟨below_step HB.out HB1.out, (HB1.out.block bn (blk_lt HN.out)).trans HN.out, Kd.R_below H1.out HB1.out, Kd.R_below H2.out HB1.out, _, ht⟩, .inl ⟨rfl, hc⟩, HB1.out⟩
  · exact ⟨g, q, rfl, ⟨below_step HB.out HB1.out, (HB1.out.block bn (blk_lt HN.out)).trans HN.out, Kd.R_below H1.out HB1.out, Kd.R_below H2.out HB1.out, _, HT.out⟩, .inr hc, HB1.out⟩
theorem NetOk_ok {n : Nat} {ev : List S65} {ac : List S30} (h : NetOk n ev ac) : okN n ev ac = true := by
  obtain ⟨h1, h2, h3, h4, h5, h6⟩ := h
  unfold okN badA
  simp only [Bool.and_eq_true, decide_eq_true_eq, Bool.not_eq_true']
  refine ⟨by omega, by omega, by omega, ?_⟩
  rw [List.any_eq_false]
  intro a ha
  obtain ⟨a1, a2, a3, a4, a5, a6, a7, a8, a9, a10, a11⟩ := h6 a ha
  have : okA ((ev.length : Int) - 1) n a = true := okA_iff.2 ⟨by omega, by omega, a5, by omega, a8, by omega, by omega, by omega⟩
  simp [this]
theorem TabOk_FC {n : Nat} {ev : List S65} {ac : List S30} {q : Mx} (h : TabOk n ev ac q) : FC n ev.length q := by
  rcases h with ⟨rfl, _⟩ | h
  · intro i j k _ _ _ x _ _ hx; cases hx
  · exact h.fc
theorem none_of {n m : Nat} (h : 0 < m) : noneIn (tabl n m q0M) = true := by
  unfold noneIn
  rw [List.any_eq_true]
  refine ⟨[], ?_, rfl⟩
  rw [tabl_none, List.mem_replicate]
  exact ⟨by have := Nat.mul_pos h h; omega, rfl⟩
theorem q0_can (n i j : Nat) : can n (q0M i j) = [] := can_nil fun x _ _ => rfl
theorem inter_all {n : Nat} {p r : Int → Bool} (h : ∀ x : Int, 0 ≤ x → x < n → r x = true → p x = true) : can n (fun x => p x && r x) = can n r := can_congr fun x x0 x1 => by
  cases hr : r x with
  | false => rw [Bool.and_false]
  | true => rw [h x x0 x1 hr]; rfl
theorem one_can {n : Nat} (h1 : 1 ≤ n) {q : Mx} {i m : Nat} (hi : i < m) (hd : diag n m q) : can n (q i i) = [⟨0, 1⟩] := by
  refine (eq_can (a := -1) ?_ fun x x0 x1 => ?_).symm
  · rw [vldF_cons]; exact ⟨by simp, by simp, by simp, by simp; omega, rfl⟩
  · rw [mem_cons, mem_nil, Bool.or_false, Bool.eq_iff_iff, inS_iff, hd i hi x x0 x1]
    simp only
    omega
theorem total_rep (f : List S41 → Int) (h : f [] = 0) : ∀ k, total f (List.replicate k []) = 0
  | 0 => rfl
  | k + 1 => by rw [List.replicate_succ]; simp only [total, h, total_rep f h k]; rfl
theorem cnt_none : ∀ n : Nat, cnt (mem []) n = 0
  | 0 => rfl
  | n + 1 => by simp only [cnt, cnt_none n, mem_nil]; rfl
theorem tot_none (n m : Nat) : tot n m q0M = 0 := by
  unfold tot
  rw [tabl_none]
  exact total_rep _ (cnt_none n) _
theorem total_ge {f : List S41 → Int} : ∀ {l : List (List S41)}, (∀ s ∈ l, 0 ≤ f s) → ∀ s ∈ l, f s ≤ total f l
  | [], _, s, hs => by cases hs
  | a :: l, h, s, hs => by
    have h0 := h a List.mem_cons_self
    simp only [total]
    rcases List.mem_cons.1 hs with rfl | hs
    · have : 0 ≤ total f l := by
        clear hs
        have hl := fun s hs => h s (List.mem_cons_of_mem _ hs)
        clear h h0
        induction l with
        | nil => exact Int.le_refl _
        | cons b l ih =>
          have := hl b List.mem_cons_self
          have := ih (fun s hs => hl s (List.mem_cons_of_mem _ hs))
          simp only [total]; omega
      omega
    · have := total_ge (fun s hs => h s (List.mem_cons_of_mem _ hs)) s hs
      omega
theorem tot_full {n m : Nat} (hn : n ≤ 7200) (hm : 1 ≤ m) {q : Mx} (h : full n m q) : 0 < tot n m q := by
  obtain ⟨x, x0, x1, hx⟩ := h 0 0 (by omega) (by omega)
  have hmem : can n (q 0 0) ∈ tabl n m q := List.mem_of_getElem? (tabl_get q (i := 0) (j := 0) (by omega) (by omega))
  have h1 := total_ge (f := fun s => cnt (mem s) n) (fun s _ => (cnt_bounds (mem s) n).1) _ hmem
  have h2 : cnt (q 0 0) n ≠ 0 := fun e => by
    have h3 := cnt_eq (p := mem []) (q := q 0 0) (n := n) (fun x _ _ hx => by rw [mem_nil] at hx; cases hx) (by rw [cnt_none, e]; exact Int.le_refl _) x x0 x1
    rw [mem_nil, hx] at h3
    cases h3
  have h3 := (cnt_bounds (q 0 0) n).1
  rw [cnt_can] at h1
  unfold tot
  omega
/-- A literal of one span. -/
theorem VS_one (w : World) (a b : Int) : VS (w.alloc (.cells #[.int .i64 a, .int .i64 b] 41)) (.slice (some ⟨w.heap.size, 0, none⟩) ([⟨a, b⟩] : List S41).length 1) [⟨a, b⟩] := by
  refine VS_of ⟨rfl, by simp, fun _ => ⟨_, rfl, fun j p hj => ?_⟩⟩ (by simp)
  match j, hj with
  | 0, hj =>
    simp only [List.getElem?_cons_zero, Option.some.injEq] at hj
    subst hj
    refine ⟨[.int .i64 a, .int .i64 b], rfl, k41_mk _ _, fun i u hu => ?_⟩
    match i, hu with
    | 0, hu => simp only [List.getElem?_cons_zero, Option.some.injEq] at hu; subst hu; exact World.cell?_alloc_at _ _ _ _ rfl
    | 1, hu => simp only [List.getElem?_cons_succ, List.getElem?_cons_zero, Option.some.injEq] at hu; subst hu; exact World.cell?_alloc_at _ _ _ _ rfl
    | i + 2, hu => simp at hu
  | j + 1, hj => simp at hj
end Go.Proofs.Ytkbcgahpekmlbaa.PPg
