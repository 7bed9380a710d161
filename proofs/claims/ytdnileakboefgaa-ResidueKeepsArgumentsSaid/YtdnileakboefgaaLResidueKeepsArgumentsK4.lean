/- Rows of rows of spans whose numbers are written over. -/
import Derived.Test.YtdnileakboefgaaLResidueKeepsArgumentsK1
namespace Go.Proofs.Ytdnileakboefgaa.PResidueKeepsArguments
open Go.RowKit Go.Proofs.YtdnileakboefgaaW.PrintWords Go.Proofs.YtdnileakboefgaaW.PrintLast Go.Proofs.YtdnileakboefgaaW.PrintMore
set_option linter.unusedVariables false
def Ints (l : List Value) : Prop := ∀ u ∈ l, ∃ z : Int, u = .int .i64 z
theorem getElem_two {l : List Value} {i : Nat} (h : i + 2 ≤ l.length) : (l.drop i).take 2 = [l[i]'(by omega), l[i + 1]'(by omega)] := by
  rw [List.drop_eq_getElem_cons (by omega), List.drop_eq_getElem_cons (by omega)]; rfl
theorem ints_of {w : World} {base : Nat} {ok : Nat → Prop} {xs : List S35} {l : List Value} (h : Reps (k35.M w base ok) 2 xs l) : Ints l := by
  intro u hu
  obtain ⟨i, hi, rfl⟩ := List.getElem_of_mem hu
  have hl := h.1
  have hj : i / 2 < xs.length := by omega
  have h1 := k35_openM (h.2 (i / 2) _ (List.getElem?_eq_getElem hj))
  rw [getElem_two (by omega)] at h1
  injection h1 with h2 h3
  injection h3 with h3 _
  rcases (show i = i / 2 * 2 ∨ i = i / 2 * 2 + 1 by omega) with e | e
  · exact ⟨_, (show l[i] = l[i / 2 * 2]'(by omega) by congr 1).trans h2⟩
  · exact ⟨_, (show l[i] = l[i / 2 * 2 + 1]'(by omega) by congr 1).trans h3⟩
theorem of_ints (w : World) (base : Nat) (ok : Nat → Prop) (n : Nat) (l : List Value) (hl : l.length = n * 2) (hi : Ints l) : ∃ xs : List S35, xs.length = n ∧ Reps (k35.M w base ok) 2 xs l := by
  refine ⟨(List.range n).map (fun j => ⟨intOf (l.getD (j * 2) undef), intOf (l.getD (j * 2 + 1) undef)⟩), by simp, by simp [hl], fun j p hj => ?_⟩
  simp only [List.getElem?_map, Option.map_eq_some_iff] at hj
  obtain ⟨q, hq, rfl⟩ := hj
  obtain ⟨hq1, hq2⟩ := List.getElem?_eq_some_iff.1 hq
  simp at hq1 hq2
  subst hq2
  rw [getElem_two (by omega)]
  obtain ⟨a, ha⟩ := hi (l[j * 2]'(by omega)) (List.getElem_mem _)
  obtain ⟨b, hb⟩ := hi (l[j * 2 + 1]'(by omega)) (List.getElem_mem _)
  have e1 : l.getD (j * 2) undef = .int .i64 a := by rw [List.getD_eq_getElem?_getD, List.getElem?_eq_getElem (by omega), ha]; rfl
  have e2 : l.getD (j * 2 + 1) undef = .int .i64 b := by rw [List.getD_eq_getElem?_getD, List.getElem?_eq_getElem (by omega), hb]; rfl
  rw [e1, e2, ha, hb]
  exact k35_mkM _ _ _ ⟨a, b⟩
theorem own_set {w : World} {base n : Nat} {v : Value} {l : List Value} (h : w.ownsRow base 35 2 v n l) (g j : Nat) (u : Value) : ∃ l', (w.setCell ⟨g, j, none⟩ u).ownsRow base 35 2 v n l' ∧ (l' = l ∨ l' = l.set j u) := by
  by_cases hg : some g = v.ownBlock
  · obtain ⟨h1, h2 | ⟨g', cap, cur, rfl, hb, hh, hn, hm, hs, ht⟩⟩ := h
    · rw [h2.1] at hg; simp [Value.ownBlock] at hg
    · simp only [Value.ownBlock, Option.some.injEq] at hg
      subst hg
      refine ⟨l.set j u, ⟨by simp [h1], .inr ⟨g, cap, _, rfl, hb, blk_set hh j u, hn, hm, by simp [hs], ?_⟩⟩, .inr rfl⟩
      rw [Array.toList_setIfInBounds, List.take_set, ht]
  · exact ⟨l, own_setCell h hg u, .inl rfl⟩
theorem ints_set {l l' : List Value} {j : Nat} {z : Int} (h : Ints l) (e : l' = l ∨ l' = l.set j (.int .i64 z)) : Ints l' := by
  rcases e with rfl | rfl
  · exact h
  · intro u hu
    rcases List.mem_or_eq_of_mem_set hu with hu | hu
    · exact h u hu
    · exact ⟨z, hu⟩
theorem R_any {w : World} {base : Nat} {ok : Nat → Prop} {v : Value} {xs : List S35} (h : Kd.R k35 35 w base ok v xs) (g j : Nat) (z : Int) :
    ∃ xs' : List S35, xs'.length = xs.length ∧ Kd.R k35 35 (w.setCell ⟨g, j, none⟩ (.int .i64 z)) base ok v xs' := by
  obtain ⟨h0, l, ho, hr⟩ := h
  obtain ⟨l', ho', e⟩ := own_set ho g j (.int .i64 z)
  obtain ⟨xs', hl, hr'⟩ := of_ints (w.setCell ⟨g, j, none⟩ (.int .i64 z)) base (fun k => ok k ∧ some k ≠ v.ownBlock) xs.length l' (by
    rcases e with rfl | rfl
    · exact hr.1
    · rw [List.length_set]; exact hr.1) (ints_set (ints_of hr) e)
  exact ⟨xs', hl, h0, l', by rw [hl]; exact ho', hr'⟩
theorem Rows_set {w : World} {base : Nat} {ok : Nat → Prop} {v : Value} {rows : List (List S35)} (h : Kd.R (Kd.slice 35 k35) 22 w base ok v rows) (g j : Nat) (z : Int) (hg : some g ≠ v.ownBlock) :
    ∃ rows' : List (List S35), rows'.map List.length = rows.map List.length ∧ Kd.R (Kd.slice 35 k35) 22 (w.setCell ⟨g, j, none⟩ (.int .i64 z)) base ok v rows' := by
  obtain ⟨h0, l, ho, hr⟩ := h
  have ho' := own_setCell ho hg (p := ⟨g, j, none⟩) (.int .i64 z)
  have hex : ∀ i, ∃ xs' : List S35, ∀ p, rows[i]? = some p → xs'.length = p.length ∧ (Kd.slice 35 k35).M (w.setCell ⟨g, j, none⟩ (.int .i64 z)) base (fun k => ok k ∧ some k ≠ v.ownBlock) xs' ((l.drop (i * 1)).take 1) := by
    intro i
    cases hi : rows[i]? with
    | none => exact ⟨[], fun p hp => by cases hp⟩
    | some q =>
      obtain ⟨u, hu, hR⟩ := hr.2 i q hi
      obtain ⟨xs', h1, h2⟩ := R_any hR g j z
      refine ⟨xs', fun p hp => ?_⟩
      injection hp with hp
      subst hp
      exact ⟨h1, u, hu, h2⟩
  have hf := Classical.axiomOfChoice hex
  obtain ⟨f, hf⟩ := hf
  have hlen : ((List.range rows.length).map f).length = rows.length := by simp
  refine ⟨(List.range rows.length).map f, ?_, h0, l, by rw [hlen]; exact ho', by rw [hlen]; exact hr.1, fun i p hp => ?_⟩
  · apply List.ext_getElem (by simp)
    intro i h1 h2
    simp only [List.length_map] at h2
    simp only [List.getElem_map, List.getElem_range]
    exact (hf i _ (List.getElem?_eq_getElem h2)).1
  · simp only [List.getElem?_map, Option.map_eq_some_iff] at hp
    obtain ⟨q, hq, rfl⟩ := hp
    obtain ⟨hq1, hq2⟩ := List.getElem?_eq_some_iff.1 hq
    simp at hq1 hq2
    subst hq2
    exact (hf i _ (List.getElem?_eq_getElem hq1)).2
/-- Element i of the row of rows, with where it lies. -/
theorem Rows_at {w : World} {base : Nat} {ok : Nat → Prop} {A : Option Addr} {n c : Nat} {rows : List (List S35)} (h : Kd.R (Kd.slice 35 k35) 22 w base ok (.slice A n c) rows) (i : Int) (h0 : 0 ≤ i) (h1 : i < rows.length) :
    ∃ g v, A = some ⟨g, 0, none⟩ ∧ w.cell? ⟨g, i.toNat, none⟩ = some v ∧ Kd.R k35 35 w base (fun k => ok k ∧ k ≠ g) v (rd_L2 rows i) := by
  obtain ⟨g, cap, e, hb, hlt, cells, hc⟩ := Kd.R_form h (by omega)
  injection e with e1 e2 e3
  subst e1 e2 e3
  obtain ⟨cs, hl, ⟨v, rfl, hR⟩, hcs, _⟩ := Kd.R_elem h [] i h0 (by omega)
  have := hcs 0 v rfl
  refine ⟨g, v, rfl, ?_, hR⟩
  have e : i.toNat * (Kd.slice 35 k35).sz + 0 = i.toNat := by show i.toNat * 1 + 0 = _; omega
  rw [e] at this
  exact this
theorem R_cells {w : World} {base : Nat} {ok : Nat → Prop} {v : Value} {xs : List S35} (h : Kd.R k35 35 w base ok v xs) (hp : 0 < xs.length) :
    ∃ g cap cur, v = .slice (some ⟨g, 0, none⟩) xs.length cap ∧ ok g ∧ base ≤ g ∧ w.heap[g]? = some (.cells cur 35 (0, 0)) ∧ xs.length * 2 ≤ cur.size := by
  obtain ⟨g, cap, e, hb, _⟩ := Kd.R_form h hp
  have hok := h.1 g (by rw [e]; rfl)
  obtain ⟨_, l, ho, hr⟩ := h
  rcases ho.2 with ⟨e2, _⟩ | ⟨g', cap', cur, e2, _, hh, hn, _, hs, _⟩
  · rw [e] at e2; cases e2
  · rw [e] at e2
    injection e2 with e3 _ e4
    injection e3 with e3
    injection e3 with e3
    subst e3 e4
    exact ⟨g, cap, cur, e, hok, hb, hh, by have : cur.size = cap * 2 := hs; omega⟩
theorem rd_len {rs rs' : List (List S35)} (h : rs'.map List.length = rs.map List.length) (j : Int) : (rd_L2 rs' j).length = (rd_L2 rs j).length := by
  have h1 := congrArg (fun l => l[j.toNat]?) h
  simp only [List.getElem?_map] at h1
  unfold rd_L2
  rw [List.getD_eq_getElem?_getD, List.getD_eq_getElem?_getD]
  cases h2 : rs'[j.toNat]? <;> cases h3 : rs[j.toNat]? <;> rw [h2, h3] at h1 <;> simp_all
theorem VK_of {w : World} {g C : Nat} {l : List S35} {f : S35} (h : VS w (.slice (some ⟨g, 0, none⟩) (l.length + 3) C) (l ++ [f, f, f])) : VK w g C l f := by
  unfold VK; rwa [show (l ++ [f, f, f] : List S35).length = l.length + 3 by simp]
theorem sz35 : (Try.prog.info? 35).map (·.size) = some 2 := by kernel_rfl
/-- out[k] = Span{} in a row of spans. -/
theorem store_zero {P : Program} {ops : Array Oper} {rest : List Oper} {o : Oper} {a : Act} {Q : Exit → Act → World → Prop} {W : World} (hN : o.dst = none) (hgd : o.guard = none) (p x : Operand) (ho : o.op = .store 35 p x) {g o' : Nat} {cur : Array Value}
    (haddr : a.eval p = .pointer (some ⟨g, o', none⟩)) (hx : a.eval x = .agg #[.int .i64 0, .int .i64 0]) (ht : (P.info? 35).map (·.size) = some 2) (hh : W.heap[g]? = some (.cells cur 35 (0, 0))) (hfit : o' + 2 ≤ cur.size)
    (h : wpList P ops Q rest a ((W.setCell ⟨g, o', none⟩ (.int .i64 0)).setCell ⟨g, o' + 1, none⟩ (.int .i64 0))) : wpList P ops Q (o :: rest) a W := by
  refine wpList_plain hgd fun K hK => ?_
  have hrun := run_store_run (P := P) (w := W) (g := g) (o := o') 35 (.agg #[.int .i64 0, .int .i64 0]) [.int .i64 0, .int .i64 0] hh rfl ht hfit (by simp [Value.oneCell'])
  unfold Oper.wp execOp
  simp only [ho, haddr, hx, Sem.run_bind, Sem.run_pure, Result.andThen_ok, hrun]
  show K (a.put o.dst undef) _
  rw [hN]
  exact hK a _ h
end Go.Proofs.Ytdnileakboefgaa.PResidueKeepsArguments
