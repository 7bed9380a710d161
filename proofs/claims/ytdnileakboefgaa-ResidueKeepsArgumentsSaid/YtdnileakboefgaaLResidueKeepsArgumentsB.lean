/- What the program's functions on residue sets come to: the period's check, Valid, Mod, the flags, their list, Make, Same. -/
import Derived.Test.YtdnileakboefgaaLResidueKeepsArgumentsA
import Derived.Test.YtdnileakboefgaaPResidueKeepsArgumentsx
namespace Go.Proofs.Ytdnileakboefgaa.PResidueKeepsArguments
open Go.RowKit Go.Proofs.YtdnileakboefgaaW.PrintWords Go.Proofs.YtdnileakboefgaaW.PrintLast Go.Proofs.YtdnileakboefgaaW.PrintMore
set_option linter.unusedVariables false
set_option linter.unusedSimpArgs false

def Fit {α : Type} (s : List α) : Prop := s.length ≤ 140737488355328
theorem fit_le {α : Type} {s : List α} (h : s.length ≤ 7200) : Fit s := by unfold Fit; omega
theorem fit_nil {α : Type} : Fit ([] : List α) := fit_le (by simp)
theorem len1 {α : Type} (pre : List α) (u : α) : (((pre ++ [u]).length : Nat) : Int) = (pre.length : Int) + 1 := by simp
theorem rd_pre (pre : List S35) (u : S35) (suf : List S35) : rd_T35 (pre ++ u :: suf) (pre.length : Int) = u := by simp [rd_T35]
theorem lt_pre {α : Type} (pre : List α) (u : α) (suf : List α) : (pre.length : Int) < ((pre ++ u :: suf).length : Int) := by simp; omega
theorem nlt_pre {α : Type} (pre : List α) : ¬ (pre.length : Int) < ((pre ++ []).length : Int) := by simp
theorem Ev.ite_pos {α : Type} {c : Prop} [Decidable c] {g f : Nat → Option α} {r : α} (hc : c) (h : Ev g r) : Ev (fun k => if c then g k else f k) r := by simp only [if_pos hc]; exact h
theorem Ev.ite_neg {α : Type} {c : Prop} [Decidable c] {g f : Nat → Option α} {r : α} (hc : ¬ c) (h : Ev f r) : Ev (fun k => if c then g k else f k) r := by simp only [if_neg hc]; exact h

theorem period_eq (t : Int) : residue_period.f t = some (per t) := by
  unfold residue_period.f per
  split
  · next h => rw [decide_eq_true (show 1 ≤ t by omega), Bool.true_and]
  · next h => rw [decide_eq_false (show ¬ 1 ≤ t by omega), Bool.false_and]

theorem Valid_loop (t n : Int) : ∀ (suf pre : List S35) (last : Int), Fit (pre ++ suf) → n = ((pre ++ suf).length : Int) →
    Ev (fun k => residue_Valid.l0 k t last (pre ++ suf) n (pre.length : Int)) (vldF t last suf)
  | [], pre, last, hb, hn => by
    subst hn
    refine Ev.step (f := fun _ => some true) (fun k => ?_) (Ev.now _)
    simp only [residue_Valid.l0]
    rw [if_neg (nlt_pre pre)]
  | u :: suf, pre, last, hb, hn => by
    have ih := Valid_loop t n suf (pre ++ [u]) u.f1 (by rwa [← List.append_cons]) (by rwa [← List.append_cons])
    rw [← List.append_cons, len1] at ih
    have hlt0 := lt_pre pre u suf
    have hlt : (pre.length : Int) < n := by rw [hn]; exact hlt0
    have hb' : (pre.length : Int) < 140737488355328 := by unfold Fit at hb; simp at hb; omega
    by_cases c : last < u.f0 ∧ 0 ≤ u.f0 ∧ u.f0 < u.f1 ∧ u.f1 ≤ t
    · have hv : vldF t last (u :: suf) = vldF t u.f1 suf := by simp [vldF, c]
      rw [hv]
      refine Ev.step (fun k => ?_) ih
      simp only [residue_Valid.l0]
      rw [if_pos hlt, if_pos (by omega), if_pos hlt0, rd_pre, if_neg (by omega), if_neg (by omega), if_neg (by omega), if_neg (by omega), wrap_ok (by omega) (by omega)]
    · have hv : vldF t last (u :: suf) = false := by rw [Bool.eq_false_iff, ne_eq, vldF_cons]; intro h; exact c ⟨h.1, h.2.1, h.2.2.1, h.2.2.2.1⟩
      rw [hv]
      refine Ev.step (f := fun _ => some false) (fun k => ?_) (Ev.now _)
      simp only [residue_Valid.l0]
      rw [if_pos hlt, if_pos (by omega), if_pos hlt0, rd_pre]
      iterate 4 (split; · rfl)
      exfalso; omega
theorem Valid_ev (t : Int) (s : List S35) (hs : Fit s) : Ev (fun k => residue_Valid.f k t s) (vld t s) := by
  simp only [residue_Valid.f, period_eq, Option.bind_some]
  unfold vld
  cases hp : per t
  · exact Ev.ite_neg (by simp) (Ev.now _)
  · exact Ev.ite_pos rfl (Valid_loop t _ s [] (-1) hs rfl)

theorem rdL_pre (pre : List (List S35)) (u : List S35) (suf : List (List S35)) : rd_L2 (pre ++ u :: suf) (pre.length : Int) = u := by simp [rd_L2]
theorem check_loop (t n : Int) (hp : per t = true) : ∀ (suf pre : List (List S35)), Fit (pre ++ suf) → (∀ s ∈ suf, Fit s) → n = ((pre ++ suf).length : Int) →
    Ev (fun k => residue_check.l0 k t (pre ++ suf) n (pre.length : Int)) (if suf.all (vld t) = true then 0 else 1)
  | [], pre, hb, hf, hn => by
    subst hn
    refine Ev.step (f := fun _ => some 0) (fun k => ?_) (Ev.now _)
    simp only [residue_check.l0]
    rw [if_neg (nlt_pre pre)]
  | u :: suf, pre, hb, hf, hn => by
    have ih := check_loop t n hp suf (pre ++ [u]) (by rwa [← List.append_cons]) (fun s hs => hf s (List.mem_cons_of_mem _ hs)) (by rwa [← List.append_cons])
    rw [← List.append_cons, len1] at ih
    have hlt0 := lt_pre pre u suf
    have hlt : (pre.length : Int) < n := by rw [hn]; exact hlt0
    have hb' : (pre.length : Int) < 140737488355328 := by unfold Fit at hb; simp at hb; omega
    refine Ev.step (f := fun k => (residue_Valid.f k t u).bind fun t109 => if t109 = true then residue_check.l0 k t (pre ++ u :: suf) n ((pre.length : Int) + 1) else some 1) (fun k => ?_) ?_
    · simp only [residue_check.l0]
      rw [if_pos hlt, if_pos (by omega), if_pos hlt0, rdL_pre, wrap_ok (by omega) (by omega)]
    · refine Ev.bind (Valid_ev t u (hf u (List.mem_cons_self ..))) ?_
      cases hv : vld t u
      · refine Ev.ite_neg (by simp) ?_
        simp only [List.all_cons, hv, Bool.false_and]
        exact Ev.now _
      · refine Ev.ite_pos rfl ?_
        simp only [List.all_cons, hv, Bool.true_and]
        exact ih
theorem check_ev (t : Int) (ls : List (List S35)) (hb : Fit ls) (hf : ∀ s ∈ ls, Fit s) :
    Ev (fun k => residue_check.f k t ls) (if per t = true then (if ls.all (vld t) = true then 0 else 1) else 4) := by
  simp only [residue_check.f, period_eq, Option.bind_some]
  cases hp : per t
  · exact Ev.ite_neg (by simp) (Ev.now _)
  · exact Ev.ite_pos rfl (check_loop t _ hp ls [] hb hf rfl)

theorem Mod_eq {a n : Int} (hn : 1 ≤ n) (h1 : n ≤ 9223372036854775807) : arith_Mod.f a n = some (a % n) := by
  unfold arith_Mod.f
  rw [if_neg (by omega), if_neg (by omega)]
  have h := tmod_fix (a := a) hn
  have hb := em_bound a (show 0 < n by omega)
  split
  · next hc => rw [if_pos hc] at h; rw [h, wrap_ok (by omega) (by omega)]
  · next hc => rw [if_neg hc] at h; rw [h]
theorem Mod_zero {a n : Int} (hn : n < 1) : arith_Mod.f a n = some 0 := by
  unfold arith_Mod.f; rw [if_pos hn]

theorem put_loop (n : Nat) (hn : 1 ≤ n) (hn2 : n ≤ 7200) (lim : Int) (hl : lim ≤ n) : ∀ (d : Nat) (p : Int → Bool) (at0 i : Int), 0 ≤ at0 → at0 < n → 0 ≤ i → lim - i ≤ d →
    Ev (fun k => residue_marks_put.l0 k (tab n p) n at0 lim i) (tab n fun x => p x || decide ((x - at0) % n < lim - i))
  | 0, p, at0, i, h0, h1, h2, hd => by
    refine Ev.step (f := fun _ => some (tab n p)) (fun k => ?_) ?_
    · simp only [residue_marks_put.l0]
      rw [if_neg (by omega)]
    · have e : (tab n fun x => p x || decide ((x - at0) % n < lim - i)) = tab n p := by
        refine tab_congr fun x hx0 hx1 => ?_
        have := em_bound (x - at0) (show (0 : Int) < n by omega)
        rw [decide_eq_false (by omega), Bool.or_false]
      rw [e]; exact Ev.now _
  | d + 1, p, at0, i, h0, h1, h2, hd => by
    by_cases hi : i < lim
    · have hb := em_bound (at0 + 1) (show (0 : Int) < n by omega)
      have ih := put_loop n hn hn2 lim hl d (fun x => if x = at0 then true else p x) ((at0 + 1) % n) (i + 1) hb.1 hb.2 (by omega) (by omega)
      have e : (tab n fun x => (if x = at0 then true else p x) || decide ((x - (at0 + 1) % n) % n < lim - (i + 1))) = tab n fun x => p x || decide ((x - at0) % n < lim - i) := by
        refine tab_congr fun x hx0 hx1 => ?_
        have hs := em_step (x := x) (a := at0) (n := n) (m := lim - i) (by omega) hx0 hx1 h0 h1 (by omega)
        by_cases hx : x = at0
        · rw [if_pos hx, Bool.true_or, decide_eq_true (hs.2 (.inl hx)), Bool.or_true]
        · rw [if_neg hx]
          congr 1
          apply decide_eq_decide.2
          rw [hs]
          constructor
          · intro h; exact .inr (by omega)
          · rintro (h | h)
            · exact absurd h hx
            · omega
      rw [e] at ih
      refine Ev.step (fun k => ?_) ih
      simp only [residue_marks_put.l0]
      rw [if_pos hi, if_pos h0, if_pos (by rw [tab_len]; exact h1), tab_set p true h0, Option.bind_some, wrap_ok (by omega) (by omega), wrap_ok (by omega) (by omega)]
      by_cases he : at0 + 1 = n
      · rw [if_pos he, he, Int.emod_self]
      · rw [if_neg he, em_lo (by omega) (by omega)]
    · refine Ev.step (f := fun _ => some (tab n p)) (fun k => ?_) ?_
      · simp only [residue_marks_put.l0]
        rw [if_neg hi]
      · have e : (tab n fun x => p x || decide ((x - at0) % n < lim - i)) = tab n p := by
          refine tab_congr fun x hx0 hx1 => ?_
          have := em_bound (x - at0) (show (0 : Int) < n by omega)
          rw [decide_eq_false (by omega), Bool.or_false]
        rw [e]; exact Ev.now _
theorem put_ev (n : Nat) (hn : 1 ≤ n) (hn2 : n ≤ 7200) (p : Int → Bool) (a m : Int) :
    Ev (fun k => residue_marks_put.f k (tab n p) a m) (tab n fun x => p x || decide ((x - a) % n < m)) := by
  simp only [residue_marks_put.f, tab_len, Mod_eq (show (1 : Int) ≤ n by omega) (show (n : Int) ≤ 9223372036854775807 by omega), Option.bind_some]
  have hb := em_bound a (show (0 : Int) < n by omega)
  have hm : mn m n ≤ n := by unfold mn; split <;> omega
  have h := put_loop n hn hn2 (mn m n) hm n p (a % n) 0 hb.1 hb.2 (Int.le_refl _) (by omega)
  have e : (tab n fun x => p x || decide ((x - a % n) % n < mn m n - 0)) = tab n fun x => p x || decide ((x - a) % n < m) := by
    refine tab_congr fun x hx0 hx1 => ?_
    congr 1
    apply decide_eq_decide.2
    rw [em_sub]
    have := em_bound (x - a) (show (0 : Int) < n by omega)
    unfold mn; split <;> omega
  rwa [e] at h

theorem rev_set (u v : S35) (l : List S35) : ((u :: l).reverse).set (((u :: l).reverse.length : Int) - 1).toNat v = (v :: l).reverse := by
  simp only [List.reverse_cons]
  have : ((((l.reverse ++ [u]).length : Nat) : Int) - 1).toNat = l.reverse.length := by simp
  rw [this]; simp
theorem rev_rd (u : S35) (l : List S35) : rd_T35 ((u :: l).reverse) (((u :: l).reverse.length : Int) - 1) = u := by
  have : ((((u :: l).reverse.length : Nat) : Int) - 1) = (l.reverse.length : Int) := by simp
  rw [this, List.reverse_cons]; exact rd_pre _ _ _
theorem list_loop (n : Nat) (hn2 : n ≤ 7200) (p : Int → Bool) : ∀ (d i : Nat), i + d = n →
    Ev (fun k => residue_marks_list.l0 k (tab n p) (rr p i).reverse (tab n p) n i) (can n p)
  | 0, i, hd => by
    obtain rfl : i = n := by omega
    refine Ev.step (f := fun _ => some (can i p)) (fun k => ?_) (Ev.now _)
    simp only [residue_marks_list.l0]
    rw [if_neg (by omega)]; rfl
  | d + 1, i, hd => by
    have ih := list_loop n hn2 p d (i + 1) (by omega)
    have hl := rr_last p i
    have hlen := can_len p i
    refine Ev.step (fun k => ?_) ih
    simp only [residue_marks_list.l0]
    rw [if_pos (by omega), if_pos (by omega), tab_len, if_pos (by omega), tab_rd p (by omega) (by omega), wrap_ok (a := (i : Int) + 1) (by omega) (by omega), wrap_ok (a := (i : Int) - 1) (by omega) (by omega)]
    simp only [rr]
    by_cases hp : p i = true
    · rw [if_pos hp, if_pos hp]
      by_cases h0 : 0 < i
      · rw [if_pos (by omega), if_pos (by omega), if_pos (by omega), tab_rd p (by omega) (by omega)]
        by_cases hq : p ((i : Int) - 1) = true
        · obtain ⟨u, l, e, h1⟩ := hl.2 ⟨h0, hq⟩
          rw [e] at hlen ⊢
          have hle : ((u :: l).reverse.length : Int) ≤ 7200 := by rw [List.length_reverse]; omega
          have hge : 1 ≤ ((u :: l).reverse.length : Int) := by simp; omega
          rw [if_pos hq, wrap_ok (a := ((u :: l).reverse.length : Int) - 1) (by omega) (by omega), if_pos (by omega), if_pos (by omega), rev_set, rev_rd]
          simp only [h1, if_true]; rfl
        · have hlt : ((rr p i).reverse).length < 8796093022208 := by rw [List.length_reverse]; omega
          rw [if_neg hq, if_pos hlt]
          have hno : ∀ u l, rr p i = u :: l → u.f1 ≠ i := fun u l e h1 => hq (hl.1 ⟨u, l, e, h1⟩).2
          cases e : rr p i with
          | nil => simp
          | cons u l => simp only [if_neg (hno u l e)]; simp
      · have hlt : ((rr p i).reverse).length < 8796093022208 := by rw [List.length_reverse]; omega
        rw [if_neg (by omega), if_pos hlt]
        obtain rfl : i = 0 := by omega
        rfl
    · rw [if_neg hp, if_neg hp]; rfl
theorem list_ev (n : Nat) (hn2 : n ≤ 7200) (p : Int → Bool) : Ev (fun k => residue_marks_list.f k (tab n p)) (can n p) := by
  simp only [residue_marks_list.f, tab_len]
  exact list_loop n hn2 p n 0 (by omega)

theorem Make_ev (n : Nat) (hn : 1 ≤ n) (hn2 : n ≤ 7200) (a m : Int) : Ev (fun k => residue_Make.f k n a m) (can n fun x => decide ((x - a) % n < m), 0) := by
  simp only [residue_Make.f]
  refine Ev.bind (check_ev n [] fit_nil (by simp)) ?_
  rw [if_pos ((per_iff _).2 (by omega))]
  refine Ev.ite_pos (by simp) (Ev.ite_pos (by omega) (Ev.ite_pos (by omega) ?_))
  simp only [Int.toNat_natCast, tab_rep]
  refine Ev.bind (put_ev n hn hn2 _ a m) (Ev.bind (list_ev n hn2 _) ?_)
  simp only [Bool.false_or]
  exact Ev.now _
theorem Make_bad (t a m : Int) (h : per t = false) : Ev (fun k => residue_Make.f k t a m) ([], 4) := by
  simp only [residue_Make.f]
  refine Ev.bind (check_ev t [] fit_nil (by simp)) ?_
  rw [if_neg (by simp [h])]
  exact Ev.ite_neg (by simp) (Ev.now _)

theorem Same_loop (n : Int) : ∀ (suf pre : List S35), Fit (pre ++ suf) → n = ((pre ++ suf).length : Int) →
    Ev (fun k => api_Span_23.l0 k (pre ++ suf) (pre ++ suf) n (pre.length : Int)) true
  | [], pre, hb, hn => by
    subst hn
    refine Ev.step (f := fun _ => some true) (fun k => ?_) (Ev.now _)
    simp only [api_Span_23.l0]
    rw [if_neg (nlt_pre pre)]
  | u :: suf, pre, hb, hn => by
    have ih := Same_loop n suf (pre ++ [u]) (by rwa [← List.append_cons]) (by rwa [← List.append_cons])
    rw [← List.append_cons, len1] at ih
    have hlt0 := lt_pre pre u suf
    have hlt : (pre.length : Int) < n := by rw [hn]; exact hlt0
    have hb' : (pre.length : Int) < 140737488355328 := by unfold Fit at hb; simp at hb; omega
    refine Ev.step (fun k => ?_) ih
    simp only [api_Span_23.l0]
    rw [if_pos hlt, if_pos (by omega), if_pos hlt0, if_pos hlt0, rd_pre, if_neg (by simp), wrap_ok (by omega) (by omega)]
theorem Same_ev (s : List S35) (hs : Fit s) : Ev (fun k => api_Span_23.f k s s) true := by
  simp only [api_Span_23.f]
  exact Ev.ite_pos trivial (Same_loop _ s [] hs rfl)
end Go.Proofs.Ytdnileakboefgaa.PResidueKeepsArguments
