/- Common pairs of valid lists, what Least answers, and the lists that the statements make. -/
import Derived.Test.YtcdldldknfpkjaaLHwC5
import Derived.Test.YtcdldldknfpkjaaPHwx10
namespace Go.Proofs.Ytcdldldknfpkjaa.PHw
open Go.RowKit Go.Proofs.YtcdldldknfpkjaaW.PrintWords Go.Proofs.YtcdldldknfpkjaaW.PrintLast Go.Proofs.YtcdldldknfpkjaaW.PrintMore
set_option linter.unusedVariables false
theorem cm_mem (q : S41 × S41) : ∀ (a b : List S41) {la lb : Int}, ovF la a = true → ovF lb b = true → (q ∈ cm a b ↔ q.1 ∈ a ∧ q.2 ∈ b ∧ q.1.f0 = q.2.f0)
  | [], b, la, lb, ha, hb => by rw [cm_nil]; simp
  | x :: a, [], la, lb, ha, hb => by rw [cm_nil']; simp
  | x :: a, y :: b, la, lb, ha, hb => by
    have ha' := ha
    have hb' := hb
    rw [ovF_cons] at ha hb
    have ea := ovF_mem a ha.2.2.2.2
    have eb := ovF_mem b hb.2.2.2.2
    rw [cm_cons]
    split
    · next h =>
      rw [cm_mem q a (y :: b) ha.2.2.2.2 hb']
      constructor
      · rintro ⟨h1, h2, h3⟩; exact ⟨List.mem_cons_of_mem _ h1, h2, h3⟩
      · rintro ⟨h1, h2, h3⟩
        refine ⟨?_, h2, h3⟩
        rcases List.mem_cons.1 h1 with e | h1
        · exfalso
          rcases List.mem_cons.1 h2 with e2 | h2
          · rw [e, e2] at h3; omega
          · have := eb _ h2; rw [e] at h3; omega
        · exact h1
    · split
      · next h0 h =>
        rw [cm_mem q (x :: a) b ha' hb.2.2.2.2]
        constructor
        · rintro ⟨h1, h2, h3⟩; exact ⟨h1, List.mem_cons_of_mem _ h2, h3⟩
        · rintro ⟨h1, h2, h3⟩
          refine ⟨h1, ?_, h3⟩
          rcases List.mem_cons.1 h2 with e | h2
          · exfalso
            rcases List.mem_cons.1 h1 with e2 | h1
            · rw [e, e2] at h3; omega
            · have := ea _ h1; rw [e] at h3; omega
          · exact h2
      · next h0 h =>
        have hxy : x.f0 = y.f0 := by omega
        rw [List.mem_cons, cm_mem q a b ha.2.2.2.2 hb.2.2.2.2]
        constructor
        · rintro (rfl | ⟨h1, h2, h3⟩)
          · exact ⟨List.mem_cons_self .., List.mem_cons_self .., hxy⟩
          · exact ⟨List.mem_cons_of_mem _ h1, List.mem_cons_of_mem _ h2, h3⟩
        · rintro ⟨h1, h2, h3⟩
          rcases List.mem_cons.1 h1 with e | h1
          · rcases List.mem_cons.1 h2 with e2 | h2
            · left; exact Prod.ext e e2
            · exfalso; have := eb _ h2; rw [e] at h3; omega
          · rcases List.mem_cons.1 h2 with e2 | h2
            · exfalso; have := ea _ h1; rw [e2] at h3; omega
            · exact .inr ⟨h1, h2, h3⟩
termination_by a b => a.length + b.length
theorem fold_no (l : List (S41 × S41)) (s : Int × Bool) (hs : s.2 = true) : (l.foldl lstep s).2 = true := by
  induction l generalizing s with
  | nil => exact hs
  | cons q l ih =>
    rw [List.foldl_cons]; apply ih; unfold lstep; split
    · exact hs
    · rfl
theorem fold_max (l : List (S41 × S41)) : ∀ (s : Int × Bool), s.2 = true → (s.1 ≤ (l.foldl lstep s).1 ∧ (∀ q ∈ l, q.1.f2 - q.2.f1 ≤ (l.foldl lstep s).1) ∧ ((l.foldl lstep s).1 = s.1 ∨ ∃ q ∈ l, (l.foldl lstep s).1 = q.1.f2 - q.2.f1)) := by
  induction l with
  | nil => intro s hs; exact ⟨Int.le_refl _, fun q hq => (by cases hq), .inl rfl⟩
  | cons q l ih =>
    intro s hs
    rw [List.foldl_cons]
    have h2 : (lstep s q).2 = true := by
      unfold lstep; split
      · exact hs
      · rfl
    obtain ⟨g1, g2, g3⟩ := ih (lstep s q) h2
    have e : (s.1 ≤ (lstep s q).1 ∧ q.1.f2 - q.2.f1 ≤ (lstep s q).1) ∧ ((lstep s q).1 = s.1 ∨ (lstep s q).1 = q.1.f2 - q.2.f1) := by
      unfold lstep; rw [hs]; split
      · next h => exact ⟨⟨Int.le_refl _, h.2⟩, .inl rfl⟩
      · next h =>
        have : ¬ q.1.f2 - q.2.f1 ≤ s.1 := fun hc => h ⟨rfl, hc⟩
        exact ⟨⟨by show s.1 ≤ q.1.f2 - q.2.f1; omega, Int.le_refl _⟩, .inr rfl⟩
    refine ⟨by omega, fun r hr => ?_, ?_⟩
    · rcases List.mem_cons.1 hr with rfl | hr
      · omega
      · exact g2 r hr
    · rcases g3 with g3 | ⟨r, hr, g3⟩
      · rcases e.2 with e2 | e2
        · exact .inl (by rw [g3, e2])
        · exact .inr ⟨q, List.mem_cons_self .., by rw [g3, e2]⟩
      · exact .inr ⟨r, List.mem_cons_of_mem _ hr, g3⟩
theorem lst_no {a b : List S41} (ha : ovld a = true) (hb : ovld b = true) (h : (lst a b).2 = false) : lst a b = (0, false) ∧ cm a b = [] := by
  unfold lst at *
  rw [if_pos ⟨ha, hb⟩] at *
  cases e : cm a b with
  | nil => exact ⟨rfl, rfl⟩
  | cons q l =>
    rw [e, List.foldl_cons, fold_no l _ (by unfold lstep; rw [if_neg (by simp)])] at h
    cases h
theorem lst_yes {a b : List S41} (ha : ovld a = true) (hb : ovld b = true) (h : (lst a b).2 = true) : (∀ q ∈ cm a b, q.1.f2 - q.2.f1 ≤ (lst a b).1) ∧ ∃ q ∈ cm a b, (lst a b).1 = q.1.f2 - q.2.f1 := by
  unfold lst at *
  rw [if_pos ⟨ha, hb⟩] at *
  cases e : cm a b with
  | nil => rw [e] at h; cases h
  | cons q l =>
    rw [List.foldl_cons]
    have e1 : lstep (0, false) q = (q.1.f2 - q.2.f1, true) := by unfold lstep; rw [if_neg (by simp)]
    rw [e1]
    obtain ⟨g1, g2, g3⟩ := fold_max l (q.1.f2 - q.2.f1, true) rfl
    refine ⟨fun r hr => ?_, ?_⟩
    · rcases List.mem_cons.1 hr with rfl | hr
      · exact g1
      · exact g2 r hr
    · rcases g3 with g3 | ⟨r, hr, g3⟩
      · exact ⟨q, List.mem_cons_self .., g3⟩
      · exact ⟨r, List.mem_cons_of_mem _ hr, g3⟩
/-- They hold a resource at the same second if b departs d seconds after a. -/
def tog (a b : List S41) (d : Int) : Bool := a.any fun x => b.any fun y => decide (x.f0 = y.f0) && (decide (x.f1 < y.f2 + d) && decide (y.f1 + d < x.f2))
theorem tog_iff (a b : List S41) (d : Int) : tog a b d = true ↔ ∃ x ∈ a, ∃ y ∈ b, x.f0 = y.f0 ∧ x.f1 < y.f2 + d ∧ y.f1 + d < x.f2 := by
  simp [tog, List.any_eq_true]
theorem tog_cm {a b : List S41} (ha : ovld a = true) (hb : ovld b = true) (d : Int) : tog a b d = true ↔ ∃ q ∈ cm a b, q.1.f1 < q.2.f2 + d ∧ q.2.f1 + d < q.1.f2 := by
  rw [tog_iff]
  constructor
  · rintro ⟨x, hx, y, hy, h0, h⟩; exact ⟨(x, y), (cm_mem (x, y) a b ha hb).2 ⟨hx, hy, h0⟩, h⟩
  · rintro ⟨q, hq, h⟩
    obtain ⟨h1, h2, h3⟩ := (cm_mem q a b ha hb).1 hq
    exact ⟨q.1, h1, q.2, h2, h3, h⟩
def tog1 (x : S41) (b : List S41) (d : Int) : Bool := b.any fun y => decide (x.f0 = y.f0) && (decide (x.f1 < y.f2 + d) && decide (y.f1 + d < x.f2))
theorem tog_cons (x : S41) (a b : List S41) (d : Int) : tog (x :: a) b d = (tog1 x b d || tog a b d) := rfl
theorem tog1_cons (x y : S41) (b : List S41) (d : Int) : tog1 x (y :: b) d = (decide (x.f0 = y.f0) && (decide (x.f1 < y.f2 + d) && decide (y.f1 + d < x.f2)) || tog1 x b d) := rfl
theorem tog_inner (d : Int) (d0 : -1000000 ≤ d) (d1 : d ≤ 1000000) (aa : List S41) (m m' : Int) (i : Int) (i0 : 0 ≤ i) (hi : i < aa.length) (u : S41) (hu : rd_T41 aa i = u) (R : Bool) : ∀ (suf pre : List S41), Fit (pre ++ suf) → m' = ((pre ++ suf).length : Int) → (∀ y ∈ suf, Small y) →
    (tog1 u suf d = false → Ev (fun k => railplanlaw9_together.l0 k aa (pre ++ suf) d m (wrap64 (i + 1))) R) → (tog1 u suf d = true → R = true) →
    Ev (fun k => railplanlaw9_together.l1 k aa (pre ++ suf) d i m i m' (pre.length : Int)) R
  | [], pre, hb, hm, hs, hk, ht => by
    refine Ev.step (fun k => ?_) (hk rfl)
    simp only [railplanlaw9_together.l1]
    rw [if_neg (by rw [hm]; exact nlt_pre pre)]
  | v :: suf, pre, hb, hm, hs, hk, ht => by
    have hlt0 := lt_pre pre v suf
    have hb' : (pre.length : Int) < 140737488355328 := by unfold Fit at hb; simp at hb; omega
    have sv := hs v (List.mem_cons_self ..)
    unfold Small at sv
    by_cases c : u.f0 = v.f0 ∧ u.f1 < v.f2 + d ∧ v.f1 + d < u.f2
    · have : R = true := ht (by rw [tog1_cons]; simp [c])
      rw [this]
      refine Ev.step (f := fun _ => some true) (fun k => ?_) (Ev.now _)
      simp only [railplanlaw9_together.l1]
      rw [if_pos (by rw [hm]; exact hlt0), if_pos i0, if_pos hi, if_pos (by omega), if_pos hlt0, hu, ord_pre, wrap_ok (a := v.f2 + d) (by omega) (by omega), wrap_ok (a := v.f1 + d) (by omega) (by omega), if_pos c.1, if_pos c.2.1, if_pos c.2.2]
    · have hno : (decide (u.f0 = v.f0) && (decide (u.f1 < v.f2 + d) && decide (v.f1 + d < u.f2))) = false := by
        rw [Bool.eq_false_iff]; intro hc; simp only [Bool.and_eq_true, decide_eq_true_eq] at hc; exact c hc
      have ih := tog_inner d d0 d1 aa m m' i i0 hi u hu R suf (pre ++ [v]) (by rwa [← List.append_cons]) (by rwa [← List.append_cons]) (fun y hy => hs y (List.mem_cons_of_mem _ hy))
        (fun h => by rw [← List.append_cons]; exact hk (by rw [tog1_cons, hno, h]; rfl)) (fun h => ht (by rw [tog1_cons, hno, h]; rfl))
      rw [← List.append_cons, len1] at ih
      refine Ev.step (fun k => ?_) ih
      simp only [railplanlaw9_together.l1]
      rw [if_pos (by rw [hm]; exact hlt0), if_pos i0, if_pos hi, if_pos (by omega), if_pos hlt0, hu, ord_pre, wrap_ok (a := v.f2 + d) (by omega) (by omega), wrap_ok (a := v.f1 + d) (by omega) (by omega), wrap_ok (by omega) (by omega)]
      by_cases c0 : u.f0 = v.f0
      · rw [if_pos c0]
        by_cases c1 : u.f1 < v.f2 + d
        · rw [if_pos c1, if_neg (fun c2 => c ⟨c0, c1, c2⟩)]
        · rw [if_neg c1]
      · rw [if_neg c0]
theorem tog_loop (d : Int) (d0 : -1000000 ≤ d) (d1 : d ≤ 1000000) (b : List S41) (fb : Fit b) (hsb : ∀ y ∈ b, Small y) (m : Int) : ∀ (suf pre : List S41), Fit (pre ++ suf) → m = ((pre ++ suf).length : Int) →
    Ev (fun k => railplanlaw9_together.l0 k (pre ++ suf) b d m (pre.length : Int)) (tog suf b d)
  | [], pre, hb, hm => by
    refine Ev.step (f := fun _ => some false) (fun k => ?_) (Ev.now _)
    simp only [railplanlaw9_together.l0]
    rw [if_neg (by rw [hm]; exact nlt_pre pre)]
  | u :: suf, pre, hb, hm => by
    have hlt0 := lt_pre pre u suf
    have hb' : (pre.length : Int) < 140737488355328 := by unfold Fit at hb; simp at hb; omega
    have := tog_inner d d0 d1 (pre ++ u :: suf) m b.length (pre.length : Int) (by omega) hlt0 u (ord_pre pre u suf) (tog (u :: suf) b d) b [] fb rfl hsb (fun h => by
      have ih := tog_loop d d0 d1 b fb hsb m suf (pre ++ [u]) (by rwa [← List.append_cons]) (by rwa [← List.append_cons])
      rw [← List.append_cons, len1] at ih
      rw [wrap_ok (by omega) (by omega), tog_cons, h, Bool.false_or]; exact ih) (fun h => by rw [tog_cons, h]; rfl)
    refine Ev.step (fun k => ?_) this
    simp only [railplanlaw9_together.l0]
    rw [if_pos (by rw [hm]; exact hlt0)]; rfl
theorem tog_ev (a b : List S41) (fa : Fit a) (fb : Fit b) (hsb : ∀ y ∈ b, Small y) (d : Int) (d0 : -1000000 ≤ d) (d1 : d ≤ 1000000) : Ev (fun k => railplanlaw9_together.f k a b d) (tog a b d) := by
  simp only [railplanlaw9_together.f]
  exact tog_loop d d0 d1 b fb hsb a.length a [] fa rfl
end Go.Proofs.Ytcdldldknfpkjaa.PHw
