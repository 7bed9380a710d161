/- Valid lists of occupations, and the slices that are only read. -/
import Derived.Test.YtcdldldknfpkjaaLHwC0
import Derived.Test.YtcdldldknfpkjaaLHwB
import Derived.Test.YtcdldldknfpkjaaPHwx3
namespace Go.Proofs.Ytcdldldknfpkjaa.PHw
open Go.RowKit Go.Proofs.YtcdldldknfpkjaaW.PrintWords Go.Proofs.YtcdldldknfpkjaaW.PrintLast Go.Proofs.YtcdldldknfpkjaaW.PrintMore
set_option linter.unusedVariables false
def ovF : Int → List S41 → Bool
  | _, [] => true
  | last, x :: s => decide (last < x.f0) && decide (-65536 ≤ x.f1) && decide (x.f1 < x.f2) && decide (x.f2 ≤ 65536) && ovF x.f0 s
def ovld (a : List S41) : Bool := ovF (-1) a
theorem ovF_cons (l : Int) (x : S41) (s : List S41) : ovF l (x :: s) = true ↔ l < x.f0 ∧ -65536 ≤ x.f1 ∧ x.f1 < x.f2 ∧ x.f2 ≤ 65536 ∧ ovF x.f0 s = true := by
  simp only [ovF, Bool.and_eq_true, decide_eq_true_eq]
  constructor
  · rintro ⟨⟨⟨⟨h1, h2⟩, h3⟩, h4⟩, h5⟩; exact ⟨h1, h2, h3, h4, h5⟩
  · rintro ⟨h1, h2, h3, h4, h5⟩; exact ⟨⟨⟨⟨h1, h2⟩, h3⟩, h4⟩, h5⟩
theorem ovF_mem (a : List S41) : ∀ {l : Int}, ovF l a = true → ∀ x ∈ a, l < x.f0 ∧ -65536 ≤ x.f1 ∧ x.f1 < x.f2 ∧ x.f2 ≤ 65536 := by
  induction a with
  | nil => intro l _ x hx; cases hx
  | cons y a ih =>
    intro l h x hx
    rw [ovF_cons] at h
    obtain ⟨h1, h2, h3, h4, h5⟩ := h
    rcases List.mem_cons.1 hx with rfl | hx
    · exact ⟨h1, h2, h3, h4⟩
    · have := ih h5 x hx; omega
theorem ovld_small {a : List S41} (h : ovld a = true) : ∀ x ∈ a, Small x := fun x hx => by
  have := ovF_mem a h x hx
  unfold Small; omega
theorem ord_pre (pre : List S41) (u : S41) (suf : List S41) : rd_T41 (pre ++ u :: suf) (pre.length : Int) = u := by simp [rd_T41]
theorem OValid_loop (n : Int) : ∀ (suf pre : List S41) (last : Int), Fit (pre ++ suf) → n = ((pre ++ suf).length : Int) →
    Ev (fun k => headway_Valid.l0 k last (pre ++ suf) n (pre.length : Int)) (ovF last suf)
  | [], pre, last, hb, hn => by
    subst hn
    refine Ev.step (f := fun _ => some true) (fun k => ?_) (Ev.now _)
    simp only [headway_Valid.l0]
    rw [if_neg (nlt_pre pre)]
  | u :: suf, pre, last, hb, hn => by
    have ih := OValid_loop n suf (pre ++ [u]) u.f0 (by rwa [← List.append_cons]) (by rwa [← List.append_cons])
    rw [← List.append_cons, len1] at ih
    have hlt0 := lt_pre pre u suf
    have hlt : (pre.length : Int) < n := by rw [hn]; exact hlt0
    have hb' : (pre.length : Int) < 140737488355328 := by unfold Fit at hb; simp at hb; omega
    by_cases c : last < u.f0 ∧ -65536 ≤ u.f1 ∧ u.f1 < u.f2 ∧ u.f2 ≤ 65536
    · have hv : ovF last (u :: suf) = ovF u.f0 suf := by simp [ovF, c]
      rw [hv]
      refine Ev.step (fun k => ?_) ih
      simp only [headway_Valid.l0]
      rw [if_pos hlt, if_pos (by omega), if_pos hlt0, ord_pre, if_neg (by omega), if_neg (by omega), if_neg (by omega), if_neg (by omega), wrap_ok (by omega) (by omega)]
    · have hv : ovF last (u :: suf) = false := by rw [Bool.eq_false_iff, ne_eq, ovF_cons]; intro h; exact c ⟨h.1, h.2.1, h.2.2.1, h.2.2.2.1⟩
      rw [hv]
      refine Ev.step (f := fun _ => some false) (fun k => ?_) (Ev.now _)
      simp only [headway_Valid.l0]
      rw [if_pos hlt, if_pos (by omega), if_pos hlt0, ord_pre]
      iterate 4 (split; · rfl)
      exfalso; omega
theorem OValid_ev (a : List S41) (ha : Fit a) : Ev (fun k => headway_Valid.f k a) (ovld a) := by
  simp only [headway_Valid.f]
  exact OValid_loop _ a [] (-1) ha rfl
theorem OValid_c (w : World) (A : Option Addr) (c : Nat) (a : List S41) (ha : Kd.C k41 w A a.length a) (hc : a.length ≤ c) (hf : Fit a) :
    Calls Try.prog 29 #[.slice A a.length c] w fun e w' => e = .returned (.bool (ovld a)) ∧ Below w.heap.size w w' := by
  obtain ⟨k, h⟩ := (OValid_ev a hf).rounds
  exact headway_Valid.calls k A c a _ w ha hc h

/-- The value v reads as the occupations xs, whatever becomes of the world above its present size. -/
def VA (w : World) (v : Value) (xs : List S41) : Prop := Kd.V k41 41 w 0 (fun _ => True) v xs
theorem VA_below {w w' : World} {v : Value} {xs : List S41} (h : VA w v xs) (hb : Below w.heap.size w w') : VA w' v xs := Kd.V_below h hb
theorem VA_slice {w : World} {v : Value} {xs : List S41} (h : VA w v xs) : ∃ A c, v = .slice A xs.length c := Kd.V_slice h
theorem VA_C {w : World} {A : Option Addr} {c : Nat} {xs : List S41} (h : VA w (.slice A xs.length c) xs) : Kd.C k41 w A xs.length xs := (Kd.V_reads' h).2.2
theorem VA_le {w : World} {A : Option Addr} {c : Nat} {xs : List S41} (h : VA w (.slice A xs.length c) xs) : xs.length ≤ c := (Kd.V_reads' h).2.1
theorem VA_R {w : World} {base : Nat} {ok : Nat → Prop} {v : Value} {xs : List S41} (h : Kd.R k41 41 w base ok v xs) : VA w v xs := Kd.V_mono (Kd.R_V h) (fun _ _ => trivial)
theorem heap_occ : Kd.Heap k41 := Kd.heap_iso _ (Kd.heap_pair (Kd.heap_int _) (Kd.heap_pair (Kd.heap_int _) (Kd.heap_int _)))
theorem VA_of {w : World} {A : Option Addr} {c : Nat} {xs : List S41} (h : Kd.C k41 w A xs.length xs) (hc : xs.length ≤ c) : VA w (.slice A xs.length c) xs :=
  Kd.V_mk hc (fun W' hm => heap_occ.C (fun k hk => hm k trivial hk) h)
end Go.Proofs.Ytcdldldknfpkjaa.PHw
