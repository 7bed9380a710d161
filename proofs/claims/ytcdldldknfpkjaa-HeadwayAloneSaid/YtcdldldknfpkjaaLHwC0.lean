/- Occupations: what a list reads as, its common pairs, and the closures of Least and Alone. -/
import Derived.Test.YtcdldldknfpkjaaPHwx0
import Derived.OneCell
import Derived.Deep.QuietTactic
import Derived.BigQuiet
import Derived.StillTailTactics
namespace Go.Proofs.Ytcdldldknfpkjaa.PHw
open Go.RowKit Go.Proofs.YtcdldldknfpkjaaW.PrintWords Go.Proofs.YtcdldldknfpkjaaW.PrintLast Go.Proofs.YtcdldldknfpkjaaW.PrintMore
set_option linter.unusedVariables false

/-- The bounds of an occupation of a valid list. -/
def Small (x : S41) : Prop := -65536 ≤ x.f1 ∧ x.f1 ≤ 65536 ∧ -65536 ≤ x.f2 ∧ x.f2 ≤ 65536
/-- The pairs of occupations of one resource, as two sorted lists give them. -/
def cm : List S41 → List S41 → List (S41 × S41)
  | [], _ => []
  | _ :: _, [] => []
  | x :: a, y :: b => if x.f0 < y.f0 then cm a (y :: b) else if x.f0 > y.f0 then cm (x :: a) b else (x, y) :: cm a b
termination_by a b => a.length + b.length
theorem cm_nil (b : List S41) : cm [] b = [] := by rw [cm]
theorem cm_nil' (a : List S41) : cm a [] = [] := by cases a <;> rw [cm]
theorem cm_cons (x y : S41) (a b : List S41) : cm (x :: a) (y :: b) = if x.f0 < y.f0 then cm a (y :: b) else if x.f0 > y.f0 then cm (x :: a) b else (x, y) :: cm a b := by rw [cm]
theorem drop_rd (a : List S41) (i : Int) (h0 : 0 ≤ i) (h1 : i < a.length) : a.drop i.toNat = rd_T41 a i :: a.drop (i + 1).toNat := by
  have hl : i.toNat < a.length := by omega
  rw [List.drop_eq_getElem_cons hl, show (i + 1).toNat = i.toNat + 1 by omega]
  congr 1
  unfold rd_T41
  rw [List.getD_eq_getElem?_getD, List.getElem?_eq_getElem hl]; rfl
theorem drop_end (a : List S41) (i : Int) (h1 : ¬ i < a.length) : a.drop i.toNat = [] := List.drop_eq_nil_of_le (by omega)
theorem rd_mem (a : List S41) (i : Int) (h0 : 0 ≤ i) (h1 : i < a.length) : rd_T41 a i ∈ a := by
  have hl : i.toNat < a.length := by omega
  unfold rd_T41
  rw [List.getD_eq_getElem?_getD, List.getElem?_eq_getElem hl]
  exact List.getElem_mem hl

/-- Least's step at a common pair. -/
def lstep (s : Int × Bool) (p : S41 × S41) : Int × Bool := if s.2 = true ∧ p.1.f2 - p.2.f1 ≤ s.1 then s else (p.1.f2 - p.2.f1, true)
/-- A captured whole number and a captured bool, each a block of its own. -/
def NF (w : World) (bn bf : Nat) (s : Int × Bool) : Prop := w.heap[bn]? = some (.cells #[.int .i64 s.1] 3 (0, 0)) ∧ w.heap[bf]? = some (.cells #[.bool s.2] 4 (0, 0))
theorem heap2 {w : World} {o1 o2 o : Obj} {b : Nat} (h : w.heap[b]? = some o) : ((w.alloc o1).alloc o2).heap[b]? = some o := by
  have hl := lt_of_block h
  rw [Below.heap_alloc _ _ _ (by simp; omega), Below.heap_alloc _ _ _ hl, h]
theorem setCell_far {w : World} {b g : Nat} {o : Obj} {v : Value} (h : w.heap[b]? = some o) (hne : b ≠ g) : (w.setCell ⟨g, 0, none⟩ v).heap[b]? = some o := by
  rw [Below.heap_setCell _ _ _ _ hne, h]
theorem box2_below {B : Nat} {w0 w : World} (h : Below B w0 w) (hB : B ≤ w.heap.size) (o1 o2 : Obj) : Below B w0 ((w.alloc o1).alloc o2) := (h.alloc hB _).alloc (by simp; omega) _
set_option maxHeartbeats 400000 in
theorem Least1_c (w0 w : World) (x y : S41) (bn bf : Nat) (s : Int × Bool) (hne : bn ≠ bf) (hB : Below w0.heap.size w0 w) (gn : w0.heap.size ≤ bn) (gf : w0.heap.size ≤ bf) (h : NF w bn bf s) (hx : Small x) (hy : Small y) :
    Calls Try.prog 31 #[.agg #[.int .i64 x.f0, .int .i64 x.f1, .int .i64 x.f2], .agg #[.int .i64 y.f0, .int .i64 y.f1, .int .i64 y.f2], .pointer (some ⟨bf, 0, none⟩), .pointer (some ⟨bn, 0, none⟩)] w fun e w' => e = .returned (.tuple #[]) ∧ NF w' bn bf (lstep s (x, y)) ∧ Below w0.heap.size w0 w' := by
  obtain ⟨n, f⟩ := s
  obtain ⟨hn, hf⟩ := h
  simp only at hn hf
  obtain ⟨hx1, hx2, hx3, hx4⟩ := hx
  obtain ⟨hy1, hy2, hy3, hy4⟩ := hy
  have c1 := cell_of_one hn
  have c2 := cell_of_one hf
  have g1 := free_of_one hn
  have g2 := free_of_one hf
  have l1 := lt_of_block hn
  have l2 := lt_of_block hf
  have HN := Aside0.mk hn
  have HF := Aside0.mk hf
  have HB := Aside0.mk hB
  clear hn hf hB
  go_enter Try.func31, Try.ntmps31
  go_wp2_with fail
  · go_end0
    have hd : ¬ (f = true ∧ x.f2 - y.f1 ≤ n) := by
      have h1 : f = true := by assumption
      have h2 : n < x.f2 - y.f1 := by assumption
      omega
    refine ⟨rfl, ?_, ?_⟩
    · unfold lstep; rw [if_neg hd]
      exact ⟨heap2 (setCell_far (one_setCell HN.out) hne), heap2 (one_setCell (setCell_far HF.out (Ne.symm hne)))⟩
    · exact box2_below ((HB.out.setCell gn _).setCell gf _) ((HB.out.setCell gn _).setCell gf _).size _ _
  · go_end0
    have hd : f = true ∧ x.f2 - y.f1 ≤ n := by
      have h1 : f = true := by assumption
      have h2 : x.f2 - y.f1 ≤ n := by assumption
      exact ⟨h1, h2⟩
    refine ⟨rfl, ?_, ?_⟩
    · unfold lstep; rw [if_pos hd]
      exact ⟨heap2 HN.out, heap2 HF.out⟩
    · exact box2_below HB.out (HB.out.size) _ _
  · go_end0
    have hd : ¬ (f = true ∧ x.f2 - y.f1 ≤ n) := by
      have h1 : ¬ f = true := by assumption
      exact fun hc => h1 hc.1
    refine ⟨rfl, ?_, ?_⟩
    · unfold lstep; rw [if_neg hd]
      exact ⟨heap2 (setCell_far (one_setCell HN.out) hne), heap2 (one_setCell (setCell_far HF.out (Ne.symm hne)))⟩
    · exact box2_below ((HB.out.setCell gn _).setCell gf _) ((HB.out.setCell gn _).setCell gf _).size _ _
end Go.Proofs.Ytcdldldknfpkjaa.PHw
