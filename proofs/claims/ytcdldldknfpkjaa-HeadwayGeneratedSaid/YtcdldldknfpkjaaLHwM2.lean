/- The contracts of layer 9 and the plain facts about occupations. -/
import Derived.Test.YtcdldldknfpkjaaLHwM1
import Derived.Test.YtcdldldknfpkjaaPHwx0
import Derived.OneCell
import Derived.Deep.QuietTactic
import Derived.BigQuiet
import Derived.StillTailTactics
import Derived.Deep.LoopGhost
import Derived.Test.YtcdldldknfpkjaaPHwx3
import Derived.Test.YtcdldldknfpkjaaPHwx10
import Derived.Outline
import Derived.Test.YtcdldldknfpkjaaPHwx7
import Derived.Test.YtcdldldknfpkjaaPHwx8
namespace Go.Proofs.Ytcdldldknfpkjaa.PHw
open Go.RowKit Go.Proofs.YtcdldldknfpkjaaW.PrintWords Go.Proofs.YtcdldldknfpkjaaW.PrintLast Go.Proofs.YtcdldldknfpkjaaW.PrintMore
set_option linter.unusedVariables false

/-- The bounds of an occupation of a valid list. -/
def Small (x : S41) : Prop := -65536 ≤ x.f1 ∧ x.f1 ≤ 65536 ∧ -65536 ≤ x.f2 ∧ x.f2 ≤ 65536
/-- The pairs of occupations of one resource, as two sorted lists give them. -/
def cm : List S41 → List S41 → List (S41 × S41)
  | [], _ => []
  | _ :: _, [] => []
  | x :: a, y :: b => if x.f0 < y.f0 then cm a (y :: b) else if x.f0 > y.f0 then cm (x :: a) b else (x, y) :: cm a b
termination_by a b => a.length + b.length
theorem cm_nil (b : List S41) : cm [] b = [] := by rw [cm]
theorem cm_nil' (a : List S41) : cm a [] = [] := by cases a <;> rw [cm]
theorem cm_cons (x y : S41) (a b : List S41) : cm (x :: a) (y :: b) = if x.f0 < y.f0 then cm a (y :: b) else if x.f0 > y.f0 then cm (x :: a) b else (x, y) :: cm a b := by rw [cm]
theorem drop_rd (a : List S41) (i : Int) (h0 : 0 ≤ i) (h1 : i < a.length) : a.drop i.toNat = rd_T41 a i :: a.drop (i + 1).toNat := by
  have hl : i.toNat < a.length := by omega
  rw [List.drop_eq_getElem_cons hl, show (i + 1).toNat = i.toNat + 1 by omega]
  congr 1
  unfold rd_T41
  rw [List.getD_eq_getElem?_getD, List.getElem?_eq_getElem hl]; rfl
theorem drop_end (a : List S41) (i : Int) (h1 : ¬ i < a.length) : a.drop i.toNat = [] := List.drop_eq_nil_of_le (by omega)
theorem rd_mem (a : List S41) (i : Int) (h0 : 0 ≤ i) (h1 : i < a.length) : rd_T41 a i ∈ a := by
  have hl : i.toNat < a.length := by omega
  unfold rd_T41
  rw [List.getD_eq_getElem?_getD, List.getElem?_eq_getElem hl]
  exact List.getElem_mem hl

/-- Least's step at a common pair. -/
def lstep (s : Int × Bool) (p : S41 × S41) : Int × Bool := if s.2 = true ∧ p.1.f2 - p.2.f1 ≤ s.1 then s else (p.1.f2 - p.2.f1, true)
/-- A captured whole number and a captured bool, each a block of its own. -/
def NF (w : World) (bn bf : Nat) (s : Int × Bool) : Prop := w.heap[bn]? = some (.cells #[.int .i64 s.1] 3 (0, 0)) ∧ w.heap[bf]? = some (.cells #[.bool s.2] 4 (0, 0))
theorem heap2 {w : World} {o1 o2 o : Obj} {b : Nat} (h : w.heap[b]? = some o) : ((w.alloc o1).alloc o2).heap[b]? = some o := by
  have hl := lt_of_block h
  rw [Below.heap_alloc _ _ _ (by simp; omega), Below.heap_alloc _ _ _ hl, h]
theorem setCell_far {w : World} {b g : Nat} {o : Obj} {v : Value} (h : w.heap[b]? = some o) (hne : b ≠ g) : (w.setCell ⟨g, 0, none⟩ v).heap[b]? = some o := by
  rw [Below.heap_setCell _ _ _ _ hne, h]
theorem box2_below {B : Nat} {w0 w : World} (h : Below B w0 w) (hB : B ≤ w.heap.size) (o1 o2 : Obj) : Below B w0 ((w.alloc o1).alloc o2) := (h.alloc hB _).alloc (by simp; omega) _
set_option maxHeartbeats 400000 in
theorem Least1_c (w0 w : World) (x y : S41) (bn bf : Nat) (s : Int × Bool) (hne : bn ≠ bf) (hB : Below w0.heap.size w0 w) (gn : w0.heap.size ≤ bn) (gf : w0.heap.size ≤ bf) (h : NF w bn bf s) (hx : Small x) (hy : Small y) :
    Calls Try.prog 31 #[.agg #[.int .i64 x.f0, .int .i64 x.f1, .int .i64 x.f2], .agg #[.int .i64 y.f0, .int .i64 y.f1, .int .i64 y.f2], .pointer (some ⟨bf, 0, none⟩), .pointer (some ⟨bn, 0, none⟩)] w fun e w' => e = .returned (.tuple #[]) ∧ NF w' bn bf (lstep s (x, y)) ∧ Below w0.heap.size w0 w' := by
  obtain ⟨n, f⟩ := s
  obtain ⟨hn, hf⟩ := h
  simp only at hn hf
  obtain ⟨hx1, hx2, hx3, hx4⟩ := hx
  obtain ⟨hy1, hy2, hy3, hy4⟩ := hy
  have c1 := cell_of_one hn
  have c2 := cell_of_one hf
  have g1 := free_of_one hn
  have g2 := free_of_one hf
  have l1 := lt_of_block hn
  have l2 := lt_of_block hf
  have HN := Aside0.mk hn
  have HF := Aside0.mk hf
  have HB := Aside0.mk hB
  clear hn hf hB
  go_enter Try.func31, Try.ntmps31
  go_wp2_with fail
  · go_end0
    have hd : ¬ (f = true ∧ x.f2 - y.f1 ≤ n) := by
      have h1 : f = true := by assumption
      have h2 : n < x.f2 - y.f1 := by assumption
      omega
    refine ⟨rfl, ?_, ?_⟩
    · unfold lstep; rw [if_neg hd]
      exact ⟨heap2 (setCell_far (one_setCell HN.out) hne), heap2 (one_setCell (setCell_far HF.out (Ne.symm hne)))⟩
    · exact box2_below ((HB.out.setCell gn _).setCell gf _) ((HB.out.setCell gn _).setCell gf _).size _ _
  · go_end0
    have hd : f = true ∧ x.f2 - y.f1 ≤ n := by
      have h1 : f = true := by assumption
      have h2 : x.f2 - y.f1 ≤ n := by assumption
      exact ⟨h1, h2⟩
    refine ⟨rfl, ?_, ?_⟩
    · unfold lstep; rw [if_pos hd]
      exact ⟨heap2 HN.out, heap2 HF.out⟩
    · exact box2_below HB.out (HB.out.size) _ _
  · go_end0
    have hd : ¬ (f = true ∧ x.f2 - y.f1 ≤ n) := by
      have h1 : ¬ f = true := by assumption
      exact fun hc => h1 hc.1
    refine ⟨rfl, ?_, ?_⟩
    · unfold lstep; rw [if_neg hd]
      exact ⟨heap2 (setCell_far (one_setCell HN.out) hne), heap2 (one_setCell (setCell_far HF.out (Ne.symm hne)))⟩
    · exact box2_below ((HB.out.setCell gn _).setCell gf _) ((HB.out.setCell gn _).setCell gf _).size _ _
end Go.Proofs.Ytcdldldknfpkjaa.PHw

namespace Go.Proofs.Ytcdldldknfpkjaa.PHw
open Go.RowKit Go.Proofs.YtcdldldknfpkjaaW.PrintWords Go.Proofs.YtcdldldknfpkjaaW.PrintLast Go.Proofs.YtcdldldknfpkjaaW.PrintMore
set_option linter.unusedVariables false
set_option maxRecDepth 100000
set_option maxHeartbeats 2000000 in
theorem common_least (w0 w : World) (A1 A2 : Option Addr) (c1 c2 : Nat) (a b : List S41) (ha : Kd.C k41 w0 A1 a.length a) (hb : Kd.C k41 w0 A2 b.length b) (hsa : ∀ x ∈ a, Small x) (hsb : ∀ x ∈ b, Small x)
    (bn bf : Nat) (hne : bn ≠ bf) (gn : w0.heap.size ≤ bn) (gf : w0.heap.size ≤ bf) (s : Int × Bool) (hB : Below w0.heap.size w0 w) (h : NF w bn bf s) :
    Calls Try.prog 30 #[.slice A1 a.length c1, .slice A2 b.length c2, .func (.func 31) #[] #[.pointer (some ⟨bf, 0, none⟩), .pointer (some ⟨bn, 0, none⟩)]] w fun e w' => e = .returned (.tuple #[]) ∧ NF w' bn bf ((cm a b).foldl lstep s) ∧ Below w0.heap.size w0 w' := by
  have HA := Aside0.mk ha
  have HBb := Aside0.mk hb
  have HSA := Aside0.mk hsa
  have HSB := Aside0.mk hsb
  have HB := Aside0.mk hB
  have HNF := Aside0.mk h
  have LA := ha.2.1
  have LB := hb.2.1
  clear ha hb hsa hsb hB h
  go_enter Try.func30, Try.ntmps30
  go_wp2_with fail
  go_loopw [6, 7] (fun v6 v7 wr => ∃ (i k : Int) (t : Int × Bool), v6 = .int .i64 i ∧ v7 = .int .i64 k ∧ Aside0 (0 ≤ i ∧ i ≤ a.length ∧ 0 ≤ k ∧ k ≤ b.length) ∧ Aside0 (NF wr bn bf t) ∧ Aside0 (Below w0.heap.size w0 wr) ∧ Aside0 ((cm (a.drop i.toNat) (b.drop k.toNat)).foldl lstep t = (cm a b).foldl lstep s)) (fun v6 v7 _ => (a.length - (intOf v6).toNat) + (b.length - (intOf v7).toNat))
  case atStart => exact ⟨0, 0, s, rfl, rfl, ⟨by omega⟩, HNF, HB, ⟨rfl⟩⟩
  case round =>
    clear HNF HB
    obtain ⟨i, k, t, rfl, rfl, HI, HNF, HB, HR⟩ := hrel
    obtain ⟨i0, i1, k0, k1⟩ := HI.out
    clear HI
    by_cases ci : i < a.length
    · by_cases ck : k < b.length
      · have HX := Aside0.mk (HSA.out _ (rd_mem a i i0 ci))
        have HY := Aside0.mk (HSB.out _ (rd_mem b k k0 ck))
        have DA := Aside0.mk (drop_rd a i i0 ci)
        have DB := Aside0.mk (drop_rd b k k0 ck)
        obtain ⟨ada, ea, hx0, hx1, hx2⟩ := at_T41 HA.out i i0 ci
        cases ea
        obtain ⟨adb, eb, hy0, hy1, hy2⟩ := at_T41 HBb.out k k0 ck
        cases eb
        replace hx0 := (HB.out.cell (World.block_lt_of_cell? w0 _ hx0)).trans hx0
        replace hx1 := (HB.out.cell (World.block_lt_of_cell? w0 _ hx1)).trans hx1
        replace hx2 := (HB.out.cell (World.block_lt_of_cell? w0 _ hx2)).trans hx2
        replace hy0 := (HB.out.cell (World.block_lt_of_cell? w0 _ hy0)).trans hy0
        replace hy1 := (HB.out.cell (World.block_lt_of_cell? w0 _ hy1)).trans hy1
        replace hy2 := (HB.out.cell (World.block_lt_of_cell? w0 _ hy2)).trans hy2
        generalize rd_T41 a i = x at *
        generalize rd_T41 b k = y at *
        by_cases q1 : x.f0 < y.f0
        · go_wp2_with fail
          go_quiet (fail)
          go_wp2_with fail
          go_roundw
          case rel =>
            refine ⟨i + 1, k, t, rfl, rfl, ⟨by omega⟩, HNF, ⟨pw_below_drewN HB.out _⟩, ⟨?_⟩⟩
            have e := HR.out
            rw [DA.out, DB.out, cm_cons, if_pos q1] at e
            rw [DB.out]; exact e
          case measure => simp [intOf]; omega
        · by_cases q2 : x.f0 > y.f0
          · go_wp2_with fail
            go_quiet (fail)
            go_wp2_with fail
            go_quiet (fail)
            go_wp2_with fail
            go_roundw
            case rel =>
              refine ⟨i, k + 1, t, rfl, rfl, ⟨by omega⟩, HNF, ⟨pw_below_drewN HB.out _⟩, ⟨?_⟩⟩
              have e := HR.out
              rw [DA.out, DB.out, cm_cons, if_neg (by omega), if_pos (by omega)] at e
              rw [DA.out]; exact e
            case measure => simp [intOf]; omega
          · go_wp2_with fail
            go_quiet (fail)
            go_wp2_with fail
            go_quiet (fail)
            go_wp2_with fail
            refine wp_region_still_tail 9 (by kernel_rfl) (by kernel_rfl) ?_
            simp only [List.take_succ_cons, List.take_zero, List.drop_succ_cons, List.drop_zero]
            generalize hw2 : ({ heap := _, tape := _, drawn := _, os := _, output := _ } : World) = w2
            have mv : ∀ {p : Addr} {v : Value}, wr.cell? p = some v → w2.cell? p = some v := fun h => by rw [← hw2]; exact h
            replace hx0 := mv hx0
            replace hx1 := mv hx1
            replace hx2 := mv hx2
            replace hy0 := mv hy0
            replace hy1 := mv hy1
            replace hy2 := mv hy2
            have HNF2 : Aside0 (NF w2 bn bf t) := ⟨by rw [← hw2]; exact HNF.out⟩
            have HB2 : Aside0 (Below w0.heap.size w0 w2) := ⟨by rw [← hw2]; exact ⟨HB.out.os, HB.out.tape, HB.out.output, HB.out.size, HB.out.block⟩⟩
            clear mv hw2 HNF HB
            repeat still_step
            refine wpStill_nil ?_
            go_wp2_with fail
            refine (Least1_c w0 w2 x y bn bf t hne HB2.out gn gf HNF2.out HX.out HY.out).mono ?_
            rintro _ w3 ⟨rfl, HNF3, HB3⟩
            clear hx0 hx1 hx2 hy0 hy1 hy2 HNF2 HB2
            have HNF4 := Aside0.mk HNF3
            have HB4 := Aside0.mk HB3
            clear HNF3 HB3
            go_wp2_with fail
            go_roundw
            case rel =>
              refine ⟨i + 1, k + 1, lstep t (x, y), rfl, rfl, ⟨by omega⟩, HNF4, HB4, ⟨?_⟩⟩
              have e := HR.out
              rw [DA.out, DB.out, cm_cons, if_neg (by omega), if_neg (by omega), List.foldl_cons] at e
              exact e
            case measure => simp [intOf]; omega
      · go_wp2_with fail
        go_end0
        have e := HR.out
        rw [drop_end b k (by omega), cm_nil'] at e
        exact ⟨rfl, by rw [← e]; exact HNF.out, HB.out⟩
    · go_wp2_with fail
      go_end0
      have e := HR.out
      rw [drop_end a i (by omega), cm_nil] at e
      exact ⟨rfl, by rw [← e]; exact HNF.out, HB.out⟩
end Go.Proofs.Ytcdldldknfpkjaa.PHw

namespace Go.Proofs.Ytcdldldknfpkjaa.PHw
open Go.RowKit Go.Proofs.YtcdldldknfpkjaaW.PrintWords Go.Proofs.YtcdldldknfpkjaaW.PrintLast Go.Proofs.YtcdldldknfpkjaaW.PrintMore
set_option linter.unusedVariables false
set_option maxRecDepth 100000

/-- Forbidden's step at a common pair. -/
def fstep (n : Nat) (p : Int → Bool) (q : S41 × S41) : Int → Bool := fun z => p z || decide ((z - (q.1.f1 - q.2.f2 + 1)) % n < q.1.f2 - q.1.f1 + q.2.f2 - q.2.f1 - 1)
/-- The captured period and the captured set, each a block of its own; the set's array lies elsewhere. -/
def FO (w : World) (B bt bo : Nat) (n : Nat) (out : List S47) : Prop := w.heap[bt]? = some (.cells #[.int .i64 n] 3 (0, 0)) ∧ ∃ A c, w.heap[bo]? = some (.cells #[.slice A out.length c] 33 (0, 0)) ∧ Kd.R k47 47 w B (fun k => k ≠ bo) (.slice A out.length c) out
theorem FO_drew {w : World} {B bt bo n : Nat} {out : List S47} (h : FO w B bt bo n out) (w' : World) (e : w'.heap = w.heap) : FO w' B bt bo n out := by
  obtain ⟨h1, A, c, h2, h3⟩ := h
  exact ⟨by rw [e]; exact h1, A, c, by rw [e]; exact h2, Kd.R_step h3 (fun k _ _ => by rw [e])⟩
theorem Forbidden1_c (w0 w : World) (x y : S41) (bt bo : Nat) (n : Nat) (p : Int → Bool) (h1 : 1 ≤ n) (h2 : n ≤ 7200) (hne : bt ≠ bo) (hB : Below w0.heap.size w0 w) (gt : w0.heap.size ≤ bt) (go : w0.heap.size ≤ bo) (h : FO w w0.heap.size bt bo n (can n p)) (hx : Small x) (hy : Small y) :
    Calls Try.prog 34 #[.agg #[.int .i64 x.f0, .int .i64 x.f1, .int .i64 x.f2], .agg #[.int .i64 y.f0, .int .i64 y.f1, .int .i64 y.f2], .pointer (some ⟨bt, 0, none⟩), .pointer (some ⟨bo, 0, none⟩)] w fun e w' => e = .returned (.tuple #[]) ∧ FO w' w0.heap.size bt bo n (can n (fstep n p (x, y))) ∧ Below w0.heap.size w0 w' := by
  obtain ⟨ht, A, c, ho, hv⟩ := h
  obtain ⟨hx1, hx2, hx3, hx4⟩ := hx
  obtain ⟨hy1, hy2, hy3, hy4⟩ := hy
  have c1 := cell_of_one ht
  have c2 := cell_of_one ho
  have g2 := free_of_one ho
  have l1 := lt_of_block ht
  have l2 := lt_of_block ho
  obtain ⟨K1, e1⟩ := Make_ev n h1 h2 (x.f1 - y.f2 + 1) (x.f2 - x.f1 + y.f2 - y.f1 - 1)
  have vp := can_vld (n := n) p h1 h2
  have vm := can_vld (n := n) (fun z => decide ((z - (x.f1 - y.f2 + 1)) % n < x.f2 - x.f1 + y.f2 - y.f1 - 1)) h1 h2
  have hu := Union_ev n h1 h2 _ _ (fit_le (vld_fit vp)) (fit_le (vld_fit vm))
  rw [if_pos ⟨vp, vm⟩] at hu
  have ec : (can n fun z => mem (can n p) z || mem (can n fun z => decide ((z - (x.f1 - y.f2 + 1)) % n < x.f2 - x.f1 + y.f2 - y.f1 - 1)) z) = can n (fstep n p (x, y)) :=
    can_congr fun z z0 z1 => by rw [can_in _ z0 z1, can_in _ z0 z1]; rfl
  rw [ec] at hu
  obtain ⟨K2, e2⟩ := hu
  have E1 := Aside0.mk (e1 (K1 + K2) (by omega))
  have E2 := Aside0.mk (e2 (K1 + K2) (by omega))
  have HT := Aside0.mk ht
  have HO := Aside0.mk ho
  have HV := Aside0.mk hv
  have HB := Aside0.mk hB
  clear e1 e2 ec ht ho hv hB vp vm
  generalize can n (fun z => decide ((z - (x.f1 - y.f2 + 1)) % n < x.f2 - x.f1 + y.f2 - y.f1 - 1)) = mk at *
  generalize can n (fstep n p (x, y)) = r at *
  generalize can n p = out at *
  go_enter Try.func34, Try.ntmps34
  go_wp2_with fail
  refine (residue_Make.calls (K1 + K2) n _ _ mk 0 _ E1.out).mono ?_
  rintro _ w1 ⟨v, rfl, hr, hb⟩
  have HB1 := Aside0.mk (below_step (box2_below HB.out HB.out.size _ _) hb)
  have HV1 := Aside0.mk (Kd.V_below (Kd.V_alloc (Kd.V_alloc (Kd.R_V (base' := 0) HV.out) _) _) hb)
  have HM1 := Aside0.mk (Kd.V_mono (ok' := fun _ => True) (Kd.R_V (base' := 0) hr) (fun _ _ => trivial))
  have k1 := hb.cell (p := ⟨bt, 0, none⟩) (by simp; omega)
  have k2 := hb.cell (p := ⟨bo, 0, none⟩) (by simp; omega)
  have k3 := hb.frozen (p := ⟨bo, 0, none⟩) (by simp; omega)
  rw [World.cell?_alloc_past _ _ _ (by simp; omega), World.cell?_alloc_past _ _ _ l1, c1] at k1
  rw [World.cell?_alloc_past _ _ _ (by simp; omega), World.cell?_alloc_past _ _ _ l2, c2] at k2
  have z1 : w.heap.size + 2 ≤ w1.heap.size := by have := hb.size; simpa using this
  have HT1 := Aside0.mk ((hb.block bt (by simp; omega)).trans (heap2 HT.out))
  have HO1 := Aside0.mk ((hb.block bo (by simp; omega)).trans (heap2 HO.out))
  replace k3 := free_of_one HO1.out
  clear hb c1 c2 g2 hr HB HV HT HO
  obtain ⟨Am, cm, rfl⟩ := Kd.V_slice HM1.out
  go_wp2_with fail
  refine (residue_Union.calls (K1 + K2) n (fun k => k ≠ bo) _ _ out (fun _ => True) _ _ mk r 0 _ HV1.out HM1.out E2.out).mono ?_
  rintro _ w2 ⟨v2, rfl, hr2, hb2⟩
  have HB2 := Aside0.mk (below_step HB1.out hb2)
  have HR2 := Aside0.mk (Kd.R_mono (ok' := fun k => k ≠ bo) (Kd.R_lower hr2 HB1.out.size) (fun k hk => by have hk' : w1.heap.size ≤ k := hk; omega))
  have HT2 := Aside0.mk ((hb2.block bt (by omega)).trans HT1.out)
  have HO2 := Aside0.mk ((hb2.block bo (by omega)).trans HO1.out)
  obtain ⟨A2, c2, rfl⟩ := Kd.R_slice HR2.out
  have q1 := cell_of_one HO2.out
  have q2 := free_of_one HO2.out
  clear k1 k2 k3 hb2 hr2 HB1 HV1 HM1 HT1 HO1
  go_wp2_with fail
  go_end0
  refine ⟨rfl, ⟨setCell_far HT2.out hne, A2, c2, one_setCell HO2.out, Kd.R_far HR2.out (fun k hk => hk) _⟩, HB2.out.setCell go _⟩
end Go.Proofs.Ytcdldldknfpkjaa.PHw

namespace Go.Proofs.Ytcdldldknfpkjaa.PHw
open Go.RowKit Go.Proofs.YtcdldldknfpkjaaW.PrintWords Go.Proofs.YtcdldldknfpkjaaW.PrintLast Go.Proofs.YtcdldldknfpkjaaW.PrintMore
set_option linter.unusedVariables false
set_option maxRecDepth 100000
set_option maxHeartbeats 2000000 in
theorem common_forb (w0 w : World) (A1 A2 : Option Addr) (c1 c2 : Nat) (a b : List S41) (ha : Kd.C k41 w0 A1 a.length a) (hb : Kd.C k41 w0 A2 b.length b) (hsa : ∀ x ∈ a, Small x) (hsb : ∀ x ∈ b, Small x)
    (bn bf : Nat) (n : Nat) (n1 : 1 ≤ n) (n2 : n ≤ 7200) (hne : bn ≠ bf) (gn : w0.heap.size ≤ bn) (gf : w0.heap.size ≤ bf) (s : Int → Bool) (hB : Below w0.heap.size w0 w) (h : FO w w0.heap.size bn bf n (can n s)) :
    Calls Try.prog 30 #[.slice A1 a.length c1, .slice A2 b.length c2, .func (.func 34) #[] #[.pointer (some ⟨bn, 0, none⟩), .pointer (some ⟨bf, 0, none⟩)]] w fun e w' => e = .returned (.tuple #[]) ∧ FO w' w0.heap.size bn bf n (can n ((cm a b).foldl (fstep n) s)) ∧ Below w0.heap.size w0 w' := by
  have HA := Aside0.mk ha
  have HBb := Aside0.mk hb
  have HSA := Aside0.mk hsa
  have HSB := Aside0.mk hsb
  have HB := Aside0.mk hB
  have HNF := Aside0.mk h
  have LA := ha.2.1
  have LB := hb.2.1
  clear ha hb hsa hsb hB h
  go_enter Try.func30, Try.ntmps30
  go_wp2_with fail
  go_loopw [6, 7] (fun v6 v7 wr => ∃ (i k : Int) (t : Int → Bool), v6 = .int .i64 i ∧ v7 = .int .i64 k ∧ Aside0 (0 ≤ i ∧ i ≤ a.length ∧ 0 ≤ k ∧ k ≤ b.length) ∧ Aside0 (FO wr w0.heap.size bn bf n (can n t)) ∧ Aside0 (Below w0.heap.size w0 wr) ∧ Aside0 ((cm (a.drop i.toNat) (b.drop k.toNat)).foldl (fstep n) t = (cm a b).foldl (fstep n) s)) (fun v6 v7 _ => (a.length - (intOf v6).toNat) + (b.length - (intOf v7).toNat))
  case atStart => exact ⟨0, 0, s, rfl, rfl, ⟨by omega⟩, HNF, HB, ⟨rfl⟩⟩
  case round =>
    clear HNF HB
    obtain ⟨i, k, t, rfl, rfl, HI, HNF, HB, HR⟩ := hrel
    obtain ⟨i0, i1, k0, k1⟩ := HI.out
    clear HI
    by_cases ci : i < a.length
    · by_cases ck : k < b.length
      · have HX := Aside0.mk (HSA.out _ (rd_mem a i i0 ci))
        have HY := Aside0.mk (HSB.out _ (rd_mem b k k0 ck))
        have DA := Aside0.mk (drop_rd a i i0 ci)
        have DB := Aside0.mk (drop_rd b k k0 ck)
        obtain ⟨ada, ea, hx0, hx1, hx2⟩ := at_T41 HA.out i i0 ci
        cases ea
        obtain ⟨adb, eb, hy0, hy1, hy2⟩ := at_T41 HBb.out k k0 ck
        cases eb
        replace hx0 := (HB.out.cell (World.block_lt_of_cell? w0 _ hx0)).trans hx0
        replace hx1 := (HB.out.cell (World.block_lt_of_cell? w0 _ hx1)).trans hx1
        replace hx2 := (HB.out.cell (World.block_lt_of_cell? w0 _ hx2)).trans hx2
        replace hy0 := (HB.out.cell (World.block_lt_of_cell? w0 _ hy0)).trans hy0
        replace hy1 := (HB.out.cell (World.block_lt_of_cell? w0 _ hy1)).trans hy1
        replace hy2 := (HB.out.cell (World.block_lt_of_cell? w0 _ hy2)).trans hy2
        generalize rd_T41 a i = x at *
        generalize rd_T41 b k = y at *
        by_cases q1 : x.f0 < y.f0
        · go_wp2_with fail
          go_quiet (fail)
          go_wp2_with fail
          go_roundw
          case rel =>
            refine ⟨i + 1, k, t, rfl, rfl, ⟨by omega⟩, ⟨FO_drew HNF.out _ rfl⟩, ⟨pw_below_drewN HB.out _⟩, ⟨?_⟩⟩
            have e := HR.out
            rw [DA.out, DB.out, cm_cons, if_pos q1] at e
            rw [DB.out]; exact e
          case measure => simp [intOf]; omega
        · by_cases q2 : x.f0 > y.f0
          · go_wp2_with fail
            go_quiet (fail)
            go_wp2_with fail
            go_quiet (fail)
            go_wp2_with fail
            go_roundw
            case rel =>
              refine ⟨i, k + 1, t, rfl, rfl, ⟨by omega⟩, ⟨FO_drew HNF.out _ rfl⟩, ⟨pw_below_drewN HB.out _⟩, ⟨?_⟩⟩
              have e := HR.out
              rw [DA.out, DB.out, cm_cons, if_neg (by omega), if_pos (by omega)] at e
              rw [DA.out]; exact e
            case measure => simp [intOf]; omega
          · go_wp2_with fail
            go_quiet (fail)
            go_wp2_with fail
            go_quiet (fail)
            go_wp2_with fail
            refine wp_region_still_tail 9 (by kernel_rfl) (by kernel_rfl) ?_
            simp only [List.take_succ_cons, List.take_zero, List.drop_succ_cons, List.drop_zero]
            generalize hw2 : ({ heap := _, tape := _, drawn := _, os := _, output := _ } : World) = w2
            have mv : ∀ {p : Addr} {v : Value}, wr.cell? p = some v → w2.cell? p = some v := fun h => by rw [← hw2]; exact h
            replace hx0 := mv hx0
            replace hx1 := mv hx1
            replace hx2 := mv hx2
            replace hy0 := mv hy0
            replace hy1 := mv hy1
            replace hy2 := mv hy2
            have HNF2 : Aside0 (FO w2 w0.heap.size bn bf n (can n t)) := ⟨FO_drew HNF.out w2 (by rw [← hw2]; rfl)⟩
            have HB2 : Aside0 (Below w0.heap.size w0 w2) := ⟨by rw [← hw2]; exact ⟨HB.out.os, HB.out.tape, HB.out.output, HB.out.size, HB.out.block⟩⟩
            clear mv hw2 HNF HB
            repeat still_step
            refine wpStill_nil ?_
            go_wp2_with fail
            refine (Forbidden1_c w0 w2 x y bn bf n t n1 n2 hne HB2.out gn gf HNF2.out HX.out HY.out).mono ?_
            rintro _ w3 ⟨rfl, HNF3, HB3⟩
            clear hx0 hx1 hx2 hy0 hy1 hy2 HNF2 HB2
            have HNF4 := Aside0.mk HNF3
            have HB4 := Aside0.mk HB3
            clear HNF3 HB3
            go_wp2_with fail
            go_roundw
            case rel =>
              refine ⟨i + 1, k + 1, fstep n t (x, y), rfl, rfl, ⟨by omega⟩, HNF4, HB4, ⟨?_⟩⟩
              have e := HR.out
              rw [DA.out, DB.out, cm_cons, if_neg (by omega), if_neg (by omega), List.foldl_cons] at e
              exact e
            case measure => simp [intOf]; omega
      · go_wp2_with fail
        go_end0
        have e := HR.out
        rw [drop_end b k (by omega), cm_nil'] at e
        exact ⟨rfl, by rw [← e]; exact HNF.out, HB.out⟩
    · go_wp2_with fail
      go_end0
      have e := HR.out
      rw [drop_end a i (by omega), cm_nil] at e
      exact ⟨rfl, by rw [← e]; exact HNF.out, HB.out⟩
end Go.Proofs.Ytcdldldknfpkjaa.PHw

namespace Go.Proofs.Ytcdldldknfpkjaa.PHw
open Go.RowKit Go.Proofs.YtcdldldknfpkjaaW.PrintWords Go.Proofs.YtcdldldknfpkjaaW.PrintLast Go.Proofs.YtcdldldknfpkjaaW.PrintMore
set_option linter.unusedVariables false
set_option maxRecDepth 100000
def longer (n : Int) (x : S41) : Bool := decide (n < x.f2 - x.f1)
theorem Alone1_c (w : World) (x : S41) (bt : Nat) (n : Int) (h : w.cell? ⟨bt, 0, none⟩ = some (.int .i64 n)) (hx : Small x) :
    Calls Try.prog 33 #[.agg #[.int .i64 x.f0, .int .i64 x.f1, .int .i64 x.f2], .pointer (some ⟨bt, 0, none⟩)] w fun e w' => e = .returned (.bool (longer n x)) ∧ Below w.heap.size w w' := by
  obtain ⟨hx1, hx2, hx3, hx4⟩ := hx
  have l1 := World.block_lt_of_cell? w _ h
  simp only at l1
  go_enter Try.func33, Try.ntmps33
  go_wp2_with fail
  go_ret
  exact ⟨rfl, (Below.refl _ _).alloc (Nat.le_refl _) _⟩
set_option maxHeartbeats 1000000 in
theorem Index_c (w : World) (A : Option Addr) (c : Nat) (a : List S41) (ha : Kd.C k41 w A a.length a) (hsa : ∀ x ∈ a, Small x) (bt : Nat) (n : Int) (h : w.cell? ⟨bt, 0, none⟩ = some (.int .i64 n)) :
    Calls Try.prog 44 #[.slice A a.length c, .func (.func 33) #[] #[.pointer (some ⟨bt, 0, none⟩)]] w fun e w' => (∃ r : Int, e = .returned (.int .i64 r) ∧ (decide (0 ≤ r) = a.any (longer n))) ∧ Below w.heap.size w w' := by
  have HA := Aside0.mk ha
  have HSA := Aside0.mk hsa
  have LA := ha.2.1
  have HC := Aside0.mk h
  have HL := Aside0.mk (World.block_lt_of_cell? w _ h)
  clear ha hsa h
  go_enter Try.func44, Try.ntmps44
  go_wp2_with fail
  go_loopw [8] (fun v8 wr => ∃ (i : Int), v8 = .int .i64 i ∧ Aside0 (0 ≤ i ∧ i ≤ a.length) ∧ Aside0 (Below w.heap.size w wr) ∧ Aside0 ((a.drop i.toNat).any (longer n) = a.any (longer n))) (fun v8 _ => a.length - (intOf v8).toNat)
  case atStart => exact ⟨0, rfl, ⟨by omega⟩, ⟨Below.refl _ _⟩, ⟨rfl⟩⟩
  case round =>
    obtain ⟨i, rfl, HI, HB, HR⟩ := hrel
    obtain ⟨i0, i1⟩ := HI.out
    clear HI
    by_cases ci : i < a.length
    · have HX := Aside0.mk (HSA.out _ (rd_mem a i i0 ci))
      have DA := Aside0.mk (drop_rd a i i0 ci)
      obtain ⟨ada, ea, hx0, hx1, hx2⟩ := at_T41 HA.out i i0 ci
      cases ea
      replace hx0 := (HB.out.cell (World.block_lt_of_cell? w _ hx0)).trans hx0
      replace hx1 := (HB.out.cell (World.block_lt_of_cell? w _ hx1)).trans hx1
      replace hx2 := (HB.out.cell (World.block_lt_of_cell? w _ hx2)).trans hx2
      generalize rd_T41 a i = x at *
      have HT := Aside0.mk ((HB.out.cell (p := ⟨bt, 0, none⟩) HL.out).trans HC.out)
      cases hl : longer n x with
      | true =>
        have HLX := Aside0.mk hl
        clear hl
        go_wp2_with fail
        refine (Alone1_c wr x bt n HT.out HX.out).mono ?_
        rw [HLX.out]
        rintro _ w1 ⟨rfl, hb⟩
        have HB1 := Aside0.mk (below_step HB.out hb)
        clear hb hx0 hx1 hx2
        go_wp2_with fail
        go_ret
        refine ⟨⟨i, rfl, ?_⟩, HB1.out⟩
        rw [decide_eq_true i0, ← HR.out, DA.out, List.any_cons, HLX.out]; rfl
      | false =>
        have HLX := Aside0.mk hl
        clear hl
        go_wp2_with fail
        refine (Alone1_c wr x bt n HT.out HX.out).mono ?_
        rw [HLX.out]
        rintro _ w1 ⟨rfl, hb⟩
        have HB1 := Aside0.mk (below_step HB.out hb)
        clear hb hx0 hx1 hx2
        go_wp2_with fail
        go_roundw
        case rel =>
          refine ⟨i + 1, rfl, ⟨by omega⟩, HB1, ⟨?_⟩⟩
          rw [← HR.out, DA.out, List.any_cons, HLX.out]; rfl
        case measure => simp [intOf]; omega
    · go_wp2_with fail
      go_ret
      refine ⟨⟨-1, rfl, ?_⟩, HB.out⟩
      have e := HR.out
      rw [drop_end a i (by omega)] at e
      rw [← e]; rfl
theorem Contains_c (w : World) (A : Option Addr) (c : Nat) (a : List S41) (ha : Kd.C k41 w A a.length a) (hsa : ∀ x ∈ a, Small x) (bt : Nat) (n : Int) (h : w.cell? ⟨bt, 0, none⟩ = some (.int .i64 n)) :
    Calls Try.prog 32 #[.slice A a.length c, .func (.func 33) #[] #[.pointer (some ⟨bt, 0, none⟩)]] w fun e w' => e = .returned (.bool (a.any (longer n))) ∧ Below w.heap.size w w' := by
  have HA := Aside0.mk ha
  have HSA := Aside0.mk hsa
  have HC := Aside0.mk h
  clear ha hsa h
  go_enter Try.func32, Try.ntmps32
  go_wp2_with fail
  refine (Index_c w A c a HA.out HSA.out bt n HC.out).mono ?_
  rintro _ w1 ⟨⟨r, rfl, hr⟩, hb⟩
  have HR := Aside0.mk hr
  have HB := Aside0.mk hb
  clear hr hb
  go_wp2_with fail
  go_ret
  exact ⟨by rw [← HR.out]; rfl, HB.out⟩
end Go.Proofs.Ytcdldldknfpkjaa.PHw

namespace Go.Proofs.Ytcdldldknfpkjaa.PHw
open Go.RowKit Go.Proofs.YtcdldldknfpkjaaW.PrintWords Go.Proofs.YtcdldldknfpkjaaW.PrintLast Go.Proofs.YtcdldldknfpkjaaW.PrintMore
set_option linter.unusedVariables false
def ovF : Int → List S41 → Bool
  | _, [] => true
  | last, x :: s => decide (last < x.f0) && decide (-65536 ≤ x.f1) && decide (x.f1 < x.f2) && decide (x.f2 ≤ 65536) && ovF x.f0 s
def ovld (a : List S41) : Bool := ovF (-1) a
theorem ovF_cons (l : Int) (x : S41) (s : List S41) : ovF l (x :: s) = true ↔ l < x.f0 ∧ -65536 ≤ x.f1 ∧ x.f1 < x.f2 ∧ x.f2 ≤ 65536 ∧ ovF x.f0 s = true := by
  simp only [ovF, Bool.and_eq_true, decide_eq_true_eq]
  constructor
  · rintro ⟨⟨⟨⟨h1, h2⟩, h3⟩, h4⟩, h5⟩; exact ⟨h1, h2, h3, h4, h5⟩
  · rintro ⟨h1, h2, h3, h4, h5⟩; exact ⟨⟨⟨⟨h1, h2⟩, h3⟩, h4⟩, h5⟩
theorem ovF_mem (a : List S41) : ∀ {l : Int}, ovF l a = true → ∀ x ∈ a, l < x.f0 ∧ -65536 ≤ x.f1 ∧ x.f1 < x.f2 ∧ x.f2 ≤ 65536 := by
  induction a with
  | nil => intro l _ x hx; cases hx
  | cons y a ih =>
    intro l h x hx
    rw [ovF_cons] at h
    obtain ⟨h1, h2, h3, h4, h5⟩ := h
    rcases List.mem_cons.1 hx with rfl | hx
    · exact ⟨h1, h2, h3, h4⟩
    · have := ih h5 x hx; omega
theorem ovld_small {a : List S41} (h : ovld a = true) : ∀ x ∈ a, Small x := fun x hx => by
  have := ovF_mem a h x hx
  unfold Small; omega
theorem ord_pre (pre : List S41) (u : S41) (suf : List S41) : rd_T41 (pre ++ u :: suf) (pre.length : Int) = u := by simp [rd_T41]
theorem OValid_loop (n : Int) : ∀ (suf pre : List S41) (last : Int), Fit (pre ++ suf) → n = ((pre ++ suf).length : Int) →
    Ev (fun k => headway_Valid.l0 k last (pre ++ suf) n (pre.length : Int)) (ovF last suf)
  | [], pre, last, hb, hn => by
    subst hn
    refine Ev.step (f := fun _ => some true) (fun k => ?_) (Ev.now _)
    simp only [headway_Valid.l0]
    rw [if_neg (nlt_pre pre)]
  | u :: suf, pre, last, hb, hn => by
    have ih := OValid_loop n suf (pre ++ [u]) u.f0 (by rwa [← List.append_cons]) (by rwa [← List.append_cons])
    rw [← List.append_cons, len1] at ih
    have hlt0 := lt_pre pre u suf
    have hlt : (pre.length : Int) < n := by rw [hn]; exact hlt0
    have hb' : (pre.length : Int) < 140737488355328 := by unfold Fit at hb; simp at hb; omega
    by_cases c : last < u.f0 ∧ -65536 ≤ u.f1 ∧ u.f1 < u.f2 ∧ u.f2 ≤ 65536
    · have hv : ovF last (u :: suf) = ovF u.f0 suf := by simp [ovF, c]
      rw [hv]
      refine Ev.step (fun k => ?_) ih
      simp only [headway_Valid.l0]
      rw [if_pos hlt, if_pos (by omega), if_pos hlt0, ord_pre, if_neg (by omega), if_neg (by omega), if_neg (by omega), if_neg (by omega), wrap_ok (by omega) (by omega)]
    · have hv : ovF last (u :: suf) = false := by rw [Bool.eq_false_iff, ne_eq, ovF_cons]; intro h; exact c ⟨h.1, h.2.1, h.2.2.1, h.2.2.2.1⟩
      rw [hv]
      refine Ev.step (f := fun _ => some false) (fun k => ?_) (Ev.now _)
      simp only [headway_Valid.l0]
      rw [if_pos hlt, if_pos (by omega), if_pos hlt0, ord_pre]
      iterate 4 (split; · rfl)
      exfalso; omega
theorem OValid_ev (a : List S41) (ha : Fit a) : Ev (fun k => headway_Valid.f k a) (ovld a) := by
  simp only [headway_Valid.f]
  exact OValid_loop _ a [] (-1) ha rfl
theorem OValid_c (w : World) (A : Option Addr) (c : Nat) (a : List S41) (ha : Kd.C k41 w A a.length a) (hc : a.length ≤ c) (hf : Fit a) :
    Calls Try.prog 29 #[.slice A a.length c] w fun e w' => e = .returned (.bool (ovld a)) ∧ Below w.heap.size w w' := by
  obtain ⟨k, h⟩ := (OValid_ev a hf).rounds
  exact headway_Valid.calls k A c a _ w ha hc h

/-- The value v reads as the occupations xs, whatever becomes of the world above its present size. -/
def VA (w : World) (v : Value) (xs : List S41) : Prop := Kd.V k41 41 w 0 (fun _ => True) v xs
theorem VA_below {w w' : World} {v : Value} {xs : List S41} (h : VA w v xs) (hb : Below w.heap.size w w') : VA w' v xs := Kd.V_below h hb
theorem VA_slice {w : World} {v : Value} {xs : List S41} (h : VA w v xs) : ∃ A c, v = .slice A xs.length c := Kd.V_slice h
theorem VA_C {w : World} {A : Option Addr} {c : Nat} {xs : List S41} (h : VA w (.slice A xs.length c) xs) : Kd.C k41 w A xs.length xs := (Kd.V_reads' h).2.2
theorem VA_le {w : World} {A : Option Addr} {c : Nat} {xs : List S41} (h : VA w (.slice A xs.length c) xs) : xs.length ≤ c := (Kd.V_reads' h).2.1
theorem VA_R {w : World} {base : Nat} {ok : Nat → Prop} {v : Value} {xs : List S41} (h : Kd.R k41 41 w base ok v xs) : VA w v xs := Kd.V_mono (Kd.R_V h) (fun _ _ => trivial)
theorem heap_occ : Kd.Heap k41 := Kd.heap_iso _ (Kd.heap_pair (Kd.heap_int _) (Kd.heap_pair (Kd.heap_int _) (Kd.heap_int _)))
theorem VA_of {w : World} {A : Option Addr} {c : Nat} {xs : List S41} (h : Kd.C k41 w A xs.length xs) (hc : xs.length ≤ c) : VA w (.slice A xs.length c) xs :=
  Kd.V_mk hc (fun W' hm => heap_occ.C (fun k hk => hm k trivial hk) h)
end Go.Proofs.Ytcdldldknfpkjaa.PHw

namespace Go.Proofs.Ytcdldldknfpkjaa.PHw
open Go.RowKit Go.Proofs.YtcdldldknfpkjaaW.PrintWords Go.Proofs.YtcdldldknfpkjaaW.PrintLast Go.Proofs.YtcdldldknfpkjaaW.PrintMore
set_option linter.unusedVariables false
set_option maxRecDepth 100000
/-- What Least answers. -/
def lst (a b : List S41) : Int × Bool := if ovld a = true ∧ ovld b = true then (cm a b).foldl lstep (0, false) else (0, false)
theorem NF_new (w : World) (n : Int) (f : Bool) : NF ((w.alloc (.cells #[.int .i64 n] 3)).alloc (.cells #[.bool f] 4)) w.heap.size (w.heap.size + 1) (n, f) := by
  constructor
  · rw [Below.heap_alloc _ _ _ (by simp)]; exact heap_alloc_new w _
  · have := heap_alloc_new (w.alloc (.cells #[.int .i64 n] 3)) (.cells #[.bool f] 4)
    simpa using this
theorem Least_c (w : World) (A1 A2 : Option Addr) (c1 c2 : Nat) (a b : List S41) (Va : VA w (.slice A1 a.length c1) a) (Vb : VA w (.slice A2 b.length c2) b) (fa : Fit a) (fb : Fit b) :
    Calls Try.prog 13 #[.slice A1 a.length c1, .slice A2 b.length c2] w fun e w' => e = .returned (.tuple #[.int .i64 (lst a b).1, .bool (lst a b).2]) ∧ Below w.heap.size w w' := by
  have HVA := Aside0.mk Va
  have HVB := Aside0.mk Vb
  have HFA := Aside0.mk fa
  have HFB := Aside0.mk fb
  clear Va Vb fa fb
  cases ha : ovld a with
  | false =>
    have HL : lst a b = (0, false) := by unfold lst; rw [if_neg (by simp [ha])]
    rw [HL]
    have HHA := Aside0.mk ha
    clear ha HL
    go_enter Try.func13, Try.ntmps13
    go_wp2_with fail
    refine (OValid_c _ A1 c1 a (VA_C HVA.out) (VA_le HVA.out) HFA.out).mono ?_
    rw [HHA.out]
    rintro _ w1 ⟨rfl, hb⟩
    have HB := Aside0.mk hb
    clear hb
    go_wp2_with fail
    go_ret2
    exact ⟨rfl, HB.out⟩
  | true =>
    have HHA := Aside0.mk ha
    clear ha
    cases hb0 : ovld b with
    | false =>
      have HL : lst a b = (0, false) := by unfold lst; rw [if_neg (by simp [hb0])]
      rw [HL]
      have HHB := Aside0.mk hb0
      clear hb0 HL
      go_enter Try.func13, Try.ntmps13
      go_wp2_with fail
      refine (OValid_c _ A1 c1 a (VA_C HVA.out) (VA_le HVA.out) HFA.out).mono ?_
      rw [HHA.out]
      rintro _ w1 ⟨rfl, hb⟩
      have HB := Aside0.mk hb
      have HVB1 := Aside0.mk (VA_below HVB.out hb)
      clear hb
      go_wp2_with fail
      refine (OValid_c _ A2 c2 b (VA_C HVB1.out) (VA_le HVB1.out) HFB.out).mono ?_
      rw [HHB.out]
      rintro _ w2 ⟨rfl, hb⟩
      have HB2 := Aside0.mk (below_step HB.out hb)
      clear hb
      go_wp2_with fail
      go_ret2
      exact ⟨rfl, HB2.out⟩
    | true =>
      have HL : lst a b = (cm a b).foldl lstep (0, false) := by unfold lst; rw [if_pos ⟨HHA.out, hb0⟩]
      rw [HL]
      have HHB := Aside0.mk hb0
      clear hb0 HL
      generalize hR : (cm a b).foldl lstep (0, false) = R
      have HRR := Aside0.mk hR
      clear hR
      go_enter Try.func13, Try.ntmps13
      go_wp2_with fail
      refine (OValid_c _ A1 c1 a (VA_C HVA.out) (VA_le HVA.out) HFA.out).mono ?_
      rw [HHA.out]
      rintro _ w1 ⟨rfl, hb⟩
      have HB := Aside0.mk hb
      have HVA1 := Aside0.mk (VA_below HVA.out hb)
      have HVB1 := Aside0.mk (VA_below HVB.out hb)
      clear hb
      go_wp2_with fail
      refine (OValid_c _ A2 c2 b (VA_C HVB1.out) (VA_le HVB1.out) HFB.out).mono ?_
      rw [HHB.out]
      rintro _ w2 ⟨rfl, hb⟩
      have HB2 := Aside0.mk (below_step HB.out hb)
      have HVA2 := Aside0.mk (VA_below HVA1.out hb)
      have HVB2 := Aside0.mk (VA_below HVB1.out hb)
      clear hb
      go_wp2_with fail
      refine (common_least w2 _ A1 A2 c1 c2 a b (VA_C HVA2.out) (VA_C HVB2.out) (ovld_small HHA.out) (ovld_small HHB.out) w2.heap.size (w2.heap.size + 1) (by omega) (Nat.le_refl _) (by omega) (0, false) (box2_below (Below.refl _ _) (Nat.le_refl _) _ _) (NF_new w2 0 false)).mono ?_
      rintro _ w3 ⟨rfl, hnf, hb⟩
      rw [HRR.out] at hnf
      have HB3 := Aside0.mk (below_step HB2.out hb)
      have c1' := cell_of_one hnf.1
      have c2' := cell_of_one hnf.2
      clear hb hnf HVA HVB HVA1 HVB1 HVA2 HVB2 HB HB2
      go_wp2_with fail
      go_quiet (fail)
      go_wp2_with fail
      go_ret2
      exact ⟨rfl, pw_below_drewN HB3.out _⟩
end Go.Proofs.Ytcdldldknfpkjaa.PHw

namespace Go.Proofs.Ytcdldldknfpkjaa.PHw
open Go.RowKit Go.Proofs.YtcdldldknfpkjaaW.PrintWords Go.Proofs.YtcdldldknfpkjaaW.PrintLast Go.Proofs.YtcdldldknfpkjaaW.PrintMore
set_option linter.unusedVariables false
set_option maxRecDepth 100000
/-- What is forbidden for two valid lists. -/
def fbp (n : Nat) (a b : List S41) : Int → Bool := (cm a b).foldl (fstep n) (fun _ => false)
theorem can_none (n : Nat) : can n (fun _ => false) = ([] : List S47) := by
  have : ∀ i : Nat, rr (fun _ => false) i = [] := by
    intro i; induction i with
    | zero => rfl
    | succ i ih => simp only [rr, ih]; rfl
  unfold can; rw [this]; rfl
theorem Forbidden_badT (w : World) (A1 A2 : Option Addr) (c1 c2 : Nat) (a b : List S41) (t : Int) (h : per t = false) :
    Calls Try.prog 18 #[.int .i64 t, .slice A1 a.length c1, .slice A2 b.length c2] w fun e w' => e = .returned (.tuple #[.slice none 0 0, .int .i64 4]) ∧ Below w.heap.size w w' := by
  by_cases h1 : t < 1
  · clear h
    go_enter Try.func18, Try.ntmps18
    go_wp2_with fail
    go_ret2
    exact ⟨rfl, (Below.refl _ _).alloc (Nat.le_refl _) _⟩
  · have h2 : 7200 < t := by
      have hf : ¬ (1 ≤ t ∧ t ≤ 7200) := fun hc => by rw [(per_iff t).2 hc] at h; cases h
      omega
    clear h
    go_enter Try.func18, Try.ntmps18
    go_wp2_with fail
    go_ret2
    exact ⟨rfl, (Below.refl _ _).alloc (Nat.le_refl _) _⟩
theorem Forbidden_bad1 (w : World) (A1 A2 : Option Addr) (c1 c2 : Nat) (a b : List S41) (t : Int) (h1 : 1 ≤ t) (h2 : t ≤ 7200) (Va : VA w (.slice A1 a.length c1) a) (fa : Fit a) (ha : ovld a = false) :
    Calls Try.prog 18 #[.int .i64 t, .slice A1 a.length c1, .slice A2 b.length c2] w fun e w' => e = .returned (.tuple #[.slice none 0 0, .int .i64 1]) ∧ Below w.heap.size w w' := by
  have HVA := Aside0.mk Va
  have HFA := Aside0.mk fa
  have HHA := Aside0.mk ha
  clear Va fa ha
  go_enter Try.func18, Try.ntmps18
  go_wp2_with fail
  have HVA1 := Aside0.mk (VA_below HVA.out ((Below.refl _ _).alloc (Nat.le_refl _) (.cells #[.int .i64 t] 3)))
  refine (OValid_c _ A1 c1 a (VA_C HVA1.out) (VA_le HVA1.out) HFA.out).mono ?_
  rw [HHA.out]
  rintro _ w1 ⟨rfl, hb⟩
  have HB := Aside0.mk (below_step ((Below.refl _ _).alloc (Nat.le_refl _) (.cells #[.int .i64 t] 3)) hb)
  clear hb
  go_wp2_with fail
  go_ret2
  exact ⟨rfl, HB.out⟩
theorem Forbidden_bad2 (w : World) (A1 A2 : Option Addr) (c1 c2 : Nat) (a b : List S41) (t : Int) (h1 : 1 ≤ t) (h2 : t ≤ 7200) (Va : VA w (.slice A1 a.length c1) a) (fa : Fit a) (ha : ovld a = true) (Vb : VA w (.slice A2 b.length c2) b) (fb : Fit b) (hb0 : ovld b = false) :
    Calls Try.prog 18 #[.int .i64 t, .slice A1 a.length c1, .slice A2 b.length c2] w fun e w' => e = .returned (.tuple #[.slice none 0 0, .int .i64 1]) ∧ Below w.heap.size w w' := by
  have HVA := Aside0.mk Va
  have HFA := Aside0.mk fa
  have HHA := Aside0.mk ha
  have HVB := Aside0.mk Vb
  have HFB := Aside0.mk fb
  have HHB := Aside0.mk hb0
  clear Va fa ha Vb fb hb0
  go_enter Try.func18, Try.ntmps18
  go_wp2_with fail
  have HVA1 := Aside0.mk (VA_below HVA.out ((Below.refl _ _).alloc (Nat.le_refl _) (.cells #[.int .i64 t] 3)))
  have HVB1 := Aside0.mk (VA_below HVB.out ((Below.refl _ _).alloc (Nat.le_refl _) (.cells #[.int .i64 t] 3)))
  refine (OValid_c _ A1 c1 a (VA_C HVA1.out) (VA_le HVA1.out) HFA.out).mono ?_
  rw [HHA.out]
  rintro _ w1 ⟨rfl, hb⟩
  have HB := Aside0.mk (below_step ((Below.refl _ _).alloc (Nat.le_refl _) (.cells #[.int .i64 t] 3)) hb)
  have HVB2 := Aside0.mk (VA_below HVB1.out hb)
  clear hb
  go_wp2_with fail
  refine (OValid_c _ A2 c2 b (VA_C HVB2.out) (VA_le HVB2.out) HFB.out).mono ?_
  rw [HHB.out]
  rintro _ w2 ⟨rfl, hb⟩
  have HB2 := Aside0.mk (below_step HB.out hb)
  clear hb
  go_wp2_with fail
  go_ret2
  exact ⟨rfl, HB2.out⟩
theorem FO_new (w w2 : World) (n : Nat) (hT : w2.heap[w.heap.size]? = some (.cells #[.int .i64 n] 3 (0, 0))) (hl : w.heap.size < w2.heap.size) : FO (w2.alloc (.cells #[.slice none 0 0] 33)) w.heap.size w.heap.size w2.heap.size n (can n (fun _ => false)) := by
  rw [can_none]
  refine ⟨by rw [Below.heap_alloc _ _ _ hl]; exact hT, none, 0, heap_alloc_new w2 _, Kd.R_nil _ _ _ _ _⟩
theorem Forbidden_own (w : World) (A1 A2 : Option Addr) (c1 c2 : Nat) (a b : List S41) (n : Nat) (h1 : 1 ≤ n) (h2 : n ≤ 7200) (Va : VA w (.slice A1 a.length c1) a) (fa : Fit a) (ha : ovld a = true) (Vb : VA w (.slice A2 b.length c2) b) (fb : Fit b) (hb0 : ovld b = true) :
    Calls Try.prog 18 #[.int .i64 n, .slice A1 a.length c1, .slice A2 b.length c2] w fun e w' => (∃ A c, e = .returned (.tuple #[.slice A (can n (fbp n a b)).length c, .int .i64 0]) ∧ Kd.R k47 47 w' w.heap.size (fun _ => True) (.slice A (can n (fbp n a b)).length c) (can n (fbp n a b))) ∧ Below w.heap.size w w' := by
  have HVA := Aside0.mk Va
  have HFA := Aside0.mk fa
  have HHA := Aside0.mk ha
  have HVB := Aside0.mk Vb
  have HFB := Aside0.mk fb
  have HHB := Aside0.mk hb0
  clear Va fa ha Vb fb hb0
  generalize hR : can n (fbp n a b) = R
  have HRR := Aside0.mk hR
  clear hR
  go_enter Try.func18, Try.ntmps18
  go_wp2_with fail
  have B0 : Below w.heap.size w (w.alloc (.cells #[.int .i64 n] 3)) := (Below.refl _ _).alloc (Nat.le_refl _) _
  have HVA1 := Aside0.mk (VA_below HVA.out B0)
  have HVB1 := Aside0.mk (VA_below HVB.out B0)
  have HT := Aside0.mk (heap_alloc_new w (.cells #[.int .i64 n] 3))
  have HB0 := Aside0.mk B0
  clear B0
  refine (OValid_c _ A1 c1 a (VA_C HVA1.out) (VA_le HVA1.out) HFA.out).mono ?_
  rw [HHA.out]
  rintro _ w1 ⟨rfl, hb⟩
  have HB := Aside0.mk (below_step HB0.out hb)
  have HVA2 := Aside0.mk (VA_below HVA1.out hb)
  have HVB2 := Aside0.mk (VA_below HVB1.out hb)
  have HT1 := Aside0.mk ((hb.block w.heap.size (by simp)).trans HT.out)
  clear hb
  go_wp2_with fail
  refine (OValid_c _ A2 c2 b (VA_C HVB2.out) (VA_le HVB2.out) HFB.out).mono ?_
  rw [HHB.out]
  rintro _ w2 ⟨rfl, hb⟩
  have HB2 := Aside0.mk (below_step HB.out hb)
  have HVA3 := Aside0.mk (VA_below HVA2.out hb)
  have HVB3 := Aside0.mk (VA_below HVB2.out hb)
  have HT2 := Aside0.mk ((hb.block w.heap.size (lt_of_block HT1.out)).trans HT1.out)
  have L2 := lt_of_block HT2.out
  clear hb
  go_wp2_with fail
  refine (common_forb w _ A1 A2 c1 c2 a b (VA_C HVA.out) (VA_C HVB.out) (ovld_small HHA.out) (ovld_small HHB.out) w.heap.size w2.heap.size n h1 h2 (by omega) (Nat.le_refl _) (by omega) (fun _ => false) (HB2.out.alloc (by omega) _) (FO_new w w2 n HT2.out L2)).mono ?_
  rintro _ w3 ⟨rfl, ⟨_, A, c, ho, hv⟩, hb⟩
  have e := HRR.out
  unfold fbp at e
  rw [e] at ho hv
  have HB3 := Aside0.mk hb
  have HV3 := Aside0.mk hv
  have k1 := cell_of_one ho
  clear hb hv ho e HVA HVB HVA1 HVB1 HVA2 HVB2 HVA3 HVB3 HT HT1 HT2 HB HB0 HB2
  go_wp2_with fail
  go_ret2
  exact ⟨⟨A, c, rfl, Kd.R_mono HV3.out (fun _ _ => trivial)⟩, HB3.out⟩
theorem Forbidden_good (w : World) (A1 A2 : Option Addr) (c1 c2 : Nat) (a b : List S41) (n : Nat) (h1 : 1 ≤ n) (h2 : n ≤ 7200) (Va : VA w (.slice A1 a.length c1) a) (fa : Fit a) (ha : ovld a = true) (Vb : VA w (.slice A2 b.length c2) b) (fb : Fit b) (hb0 : ovld b = true) :
    Calls Try.prog 18 #[.int .i64 n, .slice A1 a.length c1, .slice A2 b.length c2] w fun e w' => (∃ A c, e = .returned (.tuple #[.slice A (can n (fbp n a b)).length c, .int .i64 0]) ∧ VS w' (.slice A (can n (fbp n a b)).length c) (can n (fbp n a b))) ∧ Below w.heap.size w w' := by
  refine (Forbidden_own w A1 A2 c1 c2 a b n h1 h2 Va fa ha Vb fb hb0).mono ?_
  rintro e w' ⟨⟨A, c, rfl, hr⟩, hb⟩
  exact ⟨⟨A, c, rfl, VS_R hr⟩, hb⟩
end Go.Proofs.Ytcdldldknfpkjaa.PHw

namespace Go.Proofs.Ytcdldldknfpkjaa.PHw
open Go.RowKit Go.Proofs.YtcdldldknfpkjaaW.PrintWords Go.Proofs.YtcdldldknfpkjaaW.PrintLast Go.Proofs.YtcdldldknfpkjaaW.PrintMore
set_option linter.unusedVariables false
set_option maxRecDepth 100000
def aln (t : Int) (a : List S41) : Bool := ovld a && per t && !(a.any (longer t))
theorem Alone_c (w : World) (A : Option Addr) (c : Nat) (a : List S41) (t : Int) (Va : VA w (.slice A a.length c) a) (fa : Fit a) :
    Calls Try.prog 17 #[.int .i64 t, .slice A a.length c] w fun e w' => e = .returned (.bool (aln t a)) ∧ Below w.heap.size w w' := by
  have HVA := Aside0.mk Va
  have HFA := Aside0.mk fa
  have B0 : Below w.heap.size w (w.alloc (.cells #[.int .i64 t] 3)) := (Below.refl _ _).alloc (Nat.le_refl _) _
  have HVA1 := Aside0.mk (VA_below HVA.out B0)
  have HT := Aside0.mk (heap_alloc_new w (.cells #[.int .i64 t] 3))
  have HB0 := Aside0.mk B0
  clear Va fa B0
  cases ha : ovld a with
  | false =>
    have HL : aln t a = false := by unfold aln; rw [ha]; rfl
    rw [HL]
    have HHA := Aside0.mk ha
    clear ha HL
    go_enter Try.func17, Try.ntmps17
    go_wp2_with fail
    refine (OValid_c _ A c a (VA_C HVA1.out) (VA_le HVA1.out) HFA.out).mono ?_
    rw [HHA.out]
    rintro _ w1 ⟨rfl, hb⟩
    have HB := Aside0.mk (below_step HB0.out hb)
    clear hb
    go_wp2_with fail
    go_ret
    exact ⟨rfl, HB.out⟩
  | true =>
    have HHA := Aside0.mk ha
    by_cases h1 : 1 ≤ t
    · by_cases h2 : t ≤ 7200
      · have HL : aln t a = !(a.any (longer t)) := by unfold aln; rw [ha, (per_iff t).2 ⟨h1, h2⟩]; rfl
        rw [HL]
        clear ha HL
        generalize hR : a.any (longer t) = R
        have HRR := Aside0.mk hR
        clear hR
        go_enter Try.func17, Try.ntmps17
        go_wp2_with fail
        refine (OValid_c _ A c a (VA_C HVA1.out) (VA_le HVA1.out) HFA.out).mono ?_
        rw [HHA.out]
        rintro _ w1 ⟨rfl, hb⟩
        have HB := Aside0.mk (below_step HB0.out hb)
        have HVA2 := Aside0.mk (VA_below HVA1.out hb)
        have HT1 := Aside0.mk ((hb.block w.heap.size (by simp)).trans HT.out)
        have k1 := cell_of_one HT1.out
        clear hb
        go_wp2_with fail
        refine (Contains_c w1 A c a (VA_C HVA2.out) (ovld_small HHA.out) w.heap.size t k1).mono ?_
        rw [HRR.out]
        rintro _ w2 ⟨rfl, hb⟩
        have HB2 := Aside0.mk (below_step HB.out hb)
        clear hb k1 HVA HVA1 HVA2 HT HT1 HB HB0
        go_wp2_with fail
        go_ret
        exact ⟨rfl, HB2.out⟩
      · have HL : aln t a = false := by
          unfold aln
          have hp : per t = false := by rw [Bool.eq_false_iff]; intro hc; rw [per_iff] at hc; omega
          rw [hp]; simp
        rw [HL]
        clear ha HL
        go_enter Try.func17, Try.ntmps17
        go_wp2_with fail
        refine (OValid_c _ A c a (VA_C HVA1.out) (VA_le HVA1.out) HFA.out).mono ?_
        rw [HHA.out]
        rintro _ w1 ⟨rfl, hb⟩
        have HB := Aside0.mk (below_step HB0.out hb)
        have HT1 := Aside0.mk ((hb.block w.heap.size (by simp)).trans HT.out)
        have k1 := cell_of_one HT1.out
        clear hb
        go_wp2_with fail
        go_ret
        exact ⟨rfl, HB.out⟩
    · have HL : aln t a = false := by
        unfold aln
        have hp : per t = false := by rw [Bool.eq_false_iff]; intro hc; rw [per_iff] at hc; omega
        rw [hp]; simp
      rw [HL]
      clear ha HL
      go_enter Try.func17, Try.ntmps17
      go_wp2_with fail
      refine (OValid_c _ A c a (VA_C HVA1.out) (VA_le HVA1.out) HFA.out).mono ?_
      rw [HHA.out]
      rintro _ w1 ⟨rfl, hb⟩
      have HB := Aside0.mk (below_step HB0.out hb)
      have HT1 := Aside0.mk ((hb.block w.heap.size (by simp)).trans HT.out)
      have k1 := cell_of_one HT1.out
      clear hb
      go_wp2_with fail
      go_ret
      exact ⟨rfl, HB.out⟩
theorem lst_one : lst [⟨0, 0, 4⟩] [⟨0, 0, 4⟩] = (4, true) := by
  unfold lst
  rw [if_pos (by exact ⟨rfl, rfl⟩), cm_cons, if_neg (by show ¬ (0 : Int) < 0; omega), if_neg (by show ¬ (0 : Int) > 0; omega), cm_nil]; rfl
theorem awake_c (w : World) : Calls Try.prog 14 #[] w fun e w' => e = .returned (.bool true) ∧ Below w.heap.size w w' := by
  have one : ∀ W : World, VA (W.alloc (.cells #[.int .i64 0, .int .i64 0, .int .i64 4] 41)) (.slice (some ⟨W.heap.size, 0, none⟩) ([⟨0, 0, 4⟩] : List S41).length 1) [⟨0, 0, 4⟩] := by
    intro W
    refine VA_of ⟨rfl, by decide, fun _ => ⟨_, rfl, fun j p hj => ?_⟩⟩ (Nat.le_refl _)
    match j, hj with
    | 0, hj =>
      simp only [List.getElem?_cons_zero, Option.some.injEq] at hj
      subst hj
      refine ⟨[.int .i64 0, .int .i64 0, .int .i64 4], rfl, k41_mk _ _, fun i u hu => ?_⟩
      match i, hu with
      | 0, hu => simp only [List.getElem?_cons_zero, Option.some.injEq] at hu; subst hu; exact World.cell?_alloc_at _ _ _ _ rfl
      | 1, hu => simp only [List.getElem?_cons_succ, List.getElem?_cons_zero, Option.some.injEq] at hu; subst hu; exact World.cell?_alloc_at _ _ _ _ rfl
      | 2, hu => simp only [List.getElem?_cons_succ, List.getElem?_cons_zero, Option.some.injEq] at hu; subst hu; exact World.cell?_alloc_at _ _ _ _ rfl
      | i + 3, hu => simp at hu
    | j + 1, hj => simp at hj
  have HV := Aside0.mk (one w)
  have HB0 := Aside0.mk ((Below.refl w.heap.size w).alloc (Nat.le_refl _) (.cells #[.int .i64 0, .int .i64 0, .int .i64 4] 41))
  clear one
  go_enter Try.func14, Try.ntmps14
  go_wp2_with fail
  refine (Least_c _ _ _ 1 1 [⟨0, 0, 4⟩] [⟨0, 0, 4⟩] HV.out HV.out (fit_le (by simp)) (fit_le (by simp))).mono ?_
  rw [lst_one]
  rintro _ w1 ⟨rfl, hb⟩
  have HB1 := Aside0.mk (below_step HB0.out hb)
  have HV1 := Aside0.mk (VA_below HV.out hb)
  clear hb HV HB0
  go_wp2_with fail
  refine (Alone_c _ _ 1 [⟨0, 0, 4⟩] 4 HV1.out (fit_le (by simp))).mono ?_
  rw [show aln 4 [⟨0, 0, 4⟩] = true by rfl]
  rintro _ w2 ⟨rfl, hb⟩
  have HB2 := Aside0.mk (below_step HB1.out hb)
  have HV2 := Aside0.mk (VA_below HV1.out hb)
  clear hb HV1 HB1
  go_wp2_with fail
  refine (Alone_c _ _ 1 [⟨0, 0, 4⟩] 3 HV2.out (fit_le (by simp))).mono ?_
  rw [show aln 3 [⟨0, 0, 4⟩] = false by rfl]
  rintro _ w3 ⟨rfl, hb⟩
  have HB3 := Aside0.mk (below_step HB2.out hb)
  clear hb HV2 HB2
  go_wp2_with fail
  go_ret
  exact ⟨rfl, HB3.out⟩
end Go.Proofs.Ytcdldldknfpkjaa.PHw

namespace Go.Proofs.Ytcdldldknfpkjaa.PHw
open Go.RowKit Go.Proofs.YtcdldldknfpkjaaW.PrintWords Go.Proofs.YtcdldldknfpkjaaW.PrintLast Go.Proofs.YtcdldldknfpkjaaW.PrintMore
set_option linter.unusedVariables false
theorem cm_mem (q : S41 × S41) : ∀ (a b : List S41) {la lb : Int}, ovF la a = true → ovF lb b = true → (q ∈ cm a b ↔ q.1 ∈ a ∧ q.2 ∈ b ∧ q.1.f0 = q.2.f0)
  | [], b, la, lb, ha, hb => by rw [cm_nil]; simp
  | x :: a, [], la, lb, ha, hb => by rw [cm_nil']; simp
  | x :: a, y :: b, la, lb, ha, hb => by
    have ha' := ha
    have hb' := hb
    rw [ovF_cons] at ha hb
    have ea := ovF_mem a ha.2.2.2.2
    have eb := ovF_mem b hb.2.2.2.2
    rw [cm_cons]
    split
    · next h =>
      rw [cm_mem q a (y :: b) ha.2.2.2.2 hb']
      constructor
      · rintro ⟨h1, h2, h3⟩; exact ⟨List.mem_cons_of_mem _ h1, h2, h3⟩
      · rintro ⟨h1, h2, h3⟩
        refine ⟨?_, h2, h3⟩
        rcases List.mem_cons.1 h1 with e | h1
        · exfalso
          rcases List.mem_cons.1 h2 with e2 | h2
          · rw [e, e2] at h3; omega
          · have := eb _ h2; rw [e] at h3; omega
        · exact h1
    · split
      · next h0 h =>
        rw [cm_mem q (x :: a) b ha' hb.2.2.2.2]
        constructor
        · rintro ⟨h1, h2, h3⟩; exact ⟨h1, List.mem_cons_of_mem _ h2, h3⟩
        · rintro ⟨h1, h2, h3⟩
          refine ⟨h1, ?_, h3⟩
          rcases List.mem_cons.1 h2 with e | h2
          · exfalso
            rcases List.mem_cons.1 h1 with e2 | h1
            · rw [e, e2] at h3; omega
            · have := ea _ h1; rw [e] at h3; omega
          · exact h2
      · next h0 h =>
        have hxy : x.f0 = y.f0 := by omega
        rw [List.mem_cons, cm_mem q a b ha.2.2.2.2 hb.2.2.2.2]
        constructor
        · rintro (rfl | ⟨h1, h2, h3⟩)
          · exact ⟨List.mem_cons_self .., List.mem_cons_self .., hxy⟩
          · exact ⟨List.mem_cons_of_mem _ h1, List.mem_cons_of_mem _ h2, h3⟩
        · rintro ⟨h1, h2, h3⟩
          rcases List.mem_cons.1 h1 with e | h1
          · rcases List.mem_cons.1 h2 with e2 | h2
            · left; exact Prod.ext e e2
            · exfalso; have := eb _ h2; rw [e] at h3; omega
          · rcases List.mem_cons.1 h2 with e2 | h2
            · exfalso; have := ea _ h1; rw [e2] at h3; omega
            · exact .inr ⟨h1, h2, h3⟩
termination_by a b => a.length + b.length
theorem fold_no (l : List (S41 × S41)) (s : Int × Bool) (hs : s.2 = true) : (l.foldl lstep s).2 = true := by
  induction l generalizing s with
  | nil => exact hs
  | cons q l ih =>
    rw [List.foldl_cons]; apply ih; unfold lstep; split
    · exact hs
    · rfl
theorem fold_max (l : List (S41 × S41)) : ∀ (s : Int × Bool), s.2 = true → (s.1 ≤ (l.foldl lstep s).1 ∧ (∀ q ∈ l, q.1.f2 - q.2.f1 ≤ (l.foldl lstep s).1) ∧ ((l.foldl lstep s).1 = s.1 ∨ ∃ q ∈ l, (l.foldl lstep s).1 = q.1.f2 - q.2.f1)) := by
  induction l with
  | nil => intro s hs; exact ⟨Int.le_refl _, fun q hq => (by cases hq), .inl rfl⟩
  | cons q l ih =>
    intro s hs
    rw [List.foldl_cons]
    have h2 : (lstep s q).2 = true := by
      unfold lstep; split
      · exact hs
      · rfl
    obtain ⟨g1, g2, g3⟩ := ih (lstep s q) h2
    have e : (s.1 ≤ (lstep s q).1 ∧ q.1.f2 - q.2.f1 ≤ (lstep s q).1) ∧ ((lstep s q).1 = s.1 ∨ (lstep s q).1 = q.1.f2 - q.2.f1) := by
      unfold lstep; rw [hs]; split
      · next h => exact ⟨⟨Int.le_refl _, h.2⟩, .inl rfl⟩
      · next h =>
        have : ¬ q.1.f2 - q.2.f1 ≤ s.1 := fun hc => h ⟨rfl, hc⟩
        exact ⟨⟨by show s.1 ≤ q.1.f2 - q.2.f1; omega, Int.le_refl _⟩, .inr rfl⟩
    refine ⟨by omega, fun r hr => ?_, ?_⟩
    · rcases List.mem_cons.1 hr with rfl | hr
      · omega
      · exact g2 r hr
    · rcases g3 with g3 | ⟨r, hr, g3⟩
      · rcases e.2 with e2 | e2
        · exact .inl (by rw [g3, e2])
        · exact .inr ⟨q, List.mem_cons_self .., by rw [g3, e2]⟩
      · exact .inr ⟨r, List.mem_cons_of_mem _ hr, g3⟩
theorem lst_no {a b : List S41} (ha : ovld a = true) (hb : ovld b = true) (h : (lst a b).2 = false) : lst a b = (0, false) ∧ cm a b = [] := by
  unfold lst at *
  rw [if_pos ⟨ha, hb⟩] at *
  cases e : cm a b with
  | nil => exact ⟨rfl, rfl⟩
  | cons q l =>
    rw [e, List.foldl_cons, fold_no l _ (by unfold lstep; rw [if_neg (by simp)])] at h
    cases h
theorem lst_yes {a b : List S41} (ha : ovld a = true) (hb : ovld b = true) (h : (lst a b).2 = true) : (∀ q ∈ cm a b, q.1.f2 - q.2.f1 ≤ (lst a b).1) ∧ ∃ q ∈ cm a b, (lst a b).1 = q.1.f2 - q.2.f1 := by
  unfold lst at *
  rw [if_pos ⟨ha, hb⟩] at *
  cases e : cm a b with
  | nil => rw [e] at h; cases h
  | cons q l =>
    rw [List.foldl_cons]
    have e1 : lstep (0, false) q = (q.1.f2 - q.2.f1, true) := by unfold lstep; rw [if_neg (by simp)]
    rw [e1]
    obtain ⟨g1, g2, g3⟩ := fold_max l (q.1.f2 - q.2.f1, true) rfl
    refine ⟨fun r hr => ?_, ?_⟩
    · rcases List.mem_cons.1 hr with rfl | hr
      · exact g1
      · exact g2 r hr
    · rcases g3 with g3 | ⟨r, hr, g3⟩
      · exact ⟨q, List.mem_cons_self .., g3⟩
      · exact ⟨r, List.mem_cons_of_mem _ hr, g3⟩
/-- They hold a resource at the same second if b departs d seconds after a. -/
def tog (a b : List S41) (d : Int) : Bool := a.any fun x => b.any fun y => decide (x.f0 = y.f0) && (decide (x.f1 < y.f2 + d) && decide (y.f1 + d < x.f2))
theorem tog_iff (a b : List S41) (d : Int) : tog a b d = true ↔ ∃ x ∈ a, ∃ y ∈ b, x.f0 = y.f0 ∧ x.f1 < y.f2 + d ∧ y.f1 + d < x.f2 := by
  simp [tog, List.any_eq_true]
theorem tog_cm {a b : List S41} (ha : ovld a = true) (hb : ovld b = true) (d : Int) : tog a b d = true ↔ ∃ q ∈ cm a b, q.1.f1 < q.2.f2 + d ∧ q.2.f1 + d < q.1.f2 := by
  rw [tog_iff]
  constructor
  · rintro ⟨x, hx, y, hy, h0, h⟩; exact ⟨(x, y), (cm_mem (x, y) a b ha hb).2 ⟨hx, hy, h0⟩, h⟩
  · rintro ⟨q, hq, h⟩
    obtain ⟨h1, h2, h3⟩ := (cm_mem q a b ha hb).1 hq
    exact ⟨q.1, h1, q.2, h2, h3, h⟩
def tog1 (x : S41) (b : List S41) (d : Int) : Bool := b.any fun y => decide (x.f0 = y.f0) && (decide (x.f1 < y.f2 + d) && decide (y.f1 + d < x.f2))
theorem tog_cons (x : S41) (a b : List S41) (d : Int) : tog (x :: a) b d = (tog1 x b d || tog a b d) := rfl
theorem tog1_cons (x y : S41) (b : List S41) (d : Int) : tog1 x (y :: b) d = (decide (x.f0 = y.f0) && (decide (x.f1 < y.f2 + d) && decide (y.f1 + d < x.f2)) || tog1 x b d) := rfl
theorem tog_inner (d : Int) (d0 : -1000000 ≤ d) (d1 : d ≤ 1000000) (aa : List S41) (m m' : Int) (i : Int) (i0 : 0 ≤ i) (hi : i < aa.length) (u : S41) (hu : rd_T41 aa i = u) (R : Bool) : ∀ (suf pre : List S41), Fit (pre ++ suf) → m' = ((pre ++ suf).length : Int) → (∀ y ∈ suf, Small y) →
    (tog1 u suf d = false → Ev (fun k => railplanlaw9_together.l0 k aa (pre ++ suf) d m (wrap64 (i + 1))) R) → (tog1 u suf d = true → R = true) →
    Ev (fun k => railplanlaw9_together.l1 k aa (pre ++ suf) d i m i m' (pre.length : Int)) R
  | [], pre, hb, hm, hs, hk, ht => by
    refine Ev.step (fun k => ?_) (hk rfl)
    simp only [railplanlaw9_together.l1]
    rw [if_neg (by rw [hm]; exact nlt_pre pre)]
  | v :: suf, pre, hb, hm, hs, hk, ht => by
    have hlt0 := lt_pre pre v suf
    have hb' : (pre.length : Int) < 140737488355328 := by unfold Fit at hb; simp at hb; omega
    have sv := hs v (List.mem_cons_self ..)
    unfold Small at sv
    by_cases c : u.f0 = v.f0 ∧ u.f1 < v.f2 + d ∧ v.f1 + d < u.f2
    · have : R = true := ht (by rw [tog1_cons]; simp [c])
      rw [this]
      refine Ev.step (f := fun _ => some true) (fun k => ?_) (Ev.now _)
      simp only [railplanlaw9_together.l1]
      rw [if_pos (by rw [hm]; exact hlt0), if_pos i0, if_pos hi, if_pos (by omega), if_pos hlt0, hu, ord_pre, wrap_ok (a := v.f2 + d) (by omega) (by omega), wrap_ok (a := v.f1 + d) (by omega) (by omega), if_pos c.1, if_pos c.2.1, if_pos c.2.2]
    · have hno : (decide (u.f0 = v.f0) && (decide (u.f1 < v.f2 + d) && decide (v.f1 + d < u.f2))) = false := by
        rw [Bool.eq_false_iff]; intro hc; simp only [Bool.and_eq_true, decide_eq_true_eq] at hc; exact c hc
      have ih := tog_inner d d0 d1 aa m m' i i0 hi u hu R suf (pre ++ [v]) (by rwa [← List.append_cons]) (by rwa [← List.append_cons]) (fun y hy => hs y (List.mem_cons_of_mem _ hy))
        (fun h => by rw [← List.append_cons]; exact hk (by rw [tog1_cons, hno, h]; rfl)) (fun h => ht (by rw [tog1_cons, hno, h]; rfl))
      rw [← List.append_cons, len1] at ih
      refine Ev.step (fun k => ?_) ih
      simp only [railplanlaw9_together.l1]
      rw [if_pos (by rw [hm]; exact hlt0), if_pos i0, if_pos hi, if_pos (by omega), if_pos hlt0, hu, ord_pre, wrap_ok (a := v.f2 + d) (by omega) (by omega), wrap_ok (a := v.f1 + d) (by omega) (by omega), wrap_ok (by omega) (by omega)]
      by_cases c0 : u.f0 = v.f0
      · rw [if_pos c0]
        by_cases c1 : u.f1 < v.f2 + d
        · rw [if_pos c1, if_neg (fun c2 => c ⟨c0, c1, c2⟩)]
        · rw [if_neg c1]
      · rw [if_neg c0]
theorem tog_loop (d : Int) (d0 : -1000000 ≤ d) (d1 : d ≤ 1000000) (b : List S41) (fb : Fit b) (hsb : ∀ y ∈ b, Small y) (m : Int) : ∀ (suf pre : List S41), Fit (pre ++ suf) → m = ((pre ++ suf).length : Int) →
    Ev (fun k => railplanlaw9_together.l0 k (pre ++ suf) b d m (pre.length : Int)) (tog suf b d)
  | [], pre, hb, hm => by
    refine Ev.step (f := fun _ => some false) (fun k => ?_) (Ev.now _)
    simp only [railplanlaw9_together.l0]
    rw [if_neg (by rw [hm]; exact nlt_pre pre)]
  | u :: suf, pre, hb, hm => by
    have hlt0 := lt_pre pre u suf
    have hb' : (pre.length : Int) < 140737488355328 := by unfold Fit at hb; simp at hb; omega
    have := tog_inner d d0 d1 (pre ++ u :: suf) m b.length (pre.length : Int) (by omega) hlt0 u (ord_pre pre u suf) (tog (u :: suf) b d) b [] fb rfl hsb (fun h => by
      have ih := tog_loop d d0 d1 b fb hsb m suf (pre ++ [u]) (by rwa [← List.append_cons]) (by rwa [← List.append_cons])
      rw [← List.append_cons, len1] at ih
      rw [wrap_ok (by omega) (by omega), tog_cons, h, Bool.false_or]; exact ih) (fun h => by rw [tog_cons, h]; rfl)
    refine Ev.step (fun k => ?_) this
    simp only [railplanlaw9_together.l0]
    rw [if_pos (by rw [hm]; exact hlt0)]; rfl
theorem tog_ev (a b : List S41) (fa : Fit a) (fb : Fit b) (hsb : ∀ y ∈ b, Small y) (d : Int) (d0 : -1000000 ≤ d) (d1 : d ≤ 1000000) : Ev (fun k => railplanlaw9_together.f k a b d) (tog a b d) := by
  simp only [railplanlaw9_together.f]
  exact tog_loop d d0 d1 b fb hsb a.length a [] fa rfl
end Go.Proofs.Ytcdldldknfpkjaa.PHw

namespace Go.Proofs.Ytcdldldknfpkjaa.PHw
open Go.RowKit Go.Proofs.YtcdldldknfpkjaaW.PrintWords Go.Proofs.YtcdldldknfpkjaaW.PrintLast Go.Proofs.YtcdldldknfpkjaaW.PrintMore
set_option linter.unusedVariables false
theorem ovF_snoc (u : S41) : ∀ (a : List S41) (l : Int), ovF l a = true → (∀ x ∈ a, x.f0 < u.f0) → l < u.f0 → -65536 ≤ u.f1 ∧ u.f1 < u.f2 ∧ u.f2 ≤ 65536 → ovF l (a ++ [u]) = true
  | [], l, h, hx, hl, hu => by rw [List.nil_append, ovF_cons]; exact ⟨hl, hu.1, hu.2.1, hu.2.2, rfl⟩
  | x :: a, l, h, hx, hl, hu => by
    rw [ovF_cons] at h
    rw [List.cons_append, ovF_cons]
    exact ⟨h.1, h.2.1, h.2.2.1, h.2.2.2.1, ovF_snoc u a x.f0 h.2.2.2.2 (fun y hy => hx y (List.mem_cons_of_mem _ hy)) (hx x (List.mem_cons_self ..)) hu⟩
/-- The bounds of a made occupation. -/
def Tiny (x : S41) : Prop := -20 ≤ x.f1 ∧ x.f1 < x.f2 ∧ x.f2 ≤ 59 ∧ x.f2 - x.f1 ≤ 20
theorem Occ_loop (l : List Int) (hl : Fit l) : ∀ (d : Nat) (r : Int) (a : List S41) (i : Int), 0 ≤ r → r + d = 6 → ovld a = true → (∀ x ∈ a, x.f0 < r ∧ Tiny x) → a.length ≤ r → 0 ≤ i → i ≤ l.length →
    ∃ b, Ev (fun k => railplankeep_Occupations.l0 k a r l i) b ∧ ovld b = true ∧ (∀ x ∈ b, Tiny x) ∧ b.length ≤ 6
  | 0, r, a, i, r0, hd, ha, hx, hn, i0, i1 => by
    refine ⟨a, Ev.step (f := fun _ => some a) (fun k => ?_) (Ev.now _), ha, fun x h => (hx x h).2, by omega⟩
    simp only [railplankeep_Occupations.l0]
    rw [if_neg (by omega)]
  | d + 1, r, a, i, r0, hd, ha, hx, hn, i0, i1 => by
    obtain ⟨q, j, hq, q0, q1, j0, j1⟩ := Next_some l hl i 3 i0 i1 (by omega) (by omega)
    by_cases hc : q > 0
    · obtain ⟨f, j2, hf, f0, f1, j20, j21⟩ := Next_some l hl j 60 j0 j1 (by omega) (by omega)
      obtain ⟨s, j3, hs, s0, s1, j30, j31⟩ := Next_some l hl j2 20 j20 j21 (by omega) (by omega)
      obtain ⟨b, hb, h1, h2, h3⟩ := Occ_loop l hl d (r + 1) (a ++ [⟨r, f - 20, f - 20 + 1 + s⟩]) j3 (by omega) (by omega)
        (ovF_snoc _ a (-1) ha (fun x h => (hx x h).1) (by show -1 < r; omega) ⟨by show -65536 ≤ f - 20; omega, by show f - 20 < f - 20 + 1 + s; omega, by show f - 20 + 1 + s ≤ 65536; omega⟩)
        (fun x h => by
          rcases List.mem_append.1 h with h | h
          · have := hx x h; exact ⟨by omega, this.2⟩
          · rw [List.mem_singleton] at h; subst h
            exact ⟨by show r < r + 1; omega, by show -20 ≤ f - 20; omega, by show f - 20 < f - 20 + 1 + s; omega, by show f - 20 + 1 + s ≤ 59; omega, by show f - 20 + 1 + s - (f - 20) ≤ 20; omega⟩)
        (by simp; omega) j30 j31
      refine ⟨b, Ev.step (fun k => ?_) hb, h1, h2, h3⟩
      simp only [railplankeep_Occupations.l0]
      rw [if_pos (by omega), hq]; simp only [Option.bind_some]
      rw [if_pos hc, hf]; simp only [Option.bind_some]
      rw [hs]; simp only [Option.bind_some]
      rw [if_pos (by omega), wrap_ok (a := f - 20) (by omega) (by omega), wrap_ok (a := f - 20 + 1) (by omega) (by omega), wrap_ok (a := f - 20 + 1 + s) (by omega) (by omega), wrap_ok (a := r + 1) (by omega) (by omega)]
    · obtain ⟨b, hb, h1, h2, h3⟩ := Occ_loop l hl d (r + 1) a j (by omega) (by omega) ha (fun x h => by have := hx x h; exact ⟨by omega, this.2⟩) (by omega) j0 j1
      refine ⟨b, Ev.step (fun k => ?_) hb, h1, h2, h3⟩
      simp only [railplankeep_Occupations.l0]
      rw [if_pos (by omega), hq]; simp only [Option.bind_some]
      rw [if_neg hc, wrap_ok (a := r + 1) (by omega) (by omega)]
theorem Occ_ev (l : List Int) (hl : Fit l) : ∃ b, Ev (fun k => railplankeep_Occupations.f k l) b ∧ ovld b = true ∧ (∀ x ∈ b, Tiny x) ∧ b.length ≤ 6 := by
  obtain ⟨b, hb, h⟩ := Occ_loop l hl 6 0 [] 0 (Int.le_refl _) (by omega) rfl (fun x h => by cases h) (by simp) (Int.le_refl _) (by omega)
  refine ⟨b, ?_, h⟩
  simp only [railplankeep_Occupations.f, railplankeep_From.f, Option.bind_some]
  exact hb
theorem Occ_c {k : Nat} {A1 : Option Addr} {c1 : Nat} {l : List Int} {r : List S41} {w : World} (h : railplankeep_Occupations.f k l = some r) (hl : Kd.C (Kd.int .i64) w A1 l.length l) (hc : l.length ≤ c1) :
    Calls Try.prog 12 #[.slice A1 l.length c1] w fun x w' => ∃ A c, x = .returned (.slice A r.length c) ∧ VA w' (.slice A r.length c) r ∧ Below w.heap.size w w' := by
  refine (railplankeep_Occupations.calls k A1 c1 l r w hl hc h).mono ?_
  rintro x w' ⟨v, rfl, hr, hb⟩
  have hv := VA_R hr
  obtain ⟨A, c, rfl⟩ := VA_slice hv
  exact ⟨A, c, rfl, hv, hb⟩
theorem tog_c {A1 A2 : Option Addr} {c1 c2 : Nat} {a b : List S41} {w : World} (d : Int) (d0 : -1000000 ≤ d) (d1 : d ≤ 1000000) (Va : VA w (.slice A1 a.length c1) a) (Vb : VA w (.slice A2 b.length c2) b) (fa : Fit a) (fb : Fit b) (hsb : ∀ y ∈ b, Small y) :
    Calls Try.prog 15 #[.slice A1 a.length c1, .slice A2 b.length c2, .int .i64 d] w fun x w' => x = .returned (.bool (tog a b d)) ∧ Below w.heap.size w w' := by
  obtain ⟨k, h⟩ := (tog_ev a b fa fb hsb d d0 d1).rounds
  refine (railplanlaw9_together.calls k A1 c1 a A2 c2 b d _ w (VA_C Va) (VA_le Va) (VA_C Vb) (VA_le Vb) h).mono ?_
  rintro x w' ⟨rfl, nd, rfl⟩
  exact ⟨rfl, pw_below_drewN (Below.refl _ _) nd⟩
theorem Pick_c {v n r : Int} {w : World} (h : railplankeep_Pick.f v n = some r) : Calls Try.prog 16 #[.int .i64 v, .int .i64 n] w fun x w' => x = .returned (.int .i64 r) ∧ Below w.heap.size w w' := by
  refine (railplankeep_Pick.calls v n r w h).mono ?_
  rintro x w' ⟨rfl, nd, rfl⟩
  exact ⟨rfl, pw_below_drewN (Below.refl _ _) nd⟩
theorem Tiny.small {x : S41} (h : Tiny x) : Small x := by unfold Tiny at h; unfold Small; omega
end Go.Proofs.Ytcdldldknfpkjaa.PHw

namespace Go.Proofs.Ytcdldldknfpkjaa.PHw
open Go.RowKit Go.Proofs.YtcdldldknfpkjaaW.PrintWords Go.Proofs.YtcdldldknfpkjaaW.PrintLast Go.Proofs.YtcdldldknfpkjaaW.PrintMore
set_option linter.unusedVariables false
def hits (n : Nat) (q : S41 × S41) (z : Int) : Bool := decide ((z - (q.1.f1 - q.2.f2 + 1)) % n < q.1.f2 - q.1.f1 + q.2.f2 - q.2.f1 - 1)
theorem fold_hits (n : Nat) (z : Int) : ∀ (l : List (S41 × S41)) (p : Int → Bool), (l.foldl (fstep n) p) z = (p z || l.any fun q => hits n q z)
  | [], p => by simp
  | q :: l, p => by rw [List.foldl_cons, fold_hits n z l, List.any_cons, ← Bool.or_assoc]; rfl
theorem fbp_any (n : Nat) (a b : List S41) (z : Int) : fbp n a b z = (cm a b).any fun q => hits n q z := by
  unfold fbp; rw [fold_hits, Bool.false_or]
theorem emod_le {a n : Int} (h : 0 ≤ a) (hn : 0 < n) : a % n ≤ a := by
  have := Int.emod_add_mul_ediv a n
  have h2 : 0 ≤ n * (a / n) := Int.mul_nonneg (by omega) (Int.ediv_nonneg h (by omega))
  omega
theorem hits_iff {n : Nat} (hn : 1 ≤ n) (q : S41 × S41) (z : Int) (h : q.1.f1 < q.1.f2) (h' : q.2.f1 < q.2.f2) : hits n q z = true ↔ ∃ k : Int, q.1.f1 < q.2.f2 + (z + k * n) ∧ q.2.f1 + (z + k * n) < q.1.f2 := by
  unfold hits
  rw [decide_eq_true_eq]
  have hp : (0 : Int) < n := by omega
  constructor
  · intro hc
    have hm := Int.emod_add_mul_ediv (z - (q.1.f1 - q.2.f2 + 1)) n
    have hb := em_bound (z - (q.1.f1 - q.2.f2 + 1)) hp
    refine ⟨-((z - (q.1.f1 - q.2.f2 + 1)) / n), ?_⟩
    have e : -((z - (q.1.f1 - q.2.f2 + 1)) / n) * (n : Int) = -(n * ((z - (q.1.f1 - q.2.f2 + 1)) / n)) := by rw [Int.neg_mul, Int.mul_comm]
    rw [e]
    omega
  · rintro ⟨k, h1, h2⟩
    have e : (z - (q.1.f1 - q.2.f2 + 1)) % n = (z + k * n - (q.1.f1 - q.2.f2 + 1)) % n := by
      rw [show z + k * n - (q.1.f1 - q.2.f2 + 1) = z - (q.1.f1 - q.2.f2 + 1) + k * n by omega, Int.add_mul_emod_self_right]
    rw [e]
    have := emod_le (a := z + k * n - (q.1.f1 - q.2.f2 + 1)) (n := n) (by omega) hp
    omega
theorem fbp_iff {n : Nat} (hn : 1 ≤ n) {a b : List S41} (ha : ovld a = true) (hb : ovld b = true) (z : Int) : fbp n a b z = true ↔ ∃ k : Int, tog a b (z + k * n) = true := by
  rw [fbp_any, List.any_eq_true]
  have wid : ∀ q ∈ cm a b, q.1.f1 < q.1.f2 ∧ q.2.f1 < q.2.f2 := fun q hq => by
    obtain ⟨h1, h2, _⟩ := (cm_mem q a b ha hb).1 hq
    have := ovF_mem a ha _ h1
    have := ovF_mem b hb _ h2
    omega
  constructor
  · rintro ⟨q, hq, h⟩
    obtain ⟨k, hk⟩ := (hits_iff hn q z (wid q hq).1 (wid q hq).2).1 h
    exact ⟨k, (tog_cm ha hb _).2 ⟨q, hq, hk⟩⟩
  · rintro ⟨k, hk⟩
    obtain ⟨q, hq, h⟩ := (tog_cm ha hb _).1 hk
    exact ⟨q, hq, (hits_iff hn q z (wid q hq).1 (wid q hq).2).2 ⟨k, h⟩⟩
theorem tog_swap {a b : List S41} (ha : ovld a = true) (hb : ovld b = true) (d : Int) : tog a b d = tog b a (-d) := by
  rw [Bool.eq_iff_iff, tog_iff, tog_iff]
  constructor
  · rintro ⟨x, hx, y, hy, h0, h1, h2⟩; exact ⟨y, hy, x, hx, h0.symm, by omega, by omega⟩
  · rintro ⟨y, hy, x, hx, h0, h1, h2⟩; exact ⟨x, hx, y, hy, h0.symm, by omega, by omega⟩
theorem fbp_swap {n : Nat} (hn : 1 ≤ n) {a b : List S41} (ha : ovld a = true) (hb : ovld b = true) (z : Int) : fbp n a b z = fbp n b a (-z) := by
  rw [Bool.eq_iff_iff, fbp_iff hn ha hb, fbp_iff hn hb ha]
  constructor
  · rintro ⟨k, hk⟩
    refine ⟨-k, ?_⟩
    rw [tog_swap ha hb] at hk
    rw [← hk]; congr 1; rw [Int.neg_mul]; omega
  · rintro ⟨k, hk⟩
    refine ⟨-k, ?_⟩
    rw [tog_swap ha hb, ← hk]; congr 1; rw [Int.neg_mul]; omega
theorem fbp_mod {n : Nat} (hn : 1 ≤ n) {a b : List S41} (ha : ovld a = true) (hb : ovld b = true) (z : Int) : fbp n a b (z % n) = fbp n a b z := by
  rw [fbp_any, fbp_any]
  congr 1; funext q
  unfold hits; rw [em_sub_left]
theorem rHas_c {n : Nat} (h1 : 1 ≤ n) (h2 : n ≤ 7200) {A : Option Addr} {c : Nat} {s : List S47} {w : World} (x : Int) (hs : Fit s) (Vs : VS w (.slice A s.length c) s) :
    Calls Try.prog 19 #[.int .i64 n, .slice A s.length c, .int .i64 x] w fun e w' => e = .returned (.bool (vld n s && mem s (x % n))) ∧ Below w.heap.size w w' := by
  obtain ⟨k, h⟩ := (rHas_ev n h1 h2 s hs x).rounds
  refine (railplanref1_Has.calls k n A c s x _ w (VS_C Vs) (VS_le Vs) h).mono ?_
  rintro e w' ⟨rfl, nd, rfl⟩
  exact ⟨rfl, pw_below_drewN (Below.refl _ _) nd⟩
theorem rCount_c {n : Nat} (h1 : 1 ≤ n) (h2 : n ≤ 7200) {A : Option Addr} {c : Nat} {s : List S47} {w : World} (hs : Fit s) (Vs : VS w (.slice A s.length c) s) :
    Calls Try.prog 20 #[.int .i64 n, .slice A s.length c] w fun e w' => e = .returned (.int .i64 (if vld n s = true then cnt (mem s) n else 0)) ∧ Below w.heap.size w w' := by
  obtain ⟨k, h⟩ := (rCount_ev n h1 h2 s hs).rounds
  refine (railplanref1_Count.calls k n A c s _ w (VS_C Vs) (VS_le Vs) h).mono ?_
  rintro e w' ⟨rfl, nd, rfl⟩
  exact ⟨rfl, pw_below_drewN (Below.refl _ _) nd⟩
end Go.Proofs.Ytcdldldknfpkjaa.PHw

namespace Go.Proofs.Ytcdldldknfpkjaa.PHw
open Go.RowKit Go.Proofs.YtcdldldknfpkjaaW.PrintWords Go.Proofs.YtcdldldknfpkjaaW.PrintLast Go.Proofs.YtcdldldknfpkjaaW.PrintMore
set_option linter.unusedVariables false
set_option maxRecDepth 100000
def wf (n : Int) (u : S47) : S50 := ⟨u.f1, u.f0 + n - 1⟩
/-- Whether a run passes the end of the period. -/
def wraps (n : Int) (s : List S47) : Prop := 1 < s.length ∧ (rd_T47 s 0).f0 = 0 ∧ (rd_T47 s ((s.length : Int) - 1)).f1 = n
instance (n : Int) (s : List S47) : Decidable (wraps n s) := by unfold wraps; exact inferInstance
/-- The runs of a list, the one that passes the end of the period as one. -/
def turned (n : Int) (s : List S47) : List S47 :=
  if wraps n s then (s.set ((s.length : Int) - 1).toNat ⟨(rd_T47 s ((s.length : Int) - 1)).f0, (rd_T47 s ((s.length : Int) - 1)).f1 + (rd_T47 s 0).f1⟩).drop 1 else s
theorem Count_c {n : Nat} (h1 : 1 ≤ n) (h2 : n ≤ 7200) {A : Option Addr} {c : Nat} {s : List S47} {w : World} (hs : Fit s) (Vs : VS w (.slice A s.length c) s) :
    Calls Try.prog 38 #[.int .i64 n, .slice A s.length c] w fun e w' => e = .returned (.int .i64 (if vld n s = true then cnt (mem s) n else 0)) ∧ Below w.heap.size w w' := by
  obtain ⟨k, h⟩ := (Count_ev n h1 h2 s hs).rounds
  exact residue_Count.calls k n A c s _ w (VS_C Vs) (VS_le Vs) h
/-- A slice of windows that is only read. -/
def VW (w : World) (v : Value) (xs : List S50) : Prop := Kd.V k50 50 w 0 (fun _ => True) v xs
theorem VW_below {w w' : World} {v : Value} {xs : List S50} (h : VW w v xs) (hb : Below w.heap.size w w') : VW w' v xs := Kd.V_below h hb
theorem VW_slice {w : World} {v : Value} {xs : List S50} (h : VW w v xs) : ∃ A c, v = .slice A xs.length c := Kd.V_slice h
theorem VW_C {w : World} {A : Option Addr} {c : Nat} {xs : List S50} (h : VW w (.slice A xs.length c) xs) : Kd.C k50 w A xs.length xs := (Kd.V_reads' h).2.2
theorem VW_le {w : World} {A : Option Addr} {c : Nat} {xs : List S50} (h : VW w (.slice A xs.length c) xs) : xs.length ≤ c := (Kd.V_reads' h).2.1
theorem VW_R {w : World} {base : Nat} {ok : Nat → Prop} {v : Value} {xs : List S50} (h : Kd.R k50 50 w base ok v xs) : VW w v xs := Kd.V_mono (Kd.R_V h) (fun _ _ => trivial)
theorem take_snoc (n : Int) (s : List S47) (i : Int) (h0 : 0 ≤ i) (h1 : i < s.length) : (s.take (i + 1).toNat).map (wf n) = (s.take i.toNat).map (wf n) ++ [wf n (rd_T47 s i)] := by
  have hl : i.toNat < s.length := by omega
  rw [show (i + 1).toNat = i.toNat + 1 by omega, List.take_succ_eq_append_getElem hl, List.map_append, List.map_singleton]
  unfold rd_T47
  rw [List.getD_eq_getElem?_getD, List.getElem?_eq_getElem hl]; rfl
/-- The bounds of a run. -/
def Run (u : S47) : Prop := 0 ≤ u.f0 ∧ u.f0 ≤ 20000 ∧ 0 ≤ u.f1 ∧ u.f1 ≤ 20000
theorem rd47_mem (a : List S47) (i : Int) (h0 : 0 ≤ i) (h1 : i < a.length) : rd_T47 a i ∈ a := by
  have hl : i.toNat < a.length := by omega
  unfold rd_T47
  rw [List.getD_eq_getElem?_getD, List.getElem?_eq_getElem hl]
  exact List.getElem_mem hl
theorem vld_run {n : Nat} (h2 : n ≤ 7200) {s : List S47} (h : vld n s = true) : ∀ u ∈ s, Run u := fun u hu => by
  have := vldF_mem s ((vld_iff _ _).1 h).2 u hu
  unfold Run; omega
set_option maxHeartbeats 4000000 in
theorem Windows_short (w : World) (A1 A2 : Option Addr) (c1 c2 : Nat) (a b : List S41) (n : Nat) (h1 : 1 ≤ n) (h2 : n ≤ 7200) (Va : VA w (.slice A1 a.length c1) a) (fa : Fit a) (ha : ovld a = true) (Vb : VA w (.slice A2 b.length c2) b) (fb : Fit b) (hb0 : ovld b = true)
    (s : List S47) (hs : can n (fbp n a b) = s) (hc : cnt (fbp n a b) n ≠ n) (hp : s.length ≤ 1) :
    Calls Try.prog 21 #[.int .i64 n, .slice A1 a.length c1, .slice A2 b.length c2] w fun e w' => (∃ A c, e = .returned (.tuple #[.slice A ((s).map (wf n)).length c, .int .i64 0]) ∧ VW w' (.slice A ((s).map (wf n)).length c) ((s).map (wf n))) ∧ Below w.heap.size w w' := by
  have hv := can_vld (n := n) (fbp n a b) h1 h2
  rw [hs] at hv
  have hcnt : (if vld n s = true then cnt (mem s) n else 0) ≠ n := by
    rw [if_pos hv, ← hs, cnt_congr (q := fbp n a b) fun x x0 x1 => can_in _ x0 x1]; exact hc
  have FS := Aside0.mk (fit_le (vld_fit hv))
  have SL := Aside0.mk (vld_fit hv)
  have SR := Aside0.mk (vld_run h2 hv)
  have HV := Aside0.mk hv
  have HS := Aside0.mk hs
  have VVA := Aside0.mk Va
  have VVB := Aside0.mk Vb
  have FA := Aside0.mk fa
  have FB := Aside0.mk fb
  have OA := Aside0.mk ha
  have OB := Aside0.mk hb0
  generalize hC : (if vld n s = true then cnt (mem s) n else 0) = C at *
  have HC := Aside0.mk hC
  have HCN : ((C : Int) == (n : Int)) = false := beq_eq_false_iff_ne.2 hcnt
  clear hv hs Va Vb fa fb ha hb0 hc hC hcnt
  go_enter Try.func21, Try.ntmps21
  go_wp2_with fail
  refine (Forbidden_own w A1 A2 c1 c2 a b n h1 h2 VVA.out FA.out OA.out VVB.out FB.out OB.out).mono ?_
  rw [HS.out]
  rintro _ w1 ⟨⟨A, c, rfl, hr⟩, hb⟩
  have HR := Aside0.mk hr
  have HB := Aside0.mk hb
  clear hr hb
  go_wp2_with fail
  refine (Count_c h1 h2 FS.out (VS_R HR.out)).mono ?_
  rw [HC.out]
  rintro _ w2 ⟨rfl, hb⟩
  have HR2 := Aside0.mk (Kd.R_below HR.out hb)
  have HB2 := Aside0.mk (below_step HB.out hb)
  clear hb HR HB VVA VVB FA FB OA OB HC HS
  have hlen : (s.length : Int) ≤ 1 := by omega
  have HSC := Aside0.mk (VS_C (VS_R HR2.out))
  have SLL := SL
  have SRR := SR
  go_wp2_with fail
  go_loopw [11, 66] (fun v11 v66 wr => ∃ (i : Int), v66 = .int .i64 i ∧ Aside0 (0 ≤ i ∧ i ≤ s.length) ∧ Aside0 (Kd.R k50 50 wr w2.heap.size (fun _ => True) v11 ((s.take i.toNat).map (wf n))) ∧ Aside0 (Below w2.heap.size w2 wr)) (fun _ v66 _ => s.length - (intOf v66).toNat)
  case atStart => exact ⟨0, rfl, ⟨by omega⟩, ⟨Kd.R_nil _ _ _ _ _⟩, ⟨Below.refl _ _⟩⟩
  case round =>
    obtain ⟨i, rfl, HI, HO, HB⟩ := hrel
    obtain ⟨i0, i1⟩ := HI.out
    clear HI
    by_cases ci : i < s.length
    · have HX := Aside0.mk (SRR.out _ (rd47_mem s i i0 ci))
      have TS := Aside0.mk (take_snoc n s i i0 ci)
      have LL : Aside0 (((s.take i.toNat).map (wf n)).length ≤ 7200) := ⟨by rw [List.length_map, List.length_take]; have := SLL.out; omega⟩
      obtain ⟨ada, ea, hx0, hx1⟩ := at_T47 HSC.out i i0 ci
      cases ea
      replace hx0 := (HB.out.cell (World.block_lt_of_cell? w2 _ hx0)).trans hx0
      replace hx1 := (HB.out.cell (World.block_lt_of_cell? w2 _ hx1)).trans hx1
      generalize rd_T47 s i = x at *
      obtain ⟨xa, xb, xc, xd⟩ := HX.out
      generalize (s.take i.toNat).map (wf n) = out at *
      obtain ⟨Ao, co, eo⟩ := Kd.R_slice HO.out
      subst eo
      go_wp2_with (first | ((with_reducible refine gate_builtin (b := .append) (xs := #[.tmp 70, .tmp 79]) rfl ?_); at_builtin; refine Kd.R_append k50 (w0 := w2) w2.heap.size rfl (.tmp 70) (.tmp 79) 42 50 (.agg #[(.int .i64 0), (.int .i64 0)]) 16 rfl Try.underlying42 info50 rfl (by decide) (by omega) (.slice Ao out.length co) out (wf n x) [.int .i64 x.f1, .int .i64 (x.f0 + n - 1)] (fun _ => True) (fun _ => False) rfl (by show Value.slice (some ⟨wr.heap.size + 1, 0, none⟩) 1 1 = _; simp) ?aP (fun _ hk => hk.elim) ?aF ?aO ?aB ?aS ?aL ?_; (case aP => exact k50_mkM _ _ _ (wf n x)); (case aB => exact (by repeat (first | (with_reducible first | exact HB.out | apply below_alloc | apply pw_below_drewN | apply below_drew1) | exact HB.out))); (case aF => exact (fun _ _ => trivial)); (case aO => exact (by (with_reducible repeat (first | apply Kd.R_alloc | apply Kd.R_drewN | apply Kd.R_drew)); exact HO.out)); (case aS => exact (below_size (by repeat (first | (with_reducible first | exact HB.out | apply below_alloc | apply pw_below_drewN | apply below_drew1) | exact HB.out)))); (case aL => have := LL.out; omega); intro v196 w36 ho hb hg hat; have n1_ := Aside0.mk hb; have n2_ := Aside0.mk ho; clear HO HB ho hb hg hat hx0 hx1))
      go_roundw
      case rel => first | exact ⟨i + 1, rfl, ⟨by omega⟩, ⟨by rw [TS.out]; exact n2_.out⟩, n1_⟩ | exact ⟨_, _, _, _, _, _, _, _, _, _, _, _, _, _, _, _, _, _, ⟨i + 1, rfl, ⟨by omega⟩, ⟨by rw [TS.out]; exact n2_.out⟩, n1_⟩, rfl⟩
      case measure => simp [intOf]; omega
    · go_wp2_with fail
      have e : s.take i.toNat = s := List.take_of_length_le (by omega)
      rw [e] at HO
      obtain ⟨Aw, cw, rfl⟩ := Kd.R_slice HO.out
      go_ret2
      refine ⟨⟨Aw, cw, ?_, ?_⟩, below_step HB2.out HB.out⟩
      · first | simp; done | (simp; omega)
      · have := VW_R HO.out
        first | simpa using this | (simp only [List.length_map] at this; rw [hSl] at this; exact this)
set_option maxHeartbeats 4000000 in
theorem Windows_first (w : World) (A1 A2 : Option Addr) (c1 c2 : Nat) (a b : List S41) (n : Nat) (h1 : 1 ≤ n) (h2 : n ≤ 7200) (Va : VA w (.slice A1 a.length c1) a) (fa : Fit a) (ha : ovld a = true) (Vb : VA w (.slice A2 b.length c2) b) (fb : Fit b) (hb0 : ovld b = true)
    (s : List S47) (hs : can n (fbp n a b) = s) (hc : cnt (fbp n a b) n ≠ n) (hp : 1 < s.length) (hq : (rd_T47 s 0).f0 ≠ 0) :
    Calls Try.prog 21 #[.int .i64 n, .slice A1 a.length c1, .slice A2 b.length c2] w fun e w' => (∃ A c, e = .returned (.tuple #[.slice A ((s).map (wf n)).length c, .int .i64 0]) ∧ VW w' (.slice A ((s).map (wf n)).length c) ((s).map (wf n))) ∧ Below w.heap.size w w' := by
  have hv := can_vld (n := n) (fbp n a b) h1 h2
  rw [hs] at hv
  have hcnt : (if vld n s = true then cnt (mem s) n else 0) ≠ n := by
    rw [if_pos hv, ← hs, cnt_congr (q := fbp n a b) fun x x0 x1 => can_in _ x0 x1]; exact hc
  have FS := Aside0.mk (fit_le (vld_fit hv))
  have SL := Aside0.mk (vld_fit hv)
  have SR := Aside0.mk (vld_run h2 hv)
  have HV := Aside0.mk hv
  have HS := Aside0.mk hs
  have VVA := Aside0.mk Va
  have VVB := Aside0.mk Vb
  have FA := Aside0.mk fa
  have FB := Aside0.mk fb
  have OA := Aside0.mk ha
  have OB := Aside0.mk hb0
  generalize hC : (if vld n s = true then cnt (mem s) n else 0) = C at *
  have HC := Aside0.mk hC
  have HCN : ((C : Int) == (n : Int)) = false := beq_eq_false_iff_ne.2 hcnt
  clear hv hs Va Vb fa fb ha hb0 hc hC hcnt
  go_enter Try.func21, Try.ntmps21
  go_wp2_with fail
  refine (Forbidden_own w A1 A2 c1 c2 a b n h1 h2 VVA.out FA.out OA.out VVB.out FB.out OB.out).mono ?_
  rw [HS.out]
  rintro _ w1 ⟨⟨A, c, rfl, hr⟩, hb⟩
  have HR := Aside0.mk hr
  have HB := Aside0.mk hb
  clear hr hb
  go_wp2_with fail
  refine (Count_c h1 h2 FS.out (VS_R HR.out)).mono ?_
  rw [HC.out]
  rintro _ w2 ⟨rfl, hb⟩
  have HR2 := Aside0.mk (Kd.R_below HR.out hb)
  have HB2 := Aside0.mk (below_step HB.out hb)
  clear hb HR HB VVA VVB FA FB OA OB HC HS
  have hlen : (1 : Int) < s.length := by omega
  have HSC := Aside0.mk (VS_C (VS_R HR2.out))
  have SLL := SL
  have SRR := SR
  obtain ⟨ad0, ed0, hp0, hp1⟩ := at_T47 HSC.out 0 (by omega) (by omega)
  subst ed0
  replace hp0 : w2.cell? ad0 = some (.int .i64 (rd_T47 s 0).f0) := hp0
  replace hp1 : w2.cell? ⟨ad0.block, ad0.off + 1, none⟩ = some (.int .i64 (rd_T47 s 0).f1) := hp1
  have hle : (s.length : Int) ≤ 7200 := by have := SL.out; omega
  have HX0 := Aside0.mk (SR.out _ (rd47_mem s 0 (by omega) (by omega)))
  generalize rd_T47 s 0 = x0 at *
  obtain ⟨xa, xb, xc, xd⟩ := HX0.out
  go_wp2_with fail
  go_loopw [11, 66] (fun v11 v66 wr => ∃ (i : Int), v66 = .int .i64 i ∧ Aside0 (0 ≤ i ∧ i ≤ s.length) ∧ Aside0 (Kd.R k50 50 wr w2.heap.size (fun _ => True) v11 ((s.take i.toNat).map (wf n))) ∧ Aside0 (Below w2.heap.size w2 wr)) (fun _ v66 _ => s.length - (intOf v66).toNat)
  case atStart => exact ⟨0, rfl, ⟨by omega⟩, ⟨Kd.R_nil _ _ _ _ _⟩, ⟨Below.refl _ _⟩⟩
  case round =>
    obtain ⟨i, rfl, HI, HO, HB⟩ := hrel
    obtain ⟨i0, i1⟩ := HI.out
    clear HI
    by_cases ci : i < s.length
    · have HX := Aside0.mk (SRR.out _ (rd47_mem s i i0 ci))
      have TS := Aside0.mk (take_snoc n s i i0 ci)
      have LL : Aside0 (((s.take i.toNat).map (wf n)).length ≤ 7200) := ⟨by rw [List.length_map, List.length_take]; have := SLL.out; omega⟩
      obtain ⟨ada, ea, hx0, hx1⟩ := at_T47 HSC.out i i0 ci
      cases ea
      replace hx0 := (HB.out.cell (World.block_lt_of_cell? w2 _ hx0)).trans hx0
      replace hx1 := (HB.out.cell (World.block_lt_of_cell? w2 _ hx1)).trans hx1
      generalize rd_T47 s i = x at *
      obtain ⟨xa, xb, xc, xd⟩ := HX.out
      generalize (s.take i.toNat).map (wf n) = out at *
      obtain ⟨Ao, co, eo⟩ := Kd.R_slice HO.out
      subst eo
      go_wp2_with (first | ((with_reducible refine gate_builtin (b := .append) (xs := #[.tmp 70, .tmp 79]) rfl ?_); at_builtin; refine Kd.R_append k50 (w0 := w2) w2.heap.size rfl (.tmp 70) (.tmp 79) 42 50 (.agg #[(.int .i64 0), (.int .i64 0)]) 16 rfl Try.underlying42 info50 rfl (by decide) (by omega) (.slice Ao out.length co) out (wf n x) [.int .i64 x.f1, .int .i64 (x.f0 + n - 1)] (fun _ => True) (fun _ => False) rfl (by show Value.slice (some ⟨wr.heap.size + 1, 0, none⟩) 1 1 = _; simp) ?aP (fun _ hk => hk.elim) ?aF ?aO ?aB ?aS ?aL ?_; (case aP => exact k50_mkM _ _ _ (wf n x)); (case aB => exact (by repeat (first | (with_reducible first | exact HB.out | apply below_alloc | apply pw_below_drewN | apply below_drew1) | exact HB.out))); (case aF => exact (fun _ _ => trivial)); (case aO => exact (by (with_reducible repeat (first | apply Kd.R_alloc | apply Kd.R_drewN | apply Kd.R_drew)); exact HO.out)); (case aS => exact (below_size (by repeat (first | (with_reducible first | exact HB.out | apply below_alloc | apply pw_below_drewN | apply below_drew1) | exact HB.out)))); (case aL => have := LL.out; omega); intro v196 w36 ho hb hg hat; have n1_ := Aside0.mk hb; have n2_ := Aside0.mk ho; clear HO HB ho hb hg hat hx0 hx1))
      go_roundw
      case rel => first | exact ⟨i + 1, rfl, ⟨by omega⟩, ⟨by rw [TS.out]; exact n2_.out⟩, n1_⟩ | exact ⟨_, _, _, _, _, _, _, _, _, _, _, _, _, _, _, _, _, _, ⟨i + 1, rfl, ⟨by omega⟩, ⟨by rw [TS.out]; exact n2_.out⟩, n1_⟩, rfl⟩
      case measure => simp [intOf]; omega
    · go_wp2_with fail
      have e : s.take i.toNat = s := List.take_of_length_le (by omega)
      rw [e] at HO
      obtain ⟨Aw, cw, rfl⟩ := Kd.R_slice HO.out
      go_ret2
      refine ⟨⟨Aw, cw, ?_, ?_⟩, below_step HB2.out HB.out⟩
      · first | simp; done | (simp; omega)
      · have := VW_R HO.out
        first | simpa using this | (simp only [List.length_map] at this; rw [hSl] at this; exact this)
set_option maxHeartbeats 4000000 in
theorem Windows_last (w : World) (A1 A2 : Option Addr) (c1 c2 : Nat) (a b : List S41) (n : Nat) (h1 : 1 ≤ n) (h2 : n ≤ 7200) (Va : VA w (.slice A1 a.length c1) a) (fa : Fit a) (ha : ovld a = true) (Vb : VA w (.slice A2 b.length c2) b) (fb : Fit b) (hb0 : ovld b = true)
    (s : List S47) (hs : can n (fbp n a b) = s) (hc : cnt (fbp n a b) n ≠ n) (hp : 1 < s.length) (hq : (rd_T47 s 0).f0 = 0) (hl : (rd_T47 s ((s.length : Int) - 1)).f1 ≠ n) :
    Calls Try.prog 21 #[.int .i64 n, .slice A1 a.length c1, .slice A2 b.length c2] w fun e w' => (∃ A c, e = .returned (.tuple #[.slice A ((s).map (wf n)).length c, .int .i64 0]) ∧ VW w' (.slice A ((s).map (wf n)).length c) ((s).map (wf n))) ∧ Below w.heap.size w w' := by
  have hv := can_vld (n := n) (fbp n a b) h1 h2
  rw [hs] at hv
  have hcnt : (if vld n s = true then cnt (mem s) n else 0) ≠ n := by
    rw [if_pos hv, ← hs, cnt_congr (q := fbp n a b) fun x x0 x1 => can_in _ x0 x1]; exact hc
  have FS := Aside0.mk (fit_le (vld_fit hv))
  have SL := Aside0.mk (vld_fit hv)
  have SR := Aside0.mk (vld_run h2 hv)
  have HV := Aside0.mk hv
  have HS := Aside0.mk hs
  have VVA := Aside0.mk Va
  have VVB := Aside0.mk Vb
  have FA := Aside0.mk fa
  have FB := Aside0.mk fb
  have OA := Aside0.mk ha
  have OB := Aside0.mk hb0
  generalize hC : (if vld n s = true then cnt (mem s) n else 0) = C at *
  have HC := Aside0.mk hC
  have HCN : ((C : Int) == (n : Int)) = false := beq_eq_false_iff_ne.2 hcnt
  clear hv hs Va Vb fa fb ha hb0 hc hC hcnt
  go_enter Try.func21, Try.ntmps21
  go_wp2_with fail
  refine (Forbidden_own w A1 A2 c1 c2 a b n h1 h2 VVA.out FA.out OA.out VVB.out FB.out OB.out).mono ?_
  rw [HS.out]
  rintro _ w1 ⟨⟨A, c, rfl, hr⟩, hb⟩
  have HR := Aside0.mk hr
  have HB := Aside0.mk hb
  clear hr hb
  go_wp2_with fail
  refine (Count_c h1 h2 FS.out (VS_R HR.out)).mono ?_
  rw [HC.out]
  rintro _ w2 ⟨rfl, hb⟩
  have HR2 := Aside0.mk (Kd.R_below HR.out hb)
  have HB2 := Aside0.mk (below_step HB.out hb)
  clear hb HR HB VVA VVB FA FB OA OB HC HS
  have hlen : (1 : Int) < s.length := by omega
  have HSC := Aside0.mk (VS_C (VS_R HR2.out))
  have SLL := SL
  have SRR := SR
  obtain ⟨ad0, ed0, hp0, hp1⟩ := at_T47 HSC.out 0 (by omega) (by omega)
  subst ed0
  replace hp0 : w2.cell? ad0 = some (.int .i64 (rd_T47 s 0).f0) := hp0
  replace hp1 : w2.cell? ⟨ad0.block, ad0.off + 1, none⟩ = some (.int .i64 (rd_T47 s 0).f1) := hp1
  have hle : (s.length : Int) ≤ 7200 := by have := SL.out; omega
  have HX0 := Aside0.mk (SR.out _ (rd47_mem s 0 (by omega) (by omega)))
  obtain ⟨ad1, ed1, hq0, hq1⟩ := at_T47 HSC.out ((s.length : Int) - 1) (by omega) (by omega)
  cases ed1
  have eix : ((s.length : Int) - 1).toNat = s.length - 1 := by omega
  rw [eix] at hq0 hq1
  have HX1 := Aside0.mk (SR.out _ (rd47_mem s ((s.length : Int) - 1) (by omega) (by omega)))
  generalize rd_T47 s 0 = x0 at *
  generalize rd_T47 s ((s.length : Int) - 1) = x1 at *
  obtain ⟨xa, xb, xc, xd⟩ := HX0.out
  obtain ⟨ya, yb, yc, yd⟩ := HX1.out
  have hlb : (x1.f1 == (n : Int)) = false := beq_eq_false_iff_ne.2 hl
  go_wp2_with fail
  go_loopw [11, 66] (fun v11 v66 wr => ∃ (i : Int), v66 = .int .i64 i ∧ Aside0 (0 ≤ i ∧ i ≤ s.length) ∧ Aside0 (Kd.R k50 50 wr w2.heap.size (fun _ => True) v11 ((s.take i.toNat).map (wf n))) ∧ Aside0 (Below w2.heap.size w2 wr)) (fun _ v66 _ => s.length - (intOf v66).toNat)
  case atStart => exact ⟨0, rfl, ⟨by omega⟩, ⟨Kd.R_nil _ _ _ _ _⟩, ⟨Below.refl _ _⟩⟩
  case round =>
    obtain ⟨i, rfl, HI, HO, HB⟩ := hrel
    obtain ⟨i0, i1⟩ := HI.out
    clear HI
    by_cases ci : i < s.length
    · have HX := Aside0.mk (SRR.out _ (rd47_mem s i i0 ci))
      have TS := Aside0.mk (take_snoc n s i i0 ci)
      have LL : Aside0 (((s.take i.toNat).map (wf n)).length ≤ 7200) := ⟨by rw [List.length_map, List.length_take]; have := SLL.out; omega⟩
      obtain ⟨ada, ea, hx0, hx1⟩ := at_T47 HSC.out i i0 ci
      cases ea
      replace hx0 := (HB.out.cell (World.block_lt_of_cell? w2 _ hx0)).trans hx0
      replace hx1 := (HB.out.cell (World.block_lt_of_cell? w2 _ hx1)).trans hx1
      generalize rd_T47 s i = x at *
      obtain ⟨xa, xb, xc, xd⟩ := HX.out
      generalize (s.take i.toNat).map (wf n) = out at *
      obtain ⟨Ao, co, eo⟩ := Kd.R_slice HO.out
      subst eo
      go_wp2_with (first | ((with_reducible refine gate_builtin (b := .append) (xs := #[.tmp 70, .tmp 79]) rfl ?_); at_builtin; refine Kd.R_append k50 (w0 := w2) w2.heap.size rfl (.tmp 70) (.tmp 79) 42 50 (.agg #[(.int .i64 0), (.int .i64 0)]) 16 rfl Try.underlying42 info50 rfl (by decide) (by omega) (.slice Ao out.length co) out (wf n x) [.int .i64 x.f1, .int .i64 (x.f0 + n - 1)] (fun _ => True) (fun _ => False) rfl (by show Value.slice (some ⟨wr.heap.size + 1, 0, none⟩) 1 1 = _; simp) ?aP (fun _ hk => hk.elim) ?aF ?aO ?aB ?aS ?aL ?_; (case aP => exact k50_mkM _ _ _ (wf n x)); (case aB => exact (by repeat (first | (with_reducible first | exact HB.out | apply below_alloc | apply pw_below_drewN | apply below_drew1) | exact HB.out))); (case aF => exact (fun _ _ => trivial)); (case aO => exact (by (with_reducible repeat (first | apply Kd.R_alloc | apply Kd.R_drewN | apply Kd.R_drew)); exact HO.out)); (case aS => exact (below_size (by repeat (first | (with_reducible first | exact HB.out | apply below_alloc | apply pw_below_drewN | apply below_drew1) | exact HB.out)))); (case aL => have := LL.out; omega); intro v196 w36 ho hb hg hat; have n1_ := Aside0.mk hb; have n2_ := Aside0.mk ho; clear HO HB ho hb hg hat hx0 hx1))
      go_roundw
      case rel => first | exact ⟨i + 1, rfl, ⟨by omega⟩, ⟨by rw [TS.out]; exact n2_.out⟩, n1_⟩ | exact ⟨_, _, _, _, _, _, _, _, _, _, _, _, _, _, _, _, _, _, ⟨i + 1, rfl, ⟨by omega⟩, ⟨by rw [TS.out]; exact n2_.out⟩, n1_⟩, rfl⟩
      case measure => simp [intOf]; omega
    · go_wp2_with fail
      have e : s.take i.toNat = s := List.take_of_length_le (by omega)
      rw [e] at HO
      obtain ⟨Aw, cw, rfl⟩ := Kd.R_slice HO.out
      go_ret2
      refine ⟨⟨Aw, cw, ?_, ?_⟩, below_step HB2.out HB.out⟩
      · first | simp; done | (simp; omega)
      · have := VW_R HO.out
        first | simpa using this | (simp only [List.length_map] at this; rw [hSl] at this; exact this)
set_option maxHeartbeats 4000000 in
theorem Windows_wrap (w : World) (A1 A2 : Option Addr) (c1 c2 : Nat) (a b : List S41) (n : Nat) (h1 : 1 ≤ n) (h2 : n ≤ 7200) (Va : VA w (.slice A1 a.length c1) a) (fa : Fit a) (ha : ovld a = true) (Vb : VA w (.slice A2 b.length c2) b) (fb : Fit b) (hb0 : ovld b = true)
    (s : List S47) (hs : can n (fbp n a b) = s) (hc : cnt (fbp n a b) n ≠ n) (hp : 1 < s.length) (hq : (rd_T47 s 0).f0 = 0) (hl : (rd_T47 s ((s.length : Int) - 1)).f1 = n) (S : List S47) (hS : S = (s.set ((s.length : Int) - 1).toNat ⟨(rd_T47 s ((s.length : Int) - 1)).f0, (rd_T47 s ((s.length : Int) - 1)).f1 + (rd_T47 s 0).f1⟩).drop 1) :
    Calls Try.prog 21 #[.int .i64 n, .slice A1 a.length c1, .slice A2 b.length c2] w fun e w' => (∃ A c, e = .returned (.tuple #[.slice A ((S).map (wf n)).length c, .int .i64 0]) ∧ VW w' (.slice A ((S).map (wf n)).length c) ((S).map (wf n))) ∧ Below w.heap.size w w' := by
  have hv := can_vld (n := n) (fbp n a b) h1 h2
  rw [hs] at hv
  have hcnt : (if vld n s = true then cnt (mem s) n else 0) ≠ n := by
    rw [if_pos hv, ← hs, cnt_congr (q := fbp n a b) fun x x0 x1 => can_in _ x0 x1]; exact hc
  have FS := Aside0.mk (fit_le (vld_fit hv))
  have SL := Aside0.mk (vld_fit hv)
  have SR := Aside0.mk (vld_run h2 hv)
  have HV := Aside0.mk hv
  have HS := Aside0.mk hs
  have VVA := Aside0.mk Va
  have VVB := Aside0.mk Vb
  have FA := Aside0.mk fa
  have FB := Aside0.mk fb
  have OA := Aside0.mk ha
  have OB := Aside0.mk hb0
  generalize hC : (if vld n s = true then cnt (mem s) n else 0) = C at *
  have HC := Aside0.mk hC
  have HCN : ((C : Int) == (n : Int)) = false := beq_eq_false_iff_ne.2 hcnt
  clear hv hs Va Vb fa fb ha hb0 hc hC hcnt
  go_enter Try.func21, Try.ntmps21
  go_wp2_with fail
  refine (Forbidden_own w A1 A2 c1 c2 a b n h1 h2 VVA.out FA.out OA.out VVB.out FB.out OB.out).mono ?_
  rw [HS.out]
  rintro _ w1 ⟨⟨A, c, rfl, hr⟩, hb⟩
  have HR := Aside0.mk hr
  have HB := Aside0.mk hb
  clear hr hb
  go_wp2_with fail
  refine (Count_c h1 h2 FS.out (VS_R HR.out)).mono ?_
  rw [HC.out]
  rintro _ w2 ⟨rfl, hb⟩
  have HR2 := Aside0.mk (Kd.R_below HR.out hb)
  have HB2 := Aside0.mk (below_step HB.out hb)
  clear hb HR HB VVA VVB FA FB OA OB HC HS
  have HSS := Aside0.mk hS
  clear hS
  have hlen : (1 : Int) < s.length := by omega
  have HSC := Aside0.mk (VS_C (VS_R HR2.out))
  obtain ⟨ad0, ed0, hp0, hp1⟩ := at_T47 HSC.out 0 (by omega) (by omega)
  subst ed0
  replace hp0 : w2.cell? ad0 = some (.int .i64 (rd_T47 s 0).f0) := hp0
  replace hp1 : w2.cell? ⟨ad0.block, ad0.off + 1, none⟩ = some (.int .i64 (rd_T47 s 0).f1) := hp1
  have hle : (s.length : Int) ≤ 7200 := by have := SL.out; omega
  have HX0 := Aside0.mk (SR.out _ (rd47_mem s 0 (by omega) (by omega)))
  obtain ⟨ad1, ed1, hq0, hq1⟩ := at_T47 HSC.out ((s.length : Int) - 1) (by omega) (by omega)
  cases ed1
  have eix : ((s.length : Int) - 1).toNat = s.length - 1 := by omega
  rw [eix] at hq0 hq1
  have HX1 := Aside0.mk (SR.out _ (rd47_mem s ((s.length : Int) - 1) (by omega) (by omega)))
  have h72 := (vldF_mem s ((vld_iff _ _).1 HV.out).2 _ (rd47_mem s 0 (by omega) (by omega))).2
  generalize rd_T47 s 0 = x0 at *
  generalize rd_T47 s ((s.length : Int) - 1) = x1 at *
  obtain ⟨xa, xb, xc, xd⟩ := HX0.out
  obtain ⟨ya, yb, yc, yd⟩ := HX1.out
  go_wp2_with fail
  refine wp_region_still_tail 12 (by kernel_rfl) (by kernel_rfl) ?_
  simp only [List.take_succ_cons, List.take_zero, List.drop_succ_cons, List.drop_zero]
  generalize hw2 : ({ heap := _, tape := _, drawn := _, os := _, output := _ } : World) = w3
  have mv : ∀ {p : Addr} {v : Value}, w2.cell? p = some v → w3.cell? p = some v := fun h => by rw [← hw2]; exact h
  replace hp0 := mv hp0
  replace hp1 := mv hp1
  replace hq0 := mv hq0
  replace hq1 := mv hq1
  have HB3 : Aside0 (Below w.heap.size w w3) := ⟨by rw [← hw2]; exact ⟨HB2.out.os, HB2.out.tape, HB2.out.output, HB2.out.size, HB2.out.block⟩⟩
  have HR3 : Aside0 (Kd.R k47 47 w3 w.heap.size (fun _ => True) (.slice (some ad0) s.length c) s) := ⟨by rw [← hw2]; exact Kd.R_below HR2.out ⟨rfl, rfl, rfl, Nat.le_refl _, fun _ _ => rfl⟩⟩
  clear mv hw2 HB2 HR2 HSC
  obtain ⟨g, cap, eg, hg0, hg1, cells, hcl⟩ := Kd.R_form HR3.out (by omega)
  cases eg
  replace hp0 : w3.cell? ⟨g, 0, none⟩ = some (.int .i64 x0.f0) := hp0
  replace hp1 : w3.cell? ⟨g, 1, none⟩ = some (.int .i64 x0.f1) := hp1
  have ea : (⟨g, 0, none⟩ : Addr).add ((s.length - 1) * 2) = ⟨g, (s.length - 1) * 2, none⟩ := by simp [Addr.add]; omega
  rw [ea] at hq0 hq1
  replace hq1 : w3.cell? ⟨g, (s.length - 1) * 2 + 1, none⟩ = some (.int .i64 x1.f1) := hq1
  repeat still_step
  refine wpStill_step (fun K hK => ?_)
  go_simp
  rw [if_pos (show (1 : Int) ≤ s.length ∧ (s.length : Int) - 1 < s.length by omega)]
  refine ⟨rfl, hK _ ?_⟩
  clear hK K
  repeat still_step
  refine wpStill_step (fun K hK => ?_)
  go_simp
  rw [if_pos (show 0 < s.length by omega)]
  refine ⟨rfl, hK _ ?_⟩
  clear hK K
  repeat still_step
  refine wpStill_step (fun K hK => ?_)
  go_simp
  rw [if_pos (show (1 : Int) ≤ s.length ∧ (s.length : Int) - 1 < s.length by omega)]
  refine ⟨rfl, hK _ ?_⟩
  clear hK K
  repeat still_step
  refine wpStill_nil ?_
  rw [show IntKind.i64.wrap ((n : Int) + x0.f1) = n + x0.f1 from (IntWalk.i64_left _).trans (IntWalk.wrap64_in _ (by omega))]
  refine Kd.R_store k47 (w0 := w) w.heap.size rfl rfl 3 (.tmp 61) (.tmp 59) rfl 47 ((s.length : Int) - 1) 1 s (⟨x1.f0, n + x0.f1⟩ : S47) (.int .i64 (n + x0.f1)) [.int .i64 (n + x0.f1)] [.int .i64 x1.f0, .int .i64 x1.f1] (fun _ => True) (fun _ => False) rfl (by rw [eix]; rfl) (by first | rfl | exact congrArg (Value.int .i64) (IntWalk.wrap64_in _ (by omega)) | exact congrArg (Value.int .i64) ((IntWalk.i64_left _).trans (IntWalk.wrap64_in _ (by omega)))) rfl (by kernel_rfl) (fun q hq => by rw [List.mem_singleton.1 hq]; rfl) HR3.out (by omega) (by omega) rfl ?hcc (by show 1 + 1 ≤ 2; omega) (k47_mkM _ _ _ (⟨x1.f0, n + x0.f1⟩ : S47)) (fun _ hk => hk.elim) HB3.out ?_
  case hcc =>
    intro j u hj
    rw [eix]
    match j, hj with
    | 0, hj => cases hj; exact hq0
    | 1, hj => cases hj; exact hq1
    | j + 2, hj => simp at hj
  rintro w4 hr4 hb4 hgr
  have HB4 := Aside0.mk hb4
  have e1 := HSS.out
  rw [eix, hl] at e1
  rw [eix] at hr4
  have hlen1 : (s.set (s.length - 1) (⟨x1.f0, n + x0.f1⟩ : S47)).length = s.length := List.length_set
  have hlc := (Kd.R_reads' hr4).2.1
  have hcap : 1 < c := by omega
  have hC := VS_C (c := c) (VS_R (by rw [hlen1]; exact hr4))
  have hC1 := Kd.C_drop (m := 1) (c := c) hC (by omega) (by omega)
  rw [if_neg (by omega), ← e1] at hC1
  have addg : ∀ o k : Nat, (⟨g, o, none⟩ : Addr).add k = ⟨g, o + k, none⟩ := fun o k => by unfold Addr.add; simp; try omega
  simp only [Option.map_some, addg] at hC1
  have hSl : S.length = s.length - 1 := by rw [e1, List.length_drop, hlen1]
  have HSC := Aside0.mk hC1
  have SLL : Aside0 (S.length ≤ 7200) := ⟨by omega⟩
  have SRR : Aside0 (∀ (u : S47), u ∈ S → Run u) := ⟨fun u hu => by
    rw [e1] at hu
    rcases List.mem_or_eq_of_mem_set (List.mem_of_mem_drop hu) with h | h
    · exact SR.out u h
    · rw [h]; unfold Run; simp only; omega⟩
  have HB2 := HB4
  clear hr4 hb4 hgr e1 hC hC1 HSS HR3 HB3 hp0 hp1 hq0 hq1 ea HB4
  have addg := Aside0.mk addg
  go_wp2_with fail
  go_wp2_with fail
  go_loopw [11, 66] (fun v11 v66 wr => ∃ (i : Int), v66 = .int .i64 i ∧ Aside0 (0 ≤ i ∧ i ≤ S.length) ∧ Aside0 (Kd.R k50 50 wr w4.heap.size (fun _ => True) v11 ((S.take i.toNat).map (wf n))) ∧ Aside0 (Below w4.heap.size w4 wr)) (fun _ v66 _ => S.length - (intOf v66).toNat)
  case atStart => exact ⟨0, rfl, ⟨by omega⟩, ⟨Kd.R_nil _ _ _ _ _⟩, ⟨Below.refl _ _⟩⟩
  case round =>
    obtain ⟨i, rfl, HI, HO, HB⟩ := hrel
    obtain ⟨i0, i1⟩ := HI.out
    clear HI
    by_cases ci : i < S.length
    · have HX := Aside0.mk (SRR.out _ (rd47_mem S i i0 ci))
      have TS := Aside0.mk (take_snoc n S i i0 ci)
      have LL : Aside0 (((S.take i.toNat).map (wf n)).length ≤ 7200) := ⟨by rw [List.length_map, List.length_take]; have := SLL.out; omega⟩
      obtain ⟨ada, ea, hx0, hx1⟩ := at_T47 HSC.out i i0 ci
      cases ea
      rw [addg.out] at hx0 hx1
      replace hx0 : w4.cell? ⟨g, 2 + i.toNat * 2, none⟩ = some (.int .i64 (rd_T47 S i).f0) := hx0
      replace hx1 : w4.cell? ⟨g, 2 + i.toNat * 2 + 1, none⟩ = some (.int .i64 (rd_T47 S i).f1) := hx1
      replace hx0 := (HB.out.cell (World.block_lt_of_cell? w4 _ hx0)).trans hx0
      replace hx1 := (HB.out.cell (World.block_lt_of_cell? w4 _ hx1)).trans hx1
      generalize rd_T47 S i = x at *
      obtain ⟨xa, xb, xc, xd⟩ := HX.out
      generalize (S.take i.toNat).map (wf n) = out at *
      obtain ⟨Ao, co, eo⟩ := Kd.R_slice HO.out
      subst eo
      go_wp2_with (first | ((with_reducible refine gate_builtin (b := .append) (xs := #[.tmp 70, .tmp 79]) rfl ?_); at_builtin; refine Kd.R_append k50 (w0 := w4) w4.heap.size rfl (.tmp 70) (.tmp 79) 42 50 (.agg #[(.int .i64 0), (.int .i64 0)]) 16 rfl Try.underlying42 info50 rfl (by decide) (by omega) (.slice Ao out.length co) out (wf n x) [.int .i64 x.f1, .int .i64 (x.f0 + n - 1)] (fun _ => True) (fun _ => False) rfl (by show Value.slice (some ⟨wr.heap.size + 1, 0, none⟩) 1 1 = _; simp) ?aP (fun _ hk => hk.elim) ?aF ?aO ?aB ?aS ?aL ?_; (case aP => exact k50_mkM _ _ _ (wf n x)); (case aB => exact (by repeat (first | (with_reducible first | exact HB.out | apply below_alloc | apply pw_below_drewN | apply below_drew1) | exact HB.out))); (case aF => exact (fun _ _ => trivial)); (case aO => exact (by (with_reducible repeat (first | apply Kd.R_alloc | apply Kd.R_drewN | apply Kd.R_drew)); exact HO.out)); (case aS => exact (below_size (by repeat (first | (with_reducible first | exact HB.out | apply below_alloc | apply pw_below_drewN | apply below_drew1) | exact HB.out)))); (case aL => have := LL.out; omega); intro v196 w36 ho hb hg hat; have n1_ := Aside0.mk hb; have n2_ := Aside0.mk ho; clear HO HB ho hb hg hat hx0 hx1))
      go_roundw
      case rel => first | exact ⟨i + 1, rfl, ⟨by omega⟩, ⟨by rw [TS.out]; exact n2_.out⟩, n1_⟩ | exact ⟨_, _, _, _, _, _, _, _, _, _, _, _, _, _, _, _, _, _, ⟨i + 1, rfl, ⟨by omega⟩, ⟨by rw [TS.out]; exact n2_.out⟩, n1_⟩, rfl⟩
      case measure => simp [intOf]; omega
    · go_wp2_with fail
      have e : S.take i.toNat = S := List.take_of_length_le (by omega)
      rw [e] at HO
      obtain ⟨Aw, cw, rfl⟩ := Kd.R_slice HO.out
      go_ret2
      refine ⟨⟨Aw, cw, ?_, ?_⟩, below_step HB2.out HB.out⟩
      · first | simp; done | (simp; omega)
      · have := VW_R HO.out
        first | simpa using this | (simp only [List.length_map] at this; rw [hSl] at this; exact this)
end Go.Proofs.Ytcdldldknfpkjaa.PHw

namespace Go.Proofs.Ytcdldldknfpkjaa.PHw
open Go.RowKit Go.Proofs.YtcdldldknfpkjaaW.PrintWords Go.Proofs.YtcdldldknfpkjaaW.PrintLast Go.Proofs.YtcdldldknfpkjaaW.PrintMore
set_option linter.unusedVariables false
set_option maxRecDepth 100000
/-- What Forbidden answers. -/
def frb (t : Int) (a b : List S41) : List S47 × Int :=
  if per t = true then (if ovld a = true ∧ ovld b = true then (can t.toNat (fbp t.toNat a b), 0) else ([], 1)) else ([], 4)
/-- What Windows answers. -/
def win (t : Int) (a b : List S41) : List S50 × Int :=
  if per t = true then (if ovld a = true ∧ ovld b = true then (if cnt (fbp t.toNat a b) t.toNat = t then ([], 13) else ((turned t (can t.toNat (fbp t.toNat a b))).map (wf t), 0)) else ([], 1)) else ([], 4)
theorem VW_nil (w : World) : VW w (.slice none 0 0) [] := Kd.V_nil _ _ _ _ _
theorem Forbidden_c (w : World) (A1 A2 : Option Addr) (c1 c2 : Nat) (a b : List S41) (t : Int) (Va : VA w (.slice A1 a.length c1) a) (fa : Fit a) (Vb : VA w (.slice A2 b.length c2) b) (fb : Fit b) :
    Calls Try.prog 18 #[.int .i64 t, .slice A1 a.length c1, .slice A2 b.length c2] w fun e w' => (∃ A c, e = .returned (.tuple #[.slice A (frb t a b).1.length c, .int .i64 (frb t a b).2]) ∧ VS w' (.slice A (frb t a b).1.length c) (frb t a b).1) ∧ Below w.heap.size w w' := by
  unfold frb
  cases hp : per t with
  | false =>
    rw [if_neg (by simp)]
    refine (Forbidden_badT w A1 A2 c1 c2 a b t hp).mono ?_
    rintro e w' ⟨rfl, hb⟩
    exact ⟨⟨none, 0, rfl, Kd.V_nil _ _ _ _ _⟩, hb⟩
  | true =>
    rw [if_pos rfl]
    obtain ⟨h1, h2⟩ := (per_iff t).1 hp
    cases ha : ovld a with
    | false =>
      rw [if_neg (by simp)]
      refine (Forbidden_bad1 w A1 A2 c1 c2 a b t h1 h2 Va fa ha).mono ?_
      rintro e w' ⟨rfl, hb⟩
      exact ⟨⟨none, 0, rfl, Kd.V_nil _ _ _ _ _⟩, hb⟩
    | true =>
      cases hb : ovld b with
      | false =>
        rw [if_neg (by simp)]
        refine (Forbidden_bad2 w A1 A2 c1 c2 a b t h1 h2 Va fa ha Vb fb hb).mono ?_
        rintro e w' ⟨rfl, hb⟩
        exact ⟨⟨none, 0, rfl, Kd.V_nil _ _ _ _ _⟩, hb⟩
      | true =>
        rw [if_pos ⟨rfl, rfl⟩]
        obtain ⟨n, rfl⟩ : ∃ n : Nat, t = n := ⟨t.toNat, by omega⟩
        exact Forbidden_good w A1 A2 c1 c2 a b n (by omega) (by omega) Va fa ha Vb fb hb
theorem Windows_err (w : World) (A1 A2 : Option Addr) (c1 c2 : Nat) (a b : List S41) (t k : Int) (hk : (k == 0) = false)
    (hF : Calls Try.prog 18 #[.int .i64 t, .slice A1 a.length c1, .slice A2 b.length c2] w fun e w' => e = .returned (.tuple #[.slice none 0 0, .int .i64 k]) ∧ Below w.heap.size w w') :
    Calls Try.prog 21 #[.int .i64 t, .slice A1 a.length c1, .slice A2 b.length c2] w fun e w' => (∃ A c, e = .returned (.tuple #[.slice A ([] : List S50).length c, .int .i64 k]) ∧ VW w' (.slice A ([] : List S50).length c) []) ∧ Below w.heap.size w w' := by
  go_enter Try.func21, Try.ntmps21
  go_wp2_with fail
  refine hF.mono ?_
  rintro _ w1 ⟨rfl, hb⟩
  have HB := Aside0.mk hb
  clear hb hF
  go_wp2_with fail
  go_ret2
  exact ⟨⟨none, 0, rfl, VW_nil _⟩, HB.out⟩
theorem Windows_clash (w : World) (A1 A2 : Option Addr) (c1 c2 : Nat) (a b : List S41) (n : Nat) (h1 : 1 ≤ n) (h2 : n ≤ 7200) (Va : VA w (.slice A1 a.length c1) a) (fa : Fit a) (ha : ovld a = true) (Vb : VA w (.slice A2 b.length c2) b) (fb : Fit b) (hb0 : ovld b = true)
    (s : List S47) (hs : can n (fbp n a b) = s) (hc : cnt (fbp n a b) n = n) :
    Calls Try.prog 21 #[.int .i64 n, .slice A1 a.length c1, .slice A2 b.length c2] w fun e w' => (∃ A c, e = .returned (.tuple #[.slice A ([] : List S50).length c, .int .i64 13]) ∧ VW w' (.slice A ([] : List S50).length c) []) ∧ Below w.heap.size w w' := by
  have hv := can_vld (n := n) (fbp n a b) h1 h2
  rw [hs] at hv
  have hcnt : (if vld n s = true then cnt (mem s) n else 0) = n := by
    rw [if_pos hv, ← hs, cnt_congr (q := fbp n a b) fun x x0 x1 => can_in _ x0 x1]; exact hc
  have FS := Aside0.mk (fit_le (vld_fit hv))
  have HS := Aside0.mk hs
  have HC := Aside0.mk hcnt
  have VVA := Aside0.mk Va
  have VVB := Aside0.mk Vb
  have FA := Aside0.mk fa
  have FB := Aside0.mk fb
  have OA := Aside0.mk ha
  have OB := Aside0.mk hb0
  clear hv hs Va Vb fa fb ha hb0 hc hcnt
  go_enter Try.func21, Try.ntmps21
  go_wp2_with fail
  refine (Forbidden_own w A1 A2 c1 c2 a b n h1 h2 VVA.out FA.out OA.out VVB.out FB.out OB.out).mono ?_
  rw [HS.out]
  rintro _ w1 ⟨⟨A, c, rfl, hr⟩, hb⟩
  have HR := Aside0.mk hr
  have HB := Aside0.mk hb
  clear hr hb
  go_wp2_with fail
  refine (Count_c h1 h2 FS.out (VS_R HR.out)).mono ?_
  rw [HC.out]
  rintro _ w2 ⟨rfl, hb⟩
  have HB2 := Aside0.mk (below_step HB.out hb)
  clear hb HR HB VVA VVB FA FB OA OB HC HS
  go_wp2_with fail
  go_ret2
  exact ⟨⟨none, 0, rfl, VW_nil _⟩, HB2.out⟩
theorem Windows_c (w : World) (A1 A2 : Option Addr) (c1 c2 : Nat) (a b : List S41) (t : Int) (Va : VA w (.slice A1 a.length c1) a) (fa : Fit a) (Vb : VA w (.slice A2 b.length c2) b) (fb : Fit b) :
    Calls Try.prog 21 #[.int .i64 t, .slice A1 a.length c1, .slice A2 b.length c2] w fun e w' => (∃ A c, e = .returned (.tuple #[.slice A (win t a b).1.length c, .int .i64 (win t a b).2]) ∧ VW w' (.slice A (win t a b).1.length c) (win t a b).1) ∧ Below w.heap.size w w' := by
  unfold win
  cases hp : per t with
  | false =>
    rw [if_neg (by simp)]
    exact Windows_err w A1 A2 c1 c2 a b t 4 rfl (Forbidden_badT w A1 A2 c1 c2 a b t hp)
  | true =>
    rw [if_pos rfl]
    obtain ⟨h1, h2⟩ := (per_iff t).1 hp
    cases ha : ovld a with
    | false =>
      rw [if_neg (by simp)]
      exact Windows_err w A1 A2 c1 c2 a b t 1 rfl (Forbidden_bad1 w A1 A2 c1 c2 a b t h1 h2 Va fa ha)
    | true =>
      cases hb : ovld b with
      | false =>
        rw [if_neg (by simp)]
        exact Windows_err w A1 A2 c1 c2 a b t 1 rfl (Forbidden_bad2 w A1 A2 c1 c2 a b t h1 h2 Va fa ha Vb fb hb)
      | true =>
        rw [if_pos ⟨rfl, rfl⟩]
        obtain ⟨n, rfl⟩ : ∃ n : Nat, t = n := ⟨t.toNat, by omega⟩
        have e : ((n : Int)).toNat = n := by omega
        rw [e]
        by_cases hc : cnt (fbp n a b) n = n
        · rw [if_pos hc]
          exact Windows_clash w A1 A2 c1 c2 a b n (by omega) (by omega) Va fa ha Vb fb hb _ rfl hc
        · rw [if_neg hc]
          show Calls Try.prog 21 _ w fun e w' => (∃ A c, e = .returned (.tuple #[.slice A (((turned n (can n (fbp n a b))).map (wf n))).length c, .int .i64 0]) ∧ VW w' (.slice A (((turned n (can n (fbp n a b))).map (wf n))).length c) (((turned n (can n (fbp n a b))).map (wf n)))) ∧ Below w.heap.size w w'
          generalize hs : can n (fbp n a b) = s
          by_cases hw : wraps n s
          · have e2 : turned n s = (s.set ((s.length : Int) - 1).toNat ⟨(rd_T47 s ((s.length : Int) - 1)).f0, (rd_T47 s ((s.length : Int) - 1)).f1 + (rd_T47 s 0).f1⟩).drop 1 := by unfold turned; rw [if_pos hw]
            exact Windows_wrap w A1 A2 c1 c2 a b n (by omega) (by omega) Va fa ha Vb fb hb s hs hc hw.1 hw.2.1 hw.2.2 _ e2
          · have e2 : turned n s = s := by unfold turned; rw [if_neg hw]
            rw [e2]
            by_cases hl : s.length ≤ 1
            · exact Windows_short w A1 A2 c1 c2 a b n (by omega) (by omega) Va fa ha Vb fb hb s hs hc hl
            · by_cases h0 : (rd_T47 s 0).f0 = 0
              · exact Windows_last w A1 A2 c1 c2 a b n (by omega) (by omega) Va fa ha Vb fb hb s hs hc (by omega) h0 (fun h => hw ⟨by omega, h0, h⟩)
              · exact Windows_first w A1 A2 c1 c2 a b n (by omega) (by omega) Va fa ha Vb fb hb s hs hc (by omega) h0
end Go.Proofs.Ytcdldldknfpkjaa.PHw

namespace Go.Proofs.Ytcdldldknfpkjaa.PHw
open Go.RowKit Go.Proofs.YtcdldldknfpkjaaW.PrintWords Go.Proofs.YtcdldldknfpkjaaW.PrintLast Go.Proofs.YtcdldldknfpkjaaW.PrintMore
set_option linter.unusedVariables false
set_option maxRecDepth 100000
/-- Where a run begins, round the period. -/
def st (n : Nat) (p : Int → Bool) (z : Int) : Bool := p z && !(p ((z - 1) % n))
theorem cnt_le2 {p q r : Int → Bool} : ∀ n : Nat, (∀ x : Int, 0 ≤ x → x < n → p x = true → q x = true ∨ r x = true) → cnt p n ≤ cnt q n + cnt r n
  | 0, _ => by simp [cnt]
  | n + 1, h => by
    simp only [cnt]
    have ih := cnt_le2 (p := p) (q := q) (r := r) n (fun x h0 h1 => h x h0 (by omega))
    have b1 := b2i_b (q n)
    have b2 := b2i_b (r n)
    have : b2i (p n) ≤ b2i (q n) + b2i (r n) := by
      cases hp : p n with
      | false => show (0 : Int) ≤ _; omega
      | true =>
        rcases h n (by omega) (by omega) hp with e | e
        · rw [e]; show (1 : Int) ≤ 1 + _; omega
        · rw [e]; show (1 : Int) ≤ _ + 1; omega
    omega
theorem cnt_none {p : Int → Bool} : ∀ n : Nat, (∀ x : Int, 0 ≤ x → x < n → p x = false) → cnt p n = 0
  | 0, _ => rfl
  | n + 1, h => by simp only [cnt]; rw [cnt_none n (fun x h0 h1 => h x h0 (by omega)), h n (by omega) (by omega)]; rfl
theorem cnt_one {p : Int → Bool} (c : Int) : ∀ n : Nat, (∀ x : Int, 0 ≤ x → x < n → p x = true → x = c) → cnt p n ≤ 1
  | 0, _ => by simp [cnt]
  | n + 1, h => by
    simp only [cnt]
    have ih := cnt_one (p := p) c n (fun x h0 h1 => h x h0 (by omega))
    cases hp : p n with
    | false => simp only [b2i]; omega
    | true =>
      have e := h n (by omega) (by omega) hp
      rw [cnt_none n fun x h0 h1 => by
        cases hx : p x with
        | false => rfl
        | true => have := h x h0 (by omega) hx; omega]
      simp [b2i]
theorem st_arc {n : Nat} (hn : 1 ≤ n) (c m : Int) : cnt (st n fun z => decide ((z - c) % n < m)) n ≤ 1 := by
  refine cnt_one (c % n) n fun x h0 h1 h => ?_
  unfold st at h
  rw [Bool.and_eq_true, decide_eq_true_iff, Bool.not_eq_true', decide_eq_false_iff_not, em_sub_left] at h
  obtain ⟨g1, g2⟩ := h
  have hp : (0 : Int) < n := by omega
  by_cases e : (x - c) % n = 0
  · have := Int.emod_emod_of_dvd x (Int.dvd_refl (n : Int))
    have e2 : x % n = c % n := by
      have := Int.emod_emod_of_dvd (x - c) (Int.dvd_refl (n : Int))
      have h3 : (x - c + c) % n = (0 + c) % n := by rw [← em_add_left, e]
      rw [show x - c + c = x by omega, Int.zero_add] at h3; exact h3
    rw [← e2, em_lo h0 h1]
  · exfalso
    have b := em_bound (x - c) hp
    have e2 : (x - 1 - c) % n = (x - c) % n - 1 := by
      rw [show x - 1 - c = (x - c) - 1 by omega, ← em_sub_left (x - c), em_lo (by omega) (by omega)]
    rw [e2] at g2
    omega
theorem st_or {n : Nat} (p q : Int → Bool) : cnt (st n fun z => p z || q z) n ≤ cnt (st n p) n + cnt (st n q) n := by
  refine cnt_le2 n fun x h0 h1 h => ?_
  unfold st at *
  cases h1 : p x <;> cases h2 : q x <;> cases h3 : p ((x - 1) % n) <;> cases h4 : q ((x - 1) % n) <;> simp_all
theorem st_fold {n : Nat} (hn : 1 ≤ n) : ∀ (l : List (S41 × S41)) (p : Int → Bool), cnt (st n (l.foldl (fstep n) p)) n ≤ cnt (st n p) n + l.length
  | [], p => by simp
  | q :: l, p => by
    rw [List.foldl_cons, List.length_cons]
    have h1 := st_fold hn l (fstep n p q)
    have h2 := st_or (n := n) p (fun z => decide ((z - (q.1.f1 - q.2.f2 + 1)) % n < q.1.f2 - q.1.f1 + q.2.f2 - q.2.f1 - 1))
    have h3 := st_arc hn (q.1.f1 - q.2.f2 + 1) (q.1.f2 - q.1.f1 + q.2.f2 - q.2.f1 - 1)
    have e : fstep n p q = fun z => p z || decide ((z - (q.1.f1 - q.2.f2 + 1)) % n < q.1.f2 - q.1.f1 + q.2.f2 - q.2.f1 - 1) := rfl
    rw [e] at h1
    push_cast
    rw [e]
    omega
theorem st_fbp {n : Nat} (hn : 1 ≤ n) (a b : List S41) : cnt (st n (fbp n a b)) n ≤ (cm a b).length := by
  have h := st_fold hn (cm a b) (fun _ => false)
  have e : cnt (st n fun _ => false) n = 0 := cnt_none n fun _ _ _ => rfl
  unfold fbp
  omega
theorem rr_len (p : Int → Bool) : ∀ i : Nat, ((rr p i).length : Int) = cnt (fun z => p z && (z == 0 || !(p (z - 1)))) i
  | 0 => rfl
  | i + 1 => by
    have ih := rr_len p i
    have hl := rr_last p i
    simp only [rr, cnt]
    rw [← ih]
    cases hp : p i with
    | false => simp [b2i]
    | true =>
      simp only [if_true, Bool.true_and]
      cases hr : rr p i with
      | nil =>
        have : ¬ (0 < i ∧ p ((i : Int) - 1) = true) := fun h => by
          obtain ⟨u, l, e, _⟩ := hl.2 h
          rw [hr] at e; cases e
        have e : ((i : Int) == 0 || !(p ((i : Int) - 1))) = true := by
          rcases Nat.eq_zero_or_pos i with h | h
          · subst h; rfl
          · have : p ((i : Int) - 1) = false := by
              cases h2 : p ((i : Int) - 1) with
              | false => rfl
              | true => exact absurd ⟨h, h2⟩ this
            rw [this]; simp
        rw [e]; simp [b2i]
      | cons u l =>
        simp only
        split
        · next hu =>
          obtain ⟨h1, h2⟩ := hl.1 ⟨u, l, hr, hu⟩
          have e : ((i : Int) == 0 || !(p ((i : Int) - 1))) = false := by
            rw [h2]
            have : ((i : Int) == 0) = false := beq_eq_false_iff_ne.2 (by omega)
            rw [this]; rfl
          rw [e]; simp [b2i]
        · next hu =>
          have : ¬ (0 < i ∧ p ((i : Int) - 1) = true) := fun h => by
            obtain ⟨u', l', e, h3⟩ := hl.2 h
            rw [hr] at e; injection e with e1 _; subst e1; exact hu h3
          have e : ((i : Int) == 0 || !(p ((i : Int) - 1))) = true := by
            rcases Nat.eq_zero_or_pos i with h | h
            · subst h; rfl
            · have : p ((i : Int) - 1) = false := by
                cases h2 : p ((i : Int) - 1) with
                | false => rfl
                | true => exact absurd ⟨h, h2⟩ this
              rw [this]; simp
          rw [e]; simp [b2i]
theorem cnt_diff0 {f g : Int → Bool} : ∀ n : Nat, (∀ x : Int, 0 < x → x < n → f x = g x) → 1 ≤ n → cnt f n + b2i (g 0) = cnt g n + b2i (f 0)
  | 0, _, h => by omega
  | 1, _, _ => by simp [cnt]; omega
  | n + 2, h, _ => by
    have ih := cnt_diff0 (n + 1) (fun x h0 h1 => h x h0 (by omega)) (by omega)
    simp only [cnt] at ih ⊢
    rw [h ((n + 1 : Nat) : Int) (by omega) (by omega)]
    omega
/-- What wraps: the first run begins at 0, the last ends at n, and they are two. -/
theorem can_wraps {n : Nat} (hn : 1 ≤ n) (p : Int → Bool) (h0 : p 0 = true) (h1 : p ((n : Int) - 1) = true) (hc : cnt p n ≠ n) : wraps n (can n p) := by
  obtain ⟨u, l, e, hu⟩ := (rr_last p n).2 ⟨by omega, h1⟩
  have ec : can n p = (u :: l).reverse := by unfold can; rw [e]
  have hv := can_vldF n p
  have hm : mem (can n p) 0 = true := by rw [can_in p (by omega) (by omega)]; exact h0
  have hlast : rd_T47 (can n p) (((can n p).length : Int) - 1) = u := by rw [ec]; exact rev_rd u l
  have hsz := sizes_cnt n (can n p) (-1) hv
  rw [cnt_congr (q := p) fun x x0 x1 => can_in _ x0 x1] at hsz
  cases hs : can n p with
  | nil => rw [hs] at hm; cases hm
  | cons x s =>
    rw [hs] at hm hv hlast hsz
    have hx := (vldF_cons _ _ _ _).1 hv
    have hx0 : x.f0 = 0 := by
      rw [mem_cons, Bool.or_eq_true, inS_iff] at hm
      rcases hm with h | h
      · omega
      · have := vldF_in hx.2.2.2.2 h; omega
    refine ⟨?_, by simpa [rd_T47] using hx0, by rw [hlast]; exact hu⟩
    cases s with
    | nil =>
      exfalso
      have : rd_T47 [x] ((([x] : List S47).length : Int) - 1) = x := by simp [rd_T47]
      rw [this] at hlast
      subst hlast
      simp only [sizes] at hsz
      omega
    | cons y s => simp
theorem turned_len {n : Nat} (hn : 1 ≤ n) (p : Int → Bool) (hc : cnt p n ≠ n) : ((turned n (can n p)).length : Int) ≤ cnt (st n p) n := by
  have hl := rr_len p n
  have hlen : ((can n p).length : Int) = cnt (fun z => p z && (z == 0 || !(p (z - 1)))) n := by unfold can; rw [List.length_reverse]; exact hl
  have hd := cnt_diff0 (f := fun z => p z && (z == 0 || !(p (z - 1)))) (g := st n p) n (fun x x0 x1 => by
    unfold st
    have : (x == 0) = false := beq_eq_false_iff_ne.2 (by omega)
    rw [this, em_lo (by omega) (by omega)]; rfl) hn
  have e0 : ((0 : Int) - 1) % n = n - 1 := by rw [em_neg (by omega) (by omega)]; omega
  have eg : st n p 0 = (p 0 && !(p ((n : Int) - 1))) := by unfold st; rw [e0]
  have ef : (p 0 && ((0 : Int) == 0 || !(p (0 - 1)))) = p 0 := by simp
  simp only [ef, eg] at hd
  unfold turned
  split
  · next hw =>
    rw [List.length_drop, List.length_set]
    have := hw.1
    have b := b2i_b (p 0)
    have b' := b2i_b (p 0 && !(p ((n : Int) - 1)))
    omega
  · next hw =>
    have hnot : ¬ (p 0 = true ∧ p ((n : Int) - 1) = true) := fun h => hw (can_wraps hn p h.1 h.2 hc)
    have : (p 0 && !(p ((n : Int) - 1))) = p 0 := by
      cases h1 : p 0 <;> cases h2 : p ((n : Int) - 1) <;> simp_all
    rw [this] at hd
    omega
/-- Runs one behind the other, each of one residue at least and of fewer than all. -/
def ch (n : Int) : Int → List S47 → Prop
  | _, [] => True
  | a, u :: l => a < u.f0 ∧ u.f0 < u.f1 ∧ u.f0 < n ∧ u.f1 ≤ 2 * n ∧ ch n u.f0 l
theorem ch_mono {n : Int} {a b : Int} {l : List S47} (h : ch n a l) (hb : b ≤ a) : ch n b l := by
  cases l with
  | nil => trivial
  | cons u l => exact ⟨by have := h.1; omega, h.2⟩
theorem vldF_ch {n : Nat} : ∀ (l : List S47) {a : Int}, vldF n a l = true → ch n a l
  | [], _, _ => trivial
  | u :: l, a, h => by
    have hx := (vldF_cons _ _ _ _).1 h
    exact ⟨hx.1, hx.2.2.1, by omega, by omega, ch_mono (vldF_ch l hx.2.2.2.2) (by omega)⟩
theorem ch_end {n : Int} (u v : S47) (e : v.f0 = u.f0) (h1 : v.f0 < v.f1) (h2 : v.f1 ≤ 2 * n) : ∀ (l : List S47) {a : Int}, ch n a (l ++ [u]) → ch n a (l ++ [v])
  | [], _, h => ⟨by have := h.1; omega, h1, by have := h.2.2.1; omega, h2, trivial⟩
  | x :: l, _, h => ⟨h.1, h.2.1, h.2.2.1, h.2.2.2.1, ch_end u v e h1 h2 l h.2.2.2.2⟩
theorem turned_ch {n : Nat} (hn : 1 ≤ n) {s : List S47} (h : vldF n (-1) s = true) : ch n (-1) (turned n s) := by
  unfold turned
  split
  · next hw =>
    obtain ⟨h1, h2, h3⟩ := hw
    rcases List.eq_nil_or_concat s with e | ⟨l, u, e⟩
    · subst e; simp at h1
    · have e' : s = l ++ [u] := by rw [e, List.concat_eq_append]
      subst e'
      have hu : rd_T47 (l ++ [u]) (((l ++ [u]).length : Int) - 1) = u := by
        have : (((l ++ [u]).length : Int) - 1) = (l.length : Int) := by simp
        rw [this]; exact rd_pre l u []
      rw [hu] at h3 ⊢
      have hset : (l ++ [u]).set (((l ++ [u]).length : Int) - 1).toNat (⟨u.f0, u.f1 + (rd_T47 (l ++ [u]) 0).f1⟩ : S47) = l ++ [⟨u.f0, u.f1 + (rd_T47 (l ++ [u]) 0).f1⟩] := by
        have : (((l ++ [u]).length : Int) - 1).toNat = l.length := by simp
        rw [this]; simp
      rw [hset]
      have hm := vldF_mem _ h u (by simp)
      have hm0 := vldF_mem _ h (rd_T47 (l ++ [u]) 0) (rd47_mem _ _ (by omega) (by omega))
      have hc := ch_end (n := n) u (⟨u.f0, u.f1 + (rd_T47 (l ++ [u]) 0).f1⟩ : S47) rfl (by simp only; omega) (by simp only; omega) l (vldF_ch _ h)
      cases l with
      | nil => simp at h1
      | cons x l => exact ch_mono hc.2.2.2.2 (by have := hc.1; omega)
  · exact vldF_ch s h
theorem ch_get {n : Int} (s : List S47) : ∀ {a : Int} (i : Nat) (hi : i < s.length), ch n a s → (s[i].f0 < s[i].f1 ∧ a < s[i].f0 ∧ s[i].f0 < n ∧ s[i].f1 ≤ 2 * n) ∧ ∀ h : i + 1 < s.length, s[i].f0 < s[i + 1].f0 := by
  induction s with
  | nil => intro a i hi; simp at hi
  | cons u s ih =>
    intro a i hi h
    match i, hi with
    | 0, _ =>
      refine ⟨⟨h.2.1, h.1, h.2.2.1, h.2.2.2.1⟩, fun h2 => ?_⟩
      cases s with
      | nil => simp at h2
      | cons v s => exact h.2.2.2.2.1
    | i + 1, hi =>
      have := ih i (by simpa using hi) h.2.2.2.2
      refine ⟨⟨this.1.1, ?_, this.1.2.2⟩, fun h2 => this.2 (by simpa using h2)⟩
      have h1 := this.1.2.1
      have h0 := h.1
      simp only [List.getElem_cons_succ]
      omega
/-- The pairs of one resource, as two loops count them. -/
def rc (x : S41) : List S41 → Int
  | [] => 0
  | y :: b => (if x.f0 = y.f0 then 1 else 0) + rc x b
def pc : List S41 → List S41 → Int
  | [], _ => 0
  | x :: a, b => rc x b + pc a b
theorem rc_bd (x : S41) : ∀ b : List S41, 0 ≤ rc x b ∧ rc x b ≤ b.length
  | [] => by simp [rc]
  | y :: b => by
    have := rc_bd x b
    simp only [rc, List.length_cons]
    split <;> omega
theorem pc_bd (b : List S41) (hb : b.length ≤ 6) : ∀ a : List S41, 0 ≤ pc a b ∧ pc a b ≤ 6 * a.length
  | [] => by simp [pc]
  | x :: a => by
    have := rc_bd x b
    have := pc_bd b hb a
    simp only [pc, List.length_cons]
    omega
theorem pc_mono (y : S41) (b : List S41) : ∀ a : List S41, pc a b ≤ pc a (y :: b)
  | [] => by simp [pc]
  | x :: a => by
    have := pc_mono y b a
    simp only [pc, rc]
    split <;> omega
theorem cm_pc : ∀ (a b : List S41), ((cm a b).length : Int) ≤ pc a b
  | [], b => by rw [cm_nil]; simp [pc]
  | x :: a, [] => by rw [cm_nil']; exact (pc_bd [] (by simp) _).1
  | x :: a, y :: b => by
    rw [cm_cons]
    split
    · have := cm_pc a (y :: b)
      have := rc_bd x (y :: b)
      simp only [pc]; omega
    · split
      · have := cm_pc (x :: a) b
        have := pc_mono y b (x :: a)
        omega
      · next h0 h1 =>
        have h2 := cm_pc a b
        have h3 := pc_mono y b a
        have h4 := rc_bd x b
        simp only [List.length_cons, pc, rc]
        rw [if_pos (by omega)]
        push_cast
        omega
termination_by a b => a.length + b.length
end Go.Proofs.Ytcdldldknfpkjaa.PHw

namespace Go.Proofs.Ytcdldldknfpkjaa.PHw
open Go.RowKit Go.Proofs.YtcdldldknfpkjaaW.PrintWords Go.Proofs.YtcdldldknfpkjaaW.PrintLast Go.Proofs.YtcdldldknfpkjaaW.PrintMore
set_option linter.unusedVariables false
set_option maxRecDepth 100000
theorem RValid_loop : ∀ (suf pre : List S41) (last : Int), Fit (pre ++ suf) → -1 ≤ last → (pre = [] → last = -1) → (∀ p v, pre = p ++ [v] → last = v.f0) →
    Ev (fun k => railplanref9_ValidList.l0 k (pre ++ suf) (pre.length : Int)) (ovF last suf)
  | [], pre, last, hb, h1, h2, h3 => by
    refine Ev.step (f := fun _ => some true) (fun k => ?_) (Ev.now _)
    simp only [railplanref9_ValidList.l0]
    rw [if_neg (nlt_pre pre)]
  | u :: suf, pre, last, hb, h1, h2, h3 => by
    have hlt0 := lt_pre pre u suf
    have hb' : (pre.length : Int) < 140737488355328 := by unfold Fit at hb; simp at hb; omega
    have hprev : pre ≠ [] → rd_T41 (pre ++ u :: suf) ((pre.length : Int) - 1) = rd_T41 (pre ++ u :: suf) ((pre.length : Int) - 1) ∧ (rd_T41 (pre ++ u :: suf) ((pre.length : Int) - 1)).f0 = last := fun hne => by
      rcases List.eq_nil_or_concat pre with e | ⟨p, v, e⟩
      · exact absurd e hne
      · have e' : pre = p ++ [v] := by rw [e, List.concat_eq_append]
        refine ⟨rfl, ?_⟩
        rw [h3 p v e', e']
        have : (((p ++ [v]).length : Int) - 1) = (p.length : Int) := by simp
        rw [this, List.append_assoc]
        exact congrArg S41.f0 (ord_pre p v (u :: suf))
    by_cases c : last < u.f0 ∧ -65536 ≤ u.f1 ∧ u.f1 < u.f2 ∧ u.f2 ≤ 65536
    · have hv : ovF last (u :: suf) = ovF u.f0 suf := by simp [ovF, c]
      have ih := RValid_loop suf (pre ++ [u]) u.f0 (by rwa [← List.append_cons]) (by omega) (fun h => by simp at h) (fun p v h => by
        have := List.append_inj' h rfl
        have h4 := this.2; injection h4 with h4 _; rw [h4])
      rw [← List.append_cons, len1] at ih
      rw [hv]
      refine Ev.step (fun k => ?_) ih
      simp only [railplanref9_ValidList.l0]
      rw [if_pos hlt0, if_pos (by omega), ord_pre, if_neg (by omega), wrap_ok (a := (pre.length : Int) - 1) (by omega) (by omega), wrap_ok (a := (pre.length : Int) + 1) (by omega) (by omega)]
      by_cases hp : pre = []
      · rw [if_neg (by rw [hp]; simp), if_neg (by omega), if_neg (by omega), if_neg (by omega)]
      · have hl : 0 < (pre.length : Int) := by have := List.length_pos_iff.2 hp; omega
        rw [if_pos hl, if_pos (by omega), if_pos (by omega), (hprev hp).2, if_neg (by omega), if_neg (by omega), if_neg (by omega), if_neg (by omega)]
    · have hv : ovF last (u :: suf) = false := by rw [Bool.eq_false_iff, ne_eq, ovF_cons]; intro h; exact c ⟨h.1, h.2.1, h.2.2.1, h.2.2.2.1⟩
      rw [hv]
      refine Ev.step (f := fun _ => some false) (fun k => ?_) (Ev.now _)
      simp only [railplanref9_ValidList.l0]
      rw [if_pos hlt0, if_pos (by omega), ord_pre, wrap_ok (a := (pre.length : Int) - 1) (by omega) (by omega)]
      split
      · rfl
      · by_cases hp : pre = []
        · have := h2 hp
          rw [if_neg (by rw [hp]; simp)]
          iterate 3 (split; · rfl)
          exfalso; omega
        · have hl : 0 < (pre.length : Int) := by have := List.length_pos_iff.2 hp; omega
          rw [if_pos hl, if_pos (by omega), if_pos (by omega), (hprev hp).2]
          iterate 4 (split; · rfl)
          exfalso; omega
theorem RValid_ev (a : List S41) (ha : Fit a) : Ev (fun k => railplanref9_ValidList.f k a) (ovld a) := by
  simp only [railplanref9_ValidList.f]
  exact RValid_loop a [] (-1) ha (by omega) (fun _ => rfl) (fun p v h => by simp at h)
/-- What find answers. -/
def fnd (r : Int) : List S41 → Int × Int × Int × Bool
  | [] => (0, 0, 0, false)
  | u :: s => if u.f0 = r then (u.f0, u.f1, u.f2, true) else fnd r s
theorem find_loop (r : Int) : ∀ (suf pre : List S41), Fit (pre ++ suf) → Ev (fun k => railplanref9_find.l0 k (pre ++ suf) r (pre.length : Int)) (fnd r suf)
  | [], pre, hb => by
    refine Ev.step (f := fun _ => some (0, 0, 0, false)) (fun k => ?_) (Ev.now _)
    simp only [railplanref9_find.l0]
    rw [if_neg (nlt_pre pre)]
  | u :: suf, pre, hb => by
    have ih := find_loop r suf (pre ++ [u]) (by rwa [← List.append_cons])
    rw [← List.append_cons, len1] at ih
    have hlt0 := lt_pre pre u suf
    have hb' : (pre.length : Int) < 140737488355328 := by unfold Fit at hb; simp at hb; omega
    simp only [fnd]
    by_cases c : u.f0 = r
    · rw [if_pos c]
      refine Ev.step (f := fun _ => some (u.f0, u.f1, u.f2, true)) (fun k => ?_) (Ev.now _)
      simp only [railplanref9_find.l0]
      rw [if_pos hlt0, if_pos (by omega), ord_pre, if_pos c]
    · rw [if_neg c]
      refine Ev.step (fun k => ?_) ih
      simp only [railplanref9_find.l0]
      rw [if_pos hlt0, if_pos (by omega), ord_pre, if_neg c, wrap_ok (by omega) (by omega)]
theorem find_ev (r : Int) (b : List S41) (hb : Fit b) : Ev (fun k => railplanref9_find.f k b r) (fnd r b) := by
  simp only [railplanref9_find.f]
  exact find_loop r b [] hb
/-- The common pairs, as the reference looks for them. -/
def fm (b : List S41) : List S41 → List (S41 × S41)
  | [] => []
  | x :: a => if (fnd x.f0 b).2.2.2 = true then (x, ⟨(fnd x.f0 b).1, (fnd x.f0 b).2.1, (fnd x.f0 b).2.2.1⟩) :: fm b a else fm b a
theorem fnd_none (r : Int) : ∀ b : List S41, (∀ y ∈ b, y.f0 ≠ r) → (fnd r b).2.2.2 = false
  | [], _ => rfl
  | y :: b, h => by simp only [fnd]; rw [if_neg (h y (by simp))]; exact fnd_none r b fun z hz => h z (by simp [hz])
theorem fnd_mem (r : Int) : ∀ b : List S41, (fnd r b).2.2.2 = true → (⟨(fnd r b).1, (fnd r b).2.1, (fnd r b).2.2.1⟩ : S41) ∈ b
  | [], h => by cases h
  | y :: b, h => by
    simp only [fnd] at h ⊢
    split
    · simp
    · next c => rw [if_neg c] at h; exact List.mem_cons_of_mem _ (fnd_mem r b h)
theorem fm_skip (y : S41) (b : List S41) : ∀ a : List S41, (∀ x ∈ a, y.f0 ≠ x.f0) → fm (y :: b) a = fm b a
  | [], _ => rfl
  | x :: a, h => by
    have e : fnd x.f0 (y :: b) = fnd x.f0 b := by simp only [fnd]; rw [if_neg (h x (by simp))]
    simp only [fm, e]
    rw [fm_skip y b a fun z hz => h z (by simp [hz])]
theorem fm_nil : ∀ a : List S41, fm [] a = []
  | [] => rfl
  | x :: a => by simp [fm, fnd, fm_nil a]
theorem cm_fm : ∀ (a b : List S41) {la lb : Int}, ovF la a = true → ovF lb b = true → cm a b = fm b a
  | [], b, la, lb, ha, hb => by rw [cm_nil]; rfl
  | x :: a, [], la, lb, ha, hb => by rw [cm_nil', fm_nil]
  | x :: a, y :: b, la, lb, ha, hb => by
    have ha' := ha
    have hb' := hb
    rw [ovF_cons] at ha hb
    have ea := ovF_mem a ha.2.2.2.2
    have eb := ovF_mem b hb.2.2.2.2
    rw [cm_cons]
    split
    · next h =>
      rw [cm_fm a (y :: b) ha.2.2.2.2 hb']
      simp only [fm]
      rw [fnd_none x.f0 (y :: b) fun z hz => by
        rcases List.mem_cons.1 hz with e | hz
        · rw [e]; omega
        · have := eb z hz; omega]
      rfl
    · split
      · next h0 h =>
        rw [cm_fm (x :: a) b ha' hb.2.2.2.2]
        exact (fm_skip y b (x :: a) fun z hz => by
          rcases List.mem_cons.1 hz with e | hz
          · rw [e]; omega
          · have := ea z hz; omega).symm
      · next h0 h =>
        have hxy : y.f0 = x.f0 := by omega
        rw [cm_fm a b ha.2.2.2.2 hb.2.2.2.2]
        have e : fnd x.f0 (y :: b) = (y.f0, y.f1, y.f2, true) := by simp only [fnd]; rw [if_pos hxy]
        simp only [fm, e, if_true]
        rw [fm_skip y b a fun z hz => by have := ea z hz; omega]
termination_by a b => a.length + b.length
theorem mark_loop (n : Nat) (hn : 1 ≤ n) (hn2 : n ≤ 7200) (a b : List S41) (j : Int) (j0 : 0 ≤ j) (j1 : j < a.length) (j2 : (a.length : Int) ≤ 140737488355328) (o0 o1 o2 m lim : Int) (hlim : ∀ i : Int, i < lim ↔ i < m ∧ i < n) (hs : Small (rd_T41 a j)) (ho : -65536 ≤ o2 ∧ o2 ≤ 65536)
    (R : List Bool × Int) : ∀ (d : Nat) (p : Int → Bool) (i : Int), 0 ≤ i → lim - i ≤ d →
    Ev (fun k => railplanref9_forbidden.l0 k n a b (tab n fun x => p x || decide ((x - ((rd_T41 a j).f1 - o2 + 1 + i)) % n < lim - i)) (j + 1)) R →
    Ev (fun k => railplanref9_forbidden.l1 k n a b (tab n p) j m i o0 o1 o2) R
  | d, p, i, h0, hd, hR => by
    obtain ⟨s1, s2, s3, s4⟩ := hs
    have hp : (0 : Int) < n := by omega
    by_cases h1 : i < lim
    · obtain ⟨hm, hin⟩ := (hlim i).1 h1
      cases d with
      | zero => omega
      | succ d =>
        have hb := em_bound ((rd_T41 a j).f1 - o2 + 1 + i) hp
        have ih := mark_loop n hn hn2 a b j j0 j1 j2 o0 o1 o2 m lim hlim ⟨s1, s2, s3, s4⟩ ho R d (fun x => if x = ((rd_T41 a j).f1 - o2 + 1 + i) % n then true else p x) (i + 1) (by omega) (by omega) (by
          have e : (tab n fun x => (if x = ((rd_T41 a j).f1 - o2 + 1 + i) % n then true else p x) || decide ((x - ((rd_T41 a j).f1 - o2 + 1 + (i + 1))) % n < lim - (i + 1))) = tab n fun x => p x || decide ((x - ((rd_T41 a j).f1 - o2 + 1 + i)) % n < lim - i) := by
            refine tab_congr fun x hx0 hx1 => ?_
            have hst := em_step (x := x) (a := ((rd_T41 a j).f1 - o2 + 1 + i) % n) (n := n) (m := lim - i) hp hx0 hx1 hb.1 hb.2 (by omega)
            rw [em_sub, em_add_left, em_sub] at hst
            by_cases hx : x = ((rd_T41 a j).f1 - o2 + 1 + i) % n
            · rw [if_pos hx, Bool.true_or, decide_eq_true (hst.2 (.inl hx)), Bool.or_true]
            · rw [if_neg hx]
              congr 1
              apply decide_eq_decide.2
              rw [hst, show (rd_T41 a j).f1 - o2 + 1 + (i + 1) = (rd_T41 a j).f1 - o2 + 1 + i + 1 by omega, show lim - (i + 1) = lim - i - 1 by omega]
              constructor
              · intro h; exact .inr h
              · rintro (h | h)
                · exact absurd h hx
                · exact h
          rw [e]; exact hR)
        refine Ev.step (fun k => ?_) ih
        simp only [railplanref9_forbidden.l1]
        rw [if_pos hm, if_pos hin, if_pos j0, if_pos j1, wrap_ok (a := (rd_T41 a j).f1 - o2) (by omega) (by omega), wrap_ok (a := (rd_T41 a j).f1 - o2 + 1) (by omega) (by omega), wrap_ok (a := (rd_T41 a j).f1 - o2 + 1 + i) (by omega) (by omega), rMod_eq (by omega) (by omega), Option.bind_some, if_pos hb.1, if_pos (by rw [tab_len]; exact hb.2), tab_set p true hb.1, wrap_ok (a := i + 1) (by omega) (by omega)]
    · have e : (tab n fun x => p x || decide ((x - ((rd_T41 a j).f1 - o2 + 1 + i)) % n < lim - i)) = tab n p := by
        refine tab_congr fun x hx0 hx1 => ?_
        have := em_bound (x - ((rd_T41 a j).f1 - o2 + 1 + i)) hp
        rw [decide_eq_false (by omega), Bool.or_false]
      rw [e] at hR
      refine Ev.step (fun k => ?_) hR
      simp only [railplanref9_forbidden.l1]
      rw [wrap_ok (a := j + 1) (by omega) (by omega)]
      by_cases hm : i < m
      · rw [if_pos hm, if_neg (fun h => h1 ((hlim i).2 ⟨hm, h⟩))]
      · rw [if_neg hm]
theorem forb_loop (n : Nat) (hn : 1 ≤ n) (hn2 : n ≤ 7200) (b : List S41) (hb : Fit b) (sb : ∀ y ∈ b, Small y) : ∀ (suf pre : List S41) (p : Int → Bool), Fit (pre ++ suf) → (∀ x ∈ suf, Small x) →
    Ev (fun k => railplanref9_forbidden.l0 k n (pre ++ suf) b (tab n p) (pre.length : Int)) (tab n ((fm b suf).foldl (fstep n) p), 0)
  | [], pre, p, hf, hs => by
    refine Ev.step (f := fun _ => some (tab n p, 0)) (fun k => ?_) (Ev.now _)
    simp only [railplanref9_forbidden.l0]
    rw [if_neg (nlt_pre pre)]
  | u :: suf, pre, p, hf, hs => by
    have hlt0 := lt_pre pre u suf
    have hb' : ((pre ++ u :: suf).length : Int) ≤ 140737488355328 := by unfold Fit at hf; omega
    have hu := hs u (by simp)
    have hfe := find_ev u.f0 b hb
    have IH : ∀ q : Int → Bool, Ev (fun k => railplanref9_forbidden.l0 k n (pre ++ u :: suf) b (tab n q) ((pre.length : Int) + 1)) (tab n ((fm b suf).foldl (fstep n) q), 0) := fun q => by
      have ih := forb_loop n hn hn2 b hb sb suf (pre ++ [u]) q (by rwa [← List.append_cons]) (fun z hz => hs z (by simp [hz]))
      rwa [← List.append_cons, len1] at ih
    cases hfd : (fnd u.f0 b).2.2.2 with
    | false =>
      have e : fm b (u :: suf) = fm b suf := by simp [fm, hfd]
      rw [e]
      refine Ev.step (f := fun k => (railplanref9_find.f k b u.f0).bind fun bt154 => (if bt154.2.2.2 = true then (railplanref9_forbidden.l1 k n (pre ++ u :: suf) b (tab n p) (pre.length : Int) (wrap64 ((wrap64 ((wrap64 ((wrap64 (u.f2 - u.f1)) + bt154.2.2.1)) - bt154.2.1)) - 1)) 0 bt154.1 bt154.2.1 bt154.2.2.1) else (railplanref9_forbidden.l0 k n (pre ++ u :: suf) b (tab n p) (wrap64 ((pre.length : Int) + 1))))) (fun k => ?_) (Ev.bind hfe ?_)
      · simp only [railplanref9_forbidden.l0]
        rw [if_pos hlt0, if_pos (by omega), ord_pre]
      · refine Ev.ite_neg (by rw [hfd]; simp) ?_
        rw [wrap_ok (a := (pre.length : Int) + 1) (by omega) (by omega)]
        exact IH p
    | true =>
      have hmem := fnd_mem u.f0 b hfd
      obtain ⟨g1, g2, g3, g4⟩ := sb _ hmem
      have g1' : -65536 ≤ (fnd u.f0 b).2.1 := g1
      have g2' : (fnd u.f0 b).2.1 ≤ 65536 := g2
      have g3' : -65536 ≤ (fnd u.f0 b).2.2.1 := g3
      have g4' : (fnd u.f0 b).2.2.1 ≤ 65536 := g4
      obtain ⟨u1, u2, u3, u4⟩ := hu
      have e : fm b (u :: suf) = (u, ⟨(fnd u.f0 b).1, (fnd u.f0 b).2.1, (fnd u.f0 b).2.2.1⟩) :: fm b suf := by simp [fm, hfd]
      rw [e, List.foldl_cons]
      refine Ev.step (f := fun k => (railplanref9_find.f k b u.f0).bind fun bt154 => (if bt154.2.2.2 = true then (railplanref9_forbidden.l1 k n (pre ++ u :: suf) b (tab n p) (pre.length : Int) (wrap64 ((wrap64 ((wrap64 ((wrap64 (u.f2 - u.f1)) + bt154.2.2.1)) - bt154.2.1)) - 1)) 0 bt154.1 bt154.2.1 bt154.2.2.1) else (railplanref9_forbidden.l0 k n (pre ++ u :: suf) b (tab n p) (wrap64 ((pre.length : Int) + 1))))) (fun k => ?_) (Ev.bind hfe ?_)
      · simp only [railplanref9_forbidden.l0]
        rw [if_pos hlt0, if_pos (by omega), ord_pre]
      · refine Ev.ite_pos hfd ?_
        have hp : (0 : Int) < n := by omega
        have hud : rd_T41 (pre ++ u :: suf) (pre.length : Int) = u := ord_pre pre u suf
        generalize ho1 : (fnd u.f0 b).2.1 = o1 at *
        generalize ho2 : (fnd u.f0 b).2.2.1 = o2 at *
        rw [wrap_ok (a := u.f2 - u.f1) (by omega) (by omega), wrap_ok (a := u.f2 - u.f1 + o2) (by omega) (by omega), wrap_ok (a := u.f2 - u.f1 + o2 - o1) (by omega) (by omega), wrap_ok (a := u.f2 - u.f1 + o2 - o1 - 1) (by omega) (by omega)]
        generalize hm : u.f2 - u.f1 + o2 - o1 - 1 = m
        refine mark_loop n hn hn2 (pre ++ u :: suf) b (pre.length : Int) (by omega) hlt0 hb' _ o1 o2 m (if m < n then m else n) (fun i => by split <;> omega) (by rw [hud]; exact ⟨u1, u2, u3, u4⟩) ⟨g3', g4'⟩ _ (n + 1) p 0 (Int.le_refl _) (by split <;> omega) ?_
        have e2 : (tab n fun x => p x || decide ((x - ((rd_T41 (pre ++ u :: suf) (pre.length : Int)).f1 - o2 + 1 + 0)) % n < (if m < n then m else n) - 0)) = tab n (fstep n p (u, ⟨(fnd u.f0 b).1, o1, o2⟩)) := by
          refine tab_congr fun x hx0 hx1 => ?_
          rw [hud]
          simp only [fstep]
          congr 1
          apply decide_eq_decide.2
          have := em_bound (x - (u.f1 - o2 + 1)) hp
          rw [Int.add_zero, Int.sub_zero, ← hm]
          split <;> omega
        rw [e2]
        exact IH _
/-- The reference's marks. -/
theorem rforb_ev (t : Int) (a b : List S41) (fa : Fit a) (fb : Fit b) :
    Ev (fun k => railplanref9_forbidden.f k t a b) (if per t = true then (if ovld a = true ∧ ovld b = true then (tab t.toNat (fbp t.toNat a b), 0) else ([], 1)) else ([], 4)) := by
  simp only [railplanref9_forbidden.f]
  have hin : railplanref9_in.f t 1 7200 = some (per t) := by
    unfold railplanref9_in.f per
    by_cases h : 1 ≤ t
    · rw [if_pos h]; simp [h]
    · rw [if_neg h]; simp [h]
  rw [hin]
  simp only [Option.bind_some]
  cases hp : per t with
  | false => exact Ev.ite_neg (by simp) (Ev.now _)
  | true =>
    obtain ⟨h1, h2⟩ := (per_iff t).1 hp
    refine Ev.ite_pos rfl ?_
    rw [if_pos rfl]
    refine Ev.bind (RValid_ev a fa) ?_
    cases ha : ovld a with
    | false =>
      rw [if_neg (by simp)]
      refine Ev.ite_neg (by simp) (Ev.step (f := fun _ => some ([], 1)) (fun k => ?_) (Ev.now _))
      simp only [railplanref9_forbidden.j0]
      exact if_pos trivial
    | true =>
      refine Ev.ite_pos rfl (Ev.bind (RValid_ev b fb) ?_)
      cases hb : ovld b with
      | false =>
        rw [if_neg (by simp)]
        refine Ev.step (f := fun _ => some ([], 1)) (fun k => ?_) (Ev.now _)
        simp only [railplanref9_forbidden.j0]
        rfl
      | true =>
        rw [if_pos ⟨rfl, rfl⟩]
        obtain ⟨n, rfl⟩ : ∃ n : Nat, t = n := ⟨t.toNat, by omega⟩
        have e : ((n : Int)).toNat = n := by omega
        rw [e]
        have h := forb_loop n (by omega) (by omega) b fb (ovld_small hb) a [] (fun _ => false) fa (ovld_small ha)
        have ec : fbp n a b = (fm b a).foldl (fstep n) (fun _ => false) := by unfold fbp; rw [cm_fm a b ha hb]
        rw [ec]
        refine Ev.step (fun k => ?_) h
        simp only [railplanref9_forbidden.j0]
        rw [if_neg (by simp), if_pos (by omega), if_pos (by omega), e, tab_rep]; rfl
theorem rlist_loop (n : Nat) (hn2 : n ≤ 7200) (p : Int → Bool) : ∀ (d i : Nat), i + d = n →
    Ev (fun k => railplanref9_Forbidden.l0 k n (tab n p) (rr p i).reverse i) (can n p, 0)
  | 0, i, hd => by
    obtain rfl : i = n := by omega
    refine Ev.step (f := fun _ => some (can i p, 0)) (fun k => ?_) (Ev.now _)
    simp only [railplanref9_Forbidden.l0]
    rw [if_neg (by omega)]; rfl
  | d + 1, i, hd => by
    have ih := rlist_loop n hn2 p d (i + 1) (by omega)
    have hlen := can_len p i
    refine Ev.step (fun k => ?_) ih
    simp only [railplanref9_Forbidden.l0]
    rw [if_pos (by omega), if_pos (by omega), tab_len, if_pos (by omega), tab_rd p (by omega) (by omega), wrap_ok (a := (i : Int) + 1) (by omega) (by omega)]
    simp only [rr]
    by_cases hp : p i = true
    · rw [if_pos hp, if_pos hp]
      cases e : rr p i with
      | nil =>
        rw [if_neg (by simp), if_pos (by simp)]; rfl
      | cons u l =>
        rw [e] at hlen
        have hle : ((u :: l).reverse.length : Int) ≤ 7200 := by rw [List.length_reverse]; omega
        have hge : 1 ≤ ((u :: l).reverse.length : Int) := by simp; omega
        rw [if_pos (by omega), wrap_ok (a := ((u :: l).reverse.length : Int) - 1) (by omega) (by omega), if_pos (by omega), if_pos (by omega), rev_rd, rev_set]
        simp only
        split
        · rfl
        · rw [if_pos (by omega)]; simp
    · rw [if_neg hp, if_neg hp]; rfl
theorem rForbidden_ev (t : Int) (a b : List S41) (fa : Fit a) (fb : Fit b) : Ev (fun k => railplanref9_Forbidden.f k t a b) (frb t a b) := by
  simp only [railplanref9_Forbidden.f]
  refine Ev.bind (rforb_ev t a b fa fb) ?_
  unfold frb
  cases hp : per t with
  | false => rw [if_neg (by simp), if_neg (by simp)]; exact Ev.ite_neg (by simp) (Ev.now _)
  | true =>
    obtain ⟨h1, h2⟩ := (per_iff t).1 hp
    rw [if_pos rfl, if_pos rfl]
    split
    · refine Ev.ite_pos rfl ?_
      obtain ⟨n, rfl⟩ : ∃ n : Nat, t = n := ⟨t.toNat, by omega⟩
      have e : ((n : Int)).toNat = n := by omega
      rw [e]
      exact rlist_loop n (by omega) _ n 0 (by omega)
    · exact Ev.ite_neg (by simp) (Ev.now _)
theorem rForbidden_c (w : World) (A1 A2 : Option Addr) (c1 c2 : Nat) (a b : List S41) (t : Int) (Va : VA w (.slice A1 a.length c1) a) (fa : Fit a) (Vb : VA w (.slice A2 b.length c2) b) (fb : Fit b) :
    Calls Try.prog 25 #[.int .i64 t, .slice A1 a.length c1, .slice A2 b.length c2] w fun e w' => (∃ A c, e = .returned (.tuple #[.slice A (frb t a b).1.length c, .int .i64 (frb t a b).2]) ∧ VS w' (.slice A (frb t a b).1.length c) (frb t a b).1) ∧ Below w.heap.size w w' := by
  obtain ⟨k, h⟩ := (rForbidden_ev t a b fa fb).rounds
  generalize frb t a b = F at *
  obtain ⟨F1, F2⟩ := F
  refine (railplanref9_Forbidden.calls k t A1 c1 a A2 c2 b _ _ w (VA_C Va) (VA_le Va) (VA_C Vb) (VA_le Vb) h).mono ?_
  rintro e w' ⟨v, rfl, hr, hb⟩
  obtain ⟨A, c, rfl⟩ := Kd.R_slice hr
  exact ⟨⟨A, c, rfl, VS_R hr⟩, hb⟩
end Go.Proofs.Ytcdldldknfpkjaa.PHw

namespace Go.Proofs.Ytcdldldknfpkjaa.PHw
open Go.RowKit Go.Proofs.YtcdldldknfpkjaaW.PrintWords Go.Proofs.YtcdldldknfpkjaaW.PrintLast Go.Proofs.YtcdldldknfpkjaaW.PrintMore
set_option linter.unusedVariables false
set_option maxRecDepth 100000
theorem least_loop (b : List S41) (hb : Fit b) (sb : ∀ y ∈ b, Small y) : ∀ (suf pre : List S41) (s : Int × Bool), Fit (pre ++ suf) → (∀ x ∈ suf, Small x) →
    Ev (fun k => railplanref9_Least.l0 k (pre ++ suf) b s.1 s.2 (pre.length : Int)) ((fm b suf).foldl lstep s)
  | [], pre, s, hf, hs => by
    refine Ev.step (f := fun _ => some (s.1, s.2)) (fun k => ?_) (Ev.now _)
    simp only [railplanref9_Least.l0]
    rw [if_neg (nlt_pre pre)]
  | u :: suf, pre, s, hf, hs => by
    have hlt0 := lt_pre pre u suf
    have hb' : ((pre ++ u :: suf).length : Int) ≤ 140737488355328 := by unfold Fit at hf; omega
    obtain ⟨u1, u2, u3, u4⟩ := hs u (by simp)
    have hfe := find_ev u.f0 b hb
    have IH : ∀ q : Int × Bool, Ev (fun k => railplanref9_Least.l0 k (pre ++ u :: suf) b q.1 q.2 ((pre.length : Int) + 1)) ((fm b suf).foldl lstep q) := fun q => by
      have ih := least_loop b hb sb suf (pre ++ [u]) q (by rwa [← List.append_cons]) (fun z hz => hs z (by simp [hz]))
      rwa [← List.append_cons, len1] at ih
    refine Ev.step (f := fun k => (railplanref9_find.f k b u.f0).bind fun bt180 => (if bt180.2.2.2 = true then (if s.2 = true then (if (wrap64 (u.f2 - bt180.2.1)) > s.1 then (railplanref9_Least.l0 k (pre ++ u :: suf) b (wrap64 (u.f2 - bt180.2.1)) true (wrap64 ((pre.length : Int) + 1))) else (railplanref9_Least.l0 k (pre ++ u :: suf) b s.1 s.2 (wrap64 ((pre.length : Int) + 1)))) else (railplanref9_Least.l0 k (pre ++ u :: suf) b (wrap64 (u.f2 - bt180.2.1)) true (wrap64 ((pre.length : Int) + 1)))) else (railplanref9_Least.l0 k (pre ++ u :: suf) b s.1 s.2 (wrap64 ((pre.length : Int) + 1))))) (fun k => ?_) (Ev.bind hfe ?_)
    · simp only [railplanref9_Least.l0]
      rw [if_pos hlt0, if_pos (by omega), ord_pre]
    · rw [wrap_ok (a := (pre.length : Int) + 1) (by omega) (by omega)]
      cases hfd : (fnd u.f0 b).2.2.2 with
      | false =>
        have e : fm b (u :: suf) = fm b suf := by simp [fm, hfd]
        rw [e]
        exact Ev.ite_neg (by simp) (IH s)
      | true =>
        have hmem := fnd_mem u.f0 b hfd
        obtain ⟨g1, g2, g3, g4⟩ := sb _ hmem
        have g1' : -65536 ≤ (fnd u.f0 b).2.1 := g1
        have g2' : (fnd u.f0 b).2.1 ≤ 65536 := g2
        have e : fm b (u :: suf) = (u, ⟨(fnd u.f0 b).1, (fnd u.f0 b).2.1, (fnd u.f0 b).2.2.1⟩) :: fm b suf := by simp [fm, hfd]
        rw [e, List.foldl_cons, wrap_ok (a := u.f2 - (fnd u.f0 b).2.1) (by omega) (by omega)]
        refine Ev.ite_pos rfl ?_
        obtain ⟨h, any⟩ := s
        cases any with
        | false =>
          have e2 : lstep (h, false) (u, (⟨(fnd u.f0 b).1, (fnd u.f0 b).2.1, (fnd u.f0 b).2.2.1⟩ : S41)) = (u.f2 - (fnd u.f0 b).2.1, true) := by unfold lstep; rw [if_neg (by simp)]
          rw [e2]
          exact Ev.ite_neg (by simp) (IH (u.f2 - (fnd u.f0 b).2.1, true))
        | true =>
          refine Ev.ite_pos rfl ?_
          by_cases c : u.f2 - (fnd u.f0 b).2.1 > h
          · have e2 : lstep (h, true) (u, (⟨(fnd u.f0 b).1, (fnd u.f0 b).2.1, (fnd u.f0 b).2.2.1⟩ : S41)) = (u.f2 - (fnd u.f0 b).2.1, true) := by unfold lstep; rw [if_neg (by simp; omega)]
            rw [e2]
            exact Ev.ite_pos c (IH (u.f2 - (fnd u.f0 b).2.1, true))
          · have e2 : lstep (h, true) (u, (⟨(fnd u.f0 b).1, (fnd u.f0 b).2.1, (fnd u.f0 b).2.2.1⟩ : S41)) = (h, true) := by unfold lstep; rw [if_pos ⟨rfl, by simp; omega⟩]
            rw [e2]
            exact Ev.ite_neg c (IH (h, true))
theorem rLeast_ev (a b : List S41) (fa : Fit a) (fb : Fit b) : Ev (fun k => railplanref9_Least.f k a b) (lst a b) := by
  simp only [railplanref9_Least.f]
  refine Ev.bind (RValid_ev a fa) ?_
  unfold lst
  cases ha : ovld a with
  | false =>
    rw [if_neg (by simp)]
    refine Ev.ite_neg (by simp) (Ev.step (f := fun _ => some (0, false)) (fun k => ?_) (Ev.now _))
    simp only [railplanref9_Least.j0]
    exact if_pos trivial
  | true =>
    refine Ev.ite_pos rfl (Ev.bind (RValid_ev b fb) ?_)
    cases hb : ovld b with
    | false =>
      rw [if_neg (by simp)]
      refine Ev.step (f := fun _ => some (0, false)) (fun k => ?_) (Ev.now _)
      simp only [railplanref9_Least.j0]
      rfl
    | true =>
      rw [if_pos ⟨rfl, rfl⟩, cm_fm a b ha hb]
      have h := least_loop b fb (ovld_small hb) a [] (0, false) fa (ovld_small ha)
      refine Ev.step (fun k => ?_) h
      simp only [railplanref9_Least.j0]
      rw [if_neg (by simp)]; rfl
theorem alone_loop (t : Int) : ∀ (suf pre : List S41), Fit (pre ++ suf) → (∀ x ∈ suf, Small x) →
    Ev (fun k => railplanref9_Alone.l0 k t (pre ++ suf) (pre.length : Int)) (!(suf.any (longer t)))
  | [], pre, hf, hs => by
    refine Ev.step (f := fun _ => some true) (fun k => ?_) (Ev.now _)
    simp only [railplanref9_Alone.l0]
    rw [if_neg (nlt_pre pre)]
  | u :: suf, pre, hf, hs => by
    have ih := alone_loop t suf (pre ++ [u]) (by rwa [← List.append_cons]) (fun z hz => hs z (by simp [hz]))
    rw [← List.append_cons, len1] at ih
    have hlt0 := lt_pre pre u suf
    have hb' : ((pre ++ u :: suf).length : Int) ≤ 140737488355328 := by unfold Fit at hf; omega
    obtain ⟨u1, u2, u3, u4⟩ := hs u (by simp)
    rw [List.any_cons]
    by_cases c : u.f2 - u.f1 > t
    · have e : longer t u = true := by simp [longer]; omega
      rw [e]
      refine Ev.step (f := fun _ => some false) (fun k => ?_) (Ev.now _)
      simp only [railplanref9_Alone.l0]
      rw [if_pos hlt0, if_pos (by omega), ord_pre, wrap_ok (a := u.f2 - u.f1) (by omega) (by omega), if_pos c]
    · have e : longer t u = false := by simp [longer]; omega
      rw [e, Bool.false_or]
      refine Ev.step (fun k => ?_) ih
      simp only [railplanref9_Alone.l0]
      rw [if_pos hlt0, if_pos (by omega), ord_pre, wrap_ok (a := u.f2 - u.f1) (by omega) (by omega), if_neg c, wrap_ok (by omega) (by omega)]
theorem rin_eq (t : Int) : railplanref9_in.f t 1 7200 = some (per t) := by
  unfold railplanref9_in.f per
  by_cases h : 1 ≤ t
  · rw [if_pos h]; simp [h]
  · rw [if_neg h]; simp [h]
theorem rAlone_ev (t : Int) (a : List S41) (fa : Fit a) : Ev (fun k => railplanref9_Alone.f k t a) (aln t a) := by
  simp only [railplanref9_Alone.f, rin_eq, Option.bind_some]
  unfold aln
  cases hp : per t with
  | false =>
    rw [Bool.and_false, Bool.false_and]
    refine Ev.ite_neg (by simp) (Ev.step (f := fun _ => some false) (fun k => ?_) (Ev.now _))
    simp only [railplanref9_Alone.j0]
    exact if_pos trivial
  | true =>
    refine Ev.ite_pos rfl (Ev.bind (RValid_ev a fa) ?_)
    cases ha : ovld a with
    | false =>
      refine Ev.step (f := fun _ => some false) (fun k => ?_) (Ev.now _)
      simp only [railplanref9_Alone.j0]
      rfl
    | true =>
      have h := alone_loop t a [] fa (ovld_small ha)
      refine Ev.step (fun k => ?_) h
      simp only [railplanref9_Alone.j0]
      rw [if_neg (by simp)]; rfl
/-- Ahead of a run and behind it nothing is forbidden. -/
theorem vldF_gap {t : Int} : ∀ (s : List S47) {a : Int}, vldF t a s = true → ∀ u ∈ s, mem s u.f1 = false ∧ mem s (u.f0 - 1) = false
  | [], _, _, u, hu => by cases hu
  | x :: s, a, h, u, hu => by
    have hx := (vldF_cons _ _ _ _).1 h
    have hr := vldF_mem s hx.2.2.2.2
    rw [mem_cons, mem_cons]
    rcases List.mem_cons.1 hu with e | hu
    · subst e
      rw [vldF_out hx.2.2.2.2 (Int.le_refl _), vldF_out hx.2.2.2.2 (show u.f0 - 1 ≤ u.f1 by omega)]
      simp [inS]; omega
    · have g := vldF_gap s hx.2.2.2.2 u hu
      have hu' := hr u hu
      rw [g.1, g.2]
      simp [inS]; omega
theorem vldF_n {n : Nat} {s : List S47} {a : Int} (h : vldF n a s = true) {x : Int} (hx : (n : Int) ≤ x) : mem s x = false := by
  cases hm : mem s x with
  | false => rfl
  | true => have := vldF_in h hm; omega
/-- A run of the turned list: inside it all is forbidden, ahead and behind not. -/
def Rrun (n : Int) (p : Int → Bool) (u : S47) : Prop := (∀ j : Int, 0 ≤ j → j < u.f1 - u.f0 → p ((u.f0 + j) % n) = true) ∧ p (u.f1 % n) = false ∧ p ((u.f0 - 1) % n) = false
def Ufit (n : Int) (u : S47) : Prop := 0 ≤ u.f0 ∧ u.f0 < u.f1 ∧ u.f0 < n ∧ u.f1 ≤ 2 * n ∧ u.f1 - u.f0 < n
theorem turned_ok {n : Nat} (hn : 1 ≤ n) {s : List S47} (h : vldF n (-1) s = true) (hc : cnt (mem s) n ≠ n) (d : Int) (d0 : 0 ≤ d) (d1 : d < n) :
    (∀ u ∈ turned n s, Ufit n u) ∧ ((turned n s).any fun u => inS u d || inS u (d + n)) = mem s d := by
  unfold turned
  split
  · next hw =>
    obtain ⟨h1, h2, h3⟩ := hw
    cases s with
    | nil => simp at h1
    | cons x s =>
      rcases List.eq_nil_or_concat s with e | ⟨l, u, e⟩
      · subst e; simp at h1
      · have e' : s = l ++ [u] := by rw [e, List.concat_eq_append]
        subst e'
        have hx : rd_T47 (x :: (l ++ [u])) 0 = x := by simp [rd_T47]
        have hu : rd_T47 (x :: (l ++ [u])) (((x :: (l ++ [u])).length : Int) - 1) = u := by
          have : (((x :: (l ++ [u])).length : Int) - 1) = ((x :: l).length : Int) := by simp
          rw [this]; exact rd_pre (x :: l) u []
        rw [hx] at h2
        rw [hu] at h3
        have hset : ((x :: (l ++ [u])).set (((x :: (l ++ [u])).length : Int) - 1).toNat (⟨u.f0, u.f1 + x.f1⟩ : S47)).drop 1 = l ++ [⟨u.f0, u.f1 + x.f1⟩] := by
          have : (((x :: (l ++ [u])).length : Int) - 1).toNat = l.length + 1 := by simp
          rw [this, List.set_cons_succ]; simp
        rw [hx, hu, hset]
        have hv := (vldF_cons _ _ _ _).1 h
        have hr := vldF_mem _ hv.2.2.2.2
        have hum := hr u (by simp)
        refine ⟨fun z hz => ?_, ?_⟩
        · rcases List.mem_append.1 hz with hz | hz
          · have := hr z (by simp [hz]); unfold Ufit; omega
          · rw [List.mem_singleton.1 hz]; unfold Ufit; simp only; omega
        · have el : (l.any fun u => inS u d || inS u (d + n)) = mem l d := by
            unfold mem
            rw [Bool.eq_iff_iff, List.any_eq_true, List.any_eq_true]
            constructor
            · rintro ⟨z, hz, hh⟩
              refine ⟨z, hz, ?_⟩
              have := hr z (by simp [hz])
              rw [Bool.or_eq_true, inS_iff, inS_iff] at hh
              rw [inS_iff]; omega
            · rintro ⟨z, hz, hh⟩
              exact ⟨z, hz, by rw [hh]; rfl⟩
          rw [List.any_append, el, mem_cons, mem_append]
          have e3 : mem [u] d = inS u d := by simp [mem]
          have e4 : ([(⟨u.f0, u.f1 + x.f1⟩ : S47)].any fun u => inS u d || inS u (d + n)) = (inS u d || inS x d) := by
            simp only [List.any_cons, List.any_nil, Bool.or_false]
            rw [Bool.eq_iff_iff]
            simp only [Bool.or_eq_true, inS_iff]
            omega
          rw [e3, e4]
          cases mem l d <;> cases inS u d <;> cases inS x d <;> rfl
  · have hr := vldF_mem _ h
    refine ⟨fun z hz => ?_, ?_⟩
    · have := hr z hz
      unfold Ufit
      refine ⟨by omega, by omega, by omega, by omega, ?_⟩
      rcases Int.lt_or_le (z.f1 - z.f0) n with g | g
      · exact g
      · exfalso
        apply hc
        have hcn := cnt_not (mem s) n
        rw [cnt_none (p := fun x => !(mem s x)) n fun x x0 x1 => by
          have : mem s x = true := (mem_iff _ _).2 ⟨z, hz, by omega, by omega⟩
          rw [this]; rfl] at hcn
        omega
    · unfold mem
      rw [Bool.eq_iff_iff, List.any_eq_true, List.any_eq_true]
      constructor
      · rintro ⟨z, hz, hh⟩
        refine ⟨z, hz, ?_⟩
        have := hr z hz
        rw [Bool.or_eq_true, inS_iff, inS_iff] at hh
        rw [inS_iff]; omega
      · rintro ⟨z, hz, hh⟩
        exact ⟨z, hz, by rw [hh]; rfl⟩
theorem vldF_before {t : Int} (u : S47) : ∀ (l : List S47) {a : Int}, vldF t a (l ++ [u]) = true → ∀ z ∈ l, z.f1 < u.f0
  | [], _, _, z, hz => by cases hz
  | x :: l, a, h, z, hz => by
    have hx := (vldF_cons _ _ _ _).1 h
    rcases List.mem_cons.1 hz with e | hz
    · subst e; exact (vldF_mem _ hx.2.2.2.2 u (by simp)).1
    · exact vldF_before u l hx.2.2.2.2 z hz
theorem turned_edge {n : Nat} (hn : 1 ≤ n) (p : Int → Bool) (hc : cnt p n ≠ n) : ∀ u ∈ turned n (can n p), p (u.f1 % n) = false ∧ p ((u.f0 - 1) % n) = false := by
  have h := can_vldF n p
  have hin : ∀ x : Int, 0 ≤ x → x < n → mem (can n p) x = p x := fun x x0 x1 => can_in p x0 x1
  have hw0 := fun (h0 : p 0 = true) (h1 : p ((n : Int) - 1) = true) => can_wraps hn p h0 h1 hc
  generalize can n p = s at *
  have hp : (0 : Int) < n := by omega
  unfold turned
  split
  · next hw =>
    obtain ⟨h1, h2, h3⟩ := hw
    cases s with
    | nil => simp at h1
    | cons x s =>
      rcases List.eq_nil_or_concat s with e | ⟨l, u, e⟩
      · subst e; simp at h1
      · have e' : s = l ++ [u] := by rw [e, List.concat_eq_append]
        subst e'
        have hx : rd_T47 (x :: (l ++ [u])) 0 = x := by simp [rd_T47]
        have hu : rd_T47 (x :: (l ++ [u])) (((x :: (l ++ [u])).length : Int) - 1) = u := by
          have : (((x :: (l ++ [u])).length : Int) - 1) = ((x :: l).length : Int) := by simp
          rw [this]; exact rd_pre (x :: l) u []
        rw [hx] at h2
        rw [hu] at h3
        have hset : ((x :: (l ++ [u])).set (((x :: (l ++ [u])).length : Int) - 1).toNat (⟨u.f0, u.f1 + x.f1⟩ : S47)).drop 1 = l ++ [⟨u.f0, u.f1 + x.f1⟩] := by
          have : (((x :: (l ++ [u])).length : Int) - 1).toNat = l.length + 1 := by simp
          rw [this, List.set_cons_succ]; simp
        rw [hx, hu, hset]
        have hv := (vldF_cons _ _ _ _).1 h
        have hr := vldF_mem _ hv.2.2.2.2
        have hum := hr u (by simp)
        intro z hz
        rcases List.mem_append.1 hz with hz | hz
        · have g := vldF_gap _ h z (by simp [hz])
          have hb := vldF_before u l hv.2.2.2.2 z hz
          have hzr := hr z (by simp [hz])
          rw [em_lo (by omega) (by omega), em_lo (by omega) (by omega), ← hin _ (by omega) (by omega), ← hin _ (by omega) (by omega)]
          exact g
        · rw [List.mem_singleton.1 hz]
          have g := vldF_gap _ h u (by simp)
          have gx := vldF_gap _ h x (by simp)
          simp only
          rw [h3, show (n : Int) + x.f1 = x.f1 + n by omega, Int.add_emod_right, em_lo (by omega) (by omega), em_lo (by omega) (by omega), ← hin _ (by omega) (by omega), ← hin _ (by omega) (by omega)]
          exact ⟨gx.1, g.2⟩
  · next hw =>
    intro z hz
    have hm := vldF_mem _ h z hz
    have g := vldF_gap _ h z hz
    constructor
    · rcases Int.lt_or_le z.f1 n with c | c
      · rw [em_lo (by omega) c, ← hin _ (by omega) c]; exact g.1
      · have e : z.f1 = n := by omega
        rw [e, Int.emod_self]
        cases h0 : p 0 with
        | false => rfl
        | true =>
          have h1 : p ((n : Int) - 1) = true := by rw [← hin _ (by omega) (by omega)]; exact (mem_iff _ _).2 ⟨z, hz, by omega, by omega⟩
          exact absurd (hw0 h0 h1) hw
    · rcases Int.lt_or_le 0 z.f0 with c | c
      · rw [em_lo (by omega) (by omega), ← hin _ (by omega) (by omega)]; exact g.2
      · have e : z.f0 = 0 := by omega
        rw [e, em_neg (by omega) (by omega), show (0 : Int) - 1 + n = n - 1 by omega]
        cases h1 : p ((n : Int) - 1) with
        | false => rfl
        | true =>
          have h0 : p 0 = true := by rw [← hin _ (by omega) (by omega)]; exact (mem_iff _ _).2 ⟨z, hz, by omega, by omega⟩
          exact absurd (hw0 h0 h1) hw
theorem turned_in {n : Nat} (hn : 1 ≤ n) (p : Int → Bool) (hc : cnt p n ≠ n) : ∀ u ∈ turned n (can n p), ∀ j : Int, 0 ≤ j → j < u.f1 - u.f0 → p ((u.f0 + j) % n) = true := by
  have hcm : cnt (mem (can n p)) n ≠ n := by rw [cnt_congr (q := p) fun x x0 x1 => can_in _ x0 x1]; exact hc
  intro u hu j j0 j1
  have hp : (0 : Int) < n := by omega
  have hb := em_bound (u.f0 + j) hp
  obtain ⟨g1, g2⟩ := turned_ok hn (can_vldF n p) hcm ((u.f0 + j) % n) hb.1 hb.2
  obtain ⟨k1, k2, k3, k4, k5⟩ := g1 u hu
  rw [← can_in p hb.1 hb.2, ← g2, List.any_eq_true]
  refine ⟨u, hu, ?_⟩
  rw [Bool.or_eq_true, inS_iff, inS_iff]
  rcases Int.lt_or_le (u.f0 + j) n with c | c
  · left; rw [em_lo (by omega) c]; omega
  · right; rw [em_hi c (by omega)]; omega
theorem turned_start {n : Nat} (hn : 1 ≤ n) (p : Int → Bool) (hc : cnt p n ≠ n) (i : Int) (i0 : 0 ≤ i) (i1 : i < n) (h : p i = true) (h' : p ((i - 1) % n) = false) : ∃ u ∈ turned n (can n p), u.f0 = i := by
  have hcm : cnt (mem (can n p)) n ≠ n := by rw [cnt_congr (q := p) fun x x0 x1 => can_in _ x0 x1]; exact hc
  obtain ⟨g1, g2⟩ := turned_ok hn (can_vldF n p) hcm i i0 i1
  rw [can_in p i0 i1, h, List.any_eq_true] at g2
  obtain ⟨u, hu, hh⟩ := g2
  obtain ⟨k1, k2, k3, k4, k5⟩ := g1 u hu
  refine ⟨u, hu, ?_⟩
  have gi := turned_in hn p hc u hu
  rw [Bool.or_eq_true, inS_iff, inS_iff] at hh
  rcases Int.lt_or_le u.f0 i with c | c
  · rcases hh with hh | hh
    · exfalso
      have := gi (i - 1 - u.f0) (by omega) (by omega)
      rw [show u.f0 + (i - 1 - u.f0) = i - 1 by omega, h'] at this
      cases this
    · exfalso; omega
  · rcases hh with hh | hh
    · omega
    · exfalso
      have := gi (i + n - 1 - u.f0) (by omega) (by omega)
      rw [show u.f0 + (i + n - 1 - u.f0) = i - 1 + n by omega, Int.add_emod_right, h'] at this
      cases this
theorem ch_gt {n : Int} : ∀ (l : List S47) {a : Int}, ch n a l → ∀ z ∈ l, a < z.f0
  | [], _, _, z, hz => by cases hz
  | x :: l, a, h, z, hz => by
    rcases List.mem_cons.1 hz with e | hz
    · subst e; exact h.1
    · have := ch_gt l h.2.2.2.2 z hz; have := h.1; omega
theorem filt_hit {n : Int} (u : S47) : ∀ (l : List S47) {a : Int}, ch n a l → u ∈ l → (l.filter fun z => decide (u.f0 ≤ z.f0)) = u :: l.filter fun z => decide (u.f0 + 1 ≤ z.f0)
  | [], _, _, hu => by cases hu
  | x :: l, a, h, hu => by
    have g := ch_gt l h.2.2.2.2
    rcases List.mem_cons.1 hu with e | hu
    · subst e
      rw [List.filter_cons, List.filter_cons, if_pos (by simp), if_neg (by simp; omega)]
      congr 1
      refine List.filter_congr fun z hz => decide_eq_decide.2 ?_
      have := g z hz; omega
    · have := g u hu
      rw [List.filter_cons, List.filter_cons, if_neg (by simp; omega), if_neg (by simp; omega)]
      exact filt_hit u l h.2.2.2.2 hu
theorem filt_miss (i : Int) (l : List S47) (h : ∀ u ∈ l, u.f0 ≠ i) : (l.filter fun z => decide (i ≤ z.f0)) = l.filter fun z => decide (i + 1 ≤ z.f0) :=
  List.filter_congr fun z hz => decide_eq_decide.2 (by have := h z hz; omega)
theorem run_loop (n : Nat) (hn : 1 ≤ n) (hn2 : n ≤ 7200) (p : Int → Bool) (out : List S50) (ho : out.length ≤ 7200) (f len : Int) (f0 : 0 ≤ f) (f1 : f < n) (l0 : 0 ≤ len) (l1 : f + len ≤ 2 * n) (hin : ∀ j : Int, 0 ≤ j → j < len → p ((f + j) % n) = true) (hend : p ((f + len) % n) = false)
    (R : List S50 × Int) (hR : Ev (fun k => railplanref9_Windows.l1 k n (tab n p) (out ++ [(⟨f + len, f + n - 1⟩ : S50)]) (f + 1)) R) : ∀ (d : Nat) (j : Int), 0 ≤ j → j + d = len →
    Ev (fun k => railplanref9_Windows.l2 k n (tab n p) out f j) R
  | 0, j, j0, hd => by
    obtain rfl : j = len := by omega
    have hb := em_bound (f + j) (show (0 : Int) < n by omega)
    refine Ev.step (fun k => ?_) hR
    simp only [railplanref9_Windows.l2]
    rw [wrap_ok (a := f + j) (by omega) (by omega), tmod_pos (by omega), if_neg (by omega), if_pos hb.1, tab_len, if_pos hb.2, tab_rd p hb.1 hb.2, hend, if_neg (by simp), if_pos (by omega), wrap_ok (a := f + n) (by omega) (by omega), wrap_ok (a := f + n - 1) (by omega) (by omega), wrap_ok (a := f + 1) (by omega) (by omega)]
  | d + 1, j, j0, hd => by
    have ih := run_loop n hn hn2 p out ho f len f0 f1 l0 l1 hin hend R hR d (j + 1) (by omega) (by omega)
    have hb := em_bound (f + j) (show (0 : Int) < n by omega)
    refine Ev.step (fun k => ?_) ih
    simp only [railplanref9_Windows.l2]
    rw [wrap_ok (a := f + j) (by omega) (by omega), tmod_pos (by omega), if_neg (by omega), if_pos hb.1, tab_len, if_pos hb.2, tab_rd p hb.1 hb.2, hin j j0 (by omega), if_pos rfl, wrap_ok (a := j + 1) (by omega) (by omega)]
theorem wins_loop (n : Nat) (hn : 1 ≤ n) (hn2 : n ≤ 7200) (p : Int → Bool) (hc : cnt p n ≠ n) : ∀ (d i : Nat) (out : List S50), i + d = n → out.length ≤ i →
    Ev (fun k => railplanref9_Windows.l1 k n (tab n p) out i) (out ++ ((turned n (can n p)).filter fun z => decide ((i : Int) ≤ z.f0)).map (wf n), 0)
  | 0, i, out, hd, ho => by
    obtain rfl : i = n := by omega
    have hch := turned_ch hn (can_vldF i p)
    have e : ((turned i (can i p)).filter fun z => decide ((i : Int) ≤ z.f0)) = [] := by
      rw [List.filter_eq_nil_iff]
      intro z hz
      obtain ⟨j, hj, rfl⟩ := List.mem_iff_getElem.1 hz
      have := (ch_get _ j hj hch).1
      simp; omega
    rw [e, List.map_nil, List.append_nil]
    refine Ev.step (f := fun _ => some (out, 0)) (fun k => ?_) (Ev.now _)
    simp only [railplanref9_Windows.l1]
    rw [if_neg (by omega)]
  | d + 1, i, out, hd, ho => by
    have hch := turned_ch hn (can_vldF n p)
    have hb := em_bound ((i : Int) - 1) (show (0 : Int) < n by omega)
    have miss : (∀ u ∈ turned n (can n p), u.f0 ≠ (i : Int)) → Ev (fun k => railplanref9_Windows.l1 k n (tab n p) out ((i : Int) + 1)) (out ++ ((turned n (can n p)).filter fun z => decide ((i : Int) ≤ z.f0)).map (wf n), 0) := fun h => by
      rw [filt_miss _ _ h]
      exact wins_loop n hn hn2 p hc d (i + 1) out (by omega) (by omega)
    cases hp : p i with
    | false =>
      have hm := miss fun u hu e => by
        have hz := List.mem_iff_getElem.1 hu
        obtain ⟨j, hj, ej⟩ := hz
        have hg := (ch_get _ j hj hch).1
        rw [ej] at hg
        have := turned_in hn p hc u hu 0 (Int.le_refl _) (by omega)
        rw [Int.add_zero, e, em_lo (by omega) (by omega), hp] at this
        cases this
      refine Ev.step (f := fun k => railplanref9_Windows.j2 k n (tab n p) out i true) (fun k => ?_) (Ev.step (fun k => ?_) hm)
      · simp only [railplanref9_Windows.l1]
        rw [if_pos (by omega), if_pos (by omega), tab_len, if_pos (by omega), tab_rd p (by omega) (by omega), hp, if_neg (by simp)]
      · simp only [railplanref9_Windows.j2]
        rw [if_pos trivial, wrap_ok (by omega) (by omega)]
    | true =>
      refine Ev.step (f := fun k => railplanref9_Windows.j2 k n (tab n p) out i (p (((i : Int) - 1) % n))) (fun k => ?_) ?_
      · simp only [railplanref9_Windows.l1]
        rw [if_pos (by omega), if_pos (by omega), tab_len, if_pos (by omega), tab_rd p (by omega) (by omega), hp, if_pos rfl, wrap_ok (a := (i : Int) - 1) (by omega) (by omega), rMod_eq (by omega) (by omega), Option.bind_some, if_pos hb.1, if_pos hb.2, tab_rd p hb.1 hb.2]
      · cases hq : p (((i : Int) - 1) % n) with
        | true =>
          have hm := miss fun u hu e => by
            have := (turned_edge hn p hc u hu).2
            rw [e, hq] at this
            cases this
          refine Ev.step (fun k => ?_) hm
          simp only [railplanref9_Windows.j2]
          rw [if_pos trivial, wrap_ok (by omega) (by omega)]
        | false =>
          obtain ⟨u, hu, eu⟩ := turned_start hn p hc i (by omega) (by omega) hp hq
          obtain ⟨j, hj, ej⟩ := List.mem_iff_getElem.1 hu
          have hg := (ch_get _ j hj hch).1
          rw [ej] at hg
          have hin := turned_in hn p hc u hu
          have hed := (turned_edge hn p hc u hu).1
          have hf := filt_hit u _ hch hu
          rw [eu] at hf hin hg
          rw [hf, List.map_cons, List.append_cons]
          have ih := wins_loop n hn hn2 p hc d (i + 1) (out ++ [wf n u]) (by omega) (by simp; omega)
          have hrun := run_loop n hn hn2 p out (by omega) i (u.f1 - i) (by omega) (by omega) (by omega) (by omega) hin (by rw [show (i : Int) + (u.f1 - i) = u.f1 by omega]; exact hed) _ (by
            have e1 : (⟨(i : Int) + (u.f1 - i), (i : Int) + n - 1⟩ : S50) = wf n u := by
              unfold wf; rw [eu, show (i : Int) + (u.f1 - i) = u.f1 by omega]
            rw [e1]
            exact ih) (u.f1 - i).toNat 0 (Int.le_refl _) (by omega)
          refine Ev.step (fun k => ?_) hrun
          simp only [railplanref9_Windows.j2]
          rw [if_neg (by simp)]
theorem many_loop (n : Nat) (hn2 : n ≤ 7200) (p : Int → Bool) (R : List S50 × Int) (hR : Ev (fun k => if cnt p n = n then some (([] : List S50), 13) else railplanref9_Windows.l1 k n (tab n p) [] 0) R) : ∀ (d i : Nat), i + d = n →
    Ev (fun k => railplanref9_Windows.l0 k n (tab n p) (cnt p i) i) R
  | 0, i, hd => by
    obtain rfl : i = n := by omega
    refine Ev.step (fun k => ?_) hR
    simp only [railplanref9_Windows.l0]
    rw [if_neg (by omega)]
  | d + 1, i, hd => by
    have ih := many_loop n hn2 p R hR d (i + 1) (by omega)
    have hb := cnt_bounds p i
    refine Ev.step (fun k => ?_) ih
    simp only [railplanref9_Windows.l0]
    rw [if_pos (by omega), if_pos (by omega), tab_len, if_pos (by omega), tab_rd p (by omega) (by omega), wrap_ok (a := (i : Int) + 1) (by omega) (by omega), wrap_ok (a := cnt p i + 1) (by omega) (by omega)]
    simp only [cnt]
    cases hp : p i with
    | true => rw [if_pos rfl]; rfl
    | false => rw [if_neg (by simp)]; simp only [b2i, Int.add_zero]; rfl
theorem rWindows_ev (t : Int) (a b : List S41) (fa : Fit a) (fb : Fit b) : Ev (fun k => railplanref9_Windows.f k t a b) (win t a b) := by
  simp only [railplanref9_Windows.f]
  refine Ev.bind (rforb_ev t a b fa fb) ?_
  unfold win
  cases hp : per t with
  | false => rw [if_neg (by simp), if_neg (by simp)]; exact Ev.ite_neg (by simp) (Ev.now _)
  | true =>
    obtain ⟨h1, h2⟩ := (per_iff t).1 hp
    rw [if_pos rfl, if_pos rfl]
    split
    · refine Ev.ite_pos rfl ?_
      obtain ⟨n, rfl⟩ : ∃ n : Nat, t = n := ⟨t.toNat, by omega⟩
      have e : ((n : Int)).toNat = n := by omega
      rw [e]
      refine many_loop n (by omega) _ _ ?_ n 0 (by omega)
      by_cases hc : cnt (fbp n a b) n = n
      · rw [if_pos hc]; exact Ev.ite_pos hc (Ev.now _)
      · rw [if_neg hc]
        refine Ev.ite_neg hc ?_
        have h := wins_loop n (by omega) (by omega) (fbp n a b) hc n 0 [] (by omega) (by simp)
        have e2 : ((turned n (can n (fbp n a b))).filter fun z => decide (((0 : Nat) : Int) ≤ z.f0)) = turned n (can n (fbp n a b)) := by
          rw [List.filter_eq_self]
          intro z hz
          have := ch_gt _ (turned_ch (show 1 ≤ n by omega) (can_vldF n (fbp n a b))) z hz
          simp; omega
        rw [e2, List.nil_append] at h
        exact h
    · exact Ev.ite_neg (by simp) (Ev.now _)
end Go.Proofs.Ytcdldldknfpkjaa.PHw

namespace Go.Proofs.Ytcdldldknfpkjaa.PHw
open Go.RowKit Go.Proofs.YtcdldldknfpkjaaW.PrintWords Go.Proofs.YtcdldldknfpkjaaW.PrintLast Go.Proofs.YtcdldldknfpkjaaW.PrintMore
set_option linter.unusedVariables false
set_option maxRecDepth 100000
theorem rd50_pre (pre : List S50) (u : S50) (suf : List S50) : rd_T50 (pre ++ u :: suf) (pre.length : Int) = u := by simp [rd_T50]
theorem SameW_loop (n : Int) : ∀ (suf pre : List S50), Fit (pre ++ suf) → n = ((pre ++ suf).length : Int) →
    Ev (fun k => api_Window.l0 k (pre ++ suf) (pre ++ suf) n (pre.length : Int)) true
  | [], pre, hb, hn => by
    subst hn
    refine Ev.step (f := fun _ => some true) (fun k => ?_) (Ev.now _)
    simp only [api_Window.l0]
    rw [if_neg (nlt_pre pre)]
  | u :: suf, pre, hb, hn => by
    have ih := SameW_loop n suf (pre ++ [u]) (by rwa [← List.append_cons]) (by rwa [← List.append_cons])
    rw [← List.append_cons, len1] at ih
    have hlt0 := lt_pre pre u suf
    have hlt : (pre.length : Int) < n := by rw [hn]; exact hlt0
    have hb' : (pre.length : Int) < 140737488355328 := by unfold Fit at hb; simp at hb; omega
    refine Ev.step (fun k => ?_) ih
    simp only [api_Window.l0]
    rw [if_pos hlt, if_pos (by omega), if_pos hlt0, if_pos hlt0, rd50_pre, if_neg (by simp), wrap_ok (by omega) (by omega)]
theorem SameW_ev (s : List S50) (hs : Fit s) : Ev (fun k => api_Window.f k s s) true := by
  simp only [api_Window.f]
  exact Ev.ite_pos trivial (SameW_loop _ s [] hs rfl)
theorem frb_fit (t : Int) (a b : List S41) : Fit (frb t a b).1 := by
  unfold frb
  split
  · next hp =>
    obtain ⟨h1, h2⟩ := (per_iff t).1 hp
    split
    · exact fit_le (vld_fit (can_vld _ (by omega) (by omega)))
    · exact fit_nil
  · exact fit_nil
theorem win_fit (t : Int) (a b : List S41) : Fit (win t a b).1 := by
  unfold win
  split
  · next hp =>
    obtain ⟨h1, h2⟩ := (per_iff t).1 hp
    split
    · split
      · exact fit_nil
      · refine fit_le ?_
        have := vld_fit (can_vld (n := t.toNat) (fbp t.toNat a b) (by omega) (by omega))
        simp only [List.length_map]
        unfold turned
        split
        · rw [List.length_drop, List.length_set]; omega
        · exact this
    · exact fit_nil
  · exact fit_nil
theorem rWindows_c (w : World) (A1 A2 : Option Addr) (c1 c2 : Nat) (a b : List S41) (t : Int) (Va : VA w (.slice A1 a.length c1) a) (fa : Fit a) (Vb : VA w (.slice A2 b.length c2) b) (fb : Fit b) :
    Calls Try.prog 40 #[.int .i64 t, .slice A1 a.length c1, .slice A2 b.length c2] w fun e w' => (∃ A c, e = .returned (.tuple #[.slice A (win t a b).1.length c, .int .i64 (win t a b).2]) ∧ VW w' (.slice A (win t a b).1.length c) (win t a b).1) ∧ Below w.heap.size w w' := by
  obtain ⟨k, h⟩ := (rWindows_ev t a b fa fb).rounds
  generalize win t a b = F at *
  obtain ⟨F1, F2⟩ := F
  refine (railplanref9_Windows.calls k t A1 c1 a A2 c2 b _ _ w (VA_C Va) (VA_le Va) (VA_C Vb) (VA_le Vb) h).mono ?_
  rintro e w' ⟨v, rfl, hr, hb⟩
  obtain ⟨A, c, rfl⟩ := Kd.R_slice hr
  exact ⟨⟨A, c, rfl, VW_R hr⟩, hb⟩
theorem rLeast_c (w : World) (A1 A2 : Option Addr) (c1 c2 : Nat) (a b : List S41) (Va : VA w (.slice A1 a.length c1) a) (fa : Fit a) (Vb : VA w (.slice A2 b.length c2) b) (fb : Fit b) :
    Calls Try.prog 39 #[.slice A1 a.length c1, .slice A2 b.length c2] w fun e w' => e = .returned (.tuple #[.int .i64 (lst a b).1, .bool (lst a b).2]) ∧ Below w.heap.size w w' := by
  obtain ⟨k, h⟩ := (rLeast_ev a b fa fb).rounds
  exact railplanref9_Least.calls k A1 c1 a A2 c2 b _ _ w (VA_C Va) (VA_le Va) (VA_C Vb) (VA_le Vb) h
theorem rAlone_c (w : World) (A : Option Addr) (c : Nat) (a : List S41) (t : Int) (Va : VA w (.slice A a.length c) a) (fa : Fit a) :
    Calls Try.prog 42 #[.int .i64 t, .slice A a.length c] w fun e w' => e = .returned (.bool (aln t a)) ∧ Below w.heap.size w w' := by
  obtain ⟨k, h⟩ := (rAlone_ev t a fa).rounds
  exact (railplanref9_Alone.calls k t A c a _ w (VA_C Va) (VA_le Va) h).mono fun e w' ⟨h1, h2⟩ => ⟨h1, h2.below⟩
theorem rValid_c (w : World) (A : Option Addr) (c : Nat) (a : List S41) (Va : VA w (.slice A a.length c) a) (fa : Fit a) :
    Calls Try.prog 41 #[.slice A a.length c] w fun e w' => e = .returned (.bool (ovld a)) ∧ Below w.heap.size w w' := by
  obtain ⟨k, h⟩ := (RValid_ev a fa).rounds
  exact (railplanref9_ValidList.calls k A c a _ w (VA_C Va) (VA_le Va) h).mono fun e w' ⟨h1, h2⟩ => ⟨h1, h2.below⟩
theorem sameS_c (w : World) (A1 A2 : Option Addr) (c1 c2 : Nat) (s : List S47) (hf : Fit s) (V1 : VS w (.slice A1 s.length c1) s) (V2 : VS w (.slice A2 s.length c2) s) :
    Calls Try.prog 22 #[.slice A1 s.length c1, .slice A2 s.length c2] w fun e w' => e = .returned (.bool true) ∧ Below w.heap.size w w' := by
  obtain ⟨k, h⟩ := (Same_ev s hf).rounds
  exact (api_Span.calls k A1 c1 s A2 c2 s _ w (VS_C V1) (VS_le V1) (VS_C V2) (VS_le V2) h).mono fun e w' ⟨h1, h2⟩ => ⟨h1, h2.below⟩
theorem sameW_c (w : World) (A1 A2 : Option Addr) (c1 c2 : Nat) (s : List S50) (hf : Fit s) (V1 : VW w (.slice A1 s.length c1) s) (V2 : VW w (.slice A2 s.length c2) s) :
    Calls Try.prog 23 #[.slice A1 s.length c1, .slice A2 s.length c2] w fun e w' => e = .returned (.bool true) ∧ Below w.heap.size w w' := by
  obtain ⟨k, h⟩ := (SameW_ev s hf).rounds
  exact (api_Window.calls k A1 c1 s A2 c2 s _ w (VW_C V1) (VW_le V1) (VW_C V2) (VW_le V2) h).mono fun e w' ⟨h1, h2⟩ => ⟨h1, h2.below⟩
end Go.Proofs.Ytcdldldknfpkjaa.PHw

namespace Go.Proofs.Ytcdldldknfpkjaa.PHw
open Go.RowKit Go.Proofs.YtcdldldknfpkjaaW.PrintWords Go.Proofs.YtcdldldknfpkjaaW.PrintLast Go.Proofs.YtcdldldknfpkjaaW.PrintMore
set_option linter.unusedVariables false
set_option maxRecDepth 100000
set_option maxHeartbeats 1000000 in
theorem agrees_c (w : World) (A1 A2 : Option Addr) (c1 c2 : Nat) (a b : List S41) (t : Int) (va : VA w (.slice A1 a.length c1) a) (fa : Fit a) (vb : VA w (.slice A2 b.length c2) b) (fb : Fit b) :
    Calls Try.prog 24 #[.int .i64 t, .slice A1 a.length c1, .slice A2 b.length c2] w fun e w' => e = .returned (.bool true) ∧ Below w.heap.size w w' := by
  obtain ⟨L1, L2, hL⟩ : ∃ x y, lst a b = (x, y) := ⟨_, _, rfl⟩
  obtain ⟨F, FE, hF⟩ : ∃ x y, frb t a b = (x, y) := ⟨_, _, rfl⟩
  obtain ⟨W, WE, hW⟩ : ∃ x y, win t a b = (x, y) := ⟨_, _, rfl⟩
  have fF : Fit F := by have := frb_fit t a b; rw [hF] at this; exact this
  have fW : Fit W := by have := win_fit t a b; rw [hW] at this; exact this
  obtain ⟨OV, hO⟩ : ∃ x, ovld a = x := ⟨_, rfl⟩
  obtain ⟨AL, hA⟩ : ∃ x, aln t a = x := ⟨_, rfl⟩
  have HL := Aside0.mk hL
  have HF := Aside0.mk hF
  have HW := Aside0.mk hW
  have HO := Aside0.mk hO
  have HA := Aside0.mk hA
  have FF := Aside0.mk fF
  have FW := Aside0.mk fW
  have FA := Aside0.mk fa
  have FB := Aside0.mk fb
  have Va := Aside0.mk va
  have Vb := Aside0.mk vb
  have HB := Aside0.mk (Below.refl w.heap.size w)
  clear hL hF hW fF fW hO hA fa fb va vb
  go_enter Try.func24, Try.ntmps24
  go_wp2_with fail
  refine (Least_c _ _ _ c1 c2 a b Va.out Vb.out FA.out FB.out).mono ?_
  rw [HL.out]
  rintro _ w1 ⟨rfl, hb⟩
  replace Va := Aside0.mk (VA_below Va.out hb)
  replace Vb := Aside0.mk (VA_below Vb.out hb)
  replace HB := Aside0.mk (below_step HB.out hb)
  clear hb
  go_wp2_with fail
  refine (rLeast_c _ _ _ c1 c2 a b Va.out FA.out Vb.out FB.out).mono ?_
  rw [HL.out]
  rintro _ w2 ⟨rfl, hb⟩
  replace Va := Aside0.mk (VA_below Va.out hb)
  replace Vb := Aside0.mk (VA_below Vb.out hb)
  replace HB := Aside0.mk (below_step HB.out hb)
  clear hb
  go_wp2_with fail
  refine (Forbidden_c _ _ _ c1 c2 a b t Va.out FA.out Vb.out FB.out).mono ?_
  rw [HF.out]
  rintro _ w3 ⟨⟨Af, cf, rfl, hv⟩, hb⟩
  have Vf := Aside0.mk hv
  replace Va := Aside0.mk (VA_below Va.out hb)
  replace Vb := Aside0.mk (VA_below Vb.out hb)
  replace HB := Aside0.mk (below_step HB.out hb)
  clear hb hv
  go_wp2_with fail
  refine (rForbidden_c _ _ _ c1 c2 a b t Va.out FA.out Vb.out FB.out).mono ?_
  rw [HF.out]
  rintro _ w4 ⟨⟨Ag, cg, rfl, hv⟩, hb⟩
  have Vg := Aside0.mk hv
  replace Vf := Aside0.mk (VS_below Vf.out hb)
  replace Va := Aside0.mk (VA_below Va.out hb)
  replace Vb := Aside0.mk (VA_below Vb.out hb)
  replace HB := Aside0.mk (below_step HB.out hb)
  clear hb hv
  go_wp2_with fail
  refine (Windows_c _ _ _ c1 c2 a b t Va.out FA.out Vb.out FB.out).mono ?_
  rw [HW.out]
  rintro _ w5 ⟨⟨Aw, cw, rfl, hv⟩, hb⟩
  have Vw := Aside0.mk hv
  replace Vf := Aside0.mk (VS_below Vf.out hb)
  replace Vg := Aside0.mk (VS_below Vg.out hb)
  replace Va := Aside0.mk (VA_below Va.out hb)
  replace Vb := Aside0.mk (VA_below Vb.out hb)
  replace HB := Aside0.mk (below_step HB.out hb)
  clear hb hv
  go_wp2_with fail
  refine (rWindows_c _ _ _ c1 c2 a b t Va.out FA.out Vb.out FB.out).mono ?_
  rw [HW.out]
  rintro _ w6 ⟨⟨Ax, cx, rfl, hv⟩, hb⟩
  have Vx := Aside0.mk hv
  replace Vw := Aside0.mk (VW_below Vw.out hb)
  replace Vf := Aside0.mk (VS_below Vf.out hb)
  replace Vg := Aside0.mk (VS_below Vg.out hb)
  replace Va := Aside0.mk (VA_below Va.out hb)
  replace HB := Aside0.mk (below_step HB.out hb)
  clear hb hv Vb
  go_wp2_with fail
  refine (OValid_c _ _ c1 a (VA_C Va.out) (VA_le Va.out) FA.out).mono ?_
  rw [HO.out]
  rintro _ w7 ⟨rfl, hb⟩
  replace Vx := Aside0.mk (VW_below Vx.out hb)
  replace Vw := Aside0.mk (VW_below Vw.out hb)
  replace Vf := Aside0.mk (VS_below Vf.out hb)
  replace Vg := Aside0.mk (VS_below Vg.out hb)
  replace Va := Aside0.mk (VA_below Va.out hb)
  replace HB := Aside0.mk (below_step HB.out hb)
  clear hb
  go_wp2_with fail
  refine (rValid_c _ _ c1 a Va.out FA.out).mono ?_
  rw [HO.out]
  rintro _ w8 ⟨rfl, hb⟩
  replace Vx := Aside0.mk (VW_below Vx.out hb)
  replace Vw := Aside0.mk (VW_below Vw.out hb)
  replace Vf := Aside0.mk (VS_below Vf.out hb)
  replace Vg := Aside0.mk (VS_below Vg.out hb)
  replace Va := Aside0.mk (VA_below Va.out hb)
  replace HB := Aside0.mk (below_step HB.out hb)
  clear hb
  go_wp2_with fail
  refine (sameS_c _ _ _ cf cg F FF.out Vf.out Vg.out).mono ?_
  rintro _ w9 ⟨rfl, hb⟩
  replace Vx := Aside0.mk (VW_below Vx.out hb)
  replace Vw := Aside0.mk (VW_below Vw.out hb)
  replace Va := Aside0.mk (VA_below Va.out hb)
  replace HB := Aside0.mk (below_step HB.out hb)
  clear hb Vf Vg
  go_wp2_with fail
  refine (sameW_c _ _ _ cw cx W FW.out Vw.out Vx.out).mono ?_
  rintro _ w10 ⟨rfl, hb⟩
  replace Va := Aside0.mk (VA_below Va.out hb)
  replace HB := Aside0.mk (below_step HB.out hb)
  clear hb Vw Vx
  go_wp2_with fail
  refine (Alone_c _ _ c1 a t Va.out FA.out).mono ?_
  rw [HA.out]
  rintro _ w11 ⟨rfl, hb⟩
  replace Va := Aside0.mk (VA_below Va.out hb)
  replace HB := Aside0.mk (below_step HB.out hb)
  clear hb
  go_wp2_with fail
  refine (rAlone_c _ _ c1 a t Va.out FA.out).mono ?_
  rw [HA.out]
  rintro _ w12 ⟨rfl, hb⟩
  replace HB := Aside0.mk (below_step HB.out hb)
  clear hb
  go_wp2_with fail
  go_ret
  exact ⟨rfl, HB.out⟩
end Go.Proofs.Ytcdldldknfpkjaa.PHw
