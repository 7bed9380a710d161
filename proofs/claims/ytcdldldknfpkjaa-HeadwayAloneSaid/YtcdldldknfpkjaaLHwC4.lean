/- Alone's closure, and the library's search with it. -/
import Derived.Test.YtcdldldknfpkjaaLHwC0
import Derived.Deep.LoopGhost
namespace Go.Proofs.Ytcdldldknfpkjaa.PHw
open Go.RowKit Go.Proofs.YtcdldldknfpkjaaW.PrintWords Go.Proofs.YtcdldldknfpkjaaW.PrintLast Go.Proofs.YtcdldldknfpkjaaW.PrintMore
set_option linter.unusedVariables false
set_option maxRecDepth 100000
def longer (n : Int) (x : S41) : Bool := decide (n < x.f2 - x.f1)
theorem Alone1_c (w : World) (x : S41) (bt : Nat) (n : Int) (h : w.cell? ⟨bt, 0, none⟩ = some (.int .i64 n)) (hx : Small x) :
    Calls Try.prog 33 #[.agg #[.int .i64 x.f0, .int .i64 x.f1, .int .i64 x.f2], .pointer (some ⟨bt, 0, none⟩)] w fun e w' => e = .returned (.bool (longer n x)) ∧ Below w.heap.size w w' := by
  obtain ⟨hx1, hx2, hx3, hx4⟩ := hx
  have l1 := World.block_lt_of_cell? w _ h
  simp only at l1
  go_enter Try.func33, Try.ntmps33
  go_wp2_with fail
  go_ret
  exact ⟨rfl, (Below.refl _ _).alloc (Nat.le_refl _) _⟩
set_option maxHeartbeats 1000000 in
theorem Index_c (w : World) (A : Option Addr) (c : Nat) (a : List S41) (ha : Kd.C k41 w A a.length a) (hsa : ∀ x ∈ a, Small x) (bt : Nat) (n : Int) (h : w.cell? ⟨bt, 0, none⟩ = some (.int .i64 n)) :
    Calls Try.prog 44 #[.slice A a.length c, .func (.func 33) #[] #[.pointer (some ⟨bt, 0, none⟩)]] w fun e w' => (∃ r : Int, e = .returned (.int .i64 r) ∧ (decide (0 ≤ r) = a.any (longer n))) ∧ Below w.heap.size w w' := by
  have HA := Aside0.mk ha
  have HSA := Aside0.mk hsa
  have LA := ha.2.1
  have HC := Aside0.mk h
  have HL := Aside0.mk (World.block_lt_of_cell? w _ h)
  clear ha hsa h
  go_enter Try.func44, Try.ntmps44
  go_wp2_with fail
  go_loopw [8] (fun v8 wr => ∃ (i : Int), v8 = .int .i64 i ∧ Aside0 (0 ≤ i ∧ i ≤ a.length) ∧ Aside0 (Below w.heap.size w wr) ∧ Aside0 ((a.drop i.toNat).any (longer n) = a.any (longer n))) (fun v8 _ => a.length - (intOf v8).toNat)
  case atStart => exact ⟨0, rfl, ⟨by omega⟩, ⟨Below.refl _ _⟩, ⟨rfl⟩⟩
  case round =>
    obtain ⟨i, rfl, HI, HB, HR⟩ := hrel
    obtain ⟨i0, i1⟩ := HI.out
    clear HI
    by_cases ci : i < a.length
    · have HX := Aside0.mk (HSA.out _ (rd_mem a i i0 ci))
      have DA := Aside0.mk (drop_rd a i i0 ci)
      obtain ⟨ada, ea, hx0, hx1, hx2⟩ := at_T41 HA.out i i0 ci
      cases ea
      replace hx0 := (HB.out.cell (World.block_lt_of_cell? w _ hx0)).trans hx0
      replace hx1 := (HB.out.cell (World.block_lt_of_cell? w _ hx1)).trans hx1
      replace hx2 := (HB.out.cell (World.block_lt_of_cell? w _ hx2)).trans hx2
      generalize rd_T41 a i = x at *
      have HT := Aside0.mk ((HB.out.cell (p := ⟨bt, 0, none⟩) HL.out).trans HC.out)
      cases hl : longer n x with
      | true =>
        have HLX := Aside0.mk hl
        clear hl
        go_wp2_with fail
        refine (Alone1_c wr x bt n HT.out HX.out).mono ?_
        rw [HLX.out]
        rintro _ w1 ⟨rfl, hb⟩
        have HB1 := Aside0.mk (below_step HB.out hb)
        clear hb hx0 hx1 hx2
        go_wp2_with fail
        go_ret
        refine ⟨⟨i, rfl, ?_⟩, HB1.out⟩
        rw [decide_eq_true i0, ← HR.out, DA.out, List.any_cons, HLX.out]; rfl
      | false =>
        have HLX := Aside0.mk hl
        clear hl
        go_wp2_with fail
        refine (Alone1_c wr x bt n HT.out HX.out).mono ?_
        rw [HLX.out]
        rintro _ w1 ⟨rfl, hb⟩
        have HB1 := Aside0.mk (below_step HB.out hb)
        clear hb hx0 hx1 hx2
        go_wp2_with fail
        go_roundw
        case rel =>
          refine ⟨i + 1, rfl, ⟨by omega⟩, HB1, ⟨?_⟩⟩
          rw [← HR.out, DA.out, List.any_cons, HLX.out]; rfl
        case measure => simp [intOf]; omega
    · go_wp2_with fail
      go_ret
      refine ⟨⟨-1, rfl, ?_⟩, HB.out⟩
      have e := HR.out
      rw [drop_end a i (by omega)] at e
      rw [← e]; rfl
theorem Contains_c (w : World) (A : Option Addr) (c : Nat) (a : List S41) (ha : Kd.C k41 w A a.length a) (hsa : ∀ x ∈ a, Small x) (bt : Nat) (n : Int) (h : w.cell? ⟨bt, 0, none⟩ = some (.int .i64 n)) :
    Calls Try.prog 32 #[.slice A a.length c, .func (.func 33) #[] #[.pointer (some ⟨bt, 0, none⟩)]] w fun e w' => e = .returned (.bool (a.any (longer n))) ∧ Below w.heap.size w w' := by
  have HA := Aside0.mk ha
  have HSA := Aside0.mk hsa
  have HC := Aside0.mk h
  clear ha hsa h
  go_enter Try.func32, Try.ntmps32
  go_wp2_with fail
  refine (Index_c w A c a HA.out HSA.out bt n HC.out).mono ?_
  rintro _ w1 ⟨⟨r, rfl, hr⟩, hb⟩
  have HR := Aside0.mk hr
  have HB := Aside0.mk hb
  clear hr hb
  go_wp2_with fail
  go_ret
  exact ⟨by rw [← HR.out]; rfl, HB.out⟩
end Go.Proofs.Ytcdldldknfpkjaa.PHw
