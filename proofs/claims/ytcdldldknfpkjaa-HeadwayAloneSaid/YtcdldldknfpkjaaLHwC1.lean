/- The walk of the common pairs, with Least's closure. -/
import Derived.Test.YtcdldldknfpkjaaLHwC0
import Derived.Deep.LoopGhost
namespace Go.Proofs.Ytcdldldknfpkjaa.PHw
open Go.RowKit Go.Proofs.YtcdldldknfpkjaaW.PrintWords Go.Proofs.YtcdldldknfpkjaaW.PrintLast Go.Proofs.YtcdldldknfpkjaaW.PrintMore
set_option linter.unusedVariables false
set_option maxRecDepth 100000
set_option maxHeartbeats 2000000 in
theorem common_least (w0 w : World) (A1 A2 : Option Addr) (c1 c2 : Nat) (a b : List S41) (ha : Kd.C k41 w0 A1 a.length a) (hb : Kd.C k41 w0 A2 b.length b) (hsa : ∀ x ∈ a, Small x) (hsb : ∀ x ∈ b, Small x)
    (bn bf : Nat) (hne : bn ≠ bf) (gn : w0.heap.size ≤ bn) (gf : w0.heap.size ≤ bf) (s : Int × Bool) (hB : Below w0.heap.size w0 w) (h : NF w bn bf s) :
    Calls Try.prog 30 #[.slice A1 a.length c1, .slice A2 b.length c2, .func (.func 31) #[] #[.pointer (some ⟨bf, 0, none⟩), .pointer (some ⟨bn, 0, none⟩)]] w fun e w' => e = .returned (.tuple #[]) ∧ NF w' bn bf ((cm a b).foldl lstep s) ∧ Below w0.heap.size w0 w' := by
  have HA := Aside0.mk ha
  have HBb := Aside0.mk hb
  have HSA := Aside0.mk hsa
  have HSB := Aside0.mk hsb
  have HB := Aside0.mk hB
  have HNF := Aside0.mk h
  have LA := ha.2.1
  have LB := hb.2.1
  clear ha hb hsa hsb hB h
  go_enter Try.func30, Try.ntmps30
  go_wp2_with fail
  go_loopw [6, 7] (fun v6 v7 wr => ∃ (i k : Int) (t : Int × Bool), v6 = .int .i64 i ∧ v7 = .int .i64 k ∧ Aside0 (0 ≤ i ∧ i ≤ a.length ∧ 0 ≤ k ∧ k ≤ b.length) ∧ Aside0 (NF wr bn bf t) ∧ Aside0 (Below w0.heap.size w0 wr) ∧ Aside0 ((cm (a.drop i.toNat) (b.drop k.toNat)).foldl lstep t = (cm a b).foldl lstep s)) (fun v6 v7 _ => (a.length - (intOf v6).toNat) + (b.length - (intOf v7).toNat))
  case atStart => exact ⟨0, 0, s, rfl, rfl, ⟨by omega⟩, HNF, HB, ⟨rfl⟩⟩
  case round =>
    clear HNF HB
    obtain ⟨i, k, t, rfl, rfl, HI, HNF, HB, HR⟩ := hrel
    obtain ⟨i0, i1, k0, k1⟩ := HI.out
    clear HI
    by_cases ci : i < a.length
    · by_cases ck : k < b.length
      · have HX := Aside0.mk (HSA.out _ (rd_mem a i i0 ci))
        have HY := Aside0.mk (HSB.out _ (rd_mem b k k0 ck))
        have DA := Aside0.mk (drop_rd a i i0 ci)
        have DB := Aside0.mk (drop_rd b k k0 ck)
        obtain ⟨ada, ea, hx0, hx1, hx2⟩ := at_T41 HA.out i i0 ci
        cases ea
        obtain ⟨adb, eb, hy0, hy1, hy2⟩ := at_T41 HBb.out k k0 ck
        cases eb
        replace hx0 := (HB.out.cell (World.block_lt_of_cell? w0 _ hx0)).trans hx0
        replace hx1 := (HB.out.cell (World.block_lt_of_cell? w0 _ hx1)).trans hx1
        replace hx2 := (HB.out.cell (World.block_lt_of_cell? w0 _ hx2)).trans hx2
        replace hy0 := (HB.out.cell (World.block_lt_of_cell? w0 _ hy0)).trans hy0
        replace hy1 := (HB.out.cell (World.block_lt_of_cell? w0 _ hy1)).trans hy1
        replace hy2 := (HB.out.cell (World.block_lt_of_cell? w0 _ hy2)).trans hy2
        generalize rd_T41 a i = x at *
        generalize rd_T41 b k = y at *
        by_cases q1 : x.f0 < y.f0
        · go_wp2_with fail
          go_quiet (fail)
          go_wp2_with fail
          go_roundw
          case rel =>
            refine ⟨i + 1, k, t, rfl, rfl, ⟨by omega⟩, HNF, ⟨pw_below_drewN HB.out _⟩, ⟨?_⟩⟩
            have e := HR.out
            rw [DA.out, DB.out, cm_cons, if_pos q1] at e
            rw [DB.out]; exact e
          case measure => simp [intOf]; omega
        · by_cases q2 : x.f0 > y.f0
          · go_wp2_with fail
            go_quiet (fail)
            go_wp2_with fail
            go_quiet (fail)
            go_wp2_with fail
            go_roundw
            case rel =>
              refine ⟨i, k + 1, t, rfl, rfl, ⟨by omega⟩, HNF, ⟨pw_below_drewN HB.out _⟩, ⟨?_⟩⟩
              have e := HR.out
              rw [DA.out, DB.out, cm_cons, if_neg (by omega), if_pos (by omega)] at e
              rw [DA.out]; exact e
            case measure => simp [intOf]; omega
          · go_wp2_with fail
            go_quiet (fail)
            go_wp2_with fail
            go_quiet (fail)
            go_wp2_with fail
            refine wp_region_still_tail 9 (by kernel_rfl) (by kernel_rfl) ?_
            simp only [List.take_succ_cons, List.take_zero, List.drop_succ_cons, List.drop_zero]
            generalize hw2 : ({ heap := _, tape := _, drawn := _, os := _, output := _ } : World) = w2
            have mv : ∀ {p : Addr} {v : Value}, wr.cell? p = some v → w2.cell? p = some v := fun h => by rw [← hw2]; exact h
            replace hx0 := mv hx0
            replace hx1 := mv hx1
            replace hx2 := mv hx2
            replace hy0 := mv hy0
            replace hy1 := mv hy1
            replace hy2 := mv hy2
            have HNF2 : Aside0 (NF w2 bn bf t) := ⟨by rw [← hw2]; exact HNF.out⟩
            have HB2 : Aside0 (Below w0.heap.size w0 w2) := ⟨by rw [← hw2]; exact ⟨HB.out.os, HB.out.tape, HB.out.output, HB.out.size, HB.out.block⟩⟩
            clear mv hw2 HNF HB
            repeat still_step
            refine wpStill_nil ?_
            go_wp2_with fail
            refine (Least1_c w0 w2 x y bn bf t hne HB2.out gn gf HNF2.out HX.out HY.out).mono ?_
            rintro _ w3 ⟨rfl, HNF3, HB3⟩
            clear hx0 hx1 hx2 hy0 hy1 hy2 HNF2 HB2
            have HNF4 := Aside0.mk HNF3
            have HB4 := Aside0.mk HB3
            clear HNF3 HB3
            go_wp2_with fail
            go_roundw
            case rel =>
              refine ⟨i + 1, k + 1, lstep t (x, y), rfl, rfl, ⟨by omega⟩, HNF4, HB4, ⟨?_⟩⟩
              have e := HR.out
              rw [DA.out, DB.out, cm_cons, if_neg (by omega), if_neg (by omega), List.foldl_cons] at e
              exact e
            case measure => simp [intOf]; omega
      · go_wp2_with fail
        go_end0
        have e := HR.out
        rw [drop_end b k (by omega), cm_nil'] at e
        exact ⟨rfl, by rw [← e]; exact HNF.out, HB.out⟩
    · go_wp2_with fail
      go_end0
      have e := HR.out
      rw [drop_end a i (by omega), cm_nil] at e
      exact ⟨rfl, by rw [← e]; exact HNF.out, HB.out⟩
end Go.Proofs.Ytcdldldknfpkjaa.PHw
