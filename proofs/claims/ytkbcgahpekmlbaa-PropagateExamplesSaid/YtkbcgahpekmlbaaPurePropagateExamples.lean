/- The table of the example of chapter 13 has the sets that the chapter tells, and none is empty. -/
import Derived.Test.YtkbcgahpekmlbaaJPropagateExamples0
import Derived.Test.YtkbcgahpekmlbaaPPgx41
namespace Go.Proofs.Ytkbcgahpekmlbaa.PPg
open Go.RowKit Go.Proofs.YtkbcgahpekmlbaaW.PrintWords Go.Proofs.YtkbcgahpekmlbaaW.PrintLast Go.Proofs.YtkbcgahpekmlbaaW.PrintMore
set_option linter.unusedVariables false
set_option maxRecDepth 100000
/-- The example's events and activities. -/
def exE : List S65 := List.replicate 3 z65
def exA : List S30 := [⟨0, 0, 1, 2, 3, 0⟩, ⟨0, 1, 2, 4, 4, 0⟩, ⟨0, 0, 2, 7, 9, 0⟩]
theorem ex_ok : okN (10 : Nat) exE exA = true := by decide
theorem ex_act : ∀ a ∈ exA, okAct 10 a ∧ 0 ≤ a.f1 ∧ 0 ≤ a.f2 := by
  intro a ha
  unfold exA at ha
  simp only [List.mem_cons, List.not_mem_nil, or_false] at ha
  rcases ha with rfl | rfl | rfl <;> exact ⟨⟨by decide, by decide, by decide⟩, by decide, by decide⟩
theorem below10 {p : Int → Prop} (h : ∀ k ∈ List.range 10, p (k : Nat)) (x : Int) (x0 : 0 ≤ x) (x1 : x < 10) : p x := by
  have := h x.toNat (List.mem_range.2 (by omega))
  rwa [show ((x.toNat : Nat) : Int) = x by omega] at this
theorem ex01 (x : Int) (x0 : 0 ≤ x) (x1 : x < 10) : initM 10 exA 0 1 x = true → x = 2 ∨ x = 3 := below10 (p := fun x => initM 10 exA 0 1 x = true → x = 2 ∨ x = 3) (by decide) x x0 x1
theorem ex12 (x : Int) (x0 : 0 ≤ x) (x1 : x < 10) : initM 10 exA 1 2 x = true → x = 4 := below10 (p := fun x => initM 10 exA 1 2 x = true → x = 4) (by decide) x x0 x1
theorem ex21 (x : Int) (x0 : 0 ≤ x) (x1 : x < 10) : initM 10 exA 2 1 x = true → x = 6 := below10 (p := fun x => initM 10 exA 2 1 x = true → x = 6) (by decide) x x0 x1
theorem ex02 (x : Int) (x0 : 0 ≤ x) (x1 : x < 10) : initM 10 exA 0 2 x = true → 7 ≤ x := below10 (p := fun x => initM 10 exA 0 2 x = true → 7 ≤ x) (by decide) x x0 x1
theorem ex_case {sets : List (List S41)} (hc : Closed 10 3 (initM 10 exA) sets) :
    ∃ q, sets = tabl 10 3 q ∧ full 10 3 q ∧ can 10 (q 0 1) = [⟨3, 4⟩] ∧ can 10 (q 0 2) = [⟨7, 8⟩] := by
  have hle : le 10 3 (xM 10 [0, 3, 7]) (initM 10 exA) := xM_le (by decide) ex_act (by decide)
  rcases Closed_cases (by decide) (fun a ha => (ex_act a ha).1) hc with ⟨_, h1⟩ | ⟨q, rfl, h2⟩
  · exact absurd (xM_full (by decide) _) (h1.2 _ (xM_WC (by decide) _) hle)
  · have hm := h2.most _ (xM_WC (by decide) _) hle
    have h02 : ∀ x : Int, 0 ≤ x → x < 10 → q 0 2 x = true → x = 7 := fun x x0 x1 hx => by
      obtain ⟨d, d0, d1, ha, hb⟩ := sumB_iff.1 (h2.fc 0 1 2 (by decide) (by decide) (by decide) x x0 x1 hx)
      have e1 := ex01 d d0 d1 (h2.sub 0 1 (by decide) (by decide) d d0 d1 ha)
      have e2 := ex12 _ (by omega) (by omega) (h2.sub 1 2 (by decide) (by decide) ((x - d) % (10 : Nat)) (by omega) (by omega) hb)
      have e3 := ex02 x x0 x1 (h2.sub 0 2 (by decide) (by decide) x x0 x1 hx)
      omega
    have h01 : ∀ x : Int, 0 ≤ x → x < 10 → q 0 1 x = true → x = 3 := fun x x0 x1 hx => by
      obtain ⟨d, d0, d1, ha, hb⟩ := sumB_iff.1 (h2.fc 0 2 1 (by decide) (by decide) (by decide) x x0 x1 hx)
      have e1 := h02 d d0 d1 ha
      have e2 := ex21 _ (by omega) (by omega) (h2.sub 2 1 (by decide) (by decide) ((x - d) % (10 : Nat)) (by omega) (by omega) hb)
      omega
    refine ⟨q, rfl, h2.full, ?_, ?_⟩
    · refine (can_congr (p := q 0 1) (q := fun x => decide (x = 3)) fun x x0 x1 => ?_).trans rfl
      by_cases e : x = 3
      · subst e; exact (hm 0 1 (by decide) (by decide) 3 (by decide) (by decide) (by decide)).trans (by decide)
      · have : q 0 1 x = false := Bool.eq_false_iff.2 fun h => e (h01 x x0 x1 h)
        rw [this]; exact (decide_eq_false e).symm
    · refine (can_congr (p := q 0 2) (q := fun x => decide (x = 7)) fun x x0 x1 => ?_).trans rfl
      by_cases e : x = 7
      · subst e; exact (hm 0 2 (by decide) (by decide) 7 (by decide) (by decide) (by decide)).trans (by decide)
      · have : q 0 2 x = false := Bool.eq_false_iff.2 fun h => e (h02 x x0 x1 h)
        rw [this]; exact (decide_eq_false e).symm
end Go.Proofs.Ytkbcgahpekmlbaa.PPg
namespace Go.Proofs.Ytkbcgahpekmlbaa.Pure
open Go.RowKit Go.Proofs.Ytkbcgahpekmlbaa.PPg Go.Proofs.YtkbcgahpekmlbaaW.PrintWords Go.Proofs.YtkbcgahpekmlbaaW.PrintLast Go.Proofs.YtkbcgahpekmlbaaW.PrintMore
set_option linter.unusedVariables false
set_option maxRecDepth 100000
theorem exBtw {W : World} {B g n m i j : Nat} {ev : List S65} {ac : List S30} {q : Mx} {s : List S41} (ht : Tb W B g n ev ac m (tabl n m q)) (h1 : 1 ≤ n) (h2 : n ≤ 7200) (hm : m ≤ 48) (hi : i < m) (hj : j < m) (hs : can n (q i j) = s) (i' j' : Int) (ei : i' = i) (ej : j' = j) :
    Calls Try.prog 18 #[.pointer (some ⟨g, 0, none⟩), .int .i64 i', .int .i64 j'] W fun e w' => (∃ A c, e = .returned (.slice A s.length c) ∧ VS w' (.slice A s.length c) s) ∧ Tb w' B g n ev ac m (tabl n m q) ∧ Below W.heap.size W w' := by
  subst hs ei ej
  have hx := ix_ok (n := n) q hi hj hm
  have e := tabl_rd (n := n) q hi hj
  refine (Between_in W B g n ev ac m (tabl n m q) i j _ ht hx (by omega) (by omega) (by omega) (by rw [e]; exact vld_fit (can_vld _ h1 h2))).mono ?_
  rw [e]
  rintro _ w' ⟨⟨v, rfl, hr⟩, hb⟩
  obtain ⟨A, c, rfl⟩ := Kd.R_slice hr
  exact ⟨⟨A, c, rfl, VS_R hr⟩, Tb_below ht hb, hb⟩
set_option maxHeartbeats 4000000 in
theorem PropagateExamples_walk (w : World) :
    Calls Try.prog 4 #[] w fun e w' => e = .returned (.bool true) ∧ Below w.heap.size w w' := by
  go_enter Try.func4, Try.ntmps4
  go_wp2_with fail
  refine (railplanlaw13_small.calls 10 exE exA w rfl).mono ?_
  rintro _ w1 ⟨v1, v2, rfl, h1, h2, hb⟩
  obtain ⟨A1, c1, rfl⟩ := Kd.R_slice h1
  obtain ⟨A2, c2, rfl⟩ := Kd.R_slice h2
  have H1 := Aside0.mk (Kd.R_reads' h1).2.2
  have H2 := Aside0.mk (Kd.R_reads' h2).2.2
  have HB := Aside0.mk hb
  clear h1 h2 hb
  go_wp2_with fail
  refine (Close_ok (n := 10) _ A1 A2 c1 c2 exE exA H1.out H2.out ex_ok).mono ?_
  rintro _ w2 ⟨⟨g, sets, rfl, ht, hc⟩, hb⟩
  have HB2 := Aside0.mk (below_step HB.out hb)
  obtain ⟨q, rfl, hf, e01, e02⟩ := ex_case hc
  have HT := Aside0.mk ht
  have HF := Aside0.mk hf
  have H01 := Aside0.mk e01
  have H02 := Aside0.mk e02
  clear ht hf e01 e02 hc hb HB H1 H2
  generalize w1.heap.size = B at *
  go_wp2_with fail
  refine (exBtw HT.out (by decide) (by decide) (by decide) (by decide) (by decide) H01.out 0 1 rfl rfl).mono ?_
  rintro _ w3 ⟨⟨Aa, ca, rfl, hv⟩, ht, hb⟩
  have HB3 := Aside0.mk (below_step HB2.out hb)
  have HT3 := Aside0.mk ht
  have HV3 := Aside0.mk (VS_alloc hv (.cells #[.int .i64 3, .int .i64 4] 41))
  clear hv ht hb HT HB2
  go_wp2_with fail
  refine (Same_c rfl (by decide) HV3.out (VS_one w3 3 4)).mono ?_
  rintro _ w4 ⟨rfl, hd⟩
  have HB4 := Aside0.mk (below_step (HB3.out.alloc HB3.out.size _) hd.below)
  have HT4 := Aside0.mk (Tb_below (Tb_below HT3.out ((Below.refl _ _).alloc (Nat.le_refl _) _)) hd.below)
  clear hd HB3 HT3 HV3
  go_wp2_with fail
  refine (exBtw HT4.out (by decide) (by decide) (by decide) (by decide) (by decide) H02.out 0 2 rfl rfl).mono ?_
  rintro _ w5 ⟨⟨Ab, cb, rfl, hv⟩, ht, hb⟩
  have HB5 := Aside0.mk (below_step HB4.out hb)
  have HT5 := Aside0.mk ht
  have HV5 := Aside0.mk (VS_alloc hv (.cells #[.int .i64 7, .int .i64 8] 41))
  clear hv ht hb HT4 HB4
  go_wp2_with fail
  refine (Same_c rfl (by decide) HV5.out (VS_one w5 7 8)).mono ?_
  rintro _ w6 ⟨rfl, hd⟩
  have HB6 := Aside0.mk (below_step (HB5.out.alloc HB5.out.size _) hd.below)
  have HT6 := Aside0.mk (Tb_below (Tb_below HT5.out ((Below.refl _ _).alloc (Nat.le_refl _) _)) hd.below)
  clear hd HB5 HT5 HV5
  go_wp2_with fail
  refine (Empty_c w6 B g 10 exE exA 3 (tabl 10 3 q) HT6.out).mono ?_
  rw [full_iff.2 HF.out]
  rintro _ _ ⟨rfl, rfl⟩
  go_wp2_with fail
  go_ret
  exact ⟨rfl, HB6.out⟩
end Go.Proofs.Ytkbcgahpekmlbaa.Pure
