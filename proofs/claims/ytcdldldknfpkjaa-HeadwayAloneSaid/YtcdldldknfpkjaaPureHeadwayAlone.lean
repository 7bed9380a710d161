/- A movement is alone exactly if it never holds a resource together with itself in another period, for every argument. -/
import Derived.Test.YtcdldldknfpkjaaLHwP3
import Derived.Test.YtcdldldknfpkjaaLHwC7
import Derived.Deep.LoopGhost
namespace Go.Proofs.Ytcdldldknfpkjaa.Pure
open Go.RowKit Go.Proofs.Ytcdldldknfpkjaa.PHw Go.Proofs.YtcdldldknfpkjaaW.PrintWords Go.Proofs.YtcdldldknfpkjaaW.PrintLast Go.Proofs.YtcdldldknfpkjaaW.PrintMore
set_option linter.unusedVariables false
set_option maxRecDepth 100000
/-- The loop's answer from period number k on. -/
def apart (a : List S41) (t : Int) : Nat → Int → Bool
  | 0, _ => true
  | d + 1, k => !tog a a (k * t) && apart a t d (k + 1)
theorem self_tog {a : List S41} (ha : ovld a = true) (d : Int) (hd : 0 < d) : tog a a d = true ↔ ∃ x ∈ a, d < x.f2 - x.f1 := by
  rw [tog_iff]
  constructor
  · rintro ⟨x, hx, y, hy, h0, h1, h2⟩
    have e : x = y := by
      have hc := (cm_mem (x, y) a a ha ha).2 ⟨hx, hy, h0⟩
      have : ∀ (a : List S41) (q : S41 × S41), q ∈ cm a a → q.1 = q.2 := by
        intro a
        induction a with
        | nil => intro q hq; rw [cm_nil] at hq; cases hq
        | cons z a ih =>
          intro q hq
          rw [cm_cons, if_neg (by omega), if_neg (by omega)] at hq
          rcases List.mem_cons.1 hq with rfl | hq
          · rfl
          · exact ih q hq
      exact this a (x, y) hc
    subst e
    exact ⟨x, hx, by omega⟩
  · rintro ⟨x, hx, h⟩
    have := ovF_mem a ha x hx
    exact ⟨x, hx, x, hx, rfl, by omega, by omega⟩
theorem apart_all {a : List S41} (ha : ovld a = true) (t : Int) (ht : 0 < t) (hl : ∀ x ∈ a, x.f2 - x.f1 ≤ t) : ∀ (d : Nat) (k : Int), 1 ≤ k → apart a t d k = true
  | 0, k, hk => rfl
  | d + 1, k, hk => by
    simp only [apart]
    rw [apart_all ha t ht hl d (k + 1) (by omega), Bool.and_true]
    rw [Bool.not_eq_true', Bool.eq_false_iff]
    intro hc
    have hkt : t ≤ k * t := by have := Int.mul_le_mul_of_nonneg_right hk (show 0 ≤ t by omega); omega
    obtain ⟨x, hx, h⟩ := (self_tog ha (k * t) (by omega)).1 hc
    have := hl x hx
    omega
theorem apart_one {a : List S41} (ha : ovld a = true) (t : Int) (ht : 0 < t) (x : S41) (hx : x ∈ a) (h : t < x.f2 - x.f1) (d : Nat) : apart a t (d + 1) 1 = false := by
  simp only [apart]
  rw [Int.one_mul, (self_tog ha t ht).2 ⟨x, hx, h⟩]; rfl
theorem aln_apart {a : List S41} (ha : ovld a = true) (t : Int) (h1 : 1 ≤ t) (h2 : t ≤ 60) (d : Nat) : aln t a = apart a t (d + 1) 1 := by
  unfold aln
  rw [ha, (per_iff t).2 ⟨h1, by omega⟩, Bool.true_and, Bool.true_and]
  cases hc : a.any (longer t) with
  | true =>
    rw [List.any_eq_true] at hc
    obtain ⟨x, hx, h⟩ := hc
    rw [apart_one ha t (by omega) x hx (by simpa [longer] using h)]; rfl
  | false =>
    rw [apart_all ha t (by omega) (fun x hx => ?_) _ 1 (Int.le_refl _)]; rfl
    rw [List.any_eq_false] at hc
    have := hc x hx
    simp [longer] at this
    exact this
set_option maxHeartbeats 1000000 in
theorem walk (w : World) (k : Nat) (A1 : Option Addr) (c1 : Nat) (l1 : List Int) (t0 q : Int) (a : List S41)
  (hr1 : Kd.C (Kd.int .i64) w A1 l1.length l1) (hc1 : l1.length ≤ c1)
  (ha : railplankeep_Occupations.f k l1 = some a) (hq : railplankeep_Pick.f t0 60 = some q) (q0 : 0 ≤ q) (q1 : q < 60) (fa : Fit a) (sa : ∀ y ∈ a, Small y) (hal : ∃ d : Nat, (d : Int) * (1 + q) ≤ 60 ∧ 60 < (d + 1 : Int) * (1 + q) ∧ aln (1 + q) a = apart a (1 + q) d 1) :
    Calls Try.prog 4 #[.int .i64 t0, .slice A1 l1.length c1] w fun e w' => e = .returned (.bool true) ∧ Below w.heap.size w w' := by
  obtain ⟨D, hD1, hD2, hal⟩ := hal
  have HB := Aside0.mk (Below.refl w.heap.size w)
  have HA := Aside0.mk ha
  have HQ := Aside0.mk hq
  have FA := Aside0.mk fa
  have SA := Aside0.mk sa
  have HAL := Aside0.mk hal
  have D1 := Aside0.mk hD1
  have D2 := Aside0.mk hD2
  clear ha hq fa sa hal hD1 hD2
  go_enter Try.func4, Try.ntmps4
  go_wp2_with fail
  refine (Pick_c HQ.out).mono ?_
  rintro _ w1 ⟨rfl, hb⟩
  replace hr1 := Kd.C_below hr1 hb
  replace HB := Aside0.mk (below_step HB.out hb)
  clear hb
  go_wp2_with fail
  refine (Occ_c HA.out hr1 hc1).mono ?_
  rintro _ w2 ⟨Aa, ca, rfl, Va, hb⟩
  replace HB := Aside0.mk (below_step HB.out hb)
  have HV := Aside0.mk Va
  clear hb Va hr1
  go_wp2_with fail
  go_loopw [6, 7] (fun v6 v7 wr => ∃ (i : Int) (d : Nat) (b : Bool), v6 = .bool b ∧ v7 = .int .i64 i ∧ Aside0 (1 ≤ i ∧ i + d = D + 1) ∧ Aside0 ((b && apart a (1 + q) d i) = apart a (1 + q) D 1) ∧ Aside0 (VA wr (.slice Aa a.length ca) a) ∧ Aside0 (Below w.heap.size w wr)) (fun _ v7 _ => (D + 2) - (intOf v7).toNat)
  case atStart => exact ⟨1, D, true, rfl, rfl, ⟨by omega⟩, ⟨rfl⟩, HV, HB⟩
  case round =>
    clear HB HV
    obtain ⟨i, d, b, rfl, rfl, HI, HR, HV, HB⟩ := hrel
    obtain ⟨i0, i1⟩ := HI.out
    clear HI
    have hqm : ∀ x y : Int, x ≤ y → x * (1 + q) ≤ y * (1 + q) := fun x y h => Int.mul_le_mul_of_nonneg_right h (by omega)
    have hp0 : 0 ≤ i * (1 + q) := Int.mul_nonneg (by omega) (by omega)
    have hD : (D : Int) ≤ 60 := by have := hqm 1 D; have := Int.mul_le_mul_of_nonneg_left (show 1 ≤ 1 + q by omega) (show (0 : Int) ≤ D by omega); have := D1.out; omega
    have hp1 : i * (1 + q) ≤ 3660 := by have h1 := Int.mul_le_mul_of_nonneg_left (show 1 + q ≤ 60 by omega) (show (0 : Int) ≤ i by omega); omega
    cases d with
    | succ d =>
      have hle : i * (1 + q) ≤ 60 := by have := hqm i D (by omega); have := D1.out; omega
      clear hqm
      cases b with
      | true =>
        go_wp2_with fail
        refine (tog_c (i * (1 + q)) (by omega) (by omega) HV.out HV.out FA.out FA.out SA.out).mono ?_
        rintro _ w3 ⟨rfl, hb⟩
        have HV1 := Aside0.mk (VA_below HV.out hb)
        have HB1 := Aside0.mk (below_step HB.out hb)
        clear hb HV HB
        go_wp2_with fail
        go_roundw
        case rel =>
          refine ⟨i + 1, d, !tog a a (i * (1 + q)), rfl, rfl, ⟨by omega⟩, ⟨?_⟩, HV1, HB1⟩
          rw [← HR.out]; simp only [apart, Bool.true_and]
        case measure => simp [intOf]; omega
      | false =>
        go_wp2_with fail
        go_roundw
        case rel =>
          refine ⟨i + 1, d, false, rfl, rfl, ⟨by omega⟩, ⟨?_⟩, HV, HB⟩
          rw [← HR.out]; rfl
        case measure => simp [intOf]; omega
    | zero =>
      have hgt : 60 < i * (1 + q) := by have := hqm (D + 1) i (by omega); have := D2.out; omega
      clear hqm
      have HE : Aside0 (aln (1 + q) a = b) := ⟨by rw [HAL.out, ← HR.out]; simp [apart]⟩
      clear HAL HR
      go_wp2_with fail
      refine (awake_c wr).mono ?_
      rintro _ w3 ⟨rfl, hb⟩
      have HV1 := Aside0.mk (VA_below HV.out hb)
      have HB1 := Aside0.mk (below_step HB.out hb)
      clear hb HV HB
      go_wp2_with fail
      refine (Alone_c w3 Aa ca a (1 + q) HV1.out FA.out).mono ?_
      rw [HE.out]
      rintro _ w4 ⟨rfl, hb⟩
      have HB2 := Aside0.mk (below_step HB1.out hb)
      clear hb HV1 HB1
      go_wp2_with fail
      go_ret
      exact ⟨rfl, HB2.out⟩
theorem HeadwayAlone_walk (w : World) (t : Int) (wt : (Lit.int .i64 t).wf = true) (A1 : Option Addr) (c1 : Nat) (l1 : List Int) (hr1 : Kd.C (Kd.int .i64) w A1 l1.length l1) (hc1 : l1.length ≤ c1) (y1 : l1.length * 8 ≤ 140737488351232) (hw1 : ∀ x ∈ l1, (Lit.int .i64 x).wf = true) :
    Calls Try.prog 4 #[.int .i64 t, .slice A1 l1.length c1] w fun e w' => e = .returned (.bool true) ∧ Below w.heap.size w w' := by
  obtain ⟨a, ⟨K1, ea⟩, va, ta, na⟩ := Occ_ev l1 (by unfold Fit; omega)
  obtain ⟨q, hq, q0, q1⟩ := Pick_some t 60 (by omega) (by omega)
  refine walk w K1 A1 c1 l1 t q a hr1 hc1 (ea _ (Nat.le_refl _)) hq q0 q1 (fit_le (by omega)) (ovld_small va) ?_
  have hp : (0 : Int) < 1 + q := by omega
  have hm := Int.emod_add_mul_ediv 60 (1 + q)
  have hm2 := em_bound 60 hp
  have hd1 : 1 ≤ 60 / (1 + q) := (Int.le_ediv_iff_mul_le hp).2 (by omega)
  refine ⟨(60 / (1 + q)).toNat, ?_, ?_, ?_⟩
  · rw [Int.toNat_of_nonneg (by omega), Int.mul_comm]; omega
  · rw [Int.toNat_of_nonneg (by omega), Int.add_mul, Int.one_mul, Int.mul_comm]; omega
  · obtain ⟨d, hd⟩ : ∃ d, (60 / (1 + q)).toNat = d + 1 := ⟨(60 / (1 + q)).toNat - 1, by omega⟩
    rw [hd]; exact aln_apart va (1 + q) (by omega) (by omega) d
end Go.Proofs.Ytcdldldknfpkjaa.Pure
