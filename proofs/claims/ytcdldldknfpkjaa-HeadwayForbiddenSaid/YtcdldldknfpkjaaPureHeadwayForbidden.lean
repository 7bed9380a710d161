/- A residue is forbidden exactly if the movements hold a resource together for a departure with this residue, for every argument. -/
import Derived.Test.YtcdldldknfpkjaaLHwM2
import Derived.Deep.LoopGhost
namespace Go.Proofs.Ytcdldldknfpkjaa.Pure
open Go.RowKit Go.Proofs.Ytcdldldknfpkjaa.PHw Go.Proofs.YtcdldldknfpkjaaW.PrintWords Go.Proofs.YtcdldldknfpkjaaW.PrintLast Go.Proofs.YtcdldldknfpkjaaW.PrintMore
set_option linter.unusedVariables false
set_option maxRecDepth 100000
/-- Some departure d + k * t, d + (k + 1) * t, .. (m of them) meets. -/
def anyk (a b : List S41) (d t : Int) : Nat → Int → Bool
  | 0, _ => false
  | m + 1, k => tog a b (d + k * t) || anyk a b d t m (k + 1)
theorem anyk_iff (a b : List S41) (d t : Int) : ∀ (m : Nat) (k : Int), anyk a b d t m k = true ↔ ∃ j : Int, k ≤ j ∧ j < k + m ∧ tog a b (d + j * t) = true
  | 0, k => ⟨fun h => (by cases h), fun ⟨j, h1, h2, _⟩ => by omega⟩
  | m + 1, k => by
    simp only [anyk]
    rw [Bool.or_eq_true, anyk_iff a b d t m (k + 1)]
    constructor
    · rintro (h | ⟨j, h1, h2, h3⟩)
      · exact ⟨k, Int.le_refl _, by omega, h⟩
      · exact ⟨j, by omega, by omega, h3⟩
    · rintro ⟨j, h1, h2, h3⟩
      by_cases e : j = k
      · subst e; exact .inl h3
      · exact .inr ⟨j, by omega, by omega, h3⟩
theorem fbp_anyk {n : Nat} (hn : 1 ≤ n) {a b : List S41} (ha : ovld a = true) (hb : ovld b = true) (ta : ∀ x ∈ a, Tiny x) (tb : ∀ x ∈ b, Tiny x) (d : Int) (d0 : 0 ≤ d) (d1 : d < n) (Q : Int) (Q0 : 0 ≤ Q) (hQ1 : (Q : Int) * n ≤ 200) (hQ2 : 200 < (Q + 1 : Int) * n) :
    fbp n a b d = anyk a b d n (2 * Q + 3).toNat (-Q - 1) := by
  rw [Bool.eq_iff_iff, fbp_iff hn ha hb, anyk_iff]
  constructor
  · rintro ⟨k, hk⟩
    obtain ⟨x, hx, y, hy, h0, h1, h2⟩ := (tog_iff _ _ _).1 hk
    have t1 := ta x hx
    have t2 := tb y hy
    unfold Tiny at t1 t2
    have mono : ∀ u v : Int, u ≤ v → u * n ≤ v * n := fun u v h => Int.mul_le_mul_of_nonneg_right h (by omega)
    refine ⟨k, ?_, ?_, hk⟩
    · rcases Int.lt_or_le k (-Q - 1) with h | h
      · exfalso
        have := mono k (-(Q + 1) - 1) (by omega)
        have e : (-(Q + 1) - 1) * (n : Int) = -((Q + 1) * n) - n := by rw [Int.sub_mul, Int.neg_mul, Int.one_mul]
        omega
      · exact h
    · rcases Int.lt_or_le k (Q + 2) with h | h
      · omega
      · exfalso
        have := mono (Q + 1 + 1) k (by omega)
        have e : (Q + 1 + 1) * (n : Int) = (Q + 1) * n + n := by rw [Int.add_mul (Q + 1), Int.one_mul]
        omega
  · rintro ⟨j, _, _, h⟩; exact ⟨j, h⟩
set_option maxHeartbeats 2000000 in
theorem walk (w : World) (k : Nat) (A1 A2 : Option Addr) (c1 c2 : Nat) (l1 l2 : List Int) (t0 d0 q d : Int) (n : Nat) (Q : Int) (a b : List S41)
  (hr1 : Kd.C (Kd.int .i64) w A1 l1.length l1) (hc1 : l1.length ≤ c1) (hr2 : Kd.C (Kd.int .i64) w A2 l2.length l2) (hc2 : l2.length ≤ c2)
  (ha : railplankeep_Occupations.f k l1 = some a) (hb : railplankeep_Occupations.f k l2 = some b) (hq : railplankeep_Pick.f t0 90 = some q) (q0 : 0 ≤ q) (q1 : q < 90) (hn : (n : Int) = 1 + q) (hd : railplankeep_Pick.f d0 n = some d) (dl : 0 ≤ d) (dh : d < n)
  (fa : Fit a) (fb : Fit b) (va : ovld a = true) (vb : ovld b = true) (Q0 : 0 ≤ Q) (hQ : (200 : Int) / n = Q) (hQ1 : (Q : Int) * n ≤ 200) (hf : fbp n a b d = anyk a b d n (2 * Q + 3).toNat (-Q - 1)) :
    Calls Try.prog 5 #[.int .i64 t0, .slice A1 l1.length c1, .slice A2 l2.length c2, .int .i64 d0] w fun e w' => e = .returned (.bool true) ∧ Below w.heap.size w w' := by
  have HB := Aside0.mk (Below.refl w.heap.size w)
  have HA := Aside0.mk ha
  have HBb := Aside0.mk hb
  have HQ := Aside0.mk hq
  have HD := Aside0.mk hd
  have FA := Aside0.mk fa
  have FB := Aside0.mk fb
  have VVA := Aside0.mk va
  have VVB := Aside0.mk vb
  have HF := Aside0.mk hf
  have HQD := Aside0.mk hQ
  have HN := Aside0.mk hn
  have n1 : 1 ≤ n := by omega
  have n2 : n ≤ 90 := by omega
  clear ha hb hq hd fa fb va vb hf hQ hn
  have mono : Aside0 (∀ u v : Int, u ≤ v → u * n ≤ v * n) := ⟨fun u v h => Int.mul_le_mul_of_nonneg_right h (by omega)⟩
  have q200 : Aside0 (Int.tdiv (-200) n = -Q) := ⟨by rw [Int.neg_tdiv, Int.tdiv_eq_ediv_of_nonneg (by omega), HQD.out]⟩
  have Q200 : Q ≤ 200 := by have := mono.out 1 n (by omega); have := Int.mul_le_mul_of_nonneg_left (show (1 : Int) ≤ n by omega) Q0; omega
  go_enter Try.func5, Try.ntmps5
  go_wp2_with fail
  refine (Pick_c HQ.out).mono ?_
  rintro _ w1 ⟨rfl, hb⟩
  replace hr1 := Kd.C_below hr1 hb
  replace hr2 := Kd.C_below hr2 hb
  replace HB := Aside0.mk (below_step HB.out hb)
  clear hb
  go_wp2_with fail
  refine (Occ_c HA.out hr1 hc1).mono ?_
  rintro _ w2 ⟨Aa, ca, rfl, Va, hb⟩
  replace hr2 := Kd.C_below hr2 hb
  replace HB := Aside0.mk (below_step HB.out hb)
  clear hb
  go_wp2_with fail
  refine (Occ_c HBb.out hr2 hc2).mono ?_
  rintro _ w3 ⟨Ab, cb, rfl, Vb, hb⟩
  replace Va := VA_below Va hb
  replace HB := Aside0.mk (below_step HB.out hb)
  clear hb
  go_wp2_with fail
  rw [← HN.out]
  refine (Forbidden_good w3 _ _ _ _ a b n n1 (by omega) Va FA.out VVA.out Vb FB.out VVB.out).mono ?_
  rintro _ w4 ⟨⟨Af, cf, rfl, Vf⟩, hb⟩
  replace Va := VA_below Va hb
  replace Vb := VA_below Vb hb
  replace HB := Aside0.mk (below_step HB.out hb)
  clear hb hr1 hr2
  go_wp2_with fail
  refine (Pick_c HD.out).mono ?_
  rintro _ w5 ⟨rfl, hb⟩
  have HVA := Aside0.mk (VA_below Va hb)
  have HVB := Aside0.mk (VA_below Vb hb)
  have HVF := Aside0.mk (VS_below Vf hb)
  replace HB := Aside0.mk (below_step HB.out hb)
  clear hb Va Vb Vf
  go_wp2_with fail
  have e14 : wrap64 (wrap64 (-Int.tdiv 200 n) - 1) = -Q - 1 := by
    have := q200.out
    rw [Int.neg_tdiv] at this
    rw [this, wrap_ok (a := -Q) (by omega) (by omega), wrap_ok (by omega) (by omega)]
  rw [e14]
  clear e14 q200
  go_loopw [13, 14] (fun v13 v14 wr => ∃ (i : Int) (m : Nat) (x : Bool), v13 = .bool x ∧ v14 = .int .i64 i ∧ Aside0 (-Q - 1 ≤ i ∧ i + m = Q + 2) ∧ Aside0 ((x || anyk a b d n m i) = fbp n a b d) ∧ Aside0 (VA wr (.slice Aa a.length ca) a) ∧ Aside0 (VA wr (.slice Ab b.length cb) b) ∧ Aside0 (VS wr (.slice Af (can n (fbp n a b)).length cf) (can n (fbp n a b))) ∧ Aside0 (Below w.heap.size w wr)) (fun _ v14 _ => (Q + 2 - intOf v14).toNat)
  case atStart => exact ⟨-Q - 1, (2 * Q + 3).toNat, false, rfl, rfl, ⟨by omega⟩, ⟨by rw [HF.out]; rfl⟩, HVA, HVB, HVF, HB⟩
  case round =>
    clear HB HVA HVB HVF
    obtain ⟨i, m, x, rfl, rfl, HI, HR, HVA, HVB, HVF, HB⟩ := hrel
    obtain ⟨i0, i1⟩ := HI.out
    clear HI
    have hq200 : (200 : Int) / n = Q := HQD.out
    have p1 : i * n ≤ 20000 := by
      have h1 := mono.out i (Q + 1 + 1) (by omega)
      have e : (Q + 1 + 1) * (n : Int) = Q * n + n + n := by rw [Int.add_mul (Q + 1), Int.add_mul Q, Int.one_mul]
      omega
    have p0 : -20000 ≤ i * n := by
      have h1 := mono.out (-Q - 1) i (by omega)
      have e : (-Q - 1) * (n : Int) = -(Q * n) - n := by rw [Int.sub_mul, Int.neg_mul, Int.one_mul]
      omega
    cases m with
    | succ m =>
      have hle : i ≤ Q + 1 := by omega
      cases x with
      | true =>
        go_wp2_with fail
        go_roundw
        case rel =>
          refine ⟨i + 1, m, true, rfl, rfl, ⟨by omega⟩, ⟨?_⟩, HVA, HVB, HVF, HB⟩
          rw [← HR.out]; rfl
        case measure => simp [intOf]; omega
      | false =>
        go_wp2_with fail
        refine (tog_c (d + i * n) (by omega) (by omega) HVA.out HVB.out FA.out FB.out (ovld_small VVB.out)).mono ?_
        rintro _ w6 ⟨rfl, hb⟩
        have HVA1 := Aside0.mk (VA_below HVA.out hb)
        have HVB1 := Aside0.mk (VA_below HVB.out hb)
        have HVF1 := Aside0.mk (VS_below HVF.out hb)
        have HB1 := Aside0.mk (below_step HB.out hb)
        clear hb HVA HVB HVF HB
        go_wp2_with fail
        go_roundw
        case rel =>
          refine ⟨i + 1, m, tog a b (d + i * n), rfl, rfl, ⟨by omega⟩, ⟨?_⟩, HVA1, HVB1, HVF1, HB1⟩
          rw [← HR.out]; simp only [anyk, Bool.false_or]
        case measure => simp [intOf]; omega
    | zero =>
      have hgt : Q + 1 < i := by omega
      have HE : Aside0 (fbp n a b d = x) := ⟨by rw [← HR.out]; simp [anyk]⟩
      have vf := can_vld (n := n) (fbp n a b) n1 (by omega)
      have HX : Aside0 ((vld n (can n (fbp n a b)) && mem (can n (fbp n a b)) (d % n)) = x) := ⟨by rw [vf, Bool.true_and, em_lo dl dh, can_in _ dl dh]; exact HE.out⟩
      have FF := Aside0.mk (fit_le (vld_fit vf))
      clear vf HE HR HF
      generalize can n (fbp n a b) = F at *
      go_wp2_with fail
      refine (awake_c wr).mono ?_
      rintro _ w6 ⟨rfl, hb⟩
      have HVF1 := Aside0.mk (VS_below HVF.out hb)
      have HB1 := Aside0.mk (below_step HB.out hb)
      clear hb HVA HVB HVF HB
      go_wp2_with fail
      refine (rHas_c n1 (by omega) d FF.out HVF1.out).mono ?_
      rw [HX.out]
      rintro _ w7 ⟨rfl, hb⟩
      have HB2 := Aside0.mk (below_step HB1.out hb)
      clear hb HVF1 HB1
      go_wp2_with fail
      go_ret
      exact ⟨rfl, HB2.out⟩
theorem HeadwayForbidden_walk (w : World) (t : Int) (wt : (Lit.int .i64 t).wf = true) (A1 : Option Addr) (c1 : Nat) (l1 : List Int) (hr1 : Kd.C (Kd.int .i64) w A1 l1.length l1) (hc1 : l1.length ≤ c1) (y1 : l1.length * 8 ≤ 140737488351232) (hw1 : ∀ x ∈ l1, (Lit.int .i64 x).wf = true)
    (A2 : Option Addr) (c2 : Nat) (l2 : List Int) (hr2 : Kd.C (Kd.int .i64) w A2 l2.length l2) (hc2 : l2.length ≤ c2) (y2 : l2.length * 8 ≤ 140737488351232) (hw2 : ∀ x ∈ l2, (Lit.int .i64 x).wf = true) (d0 : Int) (wd : (Lit.int .i64 d0).wf = true) :
    Calls Try.prog 5 #[.int .i64 t, .slice A1 l1.length c1, .slice A2 l2.length c2, .int .i64 d0] w fun e w' => e = .returned (.bool true) ∧ Below w.heap.size w w' := by
  obtain ⟨a, ⟨K1, ea⟩, va, ta, na⟩ := Occ_ev l1 (by unfold Fit; omega)
  obtain ⟨b, ⟨K2, eb⟩, vb, tb, nb⟩ := Occ_ev l2 (by unfold Fit; omega)
  obtain ⟨q, hq, q0, q1⟩ := Pick_some t 90 (by omega) (by omega)
  obtain ⟨n, hn⟩ := Int.eq_ofNat_of_zero_le (show 0 ≤ 1 + q by omega)
  obtain ⟨d, hd, dl, dh⟩ := Pick_some d0 n (by omega) (by omega)
  have hp : (0 : Int) < n := by omega
  have hm := Int.emod_add_mul_ediv 200 n
  have hm2 := em_bound 200 hp
  have Q0 : 0 ≤ (200 : Int) / n := Int.ediv_nonneg (by omega) (by omega)
  have e1 : (200 : Int) / n * n = n * (200 / n) := Int.mul_comm _ _
  have e2 : ((200 : Int) / n + 1) * n = n * (200 / n) + n := by rw [Int.add_mul, Int.one_mul, Int.mul_comm]
  exact walk w (K1 + K2) A1 A2 c1 c2 l1 l2 t d0 q d n (200 / n) a b hr1 hc1 hr2 hc2 (ea _ (by omega)) (eb _ (by omega)) hq q0 q1 hn.symm hd dl dh (fit_le (by omega)) (fit_le (by omega)) va vb Q0 rfl (by omega)
    (fbp_anyk (by omega) va vb ta tb d dl dh _ Q0 (by omega) (by omega))
end Go.Proofs.Ytcdldldknfpkjaa.Pure
