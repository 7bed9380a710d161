/- What PropagateReference stands on, part 2. -/
import Derived.Test.YtkbcgahpekmlbaaJPropagateReference0
import Derived.StillTailTactics
import Derived.Test.YtkbcgahpekmlbaaPPgx24
import Derived.Test.YtkbcgahpekmlbaaPPgx31
import Derived.Test.YtkbcgahpekmlbaaPPgx25
import Derived.Test.YtkbcgahpekmlbaaPPgx33
import Derived.Deep.RegionLaw
import Derived.Deep.DrawnRows
namespace Go.Proofs.Ytkbcgahpekmlbaa.PPg
open Go.RowKit Go.Proofs.YtkbcgahpekmlbaaW.PrintWords Go.Proofs.YtkbcgahpekmlbaaW.PrintLast Go.Proofs.YtkbcgahpekmlbaaW.PrintMore
set_option linter.unusedVariables false
set_option maxRecDepth 100000
def offq (q : Mx) (i k : Nat) (d : Int) : Mx := upd q i k (put1 (q i k) d false)
/-- Residues taken away that a third event excludes. -/
inductive Rch (n m : Nat) (q0 : Mx) : Mx → Prop
  | base : Rch n m q0 q0
  | step {q : Mx} {i j k : Nat} {d : Int} : Rch n m q0 q → i < m → j < m → k < m → 0 ≤ d → d < n → q i k d = true → sumB n (q i j) (q j k) d = false → Rch n m q0 (offq q i k d)
theorem Rch_trans {n m : Nat} {a b c : Mx} (h : Rch n m a b) (k : Rch n m b c) : Rch n m a c := by
  induction k with
  | base => exact h
  | step _ h1 h2 h3 h4 h5 h6 h7 ih => exact ih.step h1 h2 h3 h4 h5 h6 h7
theorem offq_at (q : Mx) (i k : Nat) (d : Int) (a b : Nat) (x : Int) : offq q i k d a b x = (q a b x && !(decide (a = i) && decide (b = k) && decide (x = d))) := by
  unfold offq upd put1
  by_cases e : a = i ∧ b = k
  · obtain ⟨rfl, rfl⟩ := e
    rw [if_pos ⟨rfl, rfl⟩]
    by_cases ex : x = d <;> simp [ex]
  · rw [if_neg e]
    have : (decide (a = i) && decide (b = k)) = false := by
      rw [Bool.and_eq_false_iff]
      by_cases e1 : a = i
      · exact .inr (decide_eq_false fun e2 => e ⟨e1, e2⟩)
      · exact .inl (decide_eq_false e1)
    rw [this]; simp
theorem offq_tot {n m i k : Nat} {q : Mx} {d : Int} (hi : i < m) (hk : k < m) (d0 : 0 ≤ d) (d1 : d < n) (hd : q i k d = true) : tot n m (offq q i k d) < tot n m q := by
  unfold offq
  rw [tot_upd q _ hi hk]
  have hc : cnt (put1 (q i k) d false) n < cnt (q i k) n := by
    by_cases h : cnt (put1 (q i k) d false) n < cnt (q i k) n
    · exact h
    · have := cnt_eq (p := put1 (q i k) d false) (q := q i k) (n := n) (fun x _ _ hx => by
        unfold put1 at hx
        split at hx
        · cases hx
        · exact hx) (by omega) d d0 d1
      rw [hd] at this
      unfold put1 at this
      rw [if_pos rfl] at this
      cases this
  omega
theorem Rch_sub {n m : Nat} {q0 q : Mx} (h : Rch n m q0 q) : ∀ i j x, q i j x = true → q0 i j x = true := by
  induction h with
  | base => exact fun _ _ _ h => h
  | step _ _ _ _ _ _ _ _ ih =>
    intro a b x hx
    rw [offq_at, Bool.and_eq_true] at hx
    exact ih a b x hx.1
theorem Rch_le {n m : Nat} (hn : 1 ≤ n) {q0 q f : Mx} (hw : FC n m f) (h0 : le n m f q0) (h : Rch n m q0 q) : le n m f q := by
  induction h with
  | base => exact h0
  | @step q i j k d _ hi hj hk d0 d1 _ hs ih =>
    intro a b ha hb x x0 x1 hx
    rw [offq_at, ih a b ha hb x x0 x1 hx, Bool.true_and]
    cases e : (decide (a = i) && decide (b = k) && decide (x = d)) with
    | false => rfl
    | true =>
      simp only [Bool.and_eq_true, decide_eq_true_eq] at e
      obtain ⟨⟨rfl, rfl⟩, rfl⟩ := e
      have := sumB_mono hn (fun y y0 y1 hy => ih a j ha hj y y0 y1 hy) (fun y y0 y1 hy => ih j b hj hb y y0 y1 hy) (hw a j b ha hj hb x x0 x1 hx)
      rw [hs] at this
      cases this
/-- What the reference's table is, beside the program's. -/
theorem ref_same {n m : Nat} (hn : 1 ≤ n) {ev : List S65} {ac : List S30} {q0 q q' : Mx} (hm : ev.length = m) (h0 : same n m q0 (initM n ac)) (hr : Rch n m q0 q) (hf : FC n m q) (hq : TabOk n ev ac q') : same n m q' q := by
  subst hm
  have l0 : le n ev.length q (initM n ac) := fun i j hi hj x x0 x1 hx => by rw [← h0 i j hi hj x x0 x1]; exact Rch_sub hr i j x hx
  rcases hq with ⟨rfl, hc⟩ | hc
  · intro i j hi hj x x0 x1
    show false = q i j x
    refine (Bool.eq_false_iff.2 fun hx => hc.2 q (FC_WC hf) l0 fun a b ha hb => ?_).symm
    -- if one set is empty, all are
    have key : ∀ a b, a < ev.length → b < ev.length → (∀ x : Int, 0 ≤ x → x < n → q a b x = false) → False := by
      intro a b ha hb he
      obtain ⟨d, d0, d1, h1, h2⟩ := sumB_iff.1 (hf i a j hi ha hj x x0 x1 hx)
      have e0 := Int.emod_nonneg (x - d) (show (n : Int) ≠ 0 by omega)
      have e1 := Int.emod_lt_of_pos (x - d) (show (0 : Int) < n by omega)
      obtain ⟨d', d0', d1', h3, h4⟩ := sumB_iff.1 (hf a b j ha hb hj _ e0 e1 h2)
      rw [he d' d0' d1'] at h3
      cases h3
    by_cases hex : ∃ x : Int, 0 ≤ x ∧ x < n ∧ q a b x = true
    · exact hex
    · exact (key a b ha hb fun x x0 x1 => Bool.eq_false_iff.2 fun h => hex ⟨x, x0, x1, h⟩).elim
  · have l1 : le n ev.length q' q := Rch_le hn hc.fc (fun i j hi hj x x0 x1 hx => by rw [h0 i j hi hj x x0 x1]; exact hc.sub i j hi hj x x0 x1 hx) hr
    have l2 : le n ev.length q q' := hc.most q (FC_WC hf) l0
    intro i j hi hj x x0 x1
    cases e : q i j x with
    | true => exact l2 i j hi hj x x0 x1 e
    | false => exact Bool.eq_false_iff.2 fun h => by rw [l1 i j hi hj x x0 x1 h] at e; cases e
/-- The reference's table, by pairs. -/
def RTq (w w0 : World) (g n : Nat) (ev : List S65) (ac : List S30) (bs : List Nat) (m : Nat) (q : Mx) : Prop := RT w w0 g n ev ac bs (fun k => q (k / m) (k % m)) ∧ bs.length = m * m
section
variable {w w' w0 : World} {g n m : Nat} {ev : List S65} {ac : List S30} {bs : List Nat} {q : Mx}
theorem RTq_below (h : RTq w w0 g n ev ac bs m q) (hb : Below w.heap.size w w') : RTq w' w0 g n ev ac bs m q := ⟨RT_below h.1 hb, h.2⟩
theorem RTq_hdr (h : RTq w w0 g n ev ac bs m q) {i k : Nat} (hi : i < m) (hk : k < m) : ∃ b, bs[i * m + k]? = some b := ⟨_, List.getElem?_eq_getElem (by rw [h.2]; exact ix_lt hi hk)⟩
theorem RTq_cell (h : RTq w w0 g n ev ac bs m q) {i k b d : Nat} (hk : k < m) (hb : bs[i * m + k]? = some b) (hd : d < n) : w.cell? ⟨b, d, none⟩ = some (.bool (q i k d)) ∧ w.frozen? ⟨b, d, none⟩ = false := by
  have := RT_cell h.1 hb hd
  rwa [ix_div hk, ix_mod hk] at this
theorem RTq_off (h : RTq w w0 g n ev ac bs m q) {i k b : Nat} (hi : i < m) (hk : k < m) (hb : bs[i * m + k]? = some b) (d : Nat) : RTq (w.setCell ⟨b, d, none⟩ (.bool false)) w0 g n ev ac bs m (offq q i k d) := by
  refine ⟨RT_congr (RT_put h.1 hb d false) fun k' hk' x x0 x1 => ?_, h.2⟩
  rw [h.2] at hk'
  obtain ⟨a, b', ha, hb', rfl⟩ := ix_form hk'
  unfold offq upd
  simp only [ix_div hb', ix_mod hb', ix_div hk, ix_mod hk]
  by_cases e : a = i ∧ b' = k
  · obtain ⟨rfl, rfl⟩ := e
    rw [if_pos rfl, if_pos ⟨rfl, rfl⟩]
  · rw [if_neg (fun e' => e (ix_inj hb' hk e')), if_neg e]
theorem RTq_ge (h : RTq w w0 g n ev ac bs m q) {k b : Nat} (hb : bs[k]? = some b) : w0.heap.size ≤ b := (h.1.rows k b hb).2
theorem RTq_congr {q' : Mx} (h : RTq w w0 g n ev ac bs m q) (hq : same n m q q') : RTq w w0 g n ev ac bs m q' := by
  refine ⟨RT_congr h.1 fun k' hk' x x0 x1 => ?_, h.2⟩
  rw [h.2] at hk'
  obtain ⟨a, b', ha, hb', rfl⟩ := ix_form hk'
  simp only [ix_div hb', ix_mod hb']
  exact hq a b' ha hb' x x0 x1
/-- Only sets' cells are written. -/
def Kr (w w' : World) : Prop := w.heap.size ≤ w'.heap.size ∧ ∀ (k : Nat) (cells : Array Value) (t : TypeId), t ≠ 4 → w.heap[k]? = some (.cells cells t (0, 0)) → w'.heap[k]? = some (.cells cells t (0, 0))
theorem Kr_refl (w : World) : Kr w w := ⟨Nat.le_refl _, fun _ _ _ _ h => h⟩
theorem Kr_trans {a b c : World} (h : Kr a b) (k : Kr b c) : Kr a c := ⟨Nat.le_trans h.1 k.1, fun i cs t ht hc => k.2 i cs t ht (h.2 i cs t ht hc)⟩
theorem Kr_below {w w' : World} (h : Below w.heap.size w w') : Kr w w' := ⟨h.size, fun i cs t _ hc => (h.block i (blk_lt hc)).trans hc⟩
theorem Kr_off (h : RTq w w0 g n ev ac bs m q) {k b : Nat} (hb : bs[k]? = some b) (d : Nat) (v : Value) : Kr w (w.setCell ⟨b, d, none⟩ v) :=
  ⟨by simp, fun i cs t ht hc => (Below.heap_setCell w ⟨b, d, none⟩ v i (blk_ne hc (h.1.rows k b hb).1 ht)).trans hc⟩
end
end Go.Proofs.Ytkbcgahpekmlbaa.PPg

namespace Go.Proofs.Ytkbcgahpekmlbaa.PPg
open Go.RowKit Go.Proofs.YtkbcgahpekmlbaaW.PrintWords Go.Proofs.YtkbcgahpekmlbaaW.PrintLast Go.Proofs.YtkbcgahpekmlbaaW.PrintMore
set_option linter.unusedVariables false
set_option maxRecDepth 100000
theorem ret_i64 {a b : Int} (h : a = b) : Ending.returned (.int .i64 a) = .returned (.int .i64 b) := by rw [h]
theorem rMod_w (w : World) (a n r : Int) (h1 : 1 ≤ n) (h2 : n ≤ 7200) (h3 : -1000000 ≤ a) (h4 : a ≤ 1000000) (hr : a % n = r) : Calls Try.prog 44 #[.int .i64 a, .int .i64 n] w fun e w' => e = .returned (.int .i64 r) ∧ w = w' := by
  subst hr
  have hz : (n == 0) = false := by simp; omega
  have b0 := Int.emod_nonneg a (show n ≠ 0 by omega)
  have b1 := Int.emod_lt_of_pos a (show 0 < n by omega)
  have t0 : Int.tmod a n = if 0 ≤ a ∨ a % n = 0 then a % n else a % n - n := by
    rw [Int.tmod_eq_emod]
    have e : (n : Int) ∣ a ↔ a % n = 0 := Int.dvd_iff_emod_eq_zero
    by_cases c : 0 ≤ a ∨ n ∣ a
    · rw [if_pos c, if_pos (by rcases c with c | c; exact .inl c; exact .inr (e.1 c))]; omega
    · rw [if_neg c, if_neg (fun h => c (h.imp id e.2))]
      have : (n.natAbs : Int) = n := by omega
      omega
  by_cases c : 0 ≤ a ∨ a % n = 0
  · rw [if_pos c] at t0
    have HT := Aside0.mk t0
    have ht0 : 0 ≤ Int.tmod a n := by omega
    have ht1 : Int.tmod a n < n := by omega
    clear t0 c b0 b1
    go_enter Try.func44, Try.ntmps44
    go_wp2_with fail
    go_ret
    exact ⟨ret_i64 (by first | rfl | exact HT.out), rfl⟩
  · rw [if_neg c] at t0
    have c1 : a < 0 := by omega
    have c2 : a % n ≠ 0 := by omega
    have HT := Aside0.mk t0
    have ht0 : Int.tmod a n < 0 := by omega
    have ht1 : -n < Int.tmod a n := by omega
    have hw : wrap64 (Int.tmod a n + n) = Int.tmod a n + n := IntWalk.wrap64_in _ (by omega)
    clear t0 c b0 b1 c1 c2
    go_enter Try.func44, Try.ntmps44
    go_wp2_with fail
    go_ret
    exact ⟨ret_i64 (by have := HT.out; omega), rfl⟩
theorem rMod_q {w : World} {k : Nat} {a n r : Int} (h1 : 1 ≤ n) (h2 : n ≤ 7200) (h3 : -1000000 ≤ a) (h4 : a ≤ 1000000) (hr : a % n = r) : Calls Try.prog 44 #[.int .i64 a, .int .i64 n] (w.drewN k) fun e w'' => e = .returned (.int .i64 r) ∧ ∃ q, w'' = w.drewN q :=
  (rMod_w (w.drewN k) a n r h1 h2 h3 h4 hr).mono fun _ _ ⟨he, hw⟩ => ⟨he, k, hw.symm⟩
theorem rMod_s {w : World} {a n r : Int} (h1 : 1 ≤ n) (h2 : n ≤ 7200) (h3 : -1000000 ≤ a) (h4 : a ≤ 1000000) (hr : a % n = r) : Calls Try.prog 44 #[.int .i64 a, .int .i64 n] w fun e w'' => e = .returned (.int .i64 r) ∧ w'' = w :=
  (rMod_w w a n r h1 h2 h3 h4 hr).mono fun _ _ ⟨he, hw⟩ => ⟨he, hw.symm⟩
/-- The sums seen before e. -/
def some_ (n : Nat) (a b : Int → Bool) (x : Int) (e : Nat) : Bool := (List.range e).any fun d : Nat => a d && b ((x - d) % n)
theorem some_succ (n : Nat) (a b : Int → Bool) (x : Int) (e : Nat) : some_ n a b x (e + 1) = (some_ n a b x e || (a e && b ((x - e) % n))) := by
  unfold some_
  rw [List.range_succ, List.any_append, List.any_cons, List.any_nil, Bool.or_false]
theorem some_all (n : Nat) (a b : Int → Bool) (x : Int) : some_ n a b x n = sumB n a b x := rfl
theorem some_true {n : Nat} {a b : Int → Bool} {x : Int} {e : Nat} (h : some_ n a b x e = true) (he : e ≤ n) : sumB n a b x = true := by
  rw [← some_all]
  unfold some_ at *
  rw [List.any_eq_true] at *
  obtain ⟨d, hd, h⟩ := h
  exact ⟨d, List.mem_range.2 (by have := List.mem_range.1 hd; omega), h⟩
/-- What restrict did. -/
def Rst (w0 w : World) (g n : Nat) (ev : List S65) (ac : List S30) (bs : List Nat) (m : Nat) (q : Mx) (i j k : Nat) (e : Ending) (w' : World) : Prop :=
  ∃ q' any, e = .returned (.bool any) ∧ RTq w' w0 g n ev ac bs m q' ∧ Below w0.heap.size w0 w' ∧ Kr w w' ∧ Rch n m q q' ∧ (any = false → q' = q ∧ ∀ x : Int, 0 ≤ x → x < n → q i k x = true → sumB n (q i j) (q j k) x = true) ∧ (any = true → tot n m q' < tot n m q)
set_option maxHeartbeats 4000000 in
theorem Restrict_c {w0 w : World} {g n m i j k b1 b2 b3 : Nat} {ev : List S65} {ac : List S30} {bs : List Nat} {q : Mx} (h1 : 1 ≤ n) (h2 : n ≤ 7200) (hi : i < m) (hj : j < m) (hk : k < m) (e1 : bs[i * m + k]? = some b1) (e2 : bs[i * m + j]? = some b2) (e3 : bs[j * m + k]? = some b3)
    (hT : RTq w w0 g n ev ac bs m q) (hB : Below w0.heap.size w0 w) :
    Calls Try.prog 81 #[.pointer (some ⟨g, 0, none⟩), .slice (some ⟨b1, 0, none⟩) n n, .slice (some ⟨b2, 0, none⟩) n n, .slice (some ⟨b3, 0, none⟩) n n] w (Rst w0 w g n ev ac bs m q i j k) := by
  have HT := Aside0.mk hT
  have HB := Aside0.mk hB
  have E1 := Aside0.mk e1
  have E2 := Aside0.mk e2
  have E3 := Aside0.mk e3
  have hP := RT_P hT.1
  clear hT hB e1 e2 e3
  go_enter Try.func81, Try.ntmps81
  go_wp2_with fail
  clear hP
  go_loopw [10, 11] (fun v10 v11 wr => ∃ (d : Nat) (any : Bool) (q' : Mx), v11 = .int .i64 d ∧ v10 = .bool any ∧ Aside0 (d ≤ n ∧ Below w0.heap.size w0 wr ∧ Kr w wr) ∧ Aside0 (RTq wr w0 g n ev ac bs m q') ∧ Aside0 (Rch n m q q' ∧ (any = false → q' = q ∧ ∀ x : Int, 0 ≤ x → x < d → q i k x = true → sumB n (q i j) (q j k) x = true) ∧ (any = true → tot n m q' < tot n m q))) (fun _ v11 _ => n - (intOf v11).toNat)
  case atStart => exact ⟨0, false, q, rfl, rfl, ⟨Nat.zero_le _, HB.out, Kr_refl w⟩, HT, ⟨.base, fun _ => ⟨rfl, fun x x0 x1 => by omega⟩, (fun h => by cases h)⟩⟩
  case round =>
    clear HT HB
    obtain ⟨d, any, q', rfl, rfl, HD, HT, HR⟩ := hrel
    have d1 := HD.out.1
    by_cases cd : d < n
    · obtain ⟨c1, f1⟩ := RTq_cell HT.out hk E1.out cd
      obtain ⟨b, hb⟩ : ∃ b, q' i k d = b := ⟨_, rfl⟩
      rw [hb] at c1
      have HBD := Aside0.mk hb
      clear hb
      cases b with
      | false =>
        go_wp2_with fail
        go_roundw
        case rel =>
          refine ⟨d + 1, any, q', by go_num, rfl, ⟨by omega, HD.out.2⟩, HT, ⟨HR.out.1, fun ha => ?_, HR.out.2.2⟩⟩
          obtain ⟨rfl, h⟩ := HR.out.2.1 ha
          refine ⟨rfl, fun x x0 x1 hx => ?_⟩
          by_cases e : x = d
          · subst e; rw [HBD.out] at hx; cases hx
          · exact h x x0 (by omega) hx
        case measure => simp [intOf]; omega
      | true =>
        go_wp2_with fail
        go_loop [12, 13] (fun v12 v13 => ∃ (e : Nat) (ok : Bool), v13 = .int .i64 e ∧ v12 = .bool ok ∧ Aside0 (e ≤ n) ∧ Aside0 (some_ n (q' i j) (q' j k) d e = ok)) (fun _ v13 => n - (intOf v13).toNat)
        case atStart => exact ⟨0, false, rfl, rfl, ⟨Nat.zero_le _⟩, ⟨rfl⟩⟩
        case round =>
          obtain ⟨e, ok, rfl, rfl, HE, HO⟩ := hrel
          have e1 := HE.out
          cases ok with
          | true =>
            have HS := Aside0.mk (some_true HO.out e1)
            by_cases ce : e < n
            · go_wp2_with fail
              go_roundw
              case rel =>
                refine ⟨d + 1, any, q', by go_num, rfl, ⟨by omega, HD.out.2⟩, HT, ⟨HR.out.1, fun ha => ?_, HR.out.2.2⟩⟩
                obtain ⟨rfl, h⟩ := HR.out.2.1 ha
                refine ⟨rfl, fun x x0 x1 hx => ?_⟩
                by_cases e : x = d
                · subst e; exact HS.out
                · exact h x x0 (by omega) hx
              case measure => simp [intOf]; omega
            · go_wp2_with fail
              go_roundw
              case rel =>
                refine ⟨d + 1, any, q', by go_num, rfl, ⟨by omega, HD.out.2⟩, HT, ⟨HR.out.1, fun ha => ?_, HR.out.2.2⟩⟩
                obtain ⟨rfl, h⟩ := HR.out.2.1 ha
                refine ⟨rfl, fun x x0 x1 hx => ?_⟩
                by_cases e : x = d
                · subst e; exact HS.out
                · exact h x x0 (by omega) hx
              case measure => simp [intOf]; omega
          | false =>
            by_cases ce : e < n
            · obtain ⟨c2, _⟩ := RTq_cell HT.out hj E2.out ce
              obtain ⟨x, hx⟩ : ∃ x, q' i j e = x := ⟨_, rfl⟩
              rw [hx] at c2
              have HX := Aside0.mk hx
              clear hx
              have SS := Aside0.mk (some_succ n (q' i j) (q' j k) d e)
              cases x with
              | false =>
                go_wp2_with fail
                go_round
                case rel => exact ⟨e + 1, false, by go_num, rfl, ⟨by omega⟩, ⟨by rw [SS.out, HO.out, HX.out]; rfl⟩⟩
                case measure => simp [intOf]; omega
              | true =>
                have z0 := Int.emod_nonneg ((d : Int) - e) (show (n : Int) ≠ 0 by omega)
                have z1 := Int.emod_lt_of_pos ((d : Int) - e) (show (0 : Int) < n by omega)
                obtain ⟨r, hr⟩ : ∃ r : Nat, ((d : Int) - e) % n = (r : Int) := ⟨(((d : Int) - e) % n).toNat, by omega⟩
                have rn : r < n := by omega
                have HRR := Aside0.mk hr
                clear z0 z1 hr
                obtain ⟨c3, _⟩ := RTq_cell HT.out hk E3.out rn
                obtain ⟨y, hy⟩ : ∃ y, q' j k r = y := ⟨_, rfl⟩
                rw [hy] at c3
                have HY := Aside0.mk hy
                clear hy
                have wr1 : IntKind.i64.wrap ((d : Int) - (e : Int)) = d - e := (IntWalk.i64_left _).trans (IntWalk.wrap64_in _ (by omega))
                go_wp2_with fail
                refine (rMod_w _ ((d : Int) - e) n r (by omega) (by omega) (by omega) (by omega) HRR.out).mono ?_
                rintro _ _ ⟨rfl, rfl⟩
                clear wr1
                go_wp2_with fail
                go_round
                case rel => exact ⟨e + 1, y, by go_num, rfl, ⟨by omega⟩, ⟨by rw [SS.out, HO.out, HX.out, HRR.out, HY.out]; rfl⟩⟩
                case measure => simp [intOf]; omega
            · have en : e = n := by omega
              subst en
              have HS : Aside0 (sumB e (q' i j) (q' j k) d = false) := ⟨HO.out⟩
              have HT2 := Aside0.mk (RTq_off HT.out hi hk E1.out d)
              go_wp2_with fail
              go_roundw
              case rel =>
                have hdd : q' i k (d : Int) = true := HBD.out
                have hlt := offq_tot (n := e) hi hk (by omega : (0 : Int) ≤ d) (by omega) hdd
                refine ⟨d + 1, true, _, by go_num, rfl, ⟨by omega, HD.out.2.1.setCell (RTq_ge HT.out E1.out) _, Kr_trans HD.out.2.2 (Kr_off HT.out E1.out d _)⟩, HT2, ⟨HR.out.1.step hi hj hk (by omega) (by omega) hdd HS.out, (fun h => by cases h), fun _ => ?_⟩⟩
                cases any with
                | true => have := HR.out.2.2 rfl; omega
                | false => rw [(HR.out.2.1 rfl).1] at hlt ⊢; exact hlt
              case measure => simp [intOf]; omega
    · have dn : d = n := by omega
      subst dn
      go_wp2_with fail
      go_ret
      exact ⟨q', any, rfl, HT.out, HD.out.2.1, HD.out.2.2, HR.out⟩
end Go.Proofs.Ytkbcgahpekmlbaa.PPg

namespace Go.Proofs.Ytkbcgahpekmlbaa.PPg
open Go.RowKit Go.Proofs.YtkbcgahpekmlbaaW.PrintWords Go.Proofs.YtkbcgahpekmlbaaW.PrintLast Go.Proofs.YtkbcgahpekmlbaaW.PrintMore
set_option linter.unusedVariables false
set_option maxRecDepth 100000
/-- No residue of a pair is excluded by an event. -/
def incl (n : Nat) (q : Mx) (i j k : Nat) : Prop := ∀ x : Int, 0 ≤ x → x < n → q i k x = true → sumB n (q i j) (q j k) x = true
/-- Within a pass. -/
structure TI (w0 w W : World) (g n : Nat) (ev : List S65) (ac : List S30) (bs : List Nat) (m : Nat) (q : Mx) (i j k : Nat) (any : Bool) (q' : Mx) : Prop where
  tab : RTq W w0 g n ev ac bs m q'
  below : Below w0.heap.size w0 W
  keep : Kr w W
  reach : Rch n m q q'
  no : any = false → q' = q ∧ ∀ a b c, a < m → b < m → c < m → (a < i ∨ a = i ∧ (b < j ∨ b = j ∧ c < k)) → incl n q a b c
  yes : any = true → tot n m q' < tot n m q
section
variable {w0 w W W' : World} {g n m i j k : Nat} {ev : List S65} {ac : List S30} {bs : List Nat} {q q' : Mx} {any : Bool}
theorem TI_le (h : TI w0 w W g n ev ac bs m q i j k any q') : tot n m q' ≤ tot n m q := by
  cases any with
  | true => have := h.yes rfl; omega
  | false => rw [(h.no rfl).1]; exact Int.le_refl _
theorem TI_t {W1 : World} (h : TI w0 w W g n ev ac bs m q i j k any q') (hw : Kr w W1) {q'' : Mx} (ht : RTq W' w0 g n ev ac bs m q'') (hb : Below w0.heap.size w0 W') (hk : Kr W1 W') (hr : Rch n m q' q'') (hl : tot n m q'' < tot n m q') : TI w0 w W' g n ev ac bs m q i j (k + 1) true q'' :=
  ⟨ht, hb, Kr_trans hw hk, Rch_trans h.reach hr, (fun h => by cases h), fun _ => by have := TI_le h; omega⟩
theorem TI_f {W1 : World} (h : TI w0 w W g n ev ac bs m q i j k any q') (hw : Kr w W1) (ht : RTq W' w0 g n ev ac bs m q') (hb : Below w0.heap.size w0 W') (hk : Kr W1 W') (hi : incl n q' i j k) : TI w0 w W' g n ev ac bs m q i j (k + 1) any q' :=
  ⟨ht, hb, Kr_trans hw hk, h.reach, fun ha => by
    obtain ⟨e, h2⟩ := h.no ha
    subst e
    refine ⟨rfl, fun a b c ha hb hc hv => ?_⟩
    by_cases e : a = i ∧ b = j ∧ c = k
    · obtain ⟨rfl, rfl, rfl⟩ := e; exact hi
    · exact h2 a b c ha hb hc (by omega), h.yes⟩
theorem TI_j (h : TI w0 w W g n ev ac bs m q i j m any q') : TI w0 w W g n ev ac bs m q i (j + 1) 0 any q' :=
  ⟨h.tab, h.below, h.keep, h.reach, fun ha => ⟨(h.no ha).1, fun a b c ha' hb hc hv => (h.no ha).2 a b c ha' hb hc (by omega)⟩, h.yes⟩
theorem TI_i (h : TI w0 w W g n ev ac bs m q i m 0 any q') : TI w0 w W g n ev ac bs m q (i + 1) 0 0 any q' :=
  ⟨h.tab, h.below, h.keep, h.reach, fun ha => ⟨(h.no ha).1, fun a b c ha' hb hc hv => (h.no ha).2 a b c ha' hb hc (by omega)⟩, h.yes⟩
end
/-- What tighten did. -/
def Tgt (w0 w : World) (g n : Nat) (ev : List S65) (ac : List S30) (bs : List Nat) (m : Nat) (q : Mx) (e : Ending) (w' : World) : Prop :=
  ∃ q' any, e = .returned (.bool any) ∧ RTq w' w0 g n ev ac bs m q' ∧ Below w0.heap.size w0 w' ∧ Kr w w' ∧ Rch n m q q' ∧ (any = false → q' = q ∧ FC n m q) ∧ (any = true → tot n m q' < tot n m q)
set_option maxHeartbeats 8000000 in
theorem Tighten_c {w0 w : World} {g n : Nat} {ev : List S65} {ac : List S30} {bs : List Nat} {q : Mx} (h1 : 1 ≤ n) (h2 : n ≤ 7200) (hm : ev.length ≤ 48)
    (hT : RTq w w0 g n ev ac bs ev.length q) (hB : Below w0.heap.size w0 w) :
    Calls Try.prog 71 #[.pointer (some ⟨g, 0, none⟩)] w (Tgt w0 w g n ev ac bs ev.length q) := by
  have HT0 : Aside0 (TI w0 w w g n ev ac bs ev.length q 0 0 0 false q) := ⟨⟨hT, hB, Kr_refl w, .base, fun _ => ⟨rfl, fun a b c _ _ _ h => by omega⟩, (fun h => by cases h)⟩⟩
  obtain ⟨A1, c1, A2, c2, k1, _, _⟩ := RT_net hT.1
  clear hT hB
  obtain ⟨m, hmm⟩ : ∃ m, ev.length = m := ⟨_, rfl⟩
  rw [hmm] at HT0 hm k1 ⊢
  clear hmm
  go_enter Try.func71, Try.ntmps71
  go_wp2_with fail
  clear k1
  go_loopw [4, 5] (fun v4 v5 wr => ∃ (i : Nat) (any : Bool) (q' : Mx), v5 = .int .i64 i ∧ v4 = .bool any ∧ Aside0 (i ≤ m) ∧ Aside0 (TI w0 w wr g n ev ac bs m q i 0 0 any q')) (fun _ v5 _ => m - (intOf v5).toNat)
  case atStart => exact ⟨0, false, q, rfl, rfl, ⟨Nat.zero_le _⟩, HT0⟩
  case round =>
    clear HT0
    obtain ⟨i, any, q', rfl, rfl, HI, HT⟩ := hrel
    have i1 := HI.out
    by_cases ci : i < m
    · go_wp2_with fail
      go_loopw [4, 6] (fun v4 v6 wr2 => ∃ (j : Nat) (any : Bool) (q' : Mx), v6 = .int .i64 j ∧ v4 = .bool any ∧ Aside0 (j ≤ m) ∧ Aside0 (TI w0 w wr2 g n ev ac bs m q i j 0 any q')) (fun _ v6 _ => m - (intOf v6).toNat)
      case atStart => exact ⟨0, any, q', rfl, rfl, ⟨Nat.zero_le _⟩, HT⟩
      case round =>
        clear HT
        obtain ⟨j, any, q', rfl, rfl, HJ, HT⟩ := hrel
        have j1 := HJ.out
        by_cases cj : j < m
        · go_wp2_with fail
          go_loopw [4, 7] (fun v4 v7 wr3 => ∃ (k : Nat) (any : Bool) (q' : Mx), v7 = .int .i64 k ∧ v4 = .bool any ∧ Aside0 (k ≤ m) ∧ Aside0 (TI w0 w wr3 g n ev ac bs m q i j k any q')) (fun _ v7 _ => m - (intOf v7).toNat)
          case atStart => exact ⟨0, any, q', rfl, rfl, ⟨Nat.zero_le _⟩, HT⟩
          case round =>
            clear HT
            obtain ⟨k, any, q', rfl, rfl, HK, HT⟩ := hrel
            have k1 := HK.out
            by_cases ck : k < m
            · obtain ⟨b1, e1⟩ := RTq_hdr HT.out.tab ci ck
              obtain ⟨b2, e2⟩ := RTq_hdr HT.out.tab ci cj
              obtain ⟨b3, e3⟩ := RTq_hdr HT.out.tab cj ck
              have HE1 := Aside0.mk e1
              have HE2 := Aside0.mk e2
              have HE3 := Aside0.mk e3
              obtain ⟨gr, c, s3, t1⟩ := RT_at HT.out.tab.1 e1
              obtain ⟨gr', c', s3', t2⟩ := RT_at HT.out.tab.1 e2
              have := s3.symm.trans s3'
              injection this with this
              injection this with this _ _
              injection this with this
              injection this with this
              subst this
              obtain ⟨gr', c', s3'', t3⟩ := RT_at HT.out.tab.1 e3
              have := s3.symm.trans s3''
              injection this with this
              injection this with this _ _
              injection this with this
              injection this with this
              subst this
              clear s3' s3''
              have L := HT.out.tab.2
              have B1 := ix_lt ci ck
              have B2 := ix_lt ci cj
              have B3 := ix_lt cj ck
              have MM : m * m ≤ 2304 := Nat.mul_le_mul hm hm
              obtain ⟨im, him⟩ : ∃ im : Nat, i * m = im := ⟨_, rfl⟩
              obtain ⟨jm, hjm⟩ : ∃ jm : Nat, j * m = jm := ⟨_, rfl⟩
              have ai : (i : Int) * (m : Int) = (im : Int) := by rw [← him]; exact (Int.natCast_mul i m).symm
              have aj : (j : Int) * (m : Int) = (jm : Int) := by rw [← hjm]; exact (Int.natCast_mul j m).symm
              rw [him] at e1 e2 t1 t2 B1 B2
              rw [hjm] at e3 t3 B3
              clear him hjm e1 e2 e3
              obtain ⟨x1, hx1⟩ : ∃ x : Nat, im + k = x := ⟨_, rfl⟩
              obtain ⟨x2, hx2⟩ : ∃ x : Nat, im + j = x := ⟨_, rfl⟩
              obtain ⟨x3, hx3⟩ : ∃ x : Nat, jm + k = x := ⟨_, rfl⟩
              rw [hx1] at t1 B1
              rw [hx2] at t2 B2
              rw [hx3] at t3 B3
              have p1 : (x1 : Int) < bs.length := by omega
              have p2 : (x2 : Int) < bs.length := by omega
              have p3 : (x3 : Int) < bs.length := by omega
              have y1 : (im : Int) + (k : Int) = x1 := by omega
              have y2 : (im : Int) + (j : Int) = x2 := by omega
              have y3 : (jm : Int) + (k : Int) = x3 := by omega
              have w1 : IntKind.i64.wrap ((i : Int) * (m : Int)) = im := by rw [ai]; exact (IntWalk.i64_left _).trans (IntWalk.wrap64_in _ (by omega))
              have w2 : IntKind.i64.wrap ((j : Int) * (m : Int)) = jm := by rw [aj]; exact (IntWalk.i64_left _).trans (IntWalk.wrap64_in _ (by omega))
              have w3 : IntKind.i64.wrap ((im : Int) + (k : Int)) = x1 := by rw [y1]; exact (IntWalk.i64_left _).trans (IntWalk.wrap64_in _ (by omega))
              have w4 : IntKind.i64.wrap ((im : Int) + (j : Int)) = x2 := by rw [y2]; exact (IntWalk.i64_left _).trans (IntWalk.wrap64_in _ (by omega))
              have w5 : IntKind.i64.wrap ((jm : Int) + (k : Int)) = x3 := by rw [y3]; exact (IntWalk.i64_left _).trans (IntWalk.wrap64_in _ (by omega))
              clear hx1 hx2 hx3 L B1 B2 B3 MM y1 y2 y3 ai aj
              go_wp2_with fail
              go_still_tail 34, (by kernel_rfl)
              clear p1 p2 p3 w1 w2 w3 w4 w5 t1 t2 t3 s3
              go_wp2_with fail
              have hd : Below wr.heap.size wr wr.drew := below_drew (Below.refl _ _)
              refine (Restrict_c (w := wr.drew) h1 h2 ci cj ck HE1.out HE2.out HE3.out (RTq_below HT.out.tab hd) (below_step HT.out.below hd)).mono ?_
              rintro _ w4 ⟨q'', b, rfl, r1, r2, r3, r4, r5, r6⟩
              cases b with
              | false =>
                obtain ⟨rfl, r7⟩ := r5 rfl
                have HT4 := Aside0.mk (TI_f HT.out (Kr_trans HT.out.keep (Kr_below hd)) r1 r2 r3 r7)
                clear hd r1 r2 r3 r4 r5 r6 r7
                go_wp2_with fail
                go_roundw
                case rel => exact ⟨k + 1, any, q'', by go_num, rfl, ⟨by omega⟩, HT4⟩
                case measure => simp [intOf]; omega
              | true =>
                have HT4 := Aside0.mk (TI_t HT.out (Kr_trans HT.out.keep (Kr_below hd)) r1 r2 r3 r4 (r6 rfl))
                clear hd r1 r2 r3 r4 r5 r6
                go_wp2_with fail
                go_roundw
                case rel => exact ⟨k + 1, true, q'', by go_num, rfl, ⟨by omega⟩, HT4⟩
                case measure => simp [intOf]; omega
            · have ek : k = m := by omega
              subst ek
              go_wp2_with fail
              go_roundw
              case rel => exact ⟨j + 1, any, q', by go_num, rfl, ⟨by omega⟩, ⟨TI_j HT.out⟩⟩
              case measure => simp [intOf]; omega
        · have ej : j = m := by omega
          subst ej
          go_wp2_with fail
          go_roundw
          case rel => exact ⟨i + 1, any, q', by go_num, rfl, ⟨by omega⟩, ⟨TI_i HT.out⟩⟩
          case measure => simp [intOf]; omega
    · have ei : i = m := by omega
      subst ei
      go_wp2_with fail
      go_ret
      exact ⟨q', any, rfl, HT.out.tab, HT.out.below, HT.out.keep, HT.out.reach, fun ha => ⟨(HT.out.no ha).1, fun a b c ha' hb hc x x0 x1 hx => (HT.out.no ha).2 a b c ha' hb hc (.inl ha') x x0 x1 hx⟩, HT.out.yes⟩
end Go.Proofs.Ytkbcgahpekmlbaa.PPg

namespace Go.Proofs.Ytkbcgahpekmlbaa.PPg
open Go.RowKit Go.Proofs.YtkbcgahpekmlbaaW.PrintWords Go.Proofs.YtkbcgahpekmlbaaW.PrintLast Go.Proofs.YtkbcgahpekmlbaaW.PrintMore
set_option linter.unusedVariables false
set_option maxRecDepth 100000
theorem rin_e (x a b : Int) : railplanref11_in.f x a b = some (decide (a ≤ x ∧ x ≤ b)) := by
  unfold railplanref11_in.f
  by_cases h : x ≥ a
  · rw [if_pos h]
    have : a ≤ x := h
    simp [this]
  · rw [if_neg h]
    have : ¬ a ≤ x := h
    simp [this]
theorem chk_round {P : Int} {ev : List S65} {ac : List S30} (k : Nat) {i : Int} (i0 : 0 ≤ i) (i1 : i < ac.length) (hl : ac.length ≤ 512) (hm : ev.length ≤ 48) :
    railplanref11_Check.l0 (k + 1) i P ev ac = if okA ((ev.length : Int) - 1) P (rd_T30 ac i) = true then railplanref11_Check.l0 k (i + 1) P ev ac else some false := by
  have e1 : wrap64 ((ev.length : Int) - 1) = ev.length - 1 := IntWalk.wrap64_in _ (by omega)
  have e2 : wrap64 (i + 1) = i + 1 := IntWalk.wrap64_in _ (by omega)
  simp only [railplanref11_Check.l0]
  rw [if_pos i1, if_pos i0, e1, e2]
  generalize rd_T30 ac i = a
  generalize (ev.length : Int) - 1 = last
  simp only [rin_e, Option.bind_some]
  by_cases ok : okA last P a = true
  · rw [if_pos ok]
    obtain ⟨h1, h2, h3, h4, h5, h6, h7, h8⟩ := okA_iff.1 ok
    rw [if_pos (decide_eq_true h1), if_pos (decide_eq_true h2), if_neg h3, if_neg (by omega), if_neg (by omega), if_neg (by omega), IntWalk.wrap64_in _ (by omega), if_neg (by omega), if_pos (decide_eq_true h8)]
  · rw [if_neg ok]
    by_cases c1 : 0 ≤ a.f1 ∧ a.f1 ≤ last
    · rw [if_pos (decide_eq_true c1)]
      by_cases c2 : 0 ≤ a.f2 ∧ a.f2 ≤ last
      · rw [if_pos (decide_eq_true c2)]
        by_cases c3 : a.f1 = a.f2
        · rw [if_pos c3]
        · rw [if_neg c3]
          by_cases c4 : a.f3 < -65536
          · rw [if_pos c4]
          · rw [if_neg c4]
            by_cases c5 : a.f4 > 65536
            · rw [if_pos c5]
            · rw [if_neg c5]
              by_cases c6 : a.f3 > a.f4
              · rw [if_pos c6]
              · rw [if_neg c6, IntWalk.wrap64_in _ (by omega)]
                by_cases c7 : a.f4 - a.f3 ≥ P
                · rw [if_pos c7]
                · rw [if_neg c7]
                  by_cases c8 : 0 ≤ a.f5 ∧ a.f5 ≤ 1048576
                  · exact absurd (okA_iff.2 ⟨c1, c2, c3, by omega, by omega, by omega, by omega, c8⟩) ok
                  · rw [if_neg (by rw [decide_eq_true_eq]; exact c8)]
      · rw [if_neg (by rw [decide_eq_true_eq]; exact c2)]
    · rw [if_neg (by rw [decide_eq_true_eq]; exact c1)]
theorem chk_l0 {P : Int} {ev : List S65} {ac : List S30} (hl : ac.length ≤ 512) (hm : ev.length ≤ 48) : ∀ (d : Nat) (i : Int), 0 ≤ i → i + d = ac.length → Ev (fun k => railplanref11_Check.l0 k i P ev ac) (!badA ((ev.length : Int) - 1) P (ac.drop i.toNat))
  | 0, i, i0, e => by
    rw [List.drop_eq_nil_of_le (by omega)]
    refine Ev.step (f := fun _ => some true) (fun k => ?_) (Ev.now _)
    simp only [railplanref11_Check.l0]
    rw [if_neg (by omega)]
  | d + 1, i, i0, e => by
    rw [drop_30 ac i i0 (by omega)]
    have ih := chk_l0 (P := P) hl hm d (i + 1) (by omega) (by omega)
    refine Ev.step (fun k => chk_round k i0 (by omega) hl hm) ?_
    unfold badA at *
    rw [List.any_cons]
    cases h : okA ((ev.length : Int) - 1) P (rd_T30 ac i) with
    | true => simp only [if_true, Bool.not_true, Bool.false_or]; exact ih
    | false => simp only [Bool.false_eq_true, if_false, Bool.not_false, Bool.true_or, Bool.not_true]; exact Ev.now _
theorem Check_ev (P : Int) (ev : List S65) (ac : List S30)   : Ev (fun k => railplanref11_Check.f k P ev ac) (okN P ev ac) := by
  unfold railplanref11_Check.f okN
  simp only [rin_e, Option.bind_some]
  have hbad : Ev (fun k => railplanref11_Check.j0 k true P ev ac) false := Ev.step (f := fun _ => some false) (fun k => by simp only [railplanref11_Check.j0]; rfl) (Ev.now _)
  by_cases c1 : 2 ≤ P ∧ P ≤ 7200
  · rw [decide_eq_true c1]
    simp only [if_true, Bool.true_and]
    by_cases c2 : (ev.length : Int) > 48
    · rw [decide_eq_false (show ¬ ev.length ≤ 48 by omega)]
      simp only [if_pos c2, Bool.false_and]
      exact hbad
    · rw [decide_eq_true (show ev.length ≤ 48 by omega)]
      simp only [if_neg c2, Bool.true_and]
      by_cases c3 : (ac.length : Int) > 512
      · rw [decide_eq_true c3, decide_eq_false (show ¬ ac.length ≤ 512 by omega)]
        exact hbad
      · rw [decide_eq_false c3, decide_eq_true (show ac.length ≤ 512 by omega), Bool.true_and]
        refine Ev.step (f := fun k => railplanref11_Check.l0 k 0 P ev ac) (fun k => by simp only [railplanref11_Check.j0]; rfl) ?_
        exact chk_l0 (by omega) (by omega) ac.length 0 (by omega) (by omega)
  · rw [decide_eq_false c1]
    simp only [Bool.false_eq_true, if_false, Bool.false_and]
    exact hbad
end Go.Proofs.Ytkbcgahpekmlbaa.PPg

namespace Go.Proofs.Ytkbcgahpekmlbaa.PPg
open Go.RowKit Go.Proofs.YtkbcgahpekmlbaaW.PrintWords Go.Proofs.YtkbcgahpekmlbaaW.PrintLast Go.Proofs.YtkbcgahpekmlbaaW.PrintMore
set_option linter.unusedVariables false
set_option linter.unusedSimpArgs false

theorem Has_loop (r : Int) (m : Int) : ∀ (suf pre : List S41), Fit (pre ++ suf) → m = ((pre ++ suf).length : Int) →
    Ev (fun k => residue_Has.l0 k r (pre ++ suf) m (pre.length : Int)) (mem suf r)
  | [], pre, hb, hm => by
    refine Ev.step (f := fun _ => some false) (fun k => ?_) (Ev.now _)
    simp only [residue_Has.l0]
    rw [if_neg (by rw [hm]; exact nlt_pre pre)]
  | u :: suf, pre, hb, hm => by
    have hlt0 := lt_pre pre u suf
    have hb' : (pre.length : Int) < 140737488355328 := by unfold Fit at hb; simp at hb; omega
    have ih := Has_loop r m suf (pre ++ [u]) (by rwa [← List.append_cons]) (by rwa [← List.append_cons])
    rw [← List.append_cons, len1] at ih
    rw [mem_cons]
    by_cases h : u.f0 ≤ r ∧ r < u.f1
    · rw [(inS_iff u r).2 h, Bool.true_or]
      refine Ev.step (f := fun _ => some true) (fun k => ?_) (Ev.now _)
      simp only [residue_Has.l0]
      rw [if_pos (by rw [hm]; exact hlt0), if_pos (by omega), if_pos hlt0, rd_pre, if_pos h.1, if_pos h.2]
    · have hf : inS u r = false := by rw [Bool.eq_false_iff]; exact fun hc => h ((inS_iff u r).1 hc)
      rw [hf, Bool.false_or]
      refine Ev.step (fun k => ?_) ih
      simp only [residue_Has.l0]
      rw [if_pos (by rw [hm]; exact hlt0), if_pos (by omega), if_pos hlt0, rd_pre, wrap_ok (by omega) (by omega)]
      by_cases h0 : r ≥ u.f0
      · rw [if_pos h0, if_neg (by omega)]
      · rw [if_neg h0]
theorem Has_ev (n : Nat) (hn : 1 ≤ n) (hn2 : n ≤ 7200) (s : List S41) (hs : Fit s) (x : Int) : Ev (fun k => residue_Has.f k n s x) (vld n s && mem s (x % n)) := by
  simp only [residue_Has.f]
  refine Ev.bind (Valid_ev n s hs) ?_
  cases vld n s
  · exact Ev.ite_neg (by simp) (Ev.now _)
  · refine Ev.ite_pos rfl ?_
    simp only [Mod_eq (show (1 : Int) ≤ n by omega) (show (n : Int) ≤ 9223372036854775807 by omega), Option.bind_some, Bool.true_and]
    exact Has_loop (x % n) s.length s [] hs rfl
end Go.Proofs.Ytkbcgahpekmlbaa.PPg

namespace Go.Proofs.Ytkbcgahpekmlbaa.PPg
open Go.RowKit Go.Proofs.YtkbcgahpekmlbaaW.PrintWords Go.Proofs.YtkbcgahpekmlbaaW.PrintLast Go.Proofs.YtkbcgahpekmlbaaW.PrintMore
set_option linter.unusedVariables false
set_option maxRecDepth 100000
/-- A time is out of bounds. -/
def badT (P x : Int) : Bool := !decide (0 ≤ x ∧ x ≤ P - 1)
theorem Good1_c (w : World) (x : Int) (bn : Nat) (P : Int) (hP : w.cell? ⟨bn, 0, none⟩ = some (.int .i64 P)) (h0 : -100000 ≤ P) (h1 : P ≤ 100000) :
    Calls Try.prog 69 #[.int .i64 x, .pointer (some ⟨bn, 0, none⟩)] w fun e w' => e = .returned (.bool (badT P x)) ∧ w = w' := by
  obtain ⟨b, hb⟩ : ∃ b, decide (0 ≤ x ∧ x ≤ P - 1) = b := ⟨_, rfl⟩
  have e : badT P x = !b := by unfold badT; rw [hb]
  rw [e]
  have HB := Aside0.mk hb
  clear hb e
  go_enter Try.func69, Try.ntmps69
  go_wp2_with fail
  refine (in_c _ x 0 (P - 1) b HB.out).mono ?_
  rintro _ _ ⟨rfl, rfl⟩
  go_wp2_with fail
  go_ret
  exact ⟨rfl, rfl⟩
theorem drop_i (a : List Int) (i : Int) (h0 : 0 ≤ i) (h1 : i < a.length) : a.drop i.toNat = rd a i :: a.drop (i + 1).toNat := by
  rw [show (i + 1).toNat = i.toNat + 1 by omega]
  unfold rd
  rw [List.getD_eq_getElem?_getD, List.getElem?_eq_getElem (by omega : i.toNat < a.length)]
  exact List.drop_eq_getElem_cons (by omega)
set_option maxHeartbeats 1000000 in
theorem IndexI_c (w : World) (A : Option Addr) (c : Nat) (a : List Int) (ha : Kd.C (Kd.int .i64) w A a.length a) (bn : Nat) (P : Int) (hP : w.cell? ⟨bn, 0, none⟩ = some (.int .i64 P)) (h0 : -100000 ≤ P) (h1 : P ≤ 100000) :
    Calls Try.prog 80 #[.slice A a.length c, .func (.func 69) #[] #[.pointer (some ⟨bn, 0, none⟩)]] w fun e w' => (∃ r : Int, e = .returned (.int .i64 r) ∧ decide (0 ≤ r) = a.any (badT P)) ∧ w = w' := by
  have HA := Aside0.mk ha
  have LA := ha.2.1
  have HP := Aside0.mk hP
  clear ha hP
  go_enter Try.func80, Try.ntmps80
  go_wp2_with fail
  go_loop [8] (fun v8 => ∃ (i : Int), v8 = .int .i64 i ∧ Aside0 (0 ≤ i ∧ i ≤ a.length) ∧ Aside0 ((a.drop i.toNat).any (badT P) = a.any (badT P))) (fun v8 => a.length - (intOf v8).toNat)
  case atStart => exact ⟨0, rfl, ⟨by omega⟩, ⟨rfl⟩⟩
  case round =>
    obtain ⟨i, rfl, HI, HR⟩ := hrel
    obtain ⟨i0, i1⟩ := HI.out
    clear HI
    by_cases ci : i < a.length
    · have DA := Aside0.mk (drop_i a i i0 ci)
      obtain ⟨ada, ea, hx0⟩ := Kd.at_int HA.out i i0 ci
      cases ea
      generalize rd a i = x at *
      cases hx : badT P x with
      | true =>
        have HX := Aside0.mk hx
        clear hx
        go_wp2_with fail
        refine (Good1_c _ x bn P HP.out h0 h1).mono ?_
        rw [HX.out]
        rintro _ _ ⟨rfl, rfl⟩
        go_wp2_with fail
        go_ret
        refine ⟨⟨i, rfl, ?_⟩, rfl⟩
        rw [decide_eq_true i0, ← HR.out, DA.out, List.any_cons, HX.out]; rfl
      | false =>
        have HX := Aside0.mk hx
        clear hx
        go_wp2_with fail
        refine (Good1_c _ x bn P HP.out h0 h1).mono ?_
        rw [HX.out]
        rintro _ _ ⟨rfl, rfl⟩
        go_wp2_with fail
        go_round
        case rel =>
          refine ⟨i + 1, rfl, ⟨by omega⟩, ⟨?_⟩⟩
          have e := HR.out
          rw [DA.out, List.any_cons, HX.out] at e
          exact e
        case measure => simp [intOf]; omega
    · go_wp2_with fail
      go_ret
      refine ⟨⟨-1, rfl, ?_⟩, rfl⟩
      have e := HR.out
      rw [show a.drop i.toNat = [] from List.drop_eq_nil_of_le (by omega)] at e
      rw [← e]; rfl
theorem ContainsI_c (w : World) (A : Option Addr) (c : Nat) (a : List Int) (ha : Kd.C (Kd.int .i64) w A a.length a) (bn : Nat) (P : Int) (hP : w.cell? ⟨bn, 0, none⟩ = some (.int .i64 P)) (h0 : -100000 ≤ P) (h1 : P ≤ 100000) :
    Calls Try.prog 68 #[.slice A a.length c, .func (.func 69) #[] #[.pointer (some ⟨bn, 0, none⟩)]] w fun e w' => e = .returned (.bool (a.any (badT P))) ∧ w = w' := by
  have HA := Aside0.mk ha
  have HP := Aside0.mk hP
  clear ha hP
  go_enter Try.func68, Try.ntmps68
  go_wp2_with fail
  refine (IndexI_c w A c a HA.out bn P HP.out h0 h1).mono ?_
  rintro _ _ ⟨⟨r, rfl, hr⟩, rfl⟩
  have HR := Aside0.mk hr
  clear hr
  go_wp2_with fail
  go_ret
  exact ⟨by rw [← HR.out]; rfl, rfl⟩
/-- Times are good for a network. -/
def okT (P : Int) (ev : List S65) (ac : List S30) (t : List Int) : Bool := okN P ev ac && (decide (t.length = ev.length) && !t.any (badT P))
set_option maxHeartbeats 1000000 in
theorem Good_c (w : World) (P : Int) (A1 A2 A : Option Addr) (c1 c2 c : Nat) (ev : List S65) (ac : List S30) (t : List Int) (h1 : Kd.C k65 w A1 ev.length ev) (h2 : Kd.C k30 w A2 ac.length ac) (h : Kd.C (Kd.int .i64) w A t.length t) :
    Calls Try.prog 48 #[.agg #[.int .i64 P, .slice A1 ev.length c1, .slice A2 ac.length c2], .slice A t.length c] w fun e w' => e = .returned (.bool (okT P ev ac t)) ∧ Below w.heap.size w w' := by
  have m1 := h1.2.1
  have m := h.2.1
  have H1 := Aside0.mk h1
  have H2 := Aside0.mk h2
  have H := Aside0.mk h
  clear h1 h2 h
  cases hok : okN P ev ac with
  | false =>
    have HK : Aside0 (okT P ev ac t = false) := ⟨by unfold okT; rw [hok]; rfl⟩
    have HO := Aside0.mk hok
    clear hok
    go_enter Try.func48, Try.ntmps48
    go_wp2_with fail
    refine (Check_c _ P A1 A2 c1 c2 ev ac (Kd.C_alloc H1.out _) (Kd.C_alloc H2.out _)).mono ?_
    rw [HO.out]
    rintro _ w1 ⟨rfl, hb⟩
    have HB := Aside0.mk (below_step ((Below.refl w.heap.size w).alloc (Nat.le_refl _) _) hb)
    clear hb
    go_wp2_with fail
    go_ret
    exact ⟨by rw [HK.out]; rfl, HB.out⟩
  | true =>
    have hP : 2 ≤ P ∧ P ≤ 7200 := by
      have := hok
      unfold okN at this
      simp only [Bool.and_eq_true, decide_eq_true_eq] at this
      exact this.1
    have HO := Aside0.mk hok
    clear hok
    by_cases ct : t.length = ev.length
    · have HK : Aside0 (okT P ev ac t = !t.any (badT P)) := ⟨by unfold okT; rw [HO.out, decide_eq_true ct]; rfl⟩
      have ct' : ((t.length : Int) == (ev.length : Int)) = true := beq_iff_eq.2 (by omega)
      clear ct
      go_enter Try.func48, Try.ntmps48
      go_wp2_with fail
      refine (Check_c _ P A1 A2 c1 c2 ev ac (Kd.C_alloc H1.out _) (Kd.C_alloc H2.out _)).mono ?_
      rw [HO.out]
      rintro _ w1 ⟨rfl, hb⟩
      have HB := Aside0.mk (below_step ((Below.refl w.heap.size w).alloc (Nat.le_refl _) _) hb)
      have hn := (hb.block w.heap.size (by simp)).trans (heap_alloc_new w _)
      have k1 : w1.cell? ⟨w.heap.size, 1, none⟩ = some (.slice A1 ev.length c1) := by rw [blk_cell hn]; rfl
      have K0 : Aside0 (w1.cell? ⟨w.heap.size, 0, none⟩ = some (.int .i64 P)) := ⟨by rw [blk_cell hn]; rfl⟩
      have HT := Aside0.mk (Kd.C_below (Kd.C_alloc H.out _) hb)
      clear hb hn
      go_wp2_with fail
      refine (ContainsI_c w1 A c t HT.out w.heap.size P K0.out (by omega) (by omega)).mono ?_
      rintro _ _ ⟨rfl, rfl⟩
      go_wp2_with fail
      go_ret
      exact ⟨by rw [HK.out]; rfl, HB.out⟩
    · have HK : Aside0 (okT P ev ac t = false) := ⟨by unfold okT; rw [HO.out, decide_eq_false ct]; rfl⟩
      have ct' : ((t.length : Int) == (ev.length : Int)) = false := beq_eq_false_iff_ne.2 (by omega)
      clear ct
      go_enter Try.func48, Try.ntmps48
      go_wp2_with fail
      refine (Check_c _ P A1 A2 c1 c2 ev ac (Kd.C_alloc H1.out _) (Kd.C_alloc H2.out _)).mono ?_
      rw [HO.out]
      rintro _ w1 ⟨rfl, hb⟩
      have HB := Aside0.mk (below_step ((Below.refl w.heap.size w).alloc (Nat.le_refl _) _) hb)
      have hn := (hb.block w.heap.size (by simp)).trans (heap_alloc_new w _)
      have k1 : w1.cell? ⟨w.heap.size, 1, none⟩ = some (.slice A1 ev.length c1) := by rw [blk_cell hn]; rfl
      clear hb hn
      go_wp2_with fail
      go_ret
      exact ⟨by rw [HK.out]; rfl, HB.out⟩
end Go.Proofs.Ytkbcgahpekmlbaa.PPg

namespace Go.Proofs.Ytkbcgahpekmlbaa.PPg
open Go.RowKit Go.Proofs.YtkbcgahpekmlbaaW.PrintWords Go.Proofs.YtkbcgahpekmlbaaW.PrintLast Go.Proofs.YtkbcgahpekmlbaaW.PrintMore
set_option linter.unusedVariables false
set_option maxRecDepth 100000
theorem good_l0 {P : Int} {ev : List S65} {ac : List S30} {t : List Int} (hP : 2 ≤ P ∧ P ≤ 7200) (hl : t.length ≤ 48) : ∀ (d : Nat) (i : Int), 0 ≤ i → i + d = t.length → Ev (fun k => railplanref11_Good.l0 k t i P ev ac) (!(t.drop i.toNat).any (badT P))
  | 0, i, i0, e => by
    rw [List.drop_eq_nil_of_le (by omega)]
    refine Ev.step (f := fun _ => some true) (fun k => ?_) (Ev.now _)
    simp only [railplanref11_Good.l0]
    rw [if_neg (by omega)]
  | d + 1, i, i0, e => by
    rw [drop_i t i i0 (by omega)]
    have ih := good_l0 (ev := ev) (ac := ac) hP hl d (i + 1) (by omega) (by omega)
    have e1 : wrap64 (P - 1) = P - 1 := IntWalk.wrap64_in _ (by omega)
    have e2 : wrap64 (i + 1) = i + 1 := IntWalk.wrap64_in _ (by omega)
    refine Ev.step (f := fun k => if decide (0 ≤ rd t i ∧ rd t i ≤ P - 1) = true then railplanref11_Good.l0 k t (i + 1) P ev ac else some false) (fun k => ?_) ?_
    · simp only [railplanref11_Good.l0]
      rw [if_pos (by omega), if_pos i0, e1, e2, rin_e]
      rfl
    · rw [List.any_cons]
      unfold badT
      cases h : decide (0 ≤ rd t i ∧ rd t i ≤ P - 1) with
      | true => simp only [if_true, Bool.not_true, Bool.false_or]; exact ih
      | false => simp only [Bool.false_eq_true, if_false, Bool.not_false, Bool.true_or, Bool.not_true]; exact Ev.now _
theorem Good_ev (P : Int) (ev : List S65) (ac : List S30) (t : List Int)  : Ev (fun k => railplanref11_Good.f k P ev ac t) (okT P ev ac t) := by
  unfold railplanref11_Good.f okT
  have hbad : Ev (fun k => railplanref11_Good.j0 k t true P ev ac) false := Ev.step (f := fun _ => some false) (fun k => by simp only [railplanref11_Good.j0]; rfl) (Ev.now _)
  refine Ev.bind (Check_ev P ev ac) ?_
  cases hok : okN P ev ac with
  | false => simp only [Bool.false_eq_true, if_false, Bool.false_and]; exact hbad
  | true =>
    simp only [if_true, Bool.true_and]
    unfold okN at hok
    simp only [Bool.and_eq_true, decide_eq_true_eq] at hok
    by_cases c : t.length = ev.length
    · rw [decide_eq_true c, show ((t.length : Int) != (ev.length : Int)) = false by rw [c]; simp, Bool.true_and]
      refine Ev.step (f := fun k => railplanref11_Good.l0 k t 0 P ev ac) (fun k => by simp only [railplanref11_Good.j0]; rfl) ?_
      exact good_l0 hok.1 (by omega) t.length 0 (by omega) (by omega)
    · rw [decide_eq_false c, show ((t.length : Int) != (ev.length : Int)) = true by rw [bne_iff_ne]; omega, Bool.false_and]
      exact hbad
end Go.Proofs.Ytkbcgahpekmlbaa.PPg

namespace Go.Proofs.Ytkbcgahpekmlbaa.PPg
open Go.RowKit Go.Proofs.YtkbcgahpekmlbaaW.PrintWords Go.Proofs.YtkbcgahpekmlbaaW.PrintLast Go.Proofs.YtkbcgahpekmlbaaW.PrintMore
set_option linter.unusedVariables false
set_option maxRecDepth 100000
/-- The difference of two times is in the set. -/
def okP (n : Nat) (q : Mx) (t : List Int) (i j : Nat) : Bool := q i j ((rd t j - rd t i) % n)
def allowB (n m : Nat) (q : Mx) (t : List Int) : Bool := (List.range m).all fun i => (List.range m).all fun j => okP n q t i j
theorem allowB_iff {n m : Nat} {q : Mx} {t : List Int} : allowB n m q t = true ↔ ∀ i j, i < m → j < m → okP n q t i j = true := by
  unfold allowB
  simp only [List.all_eq_true, List.mem_range]
  exact ⟨fun h i j hi hj => h i hi j hj, fun h i hi j hj => h i j hi hj⟩
theorem has_can {n : Nat} (h1 : 1 ≤ n) (h2 : n ≤ 7200) (p : Int → Bool) (x : Int) : Ev (fun k => residue_Has.f k n (can n p) x) (p (x % n)) := by
  have hv := can_vld p h1 h2
  have h := Has_ev n h1 h2 (can n p) (fit_le (vld_fit hv)) x
  obtain ⟨z0, z1⟩ := em_bound x (show (0 : Int) < n by omega)
  rwa [hv, Bool.true_and, can_in p z0 z1] at h
theorem pHas_e {n : Nat} {p : Int → Bool} {s : List S41} {w : World} {A : Option Addr} {c : Nat} {x : Int} {b : Bool} (hp : can n p = s) (h1 : 1 ≤ n) (h2 : n ≤ 7200) (hb : p (x % n) = b) (hs : VS w (.slice A s.length c) s) :
    Calls Try.prog 49 #[.int .i64 n, .slice A s.length c, .int .i64 x] w fun e w' => e = .returned (.bool b) ∧ Below w.heap.size w w' := by
  subst hp hb
  obtain ⟨K, hK⟩ := (has_can h1 h2 p x).rounds
  exact residue_Has.calls K n A c (can n p) x _ w (VS_C hs) (VS_le hs) hK
theorem okT_mem {P : Int} {ev : List S65} {ac : List S30} {t : List Int} (h : okT P ev ac t = true) : okN P ev ac = true ∧ t.length = ev.length ∧ ∀ i : Int, 0 ≤ i → i < t.length → 0 ≤ rd t i ∧ rd t i < P := by
  unfold okT at h
  simp only [Bool.and_eq_true, decide_eq_true_eq, Bool.not_eq_true'] at h
  obtain ⟨h1, h2, h3⟩ := h
  refine ⟨h1, h2, fun i i0 i1 => ?_⟩
  rw [List.any_eq_false] at h3
  have hm : rd t i ∈ t := by
    unfold rd
    rw [List.getD_eq_getElem?_getD, List.getElem?_eq_getElem (by omega : i.toNat < t.length)]
    exact List.getElem_mem _
  have := h3 _ hm
  unfold badT at this
  simp only [Bool.not_eq_true', decide_eq_false_iff_not, Classical.not_not] at this
  omega
set_option maxHeartbeats 4000000 in
theorem Allows_c {n : Nat} (w : World) (B g : Nat) (ev : List S65) (ac : List S30) (q : Mx) (A : Option Addr) (c : Nat) (t : List Int) (ht : Tb w B g n ev ac ev.length (tabl n ev.length q)) (h : Kd.C (Kd.int .i64) w A t.length t) :
    Calls Try.prog 28 #[.pointer (some ⟨g, 0, none⟩), .slice A t.length c] w fun e w' => e = .returned (.bool (okT n ev ac t && allowB n ev.length q t)) ∧ Below w.heap.size w w' := by
  obtain ⟨A1, c1, A2, c2, k1, k2, l1, hc1, l2, hc2⟩ := Tb_net ht
  have k0 := Tb_P ht
  have mt := h.2.1
  have HT := Aside0.mk ht
  have H := Aside0.mk h
  have HC1 := Aside0.mk hc1
  have HC2 := Aside0.mk hc2
  clear ht h hc1 hc2
  cases hok : okT n ev ac t with
  | false =>
    have HO := Aside0.mk hok
    clear hok
    go_enter Try.func28, Try.ntmps28
    go_wp2_with fail
    refine (Good_c _ n A1 A2 A c1 c2 c ev ac t HC1.out HC2.out H.out).mono ?_
    rw [HO.out]
    rintro _ w1 ⟨rfl, hb⟩
    have HB := Aside0.mk hb
    clear hb k0 k1 k2
    go_wp2_with fail
    go_ret
    exact ⟨rfl, HB.out⟩
  | true =>
    obtain ⟨hn, hl, hr⟩ := okT_mem hok
    have hn' := hn
    unfold okN at hn'
    simp only [Bool.and_eq_true, decide_eq_true_eq] at hn'
    have n1 : 1 ≤ n := by omega
    have n72 : n ≤ 7200 := by omega
    have m48 : ev.length ≤ 48 := hn'.2.1
    have HO := Aside0.mk hok
    have HL := Aside0.mk hl
    have HRD := Aside0.mk hr
    have tl48 : t.length ≤ 48 := by omega
    clear hok hn hn' hl hr
    go_enter Try.func28, Try.ntmps28
    go_wp2_with fail
    refine (Good_c _ n A1 A2 A c1 c2 c ev ac t HC1.out HC2.out H.out).mono ?_
    rw [HO.out]
    rintro _ w1 ⟨rfl, hb⟩
    have HB := Aside0.mk hb
    clear hb k0 k1 k2
    go_wp2_with fail
    go_loopw [18] (fun v18 wr => ∃ i : Nat, v18 = .int .i64 i ∧ Aside0 (i ≤ t.length) ∧ Aside0 (∀ a b, a < i → b < ev.length → okP n q t a b = true) ∧ Aside0 (Below w.heap.size w wr)) (fun v18 _ => t.length - (intOf v18).toNat)
    case atStart => exact ⟨0, rfl, ⟨Nat.zero_le _⟩, ⟨fun a b ha => by omega⟩, HB⟩
    case round =>
      clear HB
      obtain ⟨i, rfl, HI, HA, HB⟩ := hrel
      have i1 := HI.out
      by_cases ci : i < t.length
      · obtain ⟨ada, ea, hx⟩ := Kd.at_int (Kd.C_below H.out HB.out) (i : Int) (by omega) (by omega)
        cases ea
        simp only [Int.toNat_natCast] at hx
        obtain ⟨x0, x1⟩ := HRD.out (i : Int) (by omega) (by omega)
        obtain ⟨x, hxx⟩ : ∃ x, rd t (i : Int) = x := ⟨_, rfl⟩
        rw [hxx] at hx x0 x1
        have HX := Aside0.mk hxx
        clear hxx
        go_wp2_with fail
        clear hx
        go_loopw [25] (fun v25 w2 => ∃ j : Nat, v25 = .int .i64 j ∧ Aside0 (j ≤ t.length) ∧ Aside0 (∀ b, b < j → okP n q t i b = true) ∧ Aside0 (Below w.heap.size w w2)) (fun v25 _ => t.length - (intOf v25).toNat)
        case atStart => exact ⟨0, rfl, ⟨Nat.zero_le _⟩, ⟨fun b hb => by omega⟩, HB⟩
        case round =>
          clear HB
          obtain ⟨j, rfl, HJ, HAJ, HB⟩ := hrel
          have j1 := HJ.out
          by_cases cj : j < t.length
          · obtain ⟨ada', ea, hy⟩ := Kd.at_int (Kd.C_below H.out HB.out) (j : Int) (by omega) (by omega)
            cases ea
            simp only [Int.toNat_natCast] at hy
            obtain ⟨y0, y1⟩ := HRD.out (j : Int) (by omega) (by omega)
            obtain ⟨y, hyy⟩ : ∃ y, rd t (j : Int) = y := ⟨_, rfl⟩
            rw [hyy] at hy y0 y1
            have HY := Aside0.mk hyy
            have hie : i < ev.length := by rw [← HL.out]; exact ci
            have hje : j < ev.length := by rw [← HL.out]; exact cj
            have HTr := Aside0.mk (Tb_below HT.out HB.out)
            obtain ⟨a1, a2, a3, a4, a5, a6, a7⟩ := ix_ok (n := n) q hie hje m48
            obtain ⟨gr, cr, AI, cI', h4, h5, hv, _, _⟩ := Tb_at HTr.out _ a6 a7
            rw [tabl_rd q hie hje] at h5 hv
            have hP := Tb_P HTr.out
            have tm := Tb_m HTr.out
            have A1x := Aside0.mk a1
            have HV := Aside0.mk hv
            obtain ⟨b, hbb⟩ : ∃ b, okP n q t i j = b := ⟨_, rfl⟩
            have HBB : Aside0 (q i j ((y - x) % n) = b) := ⟨by rw [← hbb, okP, HX.out, HY.out]⟩
            have HOK := Aside0.mk hbb
            have g1 : IntKind.i64.wrap (y - x) = y - x := (IntWalk.i64_left _).trans (IntWalk.wrap64_in _ (by omega))
            clear hyy a1 hv hbb hie hje
            generalize hs : can n (q i j) = sI at *
            have HSI := Aside0.mk hs
            clear hs
            generalize hix : ((i * ev.length + j : Nat) : Int) = ix at *
            clear hix
            go_wp2_with fail
            clear hy
            go_region_held3 (fun w' => w'.cell? ⟨g, 0, none⟩ = some (.int .i64 n) ∧ w'.cell? ⟨g, 4, none⟩ = some (.slice (some ⟨gr, 0, none⟩) (tabl n ev.length q).length cr) ∧ w'.cell? ⟨gr, ix.toNat, none⟩ = some (.slice AI sI.length cI')) (go_keep)
              (first
                | ((go_at_call 37; refine (at_d tm A1x.out a2 a3 a4 a5).mono ?_; rintro _ _ ⟨rfl, rfl⟩))
                | ((go_at_call 49; refine (pHas_e HSI.out n1 n72 HBB.out (VS_drew HV.out)).mono ?_; rintro _ w3 ⟨rfl, hb⟩; have z0 := (hb.cell (World.block_lt_of_cell? wr _ hP)).trans hP; have z4 := (hb.cell (World.block_lt_of_cell? wr _ h4)).trans h4; have z5 := (hb.cell (World.block_lt_of_cell? wr _ h5)).trans h5; have HB3 := Aside0.mk (below_step HB.out (below_step (below_drew (Below.refl _ wr)) hb)); clear hb hP h4 h5 tm)))
            clear z0 z4 z5
            cases b with
            | false =>
              go_wp2_with fail
              go_ret
              refine ⟨ret_bool ?_, HB3.out⟩
              rw [Bool.true_and]
              cases ha : allowB n ev.length q t with
              | false => rfl
              | true =>
                have := allowB_iff.1 ha i j (by rw [← HL.out]; exact ci) (by rw [← HL.out]; exact cj)
                rw [HOK.out] at this
                cases this
            | true =>
              go_wp2_with fail
              go_roundw
              case rel =>
                refine ⟨j + 1, by go_num, ⟨by omega⟩, ⟨fun b hb => ?_⟩, HB3⟩
                by_cases hbj : b = j
                · rw [hbj]; exact HOK.out
                · exact HAJ.out b (by omega)
              case measure => simp [intOf]; omega
          · go_wp2_with fail
            go_roundw
            case rel =>
              refine ⟨i + 1, by go_num, ⟨by omega⟩, ⟨fun a b ha hb => ?_⟩, HB⟩
              by_cases hai : a = i
              · rw [hai]; exact HAJ.out b (by have := HL.out; omega)
              · exact HA.out a b (by omega) hb
            case measure => simp [intOf]; omega
      · go_wp2_with fail
        go_ret
        refine ⟨ret_bool ?_, HB.out⟩
        rw [Bool.true_and]
        exact (allowB_iff.2 fun a b ha hb => HA.out a b (by have := HL.out; omega) hb).symm
end Go.Proofs.Ytkbcgahpekmlbaa.PPg

namespace Go.Proofs.Ytkbcgahpekmlbaa.PPg
open Go.RowKit Go.Proofs.YtkbcgahpekmlbaaW.PrintWords Go.Proofs.YtkbcgahpekmlbaaW.PrintLast Go.Proofs.YtkbcgahpekmlbaaW.PrintMore
set_option linter.unusedVariables false
set_option maxRecDepth 100000
set_option maxHeartbeats 1000000 in
theorem size_c {w : World} {n b : Nat} {p : Int → Bool} (hn : n ≤ 7200) (hb : w.heap[b]? = some (.cells (rowA n p) 4 (0, 0))) :
    Calls Try.prog 73 #[.slice (some ⟨b, 0, none⟩) n n] w fun e w' => e = .returned (.int .i64 (cnt p n)) ∧ w = w' := by
  have HB := Aside0.mk hb
  clear hb
  go_enter Try.func73, Try.ntmps73
  go_wp2_with fail
  go_loop [3, 7] (fun v3 v7 => ∃ d : Nat, v7 = .int .i64 d ∧ v3 = .int .i64 (cnt p d) ∧ Aside0 (d ≤ n)) (fun _ v7 => n - (intOf v7).toNat)
  case atStart => exact ⟨0, rfl, rfl, ⟨Nat.zero_le _⟩⟩
  case round =>
    obtain ⟨d, rfl, rfl, HD⟩ := hrel
    have d1 := HD.out
    by_cases cd : d < n
    · have hc : w.cell? ⟨b, d, none⟩ = some (.bool (p d)) := by rw [blk_cell HB.out, rowA_get cd]
      obtain ⟨c0, c1⟩ := cnt_bounds p d
      have HS : Aside0 (cnt p (d + 1) = cnt p d + b2i (p d)) := ⟨rfl⟩
      generalize cnt p d = c at *
      cases hp : p (d : Int) with
      | true =>
        rw [hp] at hc HS
        clear hp
        go_wp2_with fail
        go_round
        case rel => exact ⟨d + 1, by go_num, by rw [HS.out]; rfl, ⟨by omega⟩⟩
        case measure => simp [intOf]; omega
      | false =>
        rw [hp] at hc HS
        clear hp
        go_wp2_with fail
        go_round
        case rel => exact ⟨d + 1, by go_num, by rw [HS.out]; simp [b2i], ⟨by omega⟩⟩
        case measure => simp [intOf]; omega
    · have dn : d = n := by omega
      subst dn
      go_wp2_with fail
      go_ret
      exact ⟨rfl, rfl⟩
section
variable {w w0 : World} {g n m : Nat} {ev : List S65} {ac : List S30} {bs : List Nat} {q : Mx}
theorem RTq_k (h : RTq w w0 g n ev ac bs m q) {k : Nat} (hk : k < bs.length) : ∃ b, bs[k]? = some b ∧ w.heap[b]? = some (.cells (rowA n (q (k / m) (k % m))) 4 (0, 0)) ∧ ∃ gr c, w.cell? ⟨g, 3, none⟩ = some (.slice (some ⟨gr, 0, none⟩) bs.length c) ∧ w.cell? ⟨gr, k, none⟩ = some (.slice (some ⟨b, 0, none⟩) n n) :=
  ⟨_, List.getElem?_eq_getElem hk, (h.1.rows k _ (List.getElem?_eq_getElem hk)).1, RT_at h.1 (List.getElem?_eq_getElem hk)⟩
theorem cnt_zero {p : Int → Bool} {n : Nat} : cnt p n = 0 ↔ ∀ x : Int, 0 ≤ x → x < n → p x = false := by
  constructor
  · intro h x x0 x1
    have := cnt_all (fun x => !p x) n (by have := cnt_not p n; omega) x x0 x1
    simpa using this
  · intro h
    rw [cnt_congr (q := fun _ => false) h]
    have := cnt_all (fun _ => false) n
    have h2 := cnt_not (fun _ => false) n
    have : ∀ k : Nat, cnt (fun _ => false) k = 0 := fun k => by
      induction k with
      | zero => rfl
      | succ k ih => show cnt (fun _ => false) k + b2i false = 0; rw [ih]; rfl
    exact this n
theorem none_cnt {n m : Nat} {q : Mx} : noneIn (tabl n m q) = true ↔ ∃ k, k < m * m ∧ cnt (q (k / m) (k % m)) n = 0 := by
  have hf := full_iff (n := n) (m := m) (q := q)
  constructor
  · intro h
    by_cases hx : ∃ k, k < m * m ∧ cnt (q (k / m) (k % m)) n = 0
    · exact hx
    · have : full n m q := fun i j hi hj => by
        by_cases hy : ∃ x : Int, 0 ≤ x ∧ x < n ∧ q i j x = true
        · exact hy
        · exact (hx ⟨i * m + j, ix_lt hi hj, by
            rw [ix_div hj, ix_mod hj]
            exact cnt_zero.2 fun x x0 x1 => Bool.eq_false_iff.2 fun h => hy ⟨x, x0, x1, h⟩⟩).elim
      rw [hf.2 this] at h
      cases h
  · rintro ⟨k, hk, hc⟩
    cases h : noneIn (tabl n m q) with
    | true => rfl
    | false =>
      obtain ⟨i, j, hi, hj, rfl⟩ := ix_form hk
      rw [ix_div hj, ix_mod hj] at hc
      obtain ⟨x, x0, x1, hx⟩ := hf.1 h i j hi hj
      rw [cnt_zero.1 hc x x0 x1] at hx
      cases hx
set_option maxHeartbeats 2000000 in
theorem EmptyR_c (hn : n ≤ 7200) (hm : m ≤ 48) (hT : RTq w w0 g n ev ac bs m q) :
    Calls Try.prog 57 #[.pointer (some ⟨g, 0, none⟩)] w fun e w' => e = .returned (.bool (noneIn (tabl n m q))) ∧ w = w' := by
  have HT := Aside0.mk hT
  obtain ⟨A, c, s3, _, _⟩ := RT_sets hT.1
  have HL := Aside0.mk hT.2
  have MM : bs.length ≤ 2304 := by rw [hT.2]; exact Nat.mul_le_mul hm hm
  clear hT
  go_enter Try.func57, Try.ntmps57
  go_wp2_with fail
  clear s3
  go_loop [9] (fun v9 => ∃ k : Nat, v9 = .int .i64 k ∧ Aside0 (k ≤ bs.length ∧ ∀ k', k' < k → cnt (q (k' / m) (k' % m)) n ≠ 0)) (fun v9 => bs.length - (intOf v9).toNat)
  case atStart => exact ⟨0, rfl, ⟨Nat.zero_le _, fun k' h => by omega⟩⟩
  case round =>
    obtain ⟨k, rfl, HK⟩ := hrel
    have k1 := HK.out.1
    by_cases ck : k < bs.length
    · obtain ⟨b, hb, hr, gr, c', s3, u⟩ := RTq_k HT.out ck
      have HR := Aside0.mk hr
      clear hb hr
      by_cases hc : cnt (q (k / m) (k % m)) n = 0
      · have HC : Aside0 (noneIn (tabl n m q) = true) := ⟨none_cnt.2 ⟨k, by rw [← HL.out]; exact ck, hc⟩⟩
        have HC0 := Aside0.mk hc
        clear hc
        go_wp2_with fail
        refine (size_c hn HR.out).mono ?_
        rw [HC0.out]
        rintro _ _ ⟨rfl, rfl⟩
        go_wp2_with fail
        go_ret
        exact ⟨ret_bool HC.out.symm, rfl⟩
      · have hz : (cnt (q (k / m) (k % m)) n == 0) = false := by simpa using hc
        have HC0 := Aside0.mk hc
        clear hc
        go_wp2_with fail
        refine (size_c hn HR.out).mono ?_
        rintro _ _ ⟨rfl, rfl⟩
        go_wp2_with fail
        go_round
        case rel =>
          refine ⟨k + 1, by go_num, ⟨by omega, fun k' h => ?_⟩⟩
          by_cases e : k' = k
          · rw [e]; exact HC0.out
          · exact HK.out.2 k' (by omega)
        case measure => simp [intOf]; omega
    · obtain ⟨A, c, s3, _, _⟩ := RT_sets HT.out.1
      have HF : Aside0 (noneIn (tabl n m q) = false) := ⟨Bool.eq_false_iff.2 fun h => by
        obtain ⟨k', hk', hc⟩ := none_cnt.1 h
        exact HK.out.2 k' (by have := HL.out; omega) hc⟩
      go_wp2_with fail
      go_ret
      exact ⟨ret_bool HF.out.symm, rfl⟩
/-- The sizes of the first sets. -/
def totK (n m : Nat) (q : Mx) (k : Nat) : Int := total (fun s => cnt (mem s) n) ((tabl n m q).take k)
theorem totK_succ {k : Nat} (hk : k < m * m) : totK n m q (k + 1) = totK n m q k + cnt (q (k / m) (k % m)) n := by
  unfold totK
  have := take_L2 (tabl n m q) (k : Int) (by omega) (by rw [tabl_len]; exact_mod_cast hk)
  rw [show ((k : Int) + 1).toNat = k + 1 by omega, Int.toNat_natCast] at this
  rw [this, total_snoc]
  obtain ⟨i, j, hi, hj, rfl⟩ := ix_form hk
  rw [tabl_rd q hi hj, cnt_can, ix_div hj, ix_mod hj]
theorem totK_bd (hn : n ≤ 7200) (k : Nat) : 0 ≤ totK n m q k ∧ totK n m q k ≤ 7200 * k := by
  unfold totK
  obtain ⟨h1, h2⟩ := total_bd (fun s => cnt (mem s) n) ((tabl n m q).take k) (fun s _ => by have := cnt_bounds (mem s) n; omega)
  refine ⟨h1, Int.le_trans h2 ?_⟩
  have : ((tabl n m q).take k).length ≤ k := List.length_take_le _ _
  omega
set_option maxHeartbeats 2000000 in
theorem CountR_c (hn : n ≤ 7200) (hm : m ≤ 48) (hT : RTq w w0 g n ev ac bs m q) :
    Calls Try.prog 59 #[.pointer (some ⟨g, 0, none⟩)] w fun e w' => e = .returned (.int .i64 (tot n m q)) ∧ w = w' := by
  have HT := Aside0.mk hT
  obtain ⟨A, c, s3, _, _⟩ := RT_sets hT.1
  have HL := Aside0.mk hT.2
  have MM : bs.length ≤ 2304 := by rw [hT.2]; exact Nat.mul_le_mul hm hm
  clear hT
  go_enter Try.func59, Try.ntmps59
  go_wp2_with fail
  clear s3
  go_loop [3, 10] (fun v3 v10 => ∃ k : Nat, v10 = .int .i64 k ∧ v3 = .int .i64 (totK n m q k) ∧ Aside0 (k ≤ bs.length)) (fun _ v10 => bs.length - (intOf v10).toNat)
  case atStart => exact ⟨0, rfl, rfl, ⟨Nat.zero_le _⟩⟩
  case round =>
    obtain ⟨k, rfl, rfl, HK⟩ := hrel
    have k1 := HK.out
    by_cases ck : k < bs.length
    · obtain ⟨b, hb, hr, gr, c', s3, u⟩ := RTq_k HT.out ck
      have HR := Aside0.mk hr
      clear hb hr
      obtain ⟨t0, t1⟩ := totK_bd (m := m) (q := q) hn k
      have HS := Aside0.mk (totK_succ (n := n) (q := q) (show k < m * m by rw [← HL.out]; exact ck))
      generalize totK n m q k = t at *
      obtain ⟨z0, z1⟩ := cnt_bounds (q (k / m) (k % m)) n
      obtain ⟨z, hz⟩ : ∃ z, cnt (q (k / m) (k % m)) n = z := ⟨_, rfl⟩
      rw [hz] at z0 z1
      have HZ := Aside0.mk hz
      clear hz
      go_wp2_with fail
      refine (size_c hn HR.out).mono ?_
      rw [HZ.out]
      rintro _ _ ⟨rfl, rfl⟩
      go_wp2_with fail
      go_round
      case rel => exact ⟨k + 1, by go_num, by rw [HS.out, HZ.out], ⟨by omega⟩⟩
      case measure => simp [intOf]; omega
    · obtain ⟨A, c, s3, _, _⟩ := RT_sets HT.out.1
      have HF : Aside0 (totK n m q k = tot n m q) := ⟨by
        unfold totK tot
        rw [List.take_of_length_le (by rw [tabl_len, ← HL.out]; omega)]⟩
      go_wp2_with fail
      go_ret
      exact ⟨ret_i64 HF.out, rfl⟩
set_option maxHeartbeats 4000000 in
theorem AllowsR_c {A : Option Addr} {c : Nat} {t : List Int} (hT : RTq w w0 g n ev ac bs ev.length q) (h : Kd.C (Kd.int .i64) w A t.length t) (hc : t.length ≤ c) :
    Calls Try.prog 58 #[.pointer (some ⟨g, 0, none⟩), .slice A t.length c] w fun e w' => e = .returned (.bool (okT n ev ac t && allowB n ev.length q t)) ∧ Below w.heap.size w w' := by
  obtain ⟨A1, c1, A2, c2, k1, k2, ⟨l1, hc1⟩, l2, hc2⟩ := RT_net hT.1
  have k0 := RT_P hT.1
  have mt := h.2.1
  obtain ⟨A3, c3, k3, _, _⟩ := RT_sets hT.1
  have HT := Aside0.mk hT
  have H := Aside0.mk h
  have HC1 := Aside0.mk hc1
  have HC2 := Aside0.mk hc2
  have HG : Aside0 (∃ K, railplanref11_Good.f K n ev ac t = some (okT n ev ac t)) := ⟨(Good_ev n ev ac t).rounds⟩
  clear hT h hc1 hc2
  cases hok : okT n ev ac t with
  | false =>
    have HO := Aside0.mk hok
    clear hok
    go_enter Try.func58, Try.ntmps58
    go_wp2_with fail
    obtain ⟨K, hK⟩ := HG.out
    rw [HO.out] at hK
    refine (railplanref11_Good.calls K n A1 c1 ev A2 c2 ac A c t false _ HC1.out l1 HC2.out l2 H.out hc hK).mono ?_
    rintro _ w1 ⟨rfl, hb⟩
    have HB := Aside0.mk hb
    clear hb k0 k1 k2 k3 hK
    go_wp2_with fail
    go_ret
    exact ⟨rfl, HB.out⟩
  | true =>
    obtain ⟨hn, hl, hr⟩ := okT_mem hok
    have hn' := hn
    unfold okN at hn'
    simp only [Bool.and_eq_true, decide_eq_true_eq] at hn'
    have n1 : 1 ≤ n := by omega
    have n72 : n ≤ 7200 := by omega
    have m48 : ev.length ≤ 48 := hn'.2.1
    have HO := Aside0.mk hok
    have HL := Aside0.mk hl
    have HRD := Aside0.mk hr
    have tl48 : t.length ≤ 48 := by omega
    clear hok hn hn' hl hr
    go_enter Try.func58, Try.ntmps58
    go_wp2_with fail
    obtain ⟨K, hK⟩ := HG.out
    rw [HO.out] at hK
    refine (railplanref11_Good.calls K n A1 c1 ev A2 c2 ac A c t true _ HC1.out l1 HC2.out l2 H.out hc hK).mono ?_
    rintro _ w1 ⟨rfl, hb⟩
    have HB := Aside0.mk hb
    clear hb k0 k1 k2 k3 hK
    go_wp2_with fail
    go_loopw [6] (fun v6 wr => ∃ i : Nat, v6 = .int .i64 i ∧ Aside0 (i ≤ t.length) ∧ Aside0 (∀ a b, a < i → b < ev.length → okP n q t a b = true) ∧ Aside0 (Below w.heap.size w wr)) (fun v6 _ => t.length - (intOf v6).toNat)
    case atStart => exact ⟨0, rfl, ⟨Nat.zero_le _⟩, ⟨fun a b ha => by omega⟩, HB⟩
    case round =>
      clear HB
      obtain ⟨i, rfl, HI, HA, HB⟩ := hrel
      have i1 := HI.out
      by_cases ci : i < t.length
      · go_wp2_with fail
        go_loopw [7] (fun v7 wr => ∃ j : Nat, v7 = .int .i64 j ∧ Aside0 (j ≤ t.length) ∧ Aside0 (∀ b, b < j → okP n q t i b = true) ∧ Aside0 (Below w.heap.size w wr)) (fun v7 _ => t.length - (intOf v7).toNat)
        case atStart => exact ⟨0, rfl, ⟨Nat.zero_le _⟩, ⟨fun b hb => by omega⟩, HB⟩
        case round =>
          clear HB
          obtain ⟨j, rfl, HJ, HAJ, HB⟩ := hrel
          have j1 := HJ.out
          by_cases cj : j < t.length
          · have HTr := Aside0.mk (RTq_below HT.out HB.out)
            obtain ⟨ada, ea, hx⟩ := Kd.at_int (Kd.C_below H.out HB.out) (i : Int) (by omega) (by omega)
            obtain ⟨ada', ea', hy⟩ := Kd.at_int (Kd.C_below H.out HB.out) (j : Int) (by omega) (by omega)
            cases ea
            cases ea'
            simp only [Int.toNat_natCast] at hx hy
            obtain ⟨x0, x1⟩ := HRD.out (i : Int) (by omega) (by omega)
            obtain ⟨y0, y1⟩ := HRD.out (j : Int) (by omega) (by omega)
            obtain ⟨x, hxx⟩ : ∃ x, rd t (i : Int) = x := ⟨_, rfl⟩
            obtain ⟨y, hyy⟩ : ∃ y, rd t (j : Int) = y := ⟨_, rfl⟩
            rw [hxx] at hx x0 x1
            rw [hyy] at hy y0 y1
            have HX := Aside0.mk hxx
            have HY := Aside0.mk hyy
            have hie : i < ev.length := by rw [← HL.out]; exact ci
            have hje : j < ev.length := by rw [← HL.out]; exact cj
            obtain ⟨b1, e1⟩ := RTq_hdr HTr.out hie hje
            have HE1 := Aside0.mk e1
            have B1 := ix_lt hie hje
            have L := HTr.out.2
            have MM : ev.length * ev.length ≤ 2304 := Nat.mul_le_mul m48 m48
            have et : (t.length : Int) = ev.length := by rw [HL.out]
            obtain ⟨im, him⟩ : ∃ z : Nat, i * ev.length = z := ⟨_, rfl⟩
            have ai : (i : Int) * (t.length : Int) = (im : Int) := by rw [et, ← him]; exact (Int.natCast_mul i ev.length).symm
            rw [him] at e1 B1
            obtain ⟨ix, hix⟩ : ∃ z : Nat, im + j = z := ⟨_, rfl⟩
            rw [hix] at e1 B1
            have l1' : (ix : Int) < bs.length := by omega
            have w1 : IntKind.i64.wrap ((i : Int) * (t.length : Int)) = im := by rw [ai]; exact (IntWalk.i64_left _).trans (IntWalk.wrap64_in _ (by omega))
            have w2 : IntKind.i64.wrap ((im : Int) + (j : Int)) = ix := by rw [show (im : Int) + (j : Int) = ix by omega]; exact (IntWalk.i64_left _).trans (IntWalk.wrap64_in _ (by omega))
            have w3 : IntKind.i64.wrap (y - x) = y - x := (IntWalk.i64_left _).trans (IntWalk.wrap64_in _ (by omega))
            obtain ⟨u, hu⟩ : ∃ u : Nat, (y - x) % n = (u : Int) := ⟨((y - x) % n).toNat, by have := Int.emod_nonneg (y - x) (show (n : Int) ≠ 0 by omega); omega⟩
            have un : u < n := by have := Int.emod_lt_of_pos (y - x) (show (0 : Int) < n by omega); omega
            have HU := Aside0.mk hu
            clear hu him hix ai et MM L B1 hxx hyy
            obtain ⟨gr, cc, s3, u1⟩ := RT_at HTr.out.1 e1
            obtain ⟨d1, _⟩ := RTq_cell HTr.out hje HE1.out un
            have hP := RT_P HTr.out.1
            obtain ⟨b, hb⟩ : ∃ b, q i j (u : Int) = b := ⟨_, rfl⟩
            have HOK : Aside0 (okP n q t i j = b) := ⟨by rw [okP, HX.out, HY.out, HU.out, hb]⟩
            rw [hb] at d1
            clear hb e1
            go_wp2_with fail
            go_quiet ((go_at_call 44; exact rMod_q (by omega) (by omega) (by omega) (by omega) HU.out))
            clear s3 u1 d1 hP hx hy w1 w2 w3
            have HB3 := Aside0.mk (below_step HB.out (pw_below_drewN (Below.refl wr.heap.size wr) nq))
            cases b with
            | false =>
              go_wp2_with fail
              go_ret
              refine ⟨ret_bool ?_, HB3.out⟩
              rw [Bool.true_and]
              cases ha : allowB n ev.length q t with
              | false => rfl
              | true =>
                have := allowB_iff.1 ha i j hie hje
                rw [HOK.out] at this
                cases this
            | true =>
              go_wp2_with fail
              go_roundw
              case rel =>
                refine ⟨j + 1, by go_num, ⟨by omega⟩, ⟨fun b hb => ?_⟩, HB3⟩
                by_cases hbj : b = j
                · rw [hbj]; exact HOK.out
                · exact HAJ.out b (by omega)
              case measure => simp [intOf]; omega
          · go_wp2_with fail
            go_roundw
            case rel =>
              refine ⟨i + 1, by go_num, ⟨by omega⟩, ⟨fun a b ha hb => ?_⟩, HB⟩
              by_cases hai : a = i
              · rw [hai]; exact HAJ.out b (by have := HL.out; omega)
              · exact HA.out a b (by omega) hb
            case measure => simp [intOf]; omega
      · go_wp2_with fail
        go_ret
        refine ⟨ret_bool ?_, HB.out⟩
        rw [Bool.true_and]
        exact (allowB_iff.2 fun a b ha hb => HA.out a b (by have := HL.out; omega) hb).symm
end
end Go.Proofs.Ytkbcgahpekmlbaa.PPg

namespace Go.Proofs.Ytkbcgahpekmlbaa.PPg
open Go.RowKit Go.Proofs.YtkbcgahpekmlbaaW.PrintWords Go.Proofs.YtkbcgahpekmlbaaW.PrintLast Go.Proofs.YtkbcgahpekmlbaaW.PrintMore
set_option linter.unusedVariables false
set_option maxRecDepth 100000
theorem adr_block (a : Addr) (i : Nat) : (a.add i).block = a.block := by unfold Addr.add; split <;> rfl
theorem adr_off (a : Addr) (i : Nat) : (a.add i).off = a.off + i := by
  unfold Addr.add
  split
  · rename_i h; rw [h]; rfl
  · rfl
/-- A store into the fifth field of a row's element. -/
theorem R_poke4 {W : World} {base g cap n : Nat} {ok : Nat → Prop} {xs : List S30} (h : Kd.R k30 30 W base ok (.slice (some ⟨g, 0, none⟩) n cap) xs) {i : Nat} (hi : i < n) (v : Int) :
    Kd.R k30 30 (W.setCell ⟨g, i * 6 + 4, none⟩ (.int .i64 v)) base ok (.slice (some ⟨g, 0, none⟩) n cap) (xs.set i { rd_T30 xs i with f4 := v }) ∧ W.grownBy (W.setCell ⟨g, i * 6 + 4, none⟩ (.int .i64 v)) (some g) := by
  obtain ⟨hn, _, hC⟩ := Kd.R_reads' h
  obtain ⟨ad, e, x0, x1, x2, x3, x4, x5⟩ := at_T30 hC (i : Int) (by omega) (by omega)
  injection e with e
  subst e
  rw [Int.toNat_natCast] at x0 x1 x2 x3 x4 x5
  rw [adr_block, adr_off] at x1 x2 x3 x4 x5
  have e0 : (⟨g, 0, none⟩ : Addr).add (i * 6) = ⟨g, i * 6, none⟩ := by
    unfold Addr.add
    split
    · rename_i h; rw [h]
    · rw [Nat.zero_add]
  rw [e0] at x0
  simp only [Nat.zero_add] at x1 x2 x3 x4 x5
  have := Kd.R_seg (d := k30) h (i : Int) (by omega) (by omega) (c := [.int .i64 (rd_T30 xs i).f0, .int .i64 (rd_T30 xs i).f1, .int .i64 (rd_T30 xs i).f2, .int .i64 (rd_T30 xs i).f3, .int .i64 (rd_T30 xs i).f4, .int .i64 (rd_T30 xs i).f5]) (seg := [.int .i64 v]) (j := 4) (x' := { rd_T30 xs i with f4 := v }) (okp := fun _ => False) rfl (fun j u hu => by
    rw [Int.toNat_natCast]
    match j, hu with
    | 0, hu => simp only [List.getElem?_cons_zero, Option.some.injEq] at hu; subst hu; exact x0
    | 1, hu => simp only [List.getElem?_cons_succ, List.getElem?_cons_zero, Option.some.injEq] at hu; subst hu; exact x1
    | 2, hu => simp only [List.getElem?_cons_succ, List.getElem?_cons_zero, Option.some.injEq] at hu; subst hu; exact x2
    | 3, hu => simp only [List.getElem?_cons_succ, List.getElem?_cons_zero, Option.some.injEq] at hu; subst hu; exact x3
    | 4, hu => simp only [List.getElem?_cons_succ, List.getElem?_cons_zero, Option.some.injEq] at hu; subst hu; exact x4
    | 5, hu => simp only [List.getElem?_cons_succ, List.getElem?_cons_zero, Option.some.injEq] at hu; subst hu; exact x5
    | j + 6, hu => simp at hu) (Nat.le_of_ble_eq_true rfl) (k30_mkM _ _ _ { rd_T30 xs i with f4 := v }) (fun _ hk => hk.elim)
  rw [Int.toNat_natCast] at this
  exact this
/-- A store into the third field of a row's element. -/
theorem R_poke2 {W : World} {base g cap n : Nat} {ok : Nat → Prop} {xs : List S30} (h : Kd.R k30 30 W base ok (.slice (some ⟨g, 0, none⟩) n cap) xs) {i : Nat} (hi : i < n) (v : Int) :
    Kd.R k30 30 (W.setCell ⟨g, i * 6 + 2, none⟩ (.int .i64 v)) base ok (.slice (some ⟨g, 0, none⟩) n cap) (xs.set i { rd_T30 xs i with f2 := v }) ∧ W.grownBy (W.setCell ⟨g, i * 6 + 2, none⟩ (.int .i64 v)) (some g) := by
  obtain ⟨hn, _, hC⟩ := Kd.R_reads' h
  obtain ⟨ad, e, x0, x1, x2, x3, x4, x5⟩ := at_T30 hC (i : Int) (by omega) (by omega)
  injection e with e
  subst e
  rw [Int.toNat_natCast] at x0 x1 x2 x3 x4 x5
  rw [adr_block, adr_off] at x1 x2 x3 x4 x5
  have e0 : (⟨g, 0, none⟩ : Addr).add (i * 6) = ⟨g, i * 6, none⟩ := by
    unfold Addr.add
    split
    · rename_i h; rw [h]
    · rw [Nat.zero_add]
  rw [e0] at x0
  simp only [Nat.zero_add] at x1 x2 x3 x4 x5
  have := Kd.R_seg (d := k30) h (i : Int) (by omega) (by omega) (c := [.int .i64 (rd_T30 xs i).f0, .int .i64 (rd_T30 xs i).f1, .int .i64 (rd_T30 xs i).f2, .int .i64 (rd_T30 xs i).f3, .int .i64 (rd_T30 xs i).f4, .int .i64 (rd_T30 xs i).f5]) (seg := [.int .i64 v]) (j := 2) (x' := { rd_T30 xs i with f2 := v }) (okp := fun _ => False) rfl (fun j u hu => by
    rw [Int.toNat_natCast]
    match j, hu with
    | 0, hu => simp only [List.getElem?_cons_zero, Option.some.injEq] at hu; subst hu; exact x0
    | 1, hu => simp only [List.getElem?_cons_succ, List.getElem?_cons_zero, Option.some.injEq] at hu; subst hu; exact x1
    | 2, hu => simp only [List.getElem?_cons_succ, List.getElem?_cons_zero, Option.some.injEq] at hu; subst hu; exact x2
    | 3, hu => simp only [List.getElem?_cons_succ, List.getElem?_cons_zero, Option.some.injEq] at hu; subst hu; exact x3
    | 4, hu => simp only [List.getElem?_cons_succ, List.getElem?_cons_zero, Option.some.injEq] at hu; subst hu; exact x4
    | 5, hu => simp only [List.getElem?_cons_succ, List.getElem?_cons_zero, Option.some.injEq] at hu; subst hu; exact x5
    | j + 6, hu => simp at hu) (Nat.le_of_ble_eq_true rfl) (k30_mkM _ _ _ { rd_T30 xs i with f2 := v }) (fun _ hk => hk.elim)
  rw [Int.toNat_natCast] at this
  exact this
theorem R_rd {W : World} {base g cap n : Nat} {ok : Nat → Prop} {xs : List S30} (h : Kd.R k30 30 W base ok (.slice (some ⟨g, 0, none⟩) n cap) xs) {i : Nat} (hi : i < n) :
    W.cell? ⟨g, i * 6 + 3, none⟩ = some (.int .i64 (rd_T30 xs i).f3) ∧ W.cell? ⟨g, i * 6 + 4, none⟩ = some (.int .i64 (rd_T30 xs i).f4) := by
  obtain ⟨hn, _, hC⟩ := Kd.R_reads' h
  obtain ⟨ad, e, x0, x1, x2, x3, x4, x5⟩ := at_T30 hC (i : Int) (by omega) (by omega)
  injection e with e
  subst e
  rw [Int.toNat_natCast] at x3 x4
  rw [adr_block, adr_off] at x3 x4
  simp only [Nat.zero_add] at x3 x4
  exact ⟨x3, x4⟩
theorem R_rd24 {W : World} {base g cap n : Nat} {ok : Nat → Prop} {xs : List S30} (h : Kd.R k30 30 W base ok (.slice (some ⟨g, 0, none⟩) n cap) xs) {i : Nat} (hi : i < n) :
    W.cell? ⟨g, i * 6 + 2, none⟩ = some (.int .i64 (rd_T30 xs i).f2) ∧ W.cell? ⟨g, i * 6 + 4, none⟩ = some (.int .i64 (rd_T30 xs i).f4) := by
  obtain ⟨hn, _, hC⟩ := Kd.R_reads' h
  obtain ⟨ad, e, x0, x1, x2, x3, x4, x5⟩ := at_T30 hC (i : Int) (by omega) (by omega)
  injection e with e
  subst e
  rw [Int.toNat_natCast] at x2 x4
  rw [adr_block, adr_off] at x2 x4
  simp only [Nat.zero_add] at x2 x4
  exact ⟨x2, x4⟩
end Go.Proofs.Ytkbcgahpekmlbaa.PPg

namespace Go.Proofs.Ytkbcgahpekmlbaa.PPg
open Go.RowKit Go.Proofs.YtkbcgahpekmlbaaW.PrintWords Go.Proofs.YtkbcgahpekmlbaaW.PrintLast Go.Proofs.YtkbcgahpekmlbaaW.PrintMore
set_option linter.unusedVariables false
set_option maxRecDepth 100000
theorem rin_c (w : World) (a lo hi : Int) (b : Bool) (h : decide (lo ≤ a ∧ a ≤ hi) = b) :
    Calls Try.prog 72 #[.int .i64 a, .int .i64 lo, .int .i64 hi] w fun e w' => e = .returned (.bool b) ∧ w = w' := by
  subst h
  by_cases c : lo ≤ a
  · have hd : decide (lo ≤ a ∧ a ≤ hi) = decide (a ≤ hi) := by rw [Bool.eq_iff_iff]; simp; omega
    rw [hd]
    clear hd
    go_enter Try.func72, Try.ntmps72
    go_wp2_with fail
    go_ret
    exact ⟨rfl, rfl⟩
  · have hd : decide (lo ≤ a ∧ a ≤ hi) = false := by simp; omega
    rw [hd]
    clear hd
    go_enter Try.func72, Try.ntmps72
    go_wp2_with fail
    go_ret
    exact ⟨rfl, rfl⟩
/-- A store into the end of a row's span. -/
theorem R_pokeS {W : World} {base g cap n : Nat} {ok : Nat → Prop} {xs : List S41} (h : Kd.R k41 41 W base ok (.slice (some ⟨g, 0, none⟩) n cap) xs) {i : Nat} (hi : i < n) (v : Int) :
    Kd.R k41 41 (W.setCell ⟨g, i * 2 + 1, none⟩ (.int .i64 v)) base ok (.slice (some ⟨g, 0, none⟩) n cap) (xs.set i { rd_T41 xs i with f1 := v }) ∧ W.grownBy (W.setCell ⟨g, i * 2 + 1, none⟩ (.int .i64 v)) (some g) := by
  obtain ⟨hn, _, hC⟩ := Kd.R_reads' h
  obtain ⟨ad, e, x0, x1⟩ := at_T41 hC (i : Int) (by omega) (by omega)
  injection e with e
  subst e
  rw [Int.toNat_natCast] at x0 x1
  rw [adr_block, adr_off] at x1
  have e0 : (⟨g, 0, none⟩ : Addr).add (i * 2) = ⟨g, i * 2, none⟩ := by
    unfold Addr.add
    split
    · rename_i h; rw [h]
    · rw [Nat.zero_add]
  rw [e0] at x0
  simp only [Nat.zero_add] at x1
  have := Kd.R_seg (d := k41) h (i : Int) (by omega) (by omega) (c := [.int .i64 (rd_T41 xs i).f0, .int .i64 (rd_T41 xs i).f1]) (seg := [.int .i64 v]) (j := 1) (x' := { rd_T41 xs i with f1 := v }) (okp := fun _ => False) rfl (fun j u hu => by
    rw [Int.toNat_natCast]
    match j, hu with
    | 0, hu => simp only [List.getElem?_cons_zero, Option.some.injEq] at hu; subst hu; exact x0
    | 1, hu => simp only [List.getElem?_cons_succ, List.getElem?_cons_zero, Option.some.injEq] at hu; subst hu; exact x1
    | j + 2, hu => simp at hu) (Nat.le_of_ble_eq_true rfl) (k41_mkM _ _ _ { rd_T41 xs i with f1 := v }) (fun _ hk => hk.elim)
  rw [Int.toNat_natCast] at this
  exact this
theorem R_rdS {W : World} {base g cap n : Nat} {ok : Nat → Prop} {xs : List S41} (h : Kd.R k41 41 W base ok (.slice (some ⟨g, 0, none⟩) n cap) xs) {i : Nat} (hi : i < n) :
    W.cell? ⟨g, i * 2 + 1, none⟩ = some (.int .i64 (rd_T41 xs i).f1) := by
  obtain ⟨hn, _, hC⟩ := Kd.R_reads' h
  obtain ⟨ad, e, x0, x1⟩ := at_T41 hC (i : Int) (by omega) (by omega)
  injection e with e
  subst e
  rw [Int.toNat_natCast] at x1
  rw [adr_block, adr_off] at x1
  simp only [Nat.zero_add] at x1
  exact x1
/-- One residue more. -/
theorem can_skip {p : Int → Bool} {d : Nat} (h : p d = false) : can (d + 1) p = can d p := by
  unfold can
  simp only [rr]
  rw [if_neg (by rw [h]; decide)]
theorem can_new {p : Int → Bool} {d : Nat} (h : p d = true) (hl : can d p = [] ∨ (rd_T41 (can d p) ((can d p).length - 1 : Nat)).f1 ≠ d) : can (d + 1) p = can d p ++ [⟨d, d + 1⟩] := by
  unfold can at *
  simp only [rr]
  rw [if_pos h]
  cases hr : rr p d with
  | nil => simp
  | cons u l =>
    rw [hr] at hl
    have hl2 : u.f1 ≠ d := by
      rcases hl with hl | hl
      · simp at hl
      · unfold rd_T41 at hl
        simpa [List.getD_eq_getElem?_getD, List.getElem?_append_right] using hl
    simp only [if_neg hl2]
    simp
theorem can_more {p : Int → Bool} {d : Nat} (h : p d = true) (hn : can d p ≠ []) (hl : (rd_T41 (can d p) ((can d p).length - 1 : Nat)).f1 = d) : can (d + 1) p = (can d p).set ((can d p).length - 1) { rd_T41 (can d p) ((can d p).length - 1 : Nat) with f1 := (d : Int) + 1 } := by
  unfold can at *
  simp only [rr]
  rw [if_pos h]
  cases hr : rr p d with
  | nil => rw [hr] at hn; simp at hn
  | cons u l =>
    rw [hr] at hl
    unfold rd_T41 at *
    have hl2 : u.f1 = d := by simpa [List.getD_eq_getElem?_getD, List.getElem?_append_right] using hl
    simp only [if_pos hl2]
    simp [List.getD_eq_getElem?_getD, List.set_append_right]
section
variable {w w0 : World} {g n : Nat} {ev : List S65} {ac : List S30} {bs : List Nat} {q : Mx}
set_option maxHeartbeats 1000000 in
theorem BetweenR_out (hm : ev.length ≤ 48) (i j : Int) (hT : RTq w w0 g n ev ac bs ev.length q) (ho : i < 0 ∨ j < 0 ∨ (ev.length : Int) ≤ i ∨ (ev.length : Int) ≤ j) :
    Calls Try.prog 56 #[.pointer (some ⟨g, 0, none⟩), .int .i64 i, .int .i64 j] w fun e w' => e = .returned (.slice none 0 0) ∧ w = w' := by
  obtain ⟨A1, c1, A2, c2, k1, k2, _, _⟩ := RT_net hT.1
  clear hT
  by_cases c : 0 ≤ i ∧ i ≤ (ev.length : Int) - 1
  · have hd := decide_eq_true c
    have he : decide (0 ≤ j ∧ j ≤ (ev.length : Int) - 1) = false := decide_eq_false (by omega)
    have HD := Aside0.mk hd
    have HE := Aside0.mk he
    clear hd he ho c
    go_enter Try.func56, Try.ntmps56
    go_wp2_with fail
    refine (rin_c _ i 0 ((ev.length : Int) - 1) true HD.out).mono ?_
    rintro _ _ ⟨rfl, rfl⟩
    go_wp2_with fail
    refine (rin_c _ j 0 ((ev.length : Int) - 1) false HE.out).mono ?_
    rintro _ _ ⟨rfl, rfl⟩
    go_wp2_with fail
    go_ret
    exact ⟨rfl, rfl⟩
  · have HD := Aside0.mk (decide_eq_false c)
    clear ho c
    go_enter Try.func56, Try.ntmps56
    go_wp2_with fail
    refine (rin_c _ i 0 ((ev.length : Int) - 1) false HD.out).mono ?_
    rintro _ _ ⟨rfl, rfl⟩
    go_wp2_with fail
    go_ret
    exact ⟨rfl, rfl⟩
set_option maxHeartbeats 4000000 in
theorem BetweenR_in {i j : Nat} (h1 : 1 ≤ n) (hn : n ≤ 7200) (hm : ev.length ≤ 48) (hi : i < ev.length) (hj : j < ev.length) (hT : RTq w w0 g n ev ac bs ev.length q) {s : List S41} (hs : can n (q i j) = s) :
    Calls Try.prog 56 #[.pointer (some ⟨g, 0, none⟩), .int .i64 i, .int .i64 j] w fun e w' => (∃ A c, e = .returned (.slice A s.length c) ∧ VS w' (.slice A s.length c) s) ∧ Below w.heap.size w w' := by
  subst hs
  obtain ⟨A1, c1, A2, c2, k1, k2, _, _⟩ := RT_net hT.1
  obtain ⟨b, hb⟩ := RTq_hdr hT hi hj
  have HBW := Aside0.mk (hT.1.rows _ _ hb)
  obtain ⟨gr, c3, s3, u1⟩ := RT_at hT.1 hb
  have B1 := ix_lt hi hj
  have L := hT.2
  have MM : ev.length * ev.length ≤ 2304 := Nat.mul_le_mul hm hm
  obtain ⟨im, him⟩ : ∃ z : Nat, i * ev.length = z := ⟨_, rfl⟩
  have ai : (i : Int) * (ev.length : Int) = (im : Int) := by rw [← him]; exact (Int.natCast_mul i ev.length).symm
  rw [him] at B1 u1
  obtain ⟨ix, hix⟩ : ∃ z : Nat, im + j = z := ⟨_, rfl⟩
  rw [hix] at B1 u1
  have l1 : (ix : Int) < bs.length := by omega
  have l2 : ix < bs.length := by omega
  have aj : (im : Int) + (j : Int) = (ix : Int) := by omega
  have HRW : Aside0 (w.heap[b]? = some (.cells (rowA n (q i j)) 4 (0, 0))) := ⟨by
    have := HBW.out.1
    rwa [ix_div hj, ix_mod hj] at this⟩
  have HD := Aside0.mk (decide_eq_true (show (0 : Int) ≤ i ∧ (i : Int) ≤ (ev.length : Int) - 1 by omega))
  have HE := Aside0.mk (decide_eq_true (show (0 : Int) ≤ j ∧ (j : Int) ≤ (ev.length : Int) - 1 by omega))
  have b0 : 0 ≤ (i : Int) * (ev.length : Int) := by omega
  have b1 : (i : Int) * (ev.length : Int) ≤ 2304 := by omega
  clear hT him hix MM L hb HBW
  generalize q i j = p at *
  go_enter Try.func56, Try.ntmps56
  go_wp2_with fail
  refine (rin_c _ i 0 ((ev.length : Int) - 1) true HD.out).mono ?_
  rintro _ _ ⟨rfl, rfl⟩
  go_wp2_with fail
  refine (rin_c _ j 0 ((ev.length : Int) - 1) true HE.out).mono ?_
  rintro _ _ ⟨rfl, rfl⟩
  go_wp2_with fail
  clear s3 u1 k1
  go_loopw [8, 10] (fun v8 v10 wr => ∃ (d : Nat) (A : Option Addr) (c : Nat), v10 = .int .i64 d ∧ v8 = .slice A (can d p).length c ∧ Aside0 (d ≤ n) ∧ Aside0 (Kd.R k41 41 wr w.heap.size (fun _ => True) (.slice A (can d p).length c) (can d p)) ∧ Aside0 (Below w.heap.size w wr)) (fun _ v10 _ => n - (intOf v10).toNat)
  case atStart => exact ⟨0, none, 0, rfl, rfl, ⟨Nat.zero_le _⟩, ⟨Kd.R_nil _ _ _ _ _⟩, ⟨Below.refl _ _⟩⟩
  case round =>
    obtain ⟨d, A, c, rfl, rfl, HI, HR, HB⟩ := hrel
    have d1 := HI.out
    have HLN : Aside0 ((can d p).length ≤ d) := ⟨by unfold can; rw [List.length_reverse]; exact can_len p d⟩
    have hs := HLN.out
    by_cases cd : d < n
    · have hc : wr.cell? ⟨b, d, none⟩ = some (.bool (p d)) := by
        rw [blk_cell ((HB.out.block b (blk_lt HRW.out)).trans HRW.out), rowA_get cd]
      cases hp : p (d : Int) with
      | false =>
        have HN := Aside0.mk (can_skip hp)
        rw [hp] at hc
        clear hp
        generalize can d p = s at *
        go_wp2_with fail
        go_roundw
        case rel => exact ⟨d + 1, A, c, by go_num, by rw [HN.out], ⟨by omega⟩, by rw [HN.out]; exact HR, HB⟩
        case measure => simp [intOf]; omega
      | true =>
        have HN1 := Aside0.mk (can_new (p := p) (d := d) hp)
        have HN2 := Aside0.mk (can_more (p := p) (d := d) hp)
        rw [hp] at hc
        clear hp
        generalize can d p = s at *
        have HZ := Aside0.mk HB.out.size
        by_cases cs : s = []
        · subst cs
          have HN := Aside0.mk (HN1.out (.inl rfl))
          clear HN1 HN2
          simp only [List.length_nil] at *
          go_wp2_with (first | ((with_reducible refine gate_builtin (b := .append) (xs := #[.tmp 73, .tmp 78]) rfl ?_); at_builtin; go_loud (refine Kd.R_append k41 (w0 := w) w.heap.size rfl (.tmp 73) (.tmp 78) 42 41 (.agg #[(.int .i64 0), (.int .i64 0)]) 16 rfl Try.underlying42 info41 rfl (by decide) (by omega) (.slice A 0 c) [] ⟨d, d + 1⟩ [.int .i64 d, .int .i64 (d + 1)] (fun _ => True) (fun _ => False) rfl rfl (k41_mkM _ _ _ ⟨d, d + 1⟩) (fun _ hk => hk.elim) (fun _ _ => trivial) HR.out HB.out HZ.out (by simp) ?_; intro v5 w5 ho hb hg hat; obtain ⟨A5, c5, e5⟩ := Kd.R_slice ho; subst e5; have HR5 := Aside0.mk ho; have HB5 := Aside0.mk hb; clear ho hb hg hat HR HB)))
          go_roundw
          case rel => exact ⟨d + 1, A5, c5, by go_num, by rw [HN.out]; simp, ⟨by omega⟩, by rw [HN.out]; exact HR5, HB5⟩
          case measure => simp [intOf]; omega
        · obtain ⟨L, hL⟩ : ∃ L : Nat, s.length = L + 1 := ⟨s.length - 1, by have : s.length ≠ 0 := fun e => cs (List.eq_nil_of_length_eq_zero e); omega⟩
          have HL := Aside0.mk hL
          have e1 : (s.length : Int) - 1 = (L : Int) := by omega
          have e2 : (0 : Int) < s.length := by omega
          have e3 : (L : Int) < s.length := by omega
          have e4 : 0 < s.length := by omega
          have e5 : s.length - 1 = L := by omega
          obtain ⟨gb, c', ex, hgb, _, cells, hcl⟩ := Kd.R_form HR.out (by omega)
          injection ex with ex _ ec
          subst ex ec
          have FZ := blk_frozen hcl (L * 2 + 1)
          have x1 := R_rdS HR.out (i := L) (by omega)
          have HG := Aside0.mk hgb
          have HCS := Aside0.mk cs
          rw [e5] at HN1 HN2
          clear hL hcl hgb e5 cs
          obtain ⟨l, hl⟩ : ∃ l, (rd_T41 s (L : Int)).f1 = l := ⟨_, rfl⟩
          rw [hl] at x1
          have HLL := Aside0.mk hl
          clear hl
          by_cases ce : l = d
          · subst ce
            have HN := Aside0.mk (HN2.out HCS.out HLL.out)
            have HP := Aside0.mk (R_pokeS HR.out (i := L) (by have := HL.out; omega) ((d : Int) + 1))
            clear HN1 HN2
            go_wp2_with fail
            go_roundw
            case rel =>
              refine ⟨d + 1, some ⟨gb, 0, none⟩, c, by go_num, by rw [HN.out, List.length_set], ⟨by omega⟩, ⟨?_⟩, ⟨HB.out.setCell (p := ⟨gb, L * 2 + 1, none⟩) HG.out _⟩⟩
              rw [HN.out, List.length_set]
              exact HP.out.1
            case measure => simp [intOf]; omega
          · have ne1 : (l == (d : Int)) = false := by simpa using ce
            have HN := Aside0.mk (HN1.out (.inr (by rw [HLL.out]; exact ce)))
            clear HN1 HN2 ce
            go_wp2_with (first | ((with_reducible refine gate_builtin (b := .append) (xs := #[.tmp 73, .tmp 78]) rfl ?_); at_builtin; go_loud (refine Kd.R_append k41 (w0 := w) w.heap.size rfl (.tmp 73) (.tmp 78) 42 41 (.agg #[(.int .i64 0), (.int .i64 0)]) 16 rfl Try.underlying42 info41 rfl (by decide) (by omega) (.slice (some ⟨gb, 0, none⟩) s.length c) s ⟨d, d + 1⟩ [.int .i64 d, .int .i64 (d + 1)] (fun _ => True) (fun _ => False) rfl rfl (k41_mkM _ _ _ ⟨d, d + 1⟩) (fun _ hk => hk.elim) (fun _ _ => trivial) HR.out HB.out HZ.out (by omega) ?_; intro v5 w5 ho hb hg hat; obtain ⟨A5, c5, e5⟩ := Kd.R_slice ho; subst e5; have HR5 := Aside0.mk ho; have HB5 := Aside0.mk hb; clear ho hb hg hat HR HB)))
            go_roundw
            case rel => exact ⟨d + 1, A5, c5, by go_num, by rw [HN.out]; simp, ⟨by omega⟩, by rw [HN.out]; exact HR5, HB5⟩
            case measure => simp [intOf]; omega
    · have dn : d = n := by omega
      subst dn
      go_wp2_with fail
      go_ret
      exact ⟨⟨A, c, rfl, VS_R HR.out⟩, HB.out⟩
end
end Go.Proofs.Ytkbcgahpekmlbaa.PPg

namespace Go.Proofs.Ytkbcgahpekmlbaa.PPg
open Go.RowKit Go.Proofs.YtkbcgahpekmlbaaW.PrintWords Go.Proofs.YtkbcgahpekmlbaaW.PrintLast Go.Proofs.YtkbcgahpekmlbaaW.PrintMore
set_option linter.unusedVariables false
set_option maxRecDepth 100000
theorem info73 : (Try.prog.info? 73).map (fun i => (i.zero, i.size, i.bytes)) = some (some (.slice none 0 0), 1, 24) := by kernel_rfl
theorem made_row (n : Nat) : madeCells #[.bool false] n = rowA n (fun _ => false) := by
  unfold madeCells rowA
  apply Array.ext_getElem?
  intro i
  by_cases h : i < n
  · simp [h, Nat.mod_one]
  · simp [h]
theorem rowA_ext {n : Nat} {p q : Int → Bool} (h : ∀ d : Nat, d < n → p d = q d) : rowA n p = rowA n q := by
  unfold rowA
  refine congrArg List.toArray (List.map_congr_left fun d hd => ?_)
  rw [h d (List.mem_range.1 hd)]
theorem row0 (n : Nat) (f : Int → Bool) : rowA n (fun _ => false) = rowA n (fun x => decide (x < (0 : Nat)) && f x) := rowA_ext fun d _ => by
  show false = _
  rw [decide_eq_false (by omega), Bool.false_and]
theorem rowS (n : Nat) (f : Int → Bool) (d : Nat) {v : Bool} (hv : v = f d) : rowA n (put1 (fun x => decide (x < (d : Int)) && f x) d v) = rowA n (fun x => decide (x < ((d + 1 : Nat) : Int)) && f x) := rowA_ext fun e _ => by
  unfold put1
  by_cases he : (e : Int) = d
  · rw [if_pos he, he, hv, decide_eq_true (show (d : Int) < ((d + 1 : Nat) : Int) by omega), Bool.true_and]
  · rw [if_neg he]
    show (decide ((e : Int) < d) && f e) = _
    by_cases hl : (e : Int) < d
    · rw [decide_eq_true hl, decide_eq_true (show (e : Int) < ((d + 1 : Nat) : Int) by omega)]
    · rw [decide_eq_false hl, decide_eq_false (show ¬ (e : Int) < ((d + 1 : Nat) : Int) by omega)]
theorem rowN {n d : Nat} (f : Int → Bool) (h : d = n) : rowA n (fun x => decide (x < (d : Int)) && f x) = rowA n f := rowA_ext fun e he => by
  show (decide ((e : Int) < d) && f e) = f e
  rw [decide_eq_true (by omega), Bool.true_and]
section
variable {w w' w0 : World} {g n : Nat} {ev : List S65} {ac : List S30} {bs : List Nat} {p : Nat → Int → Bool}
theorem RT_new {W : World} {A1 A2 : Option Addr} {c1 c2 : Nat} (hB : Below w0.heap.size w0 W) (h1 : ev.length ≤ c1 ∧ Kd.C k65 w0 A1 ev.length ev) (h2 : ac.length ≤ c2 ∧ Kd.C k30 w0 A2 ac.length ac) (p : Nat → Int → Bool) :
    RT (W.alloc (.cells #[.int .i64 n, .slice A1 ev.length c1, .slice A2 ac.length c2, .slice none 0 0] 97)) w0 W.heap.size n ev ac [] p :=
  ⟨⟨A1, c1, A2, c2, .slice none 0 0, heap_alloc_new W _, h1, h2, Kd.R_nil _ _ _ _ _⟩, hB.size, fun k b h => by simp at h, fun k k' b h => by simp at h, hB.alloc hB.size _⟩
/-- A store into a set's block that isn't in the table. -/
theorem RT_far (h : RT w w0 g n ev ac bs p) {b0 : Nat} {cs : Array Value} (hb : w.heap[b0]? = some (.cells cs 4 (0, 0))) (hne : ∀ k : Nat, bs[k]? ≠ some b0) (hge : w0.heap.size ≤ b0) (d : Nat) (v : Value) : RT (w.setCell ⟨b0, d, none⟩ v) w0 g n ev ac bs p := by
  obtain ⟨A1, c1, A2, c2, v3, h1, h2, h3, h4⟩ := h.tab
  refine ⟨⟨A1, c1, A2, c2, v3, ?_, h2, h3, Kd.R_set h4 hb (fun q hq => by have := E73 q hq; omega) _ _⟩, h.ge, fun k b hk => ⟨?_, (h.rows k b hk).2⟩, h.inj, h.below.setCell (p := ⟨b0, d, none⟩) hge _⟩
  · exact (Below.heap_setCell w ⟨b0, d, none⟩ _ g (blk_ne h1 hb (by decide))).trans h1
  · exact (Below.heap_setCell w ⟨b0, d, none⟩ _ b (fun e => hne k (by rw [hk, show b = b0 from e]))).trans (h.rows k b hk).1
/-- The value of the headers' slice. -/
theorem RT_hdrs (h : RT w w0 g n ev ac bs p) : ∃ v3, w.cell? ⟨g, 3, none⟩ = some v3 ∧ w.frozen? ⟨g, 3, none⟩ = false ∧ Kd.R (kH n) 73 w w0.heap.size (fun k => k ≠ g) v3 bs := by
  obtain ⟨A1, c1, A2, c2, v3, h1, _, _, h4⟩ := h.tab
  exact ⟨v3, by rw [blk_cell h1]; rfl, blk_frozen h1 _, h4⟩
/-- A set more. -/
theorem RT_app {W w5 : World} {v3 v5 : Value} {b0 : Nat} {pp : Int → Bool} (h : RT W w0 g n ev ac bs p) (h3 : W.cell? ⟨g, 3, none⟩ = some v3) (hb0 : W.heap[b0]? = some (.cells (rowA n pp) 4 (0, 0))) (hne : ∀ k : Nat, bs[k]? ≠ some b0) (hge : w0.heap.size ≤ b0)
    (ho : Kd.R (kH n) 73 w5 w0.heap.size (fun k => k ≠ g) v5 (bs ++ [b0])) (hg : W.grownBy w5 v3.ownBlock) (hB : Below w0.heap.size w0 w5) :
    (w5.cell? ⟨g, 3, none⟩ = some v3 ∧ w5.frozen? ⟨g, 3, none⟩ = false) ∧ RT (w5.setCell ⟨g, 3, none⟩ v5) w0 g n ev ac (bs ++ [b0]) (fun k => if k = bs.length then pp else p k) ∧
      ∀ (k : Nat) (cells : Array Value) (t : TypeId), t ≠ 73 → t ≠ 97 → W.heap[k]? = some (.cells cells t (0, 0)) → (w5.setCell ⟨g, 3, none⟩ v5).heap[k]? = some (.cells cells t (0, 0)) := by
  obtain ⟨A1, c1, A2, c2, u3, hb, h1, h2, h4⟩ := h.tab
  rw [blk_cell hb] at h3
  have e : u3 = v3 := by simpa using h3
  subst e
  have hne3 : some g ≠ u3.ownBlock := fun e => h4.1 g e.symm rfl
  have hb5 := (hg.block g (blk_lt hb) hne3).trans hb
  have hcells : ∀ k, u3.ownBlock = some k → ∃ cells, W.heap[k]? = some (.cells cells 73 (0, 0)) := fun k hk => by
    obtain ⟨_, l, ho4, _⟩ := h4
    exact own_typed ho4 k hk
  have hk1 : ∀ (k : Nat) (cells : Array Value) (t : TypeId), t ≠ 73 → W.heap[k]? = some (.cells cells t (0, 0)) → w5.heap[k]? = some (.cells cells t (0, 0)) := fun k cells t ht hc => (hg.block k (blk_lt hc) (fun e => by
    obtain ⟨cs, hcs⟩ := hcells k e.symm
    rw [hcs] at hc
    injection hc with hc
    injection hc with _ hc
    exact ht hc.symm)).trans hc
  have hk2 : ∀ (k : Nat) (cells : Array Value) (t : TypeId), t ≠ 73 → t ≠ 97 → W.heap[k]? = some (.cells cells t (0, 0)) → (w5.setCell ⟨g, 3, none⟩ v5).heap[k]? = some (.cells cells t (0, 0)) := fun k cells t ht ht2 hc => (Below.heap_setCell w5 ⟨g, 3, none⟩ v5 k (fun e => by
    have e' : k = g := e
    subst e'
    rw [hb] at hc
    injection hc with hc
    injection hc with _ hc
    exact ht2 hc.symm)).trans (hk1 k cells t ht hc)
  refine ⟨⟨by rw [blk_cell hb5]; rfl, blk_frozen hb5 _⟩, ⟨⟨A1, c1, A2, c2, v5, ?_, h1, h2, Kd.R_far (p := ⟨g, 3, none⟩) ho (fun k hk => hk) v5⟩, h.ge, fun k b hk => ?_, fun k k' b hk hk' => ?_, hB.setCell (p := ⟨g, 3, none⟩) h.ge _⟩, hk2⟩
  · exact blk_set hb5 3 v5
  · by_cases e : k < bs.length
    · rw [List.getElem?_append_left e] at hk
      rw [if_neg (by omega)]
      exact ⟨hk2 _ _ _ (by decide) (by decide) (h.rows k b hk).1, (h.rows k b hk).2⟩
    · have e2 : k = bs.length := by
        have := (List.getElem?_eq_some_iff.1 hk).1
        simp at this; omega
      subst e2
      rw [List.getElem?_append_right (Nat.le_refl _), Nat.sub_self] at hk
      simp only [List.getElem?_cons_zero, Option.some.injEq] at hk
      subst hk
      rw [if_pos rfl]
      exact ⟨hk2 _ _ _ (by decide) (by decide) hb0, hge⟩
  · by_cases e : k < bs.length
    · rw [List.getElem?_append_left e] at hk
      by_cases e' : k' < bs.length
      · rw [List.getElem?_append_left e'] at hk'
        exact h.inj k k' b hk hk'
      · have e2 : k' = bs.length := by
          have := (List.getElem?_eq_some_iff.1 hk').1
          simp at this; omega
        subst e2
        rw [List.getElem?_append_right (Nat.le_refl _), Nat.sub_self] at hk'
        simp only [List.getElem?_cons_zero, Option.some.injEq] at hk'
        subst hk'
        exact absurd hk (hne k)
    · have e2 : k = bs.length := by
        have := (List.getElem?_eq_some_iff.1 hk).1
        simp at this; omega
      subst e2
      rw [List.getElem?_append_right (Nat.le_refl _), Nat.sub_self] at hk
      simp only [List.getElem?_cons_zero, Option.some.injEq] at hk
      subst hk
      by_cases e' : k' < bs.length
      · rw [List.getElem?_append_left e'] at hk'
        exact absurd hk' (hne k')
      · have := (List.getElem?_eq_some_iff.1 hk').1
        simp at this; omega
theorem RT_fresh (h : RT w w0 g n ev ac bs p) {b0 : Nat} (hb : w.heap.size ≤ b0) : ∀ k : Nat, bs[k]? ≠ some b0 := fun k hk => by
  have := blk_lt (h.rows k b0 hk).1
  omega
end
/-- The reference's first matrix. -/
def q00R : Mx := fun i j x => decide (i ≠ j) || decide (x = 0)
theorem q00R_same {n m : Nat} (hn : 1 ≤ n) : same n m q00R (q00 n) := by
  intro i j _ _ x x0 x1
  unfold q00R q00
  have e : (x - 0) % (n : Int) = x := by rw [Int.sub_zero]; exact Int.emod_eq_of_lt x0 x1
  by_cases h : i = j
  · rw [if_pos h, e, decide_eq_false (by simpa using h), Bool.false_or]
    by_cases hx : x = 0
    · rw [decide_eq_true hx, decide_eq_true (by omega)]
    · rw [decide_eq_false hx, decide_eq_false (by omega)]
  · rw [if_neg h, e, decide_eq_true (by simpa using h), Bool.true_or, decide_eq_true x1]
/-- What an activity takes away, for the residues before D. -/
def acutR (n : Nat) (q : Mx) (a : S30) (D : Nat) : Mx := fun i j x => q i j x && !(decide (i = a.f1.toNat ∧ j = a.f2.toNat ∧ x < D ∧ there n a x = false) || decide (i = a.f2.toNat ∧ j = a.f1.toNat ∧ (-x) % (n : Int) < D ∧ there n a ((-x) % n) = false))
theorem acutR_iff {n : Nat} {q : Mx} {a : S30} {D i j : Nat} {x : Int} : acutR n q a D i j x = true ↔ q i j x = true ∧ (i = a.f1.toNat ∧ j = a.f2.toNat ∧ x < D → there n a x = true) ∧ (i = a.f2.toNat ∧ j = a.f1.toNat ∧ (-x) % (n : Int) < D → there n a ((-x) % n) = true) := by
  unfold acutR
  rw [Bool.and_eq_true, Bool.not_eq_true', Bool.or_eq_false_iff, decide_eq_false_iff_not, decide_eq_false_iff_not]
  refine and_congr Iff.rfl (and_congr ?_ ?_)
  · constructor
    · intro h ⟨h1, h2, h3⟩
      cases e : there n a x with
      | true => rfl
      | false => exact absurd ⟨h1, h2, h3, e⟩ h
    · rintro h ⟨h1, h2, h3, h4⟩
      rw [h ⟨h1, h2, h3⟩] at h4; cases h4
  · constructor
    · intro h ⟨h1, h2, h3⟩
      cases e : there n a ((-x) % n) with
      | true => rfl
      | false => exact absurd ⟨h1, h2, h3, e⟩ h
    · rintro h ⟨h1, h2, h3, h4⟩
      rw [h ⟨h1, h2, h3⟩] at h4; cases h4
theorem same_iff {n m : Nat} {q q' : Mx} (h : ∀ i j, i < m → j < m → ∀ x : Int, 0 ≤ x → x < n → (q i j x = true ↔ q' i j x = true)) : same n m q q' := fun i j hi hj x x0 x1 => by
  rw [Bool.eq_iff_iff]; exact h i j hi hj x x0 x1
theorem acutR_zero {n m : Nat} (hn : 1 ≤ n) (q : Mx) (a : S30) : same n m q (acutR n q a 0) := same_iff fun i j _ _ x x0 x1 => by
  rw [acutR_iff]
  have := Int.emod_nonneg (-x) (show (n : Int) ≠ 0 by omega)
  exact ⟨fun h => ⟨h, fun h => by omega, fun h => by omega⟩, fun h => h.1⟩
theorem acutR_skip {n m : Nat} (hn : 1 ≤ n) (q : Mx) (a : S30) {d : Nat} (h : there n a d = true) : same n m (acutR n q a d) (acutR n q a (d + 1)) := same_iff fun i j _ _ x x0 x1 => by
  rw [acutR_iff, acutR_iff]
  constructor
  · rintro ⟨h1, h2, h3⟩
    refine ⟨h1, fun ⟨e1, e2, e3⟩ => ?_, fun ⟨e1, e2, e3⟩ => ?_⟩
    · by_cases e : x = d
      · rw [e]; exact h
      · exact h2 ⟨e1, e2, by omega⟩
    · by_cases e : (-x) % (n : Int) = d
      · rw [e]; exact h
      · exact h3 ⟨e1, e2, by omega⟩
  · rintro ⟨h1, h2, h3⟩
    exact ⟨h1, fun ⟨e1, e2, e3⟩ => h2 ⟨e1, e2, by omega⟩, fun ⟨e1, e2, e3⟩ => h3 ⟨e1, e2, by omega⟩⟩
theorem acutR_put {n m : Nat} (hn : 1 ≤ n) (q : Mx) (a : S30) {d r : Nat} (hd : d < n) (h : there n a d = false) (hr : (-(d : Int)) % n = r) : same n m (offq (offq (acutR n q a d) a.f1.toNat a.f2.toNat d) a.f2.toNat a.f1.toNat r) (acutR n q a (d + 1)) := same_iff fun i j _ _ x x0 x1 => by
  rw [offq_at, offq_at, Bool.and_eq_true, Bool.and_eq_true, acutR_iff, acutR_iff]
  simp only [Bool.not_eq_true', Bool.and_eq_false_iff, decide_eq_false_iff_not]
  have hx : (-x) % (n : Int) = d ↔ x = r := by
    constructor
    · intro e
      have := neg_neg x0 x1
      rw [e, hr] at this
      exact this.symm
    · intro e
      rw [e, ← hr]
      exact neg_neg (by omega) (by omega)
  constructor
  · rintro ⟨⟨⟨h1, h2, h3⟩, h4⟩, h5⟩
    refine ⟨h1, fun ⟨e1, e2, e3⟩ => h2 ⟨e1, e2, ?_⟩, fun ⟨e1, e2, e3⟩ => h3 ⟨e1, e2, ?_⟩⟩
    · rcases h4 with (h4 | h4) | h4
      · exact absurd e1 h4
      · exact absurd e2 h4
      · omega
    · have h6 : (-x) % (n : Int) ≠ d := fun e => by
        rcases h5 with (h5 | h5) | h5
        · exact h5 e1
        · exact h5 e2
        · exact h5 (hx.1 e)
      omega
  · rintro ⟨h1, h2, h3⟩
    refine ⟨⟨⟨h1, fun ⟨e1, e2, e3⟩ => h2 ⟨e1, e2, by omega⟩, fun ⟨e1, e2, e3⟩ => h3 ⟨e1, e2, by omega⟩⟩, ?_⟩, ?_⟩
    · by_cases e1 : i = a.f1.toNat
      · by_cases e2 : j = a.f2.toNat
        · refine .inr fun e => ?_
          have := h2 ⟨e1, e2, by omega⟩
          rw [e, h] at this; cases this
        · exact .inl (.inr e2)
      · exact .inl (.inl e1)
    · by_cases e1 : i = a.f2.toNat
      · by_cases e2 : j = a.f1.toNat
        · refine .inr fun e => ?_
          have e' := hx.2 e
          have := h3 ⟨e1, e2, by omega⟩
          rw [e', h] at this; cases this
        · exact .inl (.inr e2)
      · exact .inl (.inl e1)
theorem acutR_all {n m : Nat} (hn : 1 ≤ n) {q q' : Mx} {a : S30} (ha : okAct n a) (hq : same n m q q') : same n m (acutR n q a n) (acut n q' a) := same_iff fun i j hi hj x x0 x1 => by
  rw [acutR_iff, acut_iff ha.1, hq i j hi hj x x0 x1, back_there hn ha.2.1 ha.2.2 x0 x1]
  have := Int.emod_lt_of_pos (-x) (show (0 : Int) < n by omega)
  exact ⟨fun ⟨h1, h2, h3⟩ => ⟨h1, fun h => h2 ⟨h.1, h.2, x1⟩, fun h => h3 ⟨h.1, h.2, this⟩⟩, fun ⟨h1, h2, h3⟩ => ⟨h1, fun h => h2 ⟨h.1, h.2.1⟩, fun h => h3 ⟨h.1, h.2.1⟩⟩⟩
theorem same_trans {n m : Nat} {a b c : Mx} (h : same n m a b) (k : same n m b c) : same n m a c := fun i j hi hj x x0 x1 => (h i j hi hj x x0 x1).trans (k i j hi hj x x0 x1)
theorem same_refl (n m : Nat) (a : Mx) : same n m a a := fun _ _ _ _ _ _ _ => rfl
/-- The reference's test. -/
theorem there_test {n : Nat} (hn : 1 ≤ n) {a : S30} {d r : Int} (hr : (d - a.f3) % n = r) : there n a d = decide (r ≤ a.f4 - a.f3) := by
  unfold there
  rw [hr]
  by_cases h : r ≤ a.f4 - a.f3
  · rw [decide_eq_true h, decide_eq_true (by omega)]
  · rw [decide_eq_false h, decide_eq_false (by omega)]
end Go.Proofs.Ytkbcgahpekmlbaa.PPg

namespace Go.Proofs.Ytkbcgahpekmlbaa.PPg
open Go.RowKit Go.Proofs.YtkbcgahpekmlbaaW.PrintWords Go.Proofs.YtkbcgahpekmlbaaW.PrintLast Go.Proofs.YtkbcgahpekmlbaaW.PrintMore
set_option linter.unusedVariables false
set_option maxRecDepth 100000
/-- The pairs before t, in the order of the table. -/
def preR (m t : Nat) : Nat → Int → Bool := fun k => q00R (k / m) (k % m)
/-- What the reference's Close did. -/
def ClR (w : World) (n : Nat) (ev : List S65) (ac : List S30) (e : Ending) (w' : World) : Prop :=
  ∃ g bs q, e = .returned (.tuple #[.pointer (some ⟨g, 0, none⟩), .int .i64 0]) ∧ RTq w' w g n ev ac bs ev.length q ∧ Rch n ev.length (initM n ac) q ∧ FC n ev.length q
theorem rChk' {w : World} {P : Int} {A1 A2 : Option Addr} {c1 c2 : Nat} {ev : List S65} {ac : List S30} {b : Bool} (h1 : Kd.C k65 w A1 ev.length ev) (h2 : Kd.C k30 w A2 ac.length ac) (hc1 : ev.length ≤ c1) (hc2 : ac.length ≤ c2) (hb : okN P ev ac = b) :
    Calls Try.prog 15 #[.agg #[.int .i64 P, .slice A1 ev.length c1, .slice A2 ac.length c2]] w fun e w' => e = .returned (.bool b) ∧ Below w.heap.size w w' := by
  subst hb
  obtain ⟨K, hK⟩ := (Check_ev P ev ac).rounds
  exact railplanref11_Check.calls K P A1 c1 ev A2 c2 ac _ w h1 hc1 h2 hc2 hK
set_option maxHeartbeats 8000000 in
theorem CloseR_c {n : Nat} (w : World) (A1 A2 : Option Addr) (c1 c2 : Nat) (ev : List S65) (ac : List S30) (h1 : Kd.C k65 w A1 ev.length ev) (hc1 : ev.length ≤ c1) (h2 : Kd.C k30 w A2 ac.length ac) (hc2 : ac.length ≤ c2) (hok : okN n ev ac = true) :
    Calls Try.prog 55 #[.agg #[.int .i64 n, .slice A1 ev.length c1, .slice A2 ac.length c2]] w (ClR w n ev ac) := by
  have hk : (2 ≤ n ∧ n ≤ 7200) ∧ ev.length ≤ 48 ∧ ac.length ≤ 512 ∧ badA ((ev.length : Int) - 1) n ac = false := by
    unfold okN at hok
    simp only [Bool.and_eq_true, decide_eq_true_eq, Bool.not_eq_true'] at hok
    exact ⟨by omega, hok.2.1, hok.2.2.1, hok.2.2.2⟩
  obtain ⟨⟨n2, n72⟩, he, ha, hbad⟩ := hk
  have HBAD := Aside0.mk hbad
  have H1 := Aside0.mk h1
  have H2 := Aside0.mk h2
  have HOK := Aside0.mk hok
  have HMK := Aside0.mk (print_make_int (P := Try.prog) 73 4 (.bool false) 1 Try.underlying73 info4 rfl (by omega) (n : Int) (by omega) (by simp; omega))
  clear hbad h1 h2 hok
  go_enter Try.func55, Try.ntmps55
  go_wp2_with fail
  refine (rChk' (Kd.C_alloc H1.out _) (Kd.C_alloc H2.out _) hc1 hc2 HOK.out).mono ?_
  rintro _ w1 ⟨rfl, hb⟩
  have HB1 := Aside0.mk (below_step ((Below.refl w.heap.size w).alloc (Nat.le_refl _) (.cells #[.int .i64 n, .slice A1 ev.length c1, .slice A2 ac.length c2] 25)) hb)
  have HX1 := Aside0.mk ((hb.block w.heap.size (by simp)).trans (heap_alloc_new w (.cells #[.int .i64 n, .slice A1 ev.length c1, .slice A2 ac.length c2] 25)))
  clear hb
  have x0 : w1.cell? ⟨w.heap.size, 0, none⟩ = some (.int .i64 n) := (blk_cell HX1.out 0).trans rfl
  have x1 : w1.cell? ⟨w.heap.size, 1, none⟩ = some (.slice A1 ev.length c1) := (blk_cell HX1.out 1).trans rfl
  have x2 : w1.cell? ⟨w.heap.size, 2, none⟩ = some (.slice A2 ac.length c2) := (blk_cell HX1.out 2).trans rfl
  go_wp2_with fail
  go_quiet (fail)
  go_wp2_with fail
  clear x0 x1 x2
  have MM : ev.length * ev.length ≤ 2304 := Nat.mul_le_mul he he
  generalize hg : w1.heap.size = g at *
  have HG := Aside0.mk hg
  clear hg
  go_loopw [7] (fun v7 wr => ∃ (i : Nat) (bs : List Nat), v7 = .int .i64 i ∧ Aside0 (i ≤ ev.length ∧ bs.length = i * ev.length) ∧ Aside0 (RT wr w g n ev ac bs (fun k => q00R (k / ev.length) (k % ev.length)) ∧ wr.heap[w.heap.size]? = some (.cells #[.int .i64 n, .slice A1 ev.length c1, .slice A2 ac.length c2] 25 (0, 0)))) (fun v7 _ => ev.length - (intOf v7).toNat)
  case atStart =>
    refine ⟨0, [], rfl, ⟨Nat.zero_le _, by simp⟩, ⟨?_, ?_⟩⟩
    · rw [← HG.out]
      exact RT_new (W := w1.drewN _) (below_step HB1.out (pw_below_drewN (Below.refl _ _) _)) ⟨hc1, H1.out⟩ ⟨hc2, H2.out⟩ (fun k => q00R (k / ev.length) (k % ev.length))
    · exact (Below.heap_alloc (w1.drewN _) _ _ (blk_lt HX1.out)).trans HX1.out
  case round =>
    clear HX1 HB1
    obtain ⟨i, bs, rfl, HI, HT⟩ := hrel
    obtain ⟨i1, bl⟩ := HI.out
    by_cases ci : i < ev.length
    · go_wp2_with fail
      go_loopw [8] (fun v8 wr => ∃ (j : Nat) (bs : List Nat), v8 = .int .i64 j ∧ Aside0 (j ≤ ev.length ∧ bs.length = i * ev.length + j) ∧ Aside0 (RT wr w g n ev ac bs (fun k => q00R (k / ev.length) (k % ev.length)) ∧ wr.heap[w.heap.size]? = some (.cells #[.int .i64 n, .slice A1 ev.length c1, .slice A2 ac.length c2] 25 (0, 0)))) (fun v8 _ => ev.length - (intOf v8).toNat)
      case atStart => exact ⟨0, bs, rfl, ⟨Nat.zero_le _, bl⟩, HT⟩
      case round =>
        clear HT HI bl bs
        obtain ⟨j, bs, rfl, HJ, HT⟩ := hrel
        obtain ⟨j1, bl⟩ := HJ.out
        have HBL := Aside0.mk bl
        clear bl HJ
        by_cases cj : j < ev.length
        · have hmk := HMK.out
          simp only [Int.toNat_natCast] at hmk
          go_wp2_with fail
          clear hmk
          have HS : Aside0 (RT (wr.alloc (.cells (madeCells #[.bool false] n) 4)) w g n ev ac bs (fun k => q00R (k / ev.length) (k % ev.length)) ∧ (wr.alloc (.cells (madeCells #[.bool false] n) 4)).heap[w.heap.size]? = some (.cells #[.int .i64 n, .slice A1 ev.length c1, .slice A2 ac.length c2] 25 (0, 0)) ∧ (wr.alloc (.cells (madeCells #[.bool false] n) 4)).heap[wr.heap.size]? = some (.cells (rowA n (fun x => decide (x < (0 : Nat)) && q00R i j x)) 4 (0, 0)) ∧ (∀ k : Nat, bs[k]? ≠ some wr.heap.size) ∧ w.heap.size ≤ wr.heap.size) := ⟨RT_below HT.out.1 ((Below.refl _ _).alloc (Nat.le_refl _) _), (Below.heap_alloc wr _ _ (blk_lt HT.out.2)).trans HT.out.2, by
            rw [heap_alloc_new wr _, made_row, row0 n (q00R i j)], RT_fresh HT.out.1 (Nat.le_refl _), HT.out.1.below.size⟩
          clear HT
          generalize wr.alloc (.cells (madeCells #[.bool false] n) 4) = wa at *
          generalize wr.heap.size = b0 at *
          go_loopw [10] (fun v10 wr => ∃ d : Nat, v10 = .int .i64 d ∧ Aside0 (d ≤ n) ∧ Aside0 (RT wr w g n ev ac bs (fun k => q00R (k / ev.length) (k % ev.length)) ∧ wr.heap[w.heap.size]? = some (.cells #[.int .i64 n, .slice A1 ev.length c1, .slice A2 ac.length c2] 25 (0, 0)) ∧ wr.heap[b0]? = some (.cells (rowA n (fun x => decide (x < d) && q00R i j x)) 4 (0, 0)) ∧ (∀ k : Nat, bs[k]? ≠ some b0) ∧ w.heap.size ≤ b0)) (fun v10 _ => n - (intOf v10).toNat)
          case atStart => exact ⟨0, rfl, ⟨Nat.zero_le _⟩, HS⟩
          case round =>
            clear HS
            obtain ⟨d, rfl, HD, HS⟩ := hrel
            have d1 := HD.out
            clear HD
            by_cases cd : d < n
            · have cb : wr.cell? ⟨b0, d, none⟩ = some (.bool (decide ((d : Int) < d) && q00R i j d)) := by rw [blk_cell HS.out.2.2.1, rowA_get cd]
              have fb := blk_frozen HS.out.2.2.1 d
              have HS2 : ∀ v : Bool, v = q00R i j d → Aside0 (RT (wr.setCell ⟨b0, d, none⟩ (.bool v)) w g n ev ac bs (fun k => q00R (k / ev.length) (k % ev.length)) ∧ (wr.setCell ⟨b0, d, none⟩ (.bool v)).heap[w.heap.size]? = some (.cells #[.int .i64 n, .slice A1 ev.length c1, .slice A2 ac.length c2] 25 (0, 0)) ∧ (wr.setCell ⟨b0, d, none⟩ (.bool v)).heap[b0]? = some (.cells (rowA n (fun x => decide (x < ((d + 1 : Nat) : Int)) && q00R i j x)) 4 (0, 0)) ∧ (∀ k : Nat, bs[k]? ≠ some b0) ∧ w.heap.size ≤ b0) := fun v hv => ⟨RT_far HS.out.1 HS.out.2.2.1 HS.out.2.2.2.1 HS.out.2.2.2.2 d _, blk_other HS.out.2.1 HS.out.2.2.1 (by decide) _ _, by
                rw [blk_set HS.out.2.2.1, rowA_put, rowS n (q00R i j) d hv], HS.out.2.2.2.1, HS.out.2.2.2.2⟩
              have HS2' := Aside0.mk HS2
              clear HS2
              by_cases cij : i = j
              · have e1 : ((i : Int) != (j : Int)) = false := by simp [cij]
                by_cases c0 : d = 0
                · subst c0
                  have HV := HS2'.out true (by unfold q00R; simp)
                  clear HS2' cij
                  go_wp2_with fail
                  go_roundw
                  case rel => exact ⟨0 + 1, by go_num, ⟨by omega⟩, HV⟩
                  case measure => simp [intOf]; omega
                · have e2 : ((d : Int) == 0) = false := by simp; omega
                  have HV := HS2'.out false (by unfold q00R; simp [cij, c0])
                  clear HS2' cij c0
                  go_wp2_with fail
                  go_roundw
                  case rel => exact ⟨d + 1, by go_num, ⟨by omega⟩, HV⟩
                  case measure => simp [intOf]; omega
              · have e1 : ((i : Int) != (j : Int)) = true := by simp; omega
                have HV := HS2'.out true (by unfold q00R; simp [cij])
                clear HS2' cij
                go_wp2_with fail
                go_roundw
                case rel => exact ⟨d + 1, by go_num, ⟨by omega⟩, HV⟩
                case measure => simp [intOf]; omega
            · have dn : d = n := by omega
              have HS' : Aside0 (wr.heap[b0]? = some (.cells (rowA n (q00R i j)) 4 (0, 0))) := ⟨by
                rw [HS.out.2.2.1, rowN (q00R i j) dn]⟩
              obtain ⟨v3, q3, f3, r3⟩ := RT_hdrs HS.out.1
              obtain ⟨A3, c3, e3⟩ := Kd.R_slice r3
              subst e3
              have HR3 := Aside0.mk r3
              have HQ3 := Aside0.mk q3
              have hgl := RT_lt HS.out.1
              have HLT := Aside0.mk (ix_lt ci cj)
              have HZ := Aside0.mk HS.out.1.below.size
              clear r3
              go_wp2_with (first | ((with_reducible refine gate_builtin (b := .append) (xs := #[.tmp 56, .tmp 58]) rfl ?_); at_builtin; go_loud (refine Kd.R_append (kH n) (w0 := w) w.heap.size rfl (.tmp 56) (.tmp 58) 95 73 (.slice none 0 0) 24 rfl Try.underlying95 info73 rfl Nat.one_pos (by omega) (.slice A3 bs.length c3) bs b0 [hdr n b0] (fun k => k ≠ g) (fun k => False) rfl rfl rfl (fun _ hk => hk.elim) (fun k hk => by omega) HR3.out HS.out.1.below HZ.out (by rw [HBL.out]; have := HLT.out; omega) ?_; intro v5 w5 ho hb hg hat; obtain ⟨A5, c5, e5⟩ := Kd.R_slice ho; rw [List.length_append, List.length_singleton] at e5; subst e5; obtain ⟨⟨y3, y5⟩, RT5, HK5⟩ := RT_app HS.out.1 HQ3.out HS'.out HS.out.2.2.2.1 HS.out.2.2.2.2 ho hg hb; have HT5 := Aside0.mk RT5; have HX5 := Aside0.mk (HK5 _ _ _ (by decide) (by decide) HS.out.2.1); clear ho hb hg hat RT5 HK5 q3 f3 HS HR3)))
              go_roundw
              case rel =>
                refine ⟨j + 1, bs ++ [b0], by go_num, ⟨by omega, by rw [List.length_append, HBL.out]; rfl⟩, ⟨RT_congr HT5.out fun k hk x x0 x1 => ?_, HX5.out⟩⟩
                by_cases e : k = bs.length
                · rw [if_pos e, e, HBL.out, ix_div cj, ix_mod cj]
                · rw [if_neg e]
              case measure => simp [intOf]; omega
        · have ej : j = ev.length := by omega
          go_wp2_with fail
          go_roundw
          case rel => exact ⟨i + 1, bs, by go_num, ⟨by omega, by rw [HBL.out, ej, Nat.succ_mul]⟩, HT⟩
          case measure => simp [intOf]; omega
    · have ei : i = ev.length := by omega
      have hq0 := q00R_same (n := n) (m := ev.length) (by omega)
      have HQ : Aside0 (RTq wr w g n ev ac bs ev.length (initM n (ac.take 0)) ∧ wr.heap[w.heap.size]? = some (.cells #[.int .i64 n, .slice A1 ev.length c1, .slice A2 ac.length c2] 25 (0, 0))) := ⟨RTq_congr (q := q00R) ⟨HT.out.1, by rw [bl, ei]⟩ hq0, HT.out.2⟩
      clear HT HI bl ei hq0
      go_wp2_with fail
      go_loopw [11] (fun v11 wr => ∃ k : Nat, v11 = .int .i64 k ∧ Aside0 (k ≤ ac.length) ∧ Aside0 (RTq wr w g n ev ac bs ev.length (initM n (ac.take k)) ∧ wr.heap[w.heap.size]? = some (.cells #[.int .i64 n, .slice A1 ev.length c1, .slice A2 ac.length c2] 25 (0, 0)))) (fun v11 _ => ac.length - (intOf v11).toNat)
      case atStart => exact ⟨0, rfl, ⟨Nat.zero_le _⟩, HQ⟩
      case round =>
        clear HQ
        obtain ⟨k, rfl, HK, HQ⟩ := hrel
        have k1 := HK.out
        have x2 : wr.cell? ⟨w.heap.size, 2, none⟩ = some (.slice A2 ac.length c2) := (blk_cell HQ.out.2 2).trans rfl
        by_cases ck : k < ac.length
        · obtain ⟨ad, ea, a0, a1, a2, a3, a4, a5⟩ := at_T30 (Kd.C_below H2.out HQ.out.1.1.below) (k : Int) (by omega) (by omega)
          cases ea
          simp only [Int.toNat_natCast] at a0 a1 a2 a3 a4 a5
          have HOA := Aside0.mk (okA_mem HBAD.out (k : Int) (by omega) (by omega))
          have TK := Aside0.mk (take_30 ac k ck)
          have HG2 := Aside0.mk (RT_lt HQ.out.1.1)
          generalize hx : rd_T30 ac (k : Int) = x at *
          clear hx
          go_wp2_with fail
          clear x2 a0 a1 a2 a3 a4 a5
          have HS : Aside0 (RTq (wr.alloc (.cells #[.int .i64 x.f0, .int .i64 x.f1, .int .i64 x.f2, .int .i64 x.f3, .int .i64 x.f4, .int .i64 x.f5] 30)) w g n ev ac bs ev.length (acutR n (initM n (ac.take k)) x (0 : Nat)) ∧ (wr.alloc (.cells #[.int .i64 x.f0, .int .i64 x.f1, .int .i64 x.f2, .int .i64 x.f3, .int .i64 x.f4, .int .i64 x.f5] 30)).heap[w.heap.size]? = some (.cells #[.int .i64 n, .slice A1 ev.length c1, .slice (some ad) ac.length c2] 25 (0, 0)) ∧ (wr.alloc (.cells #[.int .i64 x.f0, .int .i64 x.f1, .int .i64 x.f2, .int .i64 x.f3, .int .i64 x.f4, .int .i64 x.f5] 30)).heap[wr.heap.size]? = some (.cells #[.int .i64 x.f0, .int .i64 x.f1, .int .i64 x.f2, .int .i64 x.f3, .int .i64 x.f4, .int .i64 x.f5] 30 (0, 0))) :=
            ⟨RTq_congr (RTq_below HQ.out.1 ((Below.refl _ _).alloc (Nat.le_refl _) _)) (acutR_zero (by omega) _ _), (Below.heap_alloc wr _ _ (blk_lt HQ.out.2)).trans HQ.out.2, heap_alloc_new wr _⟩
          clear HQ
          generalize wr.alloc (.cells #[.int .i64 x.f0, .int .i64 x.f1, .int .i64 x.f2, .int .i64 x.f3, .int .i64 x.f4, .int .i64 x.f5] 30) = wa at *
          generalize wr.heap.size = ga at *
          clear HG2
          obtain ⟨⟨g1, g1'⟩, ⟨g2, g2'⟩, g3, g4, g5, g6, g7, g8⟩ := okA_iff.1 HOA.out
          obtain ⟨p, hp⟩ := Int.eq_ofNat_of_zero_le g1
          obtain ⟨r, hr⟩ := Int.eq_ofNat_of_zero_le g2
          have HPL := Aside0.mk (show p < ev.length by omega)
          have HRL := Aside0.mk (show r < ev.length by omega)
          have HP := Aside0.mk hp
          have HR := Aside0.mk hr
          clear g1 g1' g2 g2' g3 g8 hp hr
          go_loopw [13] (fun v13 wr => ∃ d : Nat, v13 = .int .i64 d ∧ Aside0 (d ≤ n) ∧ Aside0 (RTq wr w g n ev ac bs ev.length (acutR n (initM n (ac.take k)) x d) ∧ wr.heap[w.heap.size]? = some (.cells #[.int .i64 n, .slice A1 ev.length c1, .slice (some ad) ac.length c2] 25 (0, 0)) ∧ wr.heap[ga]? = some (.cells #[.int .i64 x.f0, .int .i64 x.f1, .int .i64 x.f2, .int .i64 x.f3, .int .i64 x.f4, .int .i64 x.f5] 30 (0, 0)))) (fun v13 _ => n - (intOf v13).toNat)
          case atStart => exact ⟨0, rfl, ⟨Nat.zero_le _⟩, HS⟩
          case round =>
            clear HS
            obtain ⟨d, rfl, HD, HS⟩ := hrel
            have d1 := HD.out
            clear HD
            by_cases cd : d < n
            · have y1 : wr.cell? ⟨ga, 1, none⟩ = some (.int .i64 x.f1) := (blk_cell HS.out.2.2 1).trans rfl
              have y2 : wr.cell? ⟨ga, 2, none⟩ = some (.int .i64 x.f2) := (blk_cell HS.out.2.2 2).trans rfl
              have y3 : wr.cell? ⟨ga, 3, none⟩ = some (.int .i64 x.f3) := (blk_cell HS.out.2.2 3).trans rfl
              have y4 : wr.cell? ⟨ga, 4, none⟩ = some (.int .i64 x.f4) := (blk_cell HS.out.2.2 4).trans rfl
              have t0 := Int.emod_nonneg ((d : Int) - x.f3) (show (n : Int) ≠ 0 by omega)
              have t1 := Int.emod_lt_of_pos ((d : Int) - x.f3) (show (0 : Int) < n by omega)
              obtain ⟨t, ht⟩ : ∃ t : Int, ((d : Int) - x.f3) % n = t := ⟨_, rfl⟩
              rw [ht] at t0 t1
              have HT := Aside0.mk ht
              have HTT := Aside0.mk (there_test (n := n) (by omega) ht)
              have w1 : IntKind.i64.wrap ((d : Int) - x.f3) = d - x.f3 := (IntWalk.i64_left _).trans (IntWalk.wrap64_in _ (by omega))
              have w2 : IntKind.i64.wrap (x.f4 - x.f3) = x.f4 - x.f3 := (IntWalk.i64_left _).trans (IntWalk.wrap64_in _ (by omega))
              clear ht
              by_cases ct : t ≤ x.f4 - x.f3
              · have HC : Aside0 (there n x d = true) := ⟨by rw [HTT.out]; exact decide_eq_true ct⟩
                go_wp2_with fail
                go_quiet ((go_at_call 44; exact rMod_q (by omega) (by omega) (by omega) (by omega) HT.out))
                go_wp2_with fail
                clear w1 w2 y1 y2 y3 y4
                go_roundw
                case rel =>
                  have hb : ∀ z, Below wr.heap.size wr (wr.drewN z) := fun z => pw_below_drewN (Below.refl _ _) z
                  exact ⟨d + 1, by go_num, ⟨by omega⟩, ⟨RTq_congr (RTq_below HS.out.1 (hb _)) (acutR_skip (by omega) _ _ HC.out), HS.out.2.1, HS.out.2.2⟩⟩
                case measure => simp [intOf]; omega
              · have HC : Aside0 (there n x d = false) := ⟨by rw [HTT.out]; exact decide_eq_false ct⟩
                go_wp2_with fail
                go_quiet ((go_at_call 44; exact rMod_q (by omega) (by omega) (by omega) (by omega) HT.out))
                go_wp2_with fail
                have HSd : Aside0 (RTq (wr.drewN nq) w g n ev ac bs ev.length (acutR n (initM n (ac.take k)) x d) ∧ (wr.drewN nq).heap[w.heap.size]? = some (.cells #[.int .i64 n, .slice A1 ev.length c1, .slice (some ad) ac.length c2] 25 (0, 0)) ∧ (wr.drewN nq).heap[ga]? = some (.cells #[.int .i64 x.f0, .int .i64 x.f1, .int .i64 x.f2, .int .i64 x.f3, .int .i64 x.f4, .int .i64 x.f5] 30 (0, 0))) := ⟨RTq_below HS.out.1 (pw_below_drewN (Below.refl _ _) _), HS.out.2.1, HS.out.2.2⟩
                clear w1 w2 y1 y2 y3 y4 HS t0 t1 ct HTT HT g4 g5 g6 g7
                generalize wr.drewN nq = wd at *
                have p1 := HPL.out
                have r1 := HRL.out
                obtain ⟨b1, e1⟩ := RTq_hdr HSd.out.1 HPL.out HRL.out
                obtain ⟨b2, e2⟩ := RTq_hdr HSd.out.1 HRL.out HPL.out
                have HE1 := Aside0.mk e1
                have HE2 := Aside0.mk e2
                have L := HSd.out.1.2
                have B1 := ix_lt HPL.out HRL.out
                have B2 := ix_lt HRL.out HPL.out
                obtain ⟨pm, hpm⟩ : ∃ z : Nat, p * ev.length = z := ⟨_, rfl⟩
                obtain ⟨rm, hrm⟩ : ∃ z : Nat, r * ev.length = z := ⟨_, rfl⟩
                have ap : (p : Int) * (ev.length : Int) = (pm : Int) := by rw [← hpm]; exact (Int.natCast_mul p ev.length).symm
                have ar : (r : Int) * (ev.length : Int) = (rm : Int) := by rw [← hrm]; exact (Int.natCast_mul r ev.length).symm
                rw [hpm] at e1 B1
                rw [hrm] at e2 B2
                obtain ⟨q1, hq1⟩ : ∃ z : Nat, pm + r = z := ⟨_, rfl⟩
                obtain ⟨q2, hq2⟩ : ∃ z : Nat, rm + p = z := ⟨_, rfl⟩
                rw [hq1] at e1 B1
                rw [hq2] at e2 B2
                have l1 : (q1 : Int) < bs.length := by omega
                have l2 : (q2 : Int) < bs.length := by omega
                have w1 : IntKind.i64.wrap ((p : Int) * (ev.length : Int)) = pm := by rw [ap]; exact (IntWalk.i64_left _).trans (IntWalk.wrap64_in _ (by omega))
                have w2 : IntKind.i64.wrap ((pm : Int) + (r : Int)) = q1 := by rw [show (pm : Int) + (r : Int) = q1 by omega]; exact (IntWalk.i64_left _).trans (IntWalk.wrap64_in _ (by omega))
                have w3 : IntKind.i64.wrap ((r : Int) * (ev.length : Int)) = rm := by rw [ar]; exact (IntWalk.i64_left _).trans (IntWalk.wrap64_in _ (by omega))
                have w4 : IntKind.i64.wrap ((rm : Int) + (p : Int)) = q2 := by rw [show (rm : Int) + (p : Int) = q2 by omega]; exact (IntWalk.i64_left _).trans (IntWalk.wrap64_in _ (by omega))
                have w5 : IntKind.i64.wrap (-(d : Int)) = -d := (IntWalk.i64_left _).trans (IntWalk.wrap64_in _ (by omega))
                obtain ⟨u, hu⟩ : ∃ u : Nat, (-(d : Int)) % n = (u : Int) := ⟨((-(d : Int)) % n).toNat, by have := Int.emod_nonneg (-(d : Int)) (show (n : Int) ≠ 0 by omega); omega⟩
                have un : u < n := by have := Int.emod_lt_of_pos (-(d : Int)) (show (0 : Int) < n by omega); omega
                have HU := Aside0.mk hu
                have HW2 := Aside0.mk (And.intro w3 (And.intro w4 w5))
                clear hpm hrm hq1 hq2 ap ar hu B1 B2 L w3 w4 w5
                obtain ⟨gr, c, s3, u1⟩ := RT_at HSd.out.1.1 e1
                have EE2 := Aside0.mk e2
                clear e1 e2
                have y1 : wd.cell? ⟨ga, 1, none⟩ = some (.int .i64 p) := (blk_cell HSd.out.2.2 1).trans (by rw [← show x.f1 = (p : Int) from HP.out]; rfl)
                have y2 : wd.cell? ⟨ga, 2, none⟩ = some (.int .i64 r) := (blk_cell HSd.out.2.2 2).trans (by rw [← show x.f2 = (r : Int) from HR.out]; rfl)
                go_still_tail 15, (by kernel_rfl)
                clear s3 u1 y1 y2 w1 w2
                have HSe : Aside0 (RTq wd.drew w g n ev ac bs ev.length (acutR n (initM n (ac.take k)) x d) ∧ wd.drew.heap[w.heap.size]? = some (.cells #[.int .i64 n, .slice A1 ev.length c1, .slice (some ad) ac.length c2] 25 (0, 0)) ∧ wd.drew.heap[ga]? = some (.cells #[.int .i64 x.f0, .int .i64 x.f1, .int .i64 x.f2, .int .i64 x.f3, .int .i64 x.f4, .int .i64 x.f5] 30 (0, 0))) := ⟨RTq_below HSd.out.1 (below_drew (Below.refl _ _)), HSd.out.2.1, HSd.out.2.2⟩
                change wpList _ _ _ _ _ wd.drew
                clear HSd
                generalize wd.drew = we at *
                obtain ⟨cc, cf⟩ := RTq_cell HSe.out.1 HRL.out HE1.out cd
                have HSf : Aside0 (RTq (we.setCell ⟨b1, d, none⟩ (.bool false)) w g n ev ac bs ev.length (offq (acutR n (initM n (ac.take k)) x d) p r d) ∧ (we.setCell ⟨b1, d, none⟩ (.bool false)).heap[w.heap.size]? = some (.cells #[.int .i64 n, .slice A1 ev.length c1, .slice (some ad) ac.length c2] 25 (0, 0)) ∧ (we.setCell ⟨b1, d, none⟩ (.bool false)).heap[ga]? = some (.cells #[.int .i64 x.f0, .int .i64 x.f1, .int .i64 x.f2, .int .i64 x.f3, .int .i64 x.f4, .int .i64 x.f5] 30 (0, 0))) := ⟨RTq_off HSe.out.1 HPL.out HRL.out HE1.out d, blk_other HSe.out.2.1 (HSe.out.1.1.rows _ _ HE1.out).1 (by decide) _ _, blk_other HSe.out.2.2 (HSe.out.1.1.rows _ _ HE1.out).1 (by decide) _ _⟩
                go_wp2_with fail
                clear cc cf HSe
                generalize we.setCell ⟨b1, d, none⟩ (.bool false) = wf at *
                obtain ⟨w3, w4, w5⟩ := HW2.out
                obtain ⟨gr, c, s3, u1⟩ := RT_at HSf.out.1.1 EE2.out
                have y1 : wf.cell? ⟨ga, 1, none⟩ = some (.int .i64 p) := (blk_cell HSf.out.2.2 1).trans (by rw [← show x.f1 = (p : Int) from HP.out]; rfl)
                have y2 : wf.cell? ⟨ga, 2, none⟩ = some (.int .i64 r) := (blk_cell HSf.out.2.2 2).trans (by rw [← show x.f2 = (r : Int) from HR.out]; rfl)
                clear HW2
                refine wp_region_still_tail 18 (by kernel_rfl) (by kernel_rfl) ?_
                simp only [List.take_succ_cons, List.take_zero, List.drop_succ_cons, List.drop_zero]
                repeat still_step
                still_call (rMod_s (by omega) (by omega) (by omega) (by omega) HU.out)
                repeat still_step
                refine wpStill_nil ?_
                clear s3 u1 y1 y2 w3 w4 w5
                change wpList _ _ _ _ _ wf.drew
                have HSg : Aside0 (RTq wf.drew w g n ev ac bs ev.length (offq (acutR n (initM n (ac.take k)) x d) p r d) ∧ wf.drew.heap[w.heap.size]? = some (.cells #[.int .i64 n, .slice A1 ev.length c1, .slice (some ad) ac.length c2] 25 (0, 0)) ∧ wf.drew.heap[ga]? = some (.cells #[.int .i64 x.f0, .int .i64 x.f1, .int .i64 x.f2, .int .i64 x.f3, .int .i64 x.f4, .int .i64 x.f5] 30 (0, 0))) := ⟨RTq_below HSf.out.1 (below_drew (Below.refl _ _)), HSf.out.2.1, HSf.out.2.2⟩
                clear HSf
                generalize wf.drew = wg at *
                obtain ⟨cc, cf⟩ := RTq_cell HSg.out.1 HPL.out HE2.out un
                have HSh : Aside0 (RTq (wg.setCell ⟨b2, u, none⟩ (.bool false)) w g n ev ac bs ev.length (acutR n (initM n (ac.take k)) x (d + 1 : Nat)) ∧ (wg.setCell ⟨b2, u, none⟩ (.bool false)).heap[w.heap.size]? = some (.cells #[.int .i64 n, .slice A1 ev.length c1, .slice (some ad) ac.length c2] 25 (0, 0)) ∧ (wg.setCell ⟨b2, u, none⟩ (.bool false)).heap[ga]? = some (.cells #[.int .i64 x.f0, .int .i64 x.f1, .int .i64 x.f2, .int .i64 x.f3, .int .i64 x.f4, .int .i64 x.f5] 30 (0, 0))) := ⟨by
                  have h := RTq_off HSg.out.1 HRL.out HPL.out HE2.out u
                  have e := acutR_put (m := ev.length) (by omega) (initM n (ac.take k)) x cd HC.out HU.out
                  have ep : x.f1.toNat = p := by have := HP.out; omega
                  have er : x.f2.toNat = r := by have := HR.out; omega
                  rw [ep, er] at e
                  exact RTq_congr h e, blk_other HSg.out.2.1 (HSg.out.1.1.rows _ _ HE2.out).1 (by decide) _ _, blk_other HSg.out.2.2 (HSg.out.1.1.rows _ _ HE2.out).1 (by decide) _ _⟩
                go_wp2_with fail
                clear cc cf HSg
                go_roundw
                case rel => exact ⟨d + 1, by go_num, ⟨by omega⟩, HSh⟩
                case measure => simp [intOf]; omega
            · have dn : d = n := by omega
              have hact : okAct n x := by
                obtain ⟨_, _, e3, _, e5, _, e7, _⟩ := okA_iff.1 HOA.out
                refine ⟨?_, e5, e7⟩
                have := HP.out
                have := HR.out
                omega
              have HE := Aside0.mk (acutR_all (n := n) (m := ev.length) (by omega) hact (same_refl n ev.length (initM n (ac.take k))))
              go_wp2_with fail
              go_roundw
              case rel =>
                refine ⟨k + 1, by go_num, ⟨by omega⟩, ⟨?_, HS.out.2.1⟩⟩
                rw [TK.out, initM_snoc]
                have := HS.out.1
                rw [dn] at this
                exact RTq_congr this HE.out
              case measure => simp [intOf]; omega
        · have kn : k = ac.length := by omega
          have HF : Aside0 (RTq wr w g n ev ac bs ev.length (initM n ac)) := ⟨by have := HQ.out.1; rwa [kn, List.take_length] at this⟩
          clear kn HQ
          go_wp2_with fail
          clear x2
          go_loopg [] ((tot n ev.length (initM n ac)).toNat) (fun G wr => ∃ q : Mx, Aside0 (Rch n ev.length (initM n ac) q) ∧ Aside0 ((tot n ev.length q).toNat ≤ G) ∧ Aside0 (RTq wr w g n ev ac bs ev.length q))
          case atStart => exact ⟨_, ⟨.base⟩, ⟨Nat.le_refl _⟩, HF⟩
          case round =>
            clear HF
            obtain ⟨q, HR, HG, HT⟩ := hrel
            have n1 : 1 ≤ n := by omega
            have QS := Aside0.mk (tot_bd (m := ev.length) n72 q)
            go_wp2_with fail
            refine (Tighten_c n1 n72 he HT.out HT.out.1.below).mono ?_
            rintro _ w6 ⟨q', b, rfl, r1, r2, r3, r4, r5, r6⟩
            have HT' := Aside0.mk r1
            have HR' := Aside0.mk (Rch_trans HR.out r4)
            have QS' := Aside0.mk (tot_bd (m := ev.length) n72 q')
            cases b with
            | true =>
              have HL := Aside0.mk (r6 rfl)
              clear r1 r2 r3 r4 r5 r6
              go_wp2_with fail
              go_roundg ((tot n ev.length q').toNat)
              case measure =>
                have h1 := HG.out
                have h2 := QS'.out
                have h3 := HL.out
                omega
              case rel => exact ⟨q', HR', ⟨Nat.le_refl _⟩, HT'⟩
            | false =>
              have HFC := Aside0.mk (r5 rfl)
              clear r1 r2 r3 r4 r5 r6
              go_wp2_with fail
              go_ret2
              exact ⟨_, _, q', rfl, HT'.out, HR'.out, by rw [HFC.out.1]; exact HFC.out.2⟩
end Go.Proofs.Ytkbcgahpekmlbaa.PPg

namespace Go.Proofs.Ytkbcgahpekmlbaa.PPg
open Go.RowKit Go.Proofs.YtkbcgahpekmlbaaW.PrintWords Go.Proofs.YtkbcgahpekmlbaaW.PrintLast Go.Proofs.YtkbcgahpekmlbaaW.PrintMore
set_option linter.unusedVariables false
set_option maxRecDepth 100000
theorem Same_c {s s' : List S41} {w : World} {A1 A2 : Option Addr} {c1 c2 : Nat} (he : s = s') (hf : s.length ≤ 7200) (ha : VS w (.slice A1 s.length c1) s) (hb : VS w (.slice A2 s'.length c2) s') :
    Calls Try.prog 17 #[.slice A1 s.length c1, .slice A2 s'.length c2] w fun e w' => e = .returned (.bool true) ∧ Drawn0 w w' := by
  subst he
  obtain ⟨K, hK⟩ := (Same_ev s (fit_le hf)).rounds
  exact api_Span.calls K A1 c1 s A2 c2 s true w (VS_C ha) (VS_le ha) (VS_C hb) (VS_le hb) hK
end Go.Proofs.Ytkbcgahpekmlbaa.PPg

namespace Go.Proofs.Ytkbcgahpekmlbaa.PPg
open Go.RowKit Go.Proofs.YtkbcgahpekmlbaaW.PrintWords Go.Proofs.YtkbcgahpekmlbaaW.PrintLast Go.Proofs.YtkbcgahpekmlbaaW.PrintMore
set_option linter.unusedVariables false
set_option maxRecDepth 100000
theorem VS_nil (w : World) : VS w (.slice none ([] : List S41).length 0) [] := VS_of ⟨rfl, by simp, fun h => absurd h (by simp)⟩ (Nat.le_refl _)
theorem Btw_s {W : World} {B g n m i j : Nat} {ev : List S65} {ac : List S30} {q : Mx} {s : List S41} (ht : Tb W B g n ev ac m (tabl n m q)) (h1 : 1 ≤ n) (h2 : n ≤ 7200) (hm : m ≤ 48) (hi : i < m) (hj : j < m) (hs : can n (q i j) = s) :
    Calls Try.prog 18 #[.pointer (some ⟨g, 0, none⟩), .int .i64 i, .int .i64 j] W fun e w' => (∃ A c, e = .returned (.slice A s.length c) ∧ VS w' (.slice A s.length c) s) ∧ Below W.heap.size W w' := by
  subst hs
  have hx := ix_ok (n := n) q hi hj hm
  have e := tabl_rd (n := n) q hi hj
  refine (Between_in W B g n ev ac m (tabl n m q) i j _ ht hx (by omega) (by omega) (by omega) (by rw [e]; exact vld_fit (can_vld _ h1 h2))).mono ?_
  rw [e]
  rintro _ w' ⟨⟨v, rfl, hr⟩, hb⟩
  obtain ⟨A, c, rfl⟩ := Kd.R_slice hr
  exact ⟨⟨A, c, rfl, VS_R hr⟩, hb⟩
theorem Cnt_s {W : World} {B g n m : Nat} {ev : List S65} {ac : List S30} {q : Mx} (ht : Tb W B g n ev ac m (tabl n m q)) (h1 : 1 ≤ n) (h2 : n ≤ 7200) (hm : m ≤ 48) :
    Calls Try.prog 24 #[.pointer (some ⟨g, 0, none⟩)] W fun e w' => e = .returned (.int .i64 (tot n m q)) ∧ Below W.heap.size W w' := by
  have hl : (tabl n m q).length ≤ 2304 := by rw [tabl_len]; exact Nat.mul_le_mul hm hm
  have hex : ∀ l : List (List S41), (∀ s ∈ l, ∃ p, s = can n p) → ∃ K, ∀ s ∈ l, residue_Count.f K n s = some (cnt (mem s) n) := by
    intro l
    induction l with
    | nil => intro _; exact ⟨0, fun s hs => by cases hs⟩
    | cons a l ih =>
      intro h
      obtain ⟨K1, k1⟩ := ih fun s hs => h s (List.mem_cons_of_mem _ hs)
      obtain ⟨p, rfl⟩ := h a List.mem_cons_self
      obtain ⟨K2, k2⟩ := count_can h1 h2 p
      refine ⟨K1 + K2, fun s hs => ?_⟩
      rcases List.mem_cons.1 hs with rfl | hs
      · rw [cnt_can]; exact k2 _ (by omega)
      · exact at_rounds (g := fun k => residue_Count.f k n s) (fun k => residue_Count.mono _ _ k) (Nat.le_add_right K1 K2) (k1 s hs)
  obtain ⟨K, hK⟩ := hex (tabl n m q) (fun s hs => by
    unfold tabl at hs
    obtain ⟨k, _, rfl⟩ := List.mem_map.1 hs
    exact ⟨_, rfl⟩)
  refine (Count_c K W B g n ev ac m (tabl n m q) (fun s => cnt (mem s) n) ht (by omega) fun s hs => ⟨hK s hs, ?_⟩).mono ?_
  · have := cnt_bounds (mem s) n; omega
  · rintro e w' ⟨rfl, hb⟩
    exact ⟨rfl, hb⟩
/-- Two tables of one network, the program's and the reference's. -/
structure TT (W w0 : World) (X B g gr n : Nat) (A1 A2 : Option Addr) (c1 c2 : Nat) (ev : List S65) (ac : List S30) (bs : List Nat) (q : Mx) : Prop where
  box : W.heap[X]? = some (.cells #[.int .i64 n, .slice A1 ev.length c1, .slice A2 ac.length c2] 25 (0, 0))
  tb : Tb W B g n ev ac ev.length (tabl n ev.length q)
  rt : RTq W w0 gr n ev ac bs ev.length q
theorem TT_next {W W' w0 : World} {X B g gr n : Nat} {A1 A2 : Option Addr} {c1 c2 : Nat} {ev : List S65} {ac : List S30} {bs : List Nat} {q : Mx} (h : TT W w0 X B g gr n A1 A2 c1 c2 ev ac bs q) (hb : Below W.heap.size W W') : TT W' w0 X B g gr n A1 A2 c1 c2 ev ac bs q :=
  ⟨(hb.block X (blk_lt h.box)).trans h.box, Tb_below h.tb hb, RTq_below h.rt hb⟩
set_option maxHeartbeats 8000000 in
theorem agrees_c {n : Nat} (w : World) (A1 A2 A : Option Addr) (c1 c2 c : Nat) (ev : List S65) (ac : List S30) (t : List Int) (h1 : Kd.C k65 w A1 ev.length ev) (hc1 : ev.length ≤ c1) (h2 : Kd.C k30 w A2 ac.length ac) (hc2 : ac.length ≤ c2) (ht : Kd.C (Kd.int .i64) w A t.length t) (hct : t.length ≤ c) (hok : okN n ev ac = true) :
    Calls Try.prog 33 #[.agg #[.int .i64 n, .slice A1 ev.length c1, .slice A2 ac.length c2], .slice A t.length c] w fun e w' => e = .returned (.bool true) ∧ Below w.heap.size w w' := by
  have hk : (2 ≤ n ∧ n ≤ 7200) ∧ ev.length ≤ 48 := by
    have := hok
    unfold okN at this
    simp only [Bool.and_eq_true, decide_eq_true_eq, Bool.not_eq_true'] at this
    exact ⟨by omega, this.2.1⟩
  obtain ⟨⟨n2, n72⟩, he⟩ := hk
  have H1 := Aside0.mk h1
  have H2 := Aside0.mk h2
  have HTT := Aside0.mk ht
  have HOK := Aside0.mk hok
  clear h1 h2 ht hok
  go_enter Try.func33, Try.ntmps33
  go_wp2_with fail
  refine (Close_ok _ A1 A2 c1 c2 ev ac (Kd.C_alloc H1.out _) (Kd.C_alloc H2.out _) HOK.out).mono ?_
  rintro _ w1 ⟨⟨g, sets, rfl, ht, hc⟩, hb⟩
  have n1 : 1 ≤ n := by omega
  obtain ⟨q, hq, htb⟩ : ∃ q, TabOk n ev ac q ∧ sets = tabl n ev.length q := by
    rcases Closed_cases n1 (okN_act HOK.out) hc with ⟨rfl, h⟩ | ⟨q, rfl, h⟩
    · exact ⟨q0M, .inl ⟨rfl, h⟩, (tabl_none n _).symm⟩
    · exact ⟨q, .inr h, rfl⟩
  subst htb
  have HQ := Aside0.mk hq
  have HB1 := Aside0.mk (below_step ((Below.refl w.heap.size w).alloc (Nat.le_refl _) (.cells #[.int .i64 n, .slice A1 ev.length c1, .slice A2 ac.length c2] 25)) hb)
  have HX1 := Aside0.mk ((hb.block w.heap.size (by simp)).trans (heap_alloc_new w (.cells #[.int .i64 n, .slice A1 ev.length c1, .slice A2 ac.length c2] 25)))
  have HT := Aside0.mk ht
  have x0 : w1.cell? ⟨w.heap.size, 0, none⟩ = some (.int .i64 n) := (blk_cell HX1.out 0).trans rfl
  have x1 : w1.cell? ⟨w.heap.size, 1, none⟩ = some (.slice A1 ev.length c1) := (blk_cell HX1.out 1).trans rfl
  have x2 : w1.cell? ⟨w.heap.size, 2, none⟩ = some (.slice A2 ac.length c2) := (blk_cell HX1.out 2).trans rfl
  clear hc hb ht hq
  go_wp2_with fail
  refine (CloseR_c w1 A1 A2 c1 c2 ev ac (Kd.C_below H1.out HB1.out) hc1 (Kd.C_below H2.out HB1.out) hc2 HOK.out).mono ?_
  rintro _ w2 ⟨gr, bs, q', rfl, r1, r2, r3⟩
  have HB2 := Aside0.mk (below_step HB1.out r1.1.below)
  have HC : Aside0 (TT w2 w1 w.heap.size (w.alloc (.cells #[.int .i64 n, .slice A1 ev.length c1, .slice A2 ac.length c2] 25)).heap.size g gr n A1 A2 c1 c2 ev ac bs q) := ⟨by
    have hs := ref_same n1 (m := ev.length) rfl (same_refl n _ _) r2 r3 HQ.out
    have hb := r1.1.below
    exact ⟨(hb.block _ (blk_lt HX1.out)).trans HX1.out, Tb_below HT.out hb, RTq_congr r1 fun i j hi hj x x0 x1 => (hs i j hi hj x x0 x1).symm⟩⟩
  clear r1 r2 r3 x0 x1 x2 HB1 HX1 HT HQ
  generalize (w.alloc (.cells #[.int .i64 n, .slice A1 ev.length c1, .slice A2 ac.length c2] 25)).heap.size = B at *
  generalize hX : w.heap.size = X at *
  have HXX := Aside0.mk hX
  clear hX
  go_wp2_with fail
  go_loopw [9] (fun v9 wr => ∃ i : Int, v9 = .int .i64 i ∧ Aside0 (-1 ≤ i ∧ i ≤ (ev.length : Int) + 1) ∧ Aside0 (Below w2.heap.size w2 wr)) (fun v9 _ => ((ev.length : Int) + 1 - intOf v9).toNat)
  case atStart => exact ⟨-1, rfl, ⟨by omega⟩, ⟨Below.refl _ _⟩⟩
  case round =>
    obtain ⟨i, rfl, HI, HB⟩ := hrel
    obtain ⟨i0, i1⟩ := HI.out
    have TN := Aside0.mk (TT_next HC.out HB.out)
    have x1 : wr.cell? ⟨X, 1, none⟩ = some (.slice A1 ev.length c1) := (blk_cell TN.out.box 1).trans rfl
    by_cases ci : i ≤ (ev.length : Int)
    · go_wp2_with fail
      clear x1
      go_loopw [10] (fun v10 wr => ∃ j : Int, v10 = .int .i64 j ∧ Aside0 (-1 ≤ j ∧ j ≤ (ev.length : Int) + 1) ∧ Aside0 (Below w2.heap.size w2 wr)) (fun v10 _ => ((ev.length : Int) + 1 - intOf v10).toNat)
      case atStart => exact ⟨-1, rfl, ⟨by omega⟩, HB⟩
      case round =>
        clear HB TN
        obtain ⟨j, rfl, HJ, HB⟩ := hrel
        obtain ⟨j0, j1⟩ := HJ.out
        have TN := Aside0.mk (TT_next HC.out HB.out)
        have x1 : wr.cell? ⟨X, 1, none⟩ = some (.slice A1 ev.length c1) := (blk_cell TN.out.box 1).trans rfl
        by_cases cj : j ≤ (ev.length : Int)
        · by_cases cin : (0 ≤ i ∧ i < (ev.length : Int)) ∧ 0 ≤ j ∧ j < (ev.length : Int)
          · obtain ⟨iN, rfl⟩ := Int.eq_ofNat_of_zero_le cin.1.1
            obtain ⟨jN, rfl⟩ := Int.eq_ofNat_of_zero_le cin.2.1
            have hi : iN < ev.length := by omega
            have hj : jN < ev.length := by omega
            clear cin
            go_wp2_with fail
            refine (Btw_s TN.out.tb n1 n72 he hi hj rfl).mono ?_
            rintro _ w3 ⟨⟨Aa, ca, rfl, hv⟩, hb⟩
            have HV := Aside0.mk hv
            have HB3 := Aside0.mk (below_step HB.out hb)
            have TN3 := Aside0.mk (TT_next TN.out hb)
            clear hv hb x1
            go_wp2_with fail
            refine (BetweenR_in n1 n72 he hi hj TN3.out.rt rfl).mono ?_
            rintro _ w4 ⟨⟨Ab, cb, rfl, hv⟩, hb⟩
            have HV4 := Aside0.mk hv
            have HVa := Aside0.mk (VS_below HV.out hb)
            have HB4 := Aside0.mk (below_step HB3.out hb)
            have HLN : Aside0 ((can n (q iN jN)).length ≤ 7200) := ⟨vld_fit (can_vld _ n1 n72)⟩
            clear hv hb HV
            generalize can n (q iN jN) = s at *
            go_wp2_with fail
            refine (Same_c rfl HLN.out HVa.out HV4.out).mono ?_
            rintro _ w5 ⟨rfl, hd⟩
            have HB5 := Aside0.mk (below_step HB4.out hd.below)
            clear hd
            go_wp2_with fail
            go_roundw
            case rel => exact ⟨(jN : Int) + 1, rfl, ⟨by omega⟩, HB5⟩
            case measure => simp [intOf]; omega
          · have ho : i < 0 ∨ j < 0 ∨ (ev.length : Int) ≤ i ∨ (ev.length : Int) ≤ j := by omega
            have HO := Aside0.mk ho
            clear cin ho
            go_wp2_with fail
            refine (Between_out _ _ g n ev ac ev.length _ i j TN.out.tb HO.out).mono ?_
            rintro _ _ ⟨rfl, rfl⟩
            go_wp2_with fail
            refine (BetweenR_out he i j TN.out.rt HO.out).mono ?_
            rintro _ _ ⟨rfl, rfl⟩
            go_wp2_with fail
            refine (Same_c (s := []) rfl (by simp) (VS_nil wr) (VS_nil wr)).mono ?_
            rintro _ w5 ⟨rfl, hd⟩
            have HB5 := Aside0.mk (below_step HB.out hd.below)
            clear hd x1
            go_wp2_with fail
            go_roundw
            case rel => exact ⟨j + 1, rfl, ⟨by omega⟩, HB5⟩
            case measure => simp [intOf]; omega
        · go_wp2_with fail
          go_roundw
          case rel => exact ⟨i + 1, rfl, ⟨by omega⟩, HB⟩
          case measure => simp [intOf]; omega
    · obtain ⟨em, hem⟩ : ∃ em, noneIn (tabl n ev.length q) = em := ⟨_, rfl⟩
      obtain ⟨al, hal⟩ : ∃ al, (okT n ev ac t && allowB n ev.length q t) = al := ⟨_, rfl⟩
      obtain ⟨co, hco⟩ : ∃ co, tot n ev.length q = co := ⟨_, rfl⟩
      have HEM := Aside0.mk hem
      have HAL := Aside0.mk hal
      have HCO := Aside0.mk hco
      clear hem hal hco
      go_wp2_with fail
      refine (Empty_c _ _ g n ev ac ev.length _ TN.out.tb).mono ?_
      rw [HEM.out]
      rintro _ _ ⟨rfl, rfl⟩
      go_wp2_with fail
      refine (EmptyR_c n72 he TN.out.rt).mono ?_
      rw [HEM.out]
      rintro _ _ ⟨rfl, rfl⟩
      clear x1
      go_wp2_with fail
      have HCT : Aside0 (Kd.C (Kd.int .i64) wr A t.length t) := ⟨Kd.C_below HTT.out (below_step (show Below w.heap.size w w2 by rw [HXX.out]; exact HB2.out) HB.out)⟩
      refine (Allows_c wr _ g ev ac q A c t TN.out.tb HCT.out).mono ?_
      rw [HAL.out]
      rintro _ w3 ⟨rfl, hb⟩
      have TN3 := Aside0.mk (TT_next TN.out hb)
      have HB3 := Aside0.mk (below_step HB.out hb)
      have HCT3 := Aside0.mk (Kd.C_below HCT.out hb)
      clear hb
      go_wp2_with fail
      refine (AllowsR_c TN3.out.rt HCT3.out hct).mono ?_
      rw [HAL.out]
      rintro _ w4 ⟨rfl, hb⟩
      have TN4 := Aside0.mk (TT_next TN3.out hb)
      have HB4 := Aside0.mk (below_step HB3.out hb)
      clear hb
      go_wp2_with fail
      refine (Cnt_s TN4.out.tb n1 n72 he).mono ?_
      rw [HCO.out]
      rintro _ w5 ⟨rfl, hb⟩
      have TN5 := Aside0.mk (TT_next TN4.out hb)
      have HB5 := Aside0.mk (below_step HB4.out hb)
      clear hb
      go_wp2_with fail
      refine (CountR_c n72 he TN5.out.rt).mono ?_
      rw [HCO.out]
      rintro _ _ ⟨rfl, rfl⟩
      go_wp2_with fail
      go_ret
      refine ⟨rfl, ?_⟩
      exact below_step (show Below w.heap.size w w2 by rw [HXX.out]; exact HB2.out) HB5.out
end Go.Proofs.Ytkbcgahpekmlbaa.PPg

namespace Go.Proofs.Ytkbcgahpekmlbaa.PPg
open Go.RowKit Go.Proofs.YtkbcgahpekmlbaaW.PrintWords Go.Proofs.YtkbcgahpekmlbaaW.PrintLast Go.Proofs.YtkbcgahpekmlbaaW.PrintMore
set_option linter.unusedVariables false
set_option maxRecDepth 100000
theorem E3 : ∀ q, q ∈ 3 :: (Kd.int .i64).E → q = 3 := fun q hq => by simpa [Kd.int, Kd.scalar] using hq
set_option maxHeartbeats 2000000 in
theorem Times_c {n : Nat} (w : World) (v2 : Value) (A1 A : Option Addr) (m c1 c : Nat) (l : List Int) (h : Kd.C (Kd.int .i64) w A l.length l) (hc : l.length ≤ c) (hl : Fit l) (n1 : 1 ≤ n) (n72 : n ≤ 7200) (m48 : m ≤ 48) :
    Calls Try.prog 26 #[.agg #[.int .i64 n, .slice A1 m c1, v2], .slice A l.length c] w fun e w' => (∃ v xs, e = .returned v ∧ Kd.R (Kd.int .i64) 3 w' w.heap.size (fun _ => True) v xs ∧ xs.length = m ∧ ∀ x ∈ xs, 0 ≤ x ∧ x < (n : Int)) ∧ Below w.heap.size w w' := by
  have H := Aside0.mk h
  have HL := Aside0.mk hl
  clear h hl
  go_enter Try.func26, Try.ntmps26
  go_wp2_with fail
  refine (From_k' (w0 := w) (((Below.refl w.heap.size w).alloc (Nat.le_refl _) _)) H.out hc).mono ?_
  rintro _ w1 ⟨⟨gs, rfl, hs⟩, hb, hb'⟩
  have hn := (hb'.block w.heap.size (by simp)).trans (heap_alloc_new w _)
  have k1 : w1.cell? ⟨w.heap.size, 1, none⟩ = some (.slice A1 m c1) := by rw [blk_cell hn]; rfl
  have HN := Aside0.mk hn
  have HS := Aside0.mk hs
  have HB := Aside0.mk hb
  clear hn hs hb hb'
  go_wp2_with (first | ((with_reducible refine gate_dst (N := 13) rfl ?_); go_loud (refine Kd.R_make (Kd.int .i64) (w0 := w) w.heap.size 3 rfl rfl 26 (.tmp 12) (.tmp 12) rfl (m : Int) rfl rfl Try.underlying26 (.int .i64 0) 8 info3 rfl (by decide) (by omega) (0 : Int) (ok := fun _ => True) (okp := fun _ => True) rfl (fun _ _ => trivial) trivial (by omega) (by omega) HB.out HB.out.size ?_; intro v1 w2 ho hb hg hat; rw [Int.toNat_natCast] at ho; obtain ⟨Ax, cx, ex⟩ := Kd.R_slice ho; rw [List.length_replicate] at ex; subst ex; have HN2 := Aside0.mk (blk_grown HN.out hg (by simp)); have HS2 := Aside0.mk (Src_grown HS.out hg (by simp)); have HR2 := Aside0.mk ho; have HB2 := Aside0.mk hb; clear ho hb hg hat k1 HN HS HB)))
  go_loopw [16] (fun v16 wr => ∃ (i : Nat) (xs : List Int), v16 = .int .i64 i ∧ Aside0 (i ≤ m ∧ xs.length = m ∧ ∀ x ∈ xs, 0 ≤ x ∧ x < (n : Int)) ∧ Aside0 (Kd.R (Kd.int .i64) 3 wr w.heap.size (fun _ => True) (.slice Ax m cx) xs) ∧ Aside0 (wr.heap[w.heap.size]? = some (.cells #[.int .i64 n, .slice A1 m c1, v2] 25 (0, 0))) ∧ Aside0 (Src w wr gs l) ∧ Aside0 (Below w.heap.size w wr)) (fun v16 _ => m - (intOf v16).toNat)
  case atStart => exact ⟨0, List.replicate m 0, rfl, ⟨Nat.zero_le _, by simp, fun x hx => by rw [List.eq_of_mem_replicate hx]; omega⟩, HR2, HN2, HS2, HB2⟩
  case round =>
    clear HN2 HS2 HR2 HB2
    obtain ⟨i, xs, rfl, HI, HR, HN, HS, HB⟩ := hrel
    obtain ⟨i1, i2, i3⟩ := HI.out
    have IN := Aside0.mk i3
    clear HI i3
    by_cases ci : i < m
    · have k0 : wr.cell? ⟨w.heap.size, 0, none⟩ = some (.int .i64 n) := by rw [blk_cell HN.out]; rfl
      obtain ⟨gx, cx', ex, hgx, _, cells, hcx⟩ := Kd.R_form HR.out (by omega)
      injection ex with ex exl ex2
      clear exl
      subst ex ex2
      have XL := Aside0.mk i2
      clear i2 hcx
      go_wp2_with fail
      refine (Next_k HS.out HB.out HL.out (by omega) (by omega)).mono ?_
      rintro _ w3 ⟨⟨r, rfl, r0, r1⟩, hs, hb, hk⟩
      have HN3 := Aside0.mk (hk.2 _ _ _ (by decide) HN.out)
      have HR3 := Aside0.mk (R_Ks HR.out hk (fun q hq => by have := E3 q hq; omega))
      have HS3 := Aside0.mk hs
      have HB3 := Aside0.mk hb
      have hr3 := HR3.out
      rw [← XL.out] at hr3
      obtain ⟨z1, z2⟩ := Kd.R_cell (0 : Int) hr3 (i : Int) (by omega) (by have := XL.out; omega)
      have PUT := Aside0.mk (Kd.R_put hr3 (i : Int) r)
      simp only [Int.toNat_natCast] at z1 z2 PUT
      rw [XL.out] at PUT
      obtain ⟨cl, hcl⟩ : ∃ cl, w3.heap[gx]? = some (.cells cl 3 (0, 0)) := by
        obtain ⟨_, _, ho, _⟩ := HR3.out
        exact own_typed ho gx rfl
      have HCL := Aside0.mk hcl
      clear hs hb hk hr3 k0 HN HR HS HB hcl
      go_wp2_with fail
      go_roundw
      case rel =>
        refine ⟨i + 1, xs.set i r, by go_num, ⟨by omega, by rw [List.length_set]; exact XL.out, fun x hx => ?_⟩, ⟨PUT.out.1⟩, ⟨blk_other HN3.out HCL.out (by decide) i _⟩, ⟨Src_far HS3.out (p := ⟨gx, i, none⟩) (Src_ne HS3.out HCL.out (by decide)) _⟩, ⟨HB3.out.setCell hgx _⟩⟩
        rcases List.mem_or_eq_of_mem_set hx with hx | hx
        · exact IN.out x hx
        · rw [hx]; exact ⟨r0, r1⟩
      case measure => simp [intOf]; omega
    · go_wp2_with fail
      go_ret
      exact ⟨⟨_, xs, rfl, HR.out, i2, IN.out⟩, HB.out⟩
end Go.Proofs.Ytkbcgahpekmlbaa.PPg

namespace Go.Proofs.Ytkbcgahpekmlbaa.PPg
open Go.RowKit Go.Proofs.YtkbcgahpekmlbaaW.PrintWords Go.Proofs.YtkbcgahpekmlbaaW.PrintLast Go.Proofs.YtkbcgahpekmlbaaW.PrintMore
set_option linter.unusedVariables false
/-- A law's memory without a table. -/
structure NS (w0 W : World) (bn n : Nat) (v1 v2 : Value) (ev : List S65) (ac : List S30) : Prop where
  below : Below w0.heap.size w0 W
  net : W.heap[bn]? = some (.cells #[.int .i64 n, v1, v2] 25 (0, 0))
  evs : Kd.R k65 65 W w0.heap.size (fun _ => True) v1 ev
  acs : Kd.R k30 30 W w0.heap.size (fun _ => True) v2 ac
theorem NS_0 {w0 W : World} {bn n : Nat} {v1 v2 : Value} {ev : List S65} {ac : List S30} (h : NS w0 W bn n v1 v2 ev ac) : W.cell? ⟨bn, 0, none⟩ = some (.int .i64 n) := by rw [blk_cell h.net]; rfl
theorem NS_1 {w0 W : World} {bn n : Nat} {v1 v2 : Value} {ev : List S65} {ac : List S30} (h : NS w0 W bn n v1 v2 ev ac) : W.cell? ⟨bn, 1, none⟩ = some v1 := by rw [blk_cell h.net]; rfl
theorem NS_2 {w0 W : World} {bn n : Nat} {v1 v2 : Value} {ev : List S65} {ac : List S30} (h : NS w0 W bn n v1 v2 ev ac) : W.cell? ⟨bn, 2, none⟩ = some v2 := by rw [blk_cell h.net]; rfl
theorem NS_next {w0 W W' : World} {bn n : Nat} {v1 v2 : Value} {ev : List S65} {ac : List S30} (h : NS w0 W bn n v1 v2 ev ac) (hb : Below W.heap.size W W') : NS w0 W' bn n v1 v2 ev ac :=
  ⟨below_step h.below hb, (hb.block bn (blk_lt h.net)).trans h.net, Kd.R_below h.evs hb, Kd.R_below h.acs hb⟩
theorem NS_table {w0 w : World} {bn n : Nat} {v1 v2 : Value} {ev : List S65} {ac : List S30} (h : NS w0 w bn n v1 v2 ev ac) (hok : okN n ev ac = true) :
    Calls Try.prog 20 #[.agg #[.int .i64 n, v1, v2]] w fun e w' => ∃ g q, e = .returned (.pointer (some ⟨g, 0, none⟩)) ∧ LB w0 w' bn g n v1 v2 ev ac q ∧ TabOk n ev ac q ∧ Below w.heap.size w w' := table_c hok h.below h.net h.evs h.acs
end Go.Proofs.Ytkbcgahpekmlbaa.PPg

namespace Go.Proofs.Ytkbcgahpekmlbaa.PPg
open Go.RowKit Go.Proofs.YtkbcgahpekmlbaaW.PrintWords Go.Proofs.YtkbcgahpekmlbaaW.PrintLast Go.Proofs.YtkbcgahpekmlbaaW.PrintMore
set_option linter.unusedVariables false
set_option maxRecDepth 100000
def Tok (n : Nat) : Prop := True
set_option maxHeartbeats 4000000 in
theorem Network_c (w : World) (A : Option Addr) (c : Nat) (l : List Int) (h : Kd.C (Kd.int .i64) w A l.length l) (hc : l.length ≤ c) (hl : Fit l) :
    Calls Try.prog 12 #[.slice A l.length c] w (NetRes w) := by
  have H := Aside0.mk h
  have HL := Aside0.mk hl
  clear h hl
  go_enter Try.func12, Try.ntmps12
  go_wp2_with fail
  refine (From_k' (w0 := w) (((Below.refl w.heap.size w).alloc (Nat.le_refl _) _)) H.out hc).mono ?_
  rintro _ w1 ⟨⟨gs, rfl, hs⟩, hb, hb'⟩
  have hr0 := (hb'.block w.heap.size (by simp)).trans (heap_alloc_new w _)
  have HR0 := Aside0.mk hr0
  have HS := Aside0.mk hs
  have HB := Aside0.mk hb
  clear hr0 hs hb hb'
  go_wp2_with fail
  refine (Next_k HS.out HB.out HL.out (by omega) (by omega)).mono ?_
  rintro _ w2 ⟨⟨x0, rfl, x00, x01⟩, hs, hb, hk⟩
  have HR2 := Aside0.mk (hk.2 _ _ _ (by decide) HR0.out)
  have HS2 := Aside0.mk (Src_below hs ((Below.refl w2.heap.size w2).alloc (Nat.le_refl _) (.cells #[.int .i64 (2 + x0), .slice none 0 0, .slice none 0 0] 25)))
  have HB2 := Aside0.mk (hb.alloc hb.size (.cells #[.int .i64 (2 + x0), .slice none 0 0, .slice none 0 0] 25))
  have HZ2 := Aside0.mk hb.size
  clear hs hb hk HS HB HR0
  go_wp2_with fail
  refine (Next_k HS2.out HB2.out HL.out (by omega) (by omega)).mono ?_
  rintro _ w3 ⟨⟨k0, rfl, k00, k01⟩, hs, hb, hk⟩
  have hn := hk.2 _ _ _ (by decide) (heap_alloc_new w2 (.cells #[.int .i64 (2 + x0), .slice none 0 0, .slice none 0 0] 25))
  have HR3 := Aside0.mk (hk.2 _ _ _ (by decide) ((Below.heap_alloc w2 _ _ (blk_lt HR2.out)).trans HR2.out))
  have HN3 := Aside0.mk hn
  have HS3 := Aside0.mk hs
  have HB3 := Aside0.mk hb
  have HG := Aside0.mk (show w.heap.size ≤ w2.heap.size from HZ2.out)
  have HRG := Aside0.mk (show w.heap.size ≠ w2.heap.size from fun e => by have := blk_lt HR2.out; omega)
  obtain ⟨P, hP⟩ := Int.eq_ofNat_of_zero_le (show 0 ≤ 2 + x0 by omega)
  have HP := Aside0.mk (show 2 ≤ P ∧ P ≤ 9 by omega)
  rw [hP] at HN3
  clear hn hs hb hk HS2 HB2 HR2 HZ2
  go_wp2_with fail
  have HPe := Aside0.mk hP
  clear hP
  generalize hgn : w2.heap.size = gn at *
  clear hgn
  generalize hK0 : 1 + k0 = K0 at *
  have HK0 := Aside0.mk (show 1 ≤ K0 ∧ K0 ≤ 5 by omega)
  clear hK0
  have hz : (0 : Int) ≤ (P : Int) := by omega
  go_loopw [5] (fun v5 wr => ∃ (k : Int) (ev : List S65) (v1 : Value), v5 = .int .i64 k ∧ Aside0 (0 ≤ k ∧ ev.length + k = K0) ∧ Aside0 (wr.heap[gn]? = some (.cells #[.int .i64 P, v1, .slice none 0 0] 25 (0, 0))) ∧ Aside0 (Kd.R k65 65 wr w.heap.size (fun _ => True) v1 ev) ∧ Aside0 (Src w wr gs l) ∧ Aside0 (Below w.heap.size w wr) ∧ Aside0 (wr.heap[w.heap.size]? = some (.cells #[.int .i64 0, .slice none 0 0, .slice none 0 0] 25 (0, 0)))) (fun v5 _ => (intOf v5).toNat)
  case atStart => exact ⟨K0, [], _, rfl, ⟨by have := HK0.out; simp; omega⟩, HN3, ⟨Kd.R_nil _ _ _ _ _⟩, HS3, HB3, HR3⟩
  case round =>
    clear HN3 HS3 HB3 HR3
    obtain ⟨k, ev, v1, rfl, HI, HN, HE, HS, HB, HR⟩ := hrel
    obtain ⟨i0, i1⟩ := HI.out
    have i2 := HK0.out
    obtain ⟨A1, c1, e1⟩ := Kd.R_slice HE.out
    subst e1
    by_cases ck : 0 < k
    · have z0 : wr.cell? ⟨gn, 1, none⟩ = some (.slice A1 ev.length c1) := by rw [blk_cell HN.out]; rfl
      have tok1 : Tok 1 := trivial
      go_wp2_with fail
      go_region_law
        (first
          | ((go_simp; go_at_call 31; have _t := tok1; refine (Next_d HS.out HB.out HL.out (by omega) (by omega)).mono ?_; rintro _ w4 ⟨⟨y1, rfl, y10, y11⟩, hs, hb, hk⟩; have hn := hk.2 _ _ _ (by decide) HN.out; have z1 : w4.cell? ⟨gn, 1, none⟩ = some (.slice A1 ev.length c1) := (by rw [blk_cell hn]; rfl); have HN4 := Aside0.mk hn; have HR4 := Aside0.mk (hk.2 _ _ _ (by decide) HR.out); have HE4 := Aside0.mk (R_Ks HE.out hk (fun q hq => by have := E65 q hq; omega)); have HS4 := Aside0.mk hs; have HB4 := Aside0.mk hb; have g1 : IntKind.i64.wrap (1 + y1) = 1 + y1 := ((IntWalk.i64_left _).trans (IntWalk.wrap64_in _ (by omega))); clear hn hs hb hk z0 tok1 HN HR HE HS HB; have tok2 : Tok 2 := trivial))
          | ((go_simp; go_at_call 31; have _t := tok2; refine (Next_k HS4.out HB4.out HL.out (by omega) (by omega)).mono ?_; rintro _ w5 ⟨⟨y2, rfl, y20, y21⟩, hs, hb, hk⟩; have hn := hk.2 _ _ _ (by decide) HN4.out; have z2 : w5.cell? ⟨gn, 1, none⟩ = some (.slice A1 ev.length c1) := (by rw [blk_cell hn]; rfl); have HN5 := Aside0.mk hn; have HR5 := Aside0.mk (hk.2 _ _ _ (by decide) HR4.out); have HE5 := Aside0.mk (R_Ks HE4.out hk (fun q hq => by have := E65 q hq; omega)); have HS5 := Aside0.mk hs; have HB5 := Aside0.mk hb; clear hn hs hb hk z1 tok2 HN4 HR4 HE4 HS4 HB4; have tok3 : Tok 3 := trivial))
          | ((go_simp; go_at_call 31; have _t := tok3; refine (Next_k HS5.out HB5.out HL.out (by omega) (by omega)).mono ?_; rintro _ w6 ⟨⟨y3, rfl, y30, y31⟩, hs, hb, hk⟩; have hn := hk.2 _ _ _ (by decide) HN5.out; have z3 : w6.cell? ⟨gn, 1, none⟩ = some (.slice A1 ev.length c1) := (by rw [blk_cell hn]; rfl); have hl6 := blk_lt hn; have HN6 := Aside0.mk hn; have HR6 := Aside0.mk (hk.2 _ _ _ (by decide) HR5.out); have HE6 := Aside0.mk (R_Ks HE5.out hk (fun q hq => by have := E65 q hq; omega)); have HS6 := Aside0.mk hs; have HB6 := Aside0.mk hb; clear hn hs hb hk z2 tok3 HN5 HR5 HE5 HS5 HB5))
          | (((with_reducible refine gate_bstep (b := .append) (xs := #[.tmp 23, .tmp 32]) (ts := #[22, 22]) rfl ?_); (refine Kd.R_append_step k65 (w0 := w) w.heap.size (by rfl) (.tmp 23) (.tmp 32) 22 65 (.agg #[(.int .i64 0), (.int .i64 0), (.int .i64 0)]) 24 (by rfl) Try.underlying22 info65 (by rfl) (by decide) (by omega) (.slice A1 ev.length c1) ev (⟨1 + y1, y2, y3⟩ : S65) [.int .i64 (1 + y1), .int .i64 y2, .int .i64 y3] (fun _ => True) (fun _ => False) (by rfl) (by rfl) (k65_mkM _ _ _ _) (fun _ hk => hk.elim) (fun _ _ => trivial) HE6.out HB6.out HB6.out.size (by omega) ?_; intro v7 w7 ho hb hg hat; obtain ⟨A7, c7, e7⟩ := Kd.R_slice ho; rw [List.length_append, List.length_singleton] at e7; subst e7; have hne := Kd.R_ne HE6.out HN6.out (by decide); have hn := blk_grown HN6.out hg hne; have z4 : w7.cell? ⟨gn, 1, none⟩ = some (.slice A1 ev.length c1) := (by rw [blk_cell hn]; rfl); have zf := blk_frozen hn 1; have HN7 := Aside0.mk (blk_set hn 1 (.slice A7 (ev.length + 1) c7)); have HR7 := Aside0.mk ((Below.heap_setCell w7 ⟨gn, 1, none⟩ (.slice A7 (ev.length + 1) c7) w.heap.size HRG.out).trans (blk_grown HR6.out hg (Kd.R_ne HE6.out HR6.out (by decide)))); have HE7 := Aside0.mk (Kd.R_set ho hn (fun q hq => by have := E65 q hq; omega) 1 (.slice A7 (ev.length + 1) c7)); have HS7 := Aside0.mk (Src_far (Src_grown HS6.out hg (Src_row HS6.out HE6.out (by decide))) (p := ⟨gn, 1, none⟩) (Src_ne HS6.out HN6.out (by decide)) (.slice A7 (ev.length + 1) c7)); have HB7 := Aside0.mk (hb.setCell (p := ⟨gn, 1, none⟩) HG.out (.slice A7 (ev.length + 1) c7)); clear ho hb hg hat hne hn z3 HN6 HR6 HE6 HS6 HB6))))
      all_goals
       (go_wp2_with fail
        go_roundw
        case rel => exact ⟨k - 1, ev ++ [⟨1 + y1, y2, y3⟩], _, rfl, ⟨by simp; omega⟩, HN7, HE7, HS7, HB7, HR7⟩
        case measure => simp [intOf]; omega)
    · have z0 : wr.cell? ⟨gn, 1, none⟩ = some (.slice A1 ev.length c1) := by rw [blk_cell HN.out]; rfl
      have m1 : 1 ≤ ev.length ∧ ev.length ≤ 5 := by omega
      have HM := Aside0.mk m1
      clear HK0 HI i0 i1 i2
      go_wp2_with fail
      refine (Next_k HS.out HB.out HL.out (by omega) (by omega)).mono ?_
      rintro _ w4 ⟨⟨k4, rfl, k40, k41⟩, hs, hb, hk⟩
      have HN4 := Aside0.mk (hk.2 _ _ _ (by decide) HN.out)
      have HR4 := Aside0.mk (hk.2 _ _ _ (by decide) HR.out)
      have HE4 := Aside0.mk (R_Ks HE.out hk (fun q hq => by have := E65 q hq; omega))
      have HS4 := Aside0.mk hs
      have HB4 := Aside0.mk hb
      have HQ := Aside0.mk (show 0 ≤ k4 ∧ k4 ≤ 8 by omega)
      clear hs hb hk z0 HN HR HE HS HB
      go_wp2_with fail
      go_loopw [7] (fun v7 wr => ∃ (k : Int) (ac : List S30) (v2 : Value), v7 = .int .i64 k ∧ Aside0 (0 ≤ k ∧ ac.length + k ≤ 8) ∧ Aside0 (wr.heap[gn]? = some (.cells #[.int .i64 P, .slice A1 ev.length c1, v2] 25 (0, 0))) ∧ Aside0 (Kd.R k65 65 wr w.heap.size (fun _ => True) (.slice A1 ev.length c1) ev) ∧ Aside0 (Kd.R k30 30 wr w.heap.size (fun _ => True) v2 ac) ∧ Aside0 (Src w wr gs l) ∧ Aside0 (Below w.heap.size w wr) ∧ Aside0 (wr.heap[w.heap.size]? = some (.cells #[.int .i64 0, .slice none 0 0, .slice none 0 0] 25 (0, 0))) ∧ Aside0 (∀ a ∈ ac, actNet P ev.length a)) (fun v7 _ => (intOf v7).toNat)
      case atStart => exact ⟨k4, [], _, rfl, ⟨by have := HQ.out; simp; omega⟩, HN4, HE4, ⟨Kd.R_nil _ _ _ _ _⟩, HS4, HB4, HR4, ⟨fun a ha => by cases ha⟩⟩
      case round =>
        clear HN4 HE4 HS4 HB4 HR4 k40 k41 HQ
        obtain ⟨k, ac, v2, rfl, HI, HN, HE, HA, HS, HB, HR, HAC⟩ := hrel
        obtain ⟨i0, i1⟩ := HI.out
        obtain ⟨A2, c2, e2⟩ := Kd.R_slice HA.out
        subst e2
        by_cases ck : 0 < k
        · by_cases cm : 1 < ev.length
          · have cm' : (1 : Int) < (ev.length : Int) := by omega
            go_wp2_with fail
            refine (Next_k HS.out HB.out HL.out (by omega) (by omega)).mono ?_
            rintro _ w5 ⟨⟨y0, rfl, y00, y01⟩, hs, hb, hk⟩
            have HN5 := Aside0.mk (hk.2 _ _ _ (by decide) HN.out)
            have HR5 := Aside0.mk (hk.2 _ _ _ (by decide) HR.out)
            have HE5 := Aside0.mk (R_Ks HE.out hk (fun q hq => by have := E65 q hq; omega))
            have HA5 := Aside0.mk (R_Ks HA.out hk (fun q hq => by have := E30 q hq; omega))
            have HS5 := Aside0.mk hs
            have HB5 := Aside0.mk hb
            clear hs hb hk HN HR HE HA HS HB
            go_wp2_with fail
            refine (Next_k HS5.out HB5.out HL.out (by omega) (by omega)).mono ?_
            rintro _ w6 ⟨⟨y1, rfl, y10, y11⟩, hs, hb, hk⟩
            have HN6 := Aside0.mk (hk.2 _ _ _ (by decide) HN5.out)
            have HR6 := Aside0.mk (hk.2 _ _ _ (by decide) HR5.out)
            have HE6 := Aside0.mk (R_Ks HE5.out hk (fun q hq => by have := E65 q hq; omega))
            have HA6 := Aside0.mk (R_Ks HA5.out hk (fun q hq => by have := E30 q hq; omega))
            have HS6 := Aside0.mk hs
            have HB6 := Aside0.mk hb
            clear hs hb hk HN5 HR5 HE5 HA5 HS5 HB5
            go_wp2_with fail
            refine (Next_k HS6.out HB6.out HL.out (by omega) (by omega)).mono ?_
            rintro _ w7 ⟨⟨y2, rfl, y20, y21⟩, hs, hb, hk⟩
            have HNB : Aside0 (NB w (w7.alloc (.cells #[.int .i64 (1 + y0), .int .i64 y1, .int .i64 0, .int .i64 0, .int .i64 0, .int .i64 y2] 30)) gs gn w7.heap.size l P (.slice A1 ev.length c1) (.slice A2 ac.length c2) ev ac #[.int .i64 (1 + y0), .int .i64 y1, .int .i64 0, .int .i64 0, .int .i64 0, .int .i64 y2]) := ⟨by
              have n7 := hk.2 _ _ _ (by decide) HN6.out
              have r7 := hk.2 _ _ _ (by decide) HR6.out
              exact ⟨(Below.heap_alloc w7 _ _ (blk_lt n7)).trans n7, Kd.R_alloc (R_Ks HE6.out hk (fun q hq => by have := E65 q hq; omega)) _, Kd.R_alloc (Kd.R_mono (Kd.R_bound (R_Ks HA6.out hk (fun q hq => by have := E30 q hq; omega))) (fun q hq => by obtain ⟨_, _, h3, _⟩ := hq; omega)) _, Src_below hs ((Below.refl _ _).alloc (Nat.le_refl _) _), hb.alloc hb.size _, (Below.heap_alloc w7 _ _ (blk_lt r7)).trans r7, heap_alloc_new w7 _, hb.size⟩⟩
            clear hs hb hk HN6 HR6 HE6 HA6 HS6 HB6
            go_wp2_with fail
            generalize hw8 : w7.alloc (.cells #[.int .i64 (1 + y0), .int .i64 y1, .int .i64 0, .int .i64 0, .int .i64 0, .int .i64 y2] 30) = W8 at *
            clear hw8
            generalize hga : w7.heap.size = ga at *
            clear hga
            generalize h1y : 1 + y0 = z0' at *
            clear h1y
            have u1 : W8.cell? ⟨ga, 1, none⟩ = some (.int .i64 y1) := by rw [blk_cell HNB.out.act]; rfl
            have g1 : IntKind.i64.wrap (y1 + 1) = y1 + 1 := (IntWalk.i64_left _).trans (IntWalk.wrap64_in _ (by omega))
            have g2 : IntKind.i64.wrap ((ev.length : Int) - 1) = (ev.length : Int) - 1 := (IntWalk.i64_left _).trans (IntWalk.wrap64_in _ (by omega))
            have g0 : ((ev.length : Int) == 0) = false := beq_eq_false_iff_ne.2 (by omega)
            have gm : ev ≠ [] := fun e => by rw [e] at cm; simp at cm
            go_region_held3 (fun w' => w'.cell? ⟨ga, 1, none⟩ = some (.int .i64 y1)) (first | go_keep | exact (World.cell?_setCell_other _ _ _ _ (by simp)).trans v1)
              (first | ((go_at_call 31; refine (NB_NextD HNB.out HL.out (by omega) (by omega)).mono ?_; rintro _ w9 ⟨⟨y3, rfl, y30, y31⟩, hnb⟩; have HNB9 := Aside0.mk hnb; have v1 : w9.cell? ⟨ga, 1, none⟩ = some (.int .i64 y1) := (by rw [blk_cell hnb.act]; rfl); have v2 : w9.cell? ⟨ga, 2, none⟩ = some (.int .i64 0) := (by rw [blk_cell hnb.act]; rfl); have vf := blk_frozen hnb.act 2; have g3 : IntKind.i64.wrap (y1 + 1 + y3) = y1 + 1 + y3 := ((IntWalk.i64_left _).trans (IntWalk.wrap64_in _ (by omega))); have g4 : (y1 + 1 + y3).tmod (ev.length : Int) = (y1 + 1 + y3) % (ev.length : Int) := tmod_pos (by omega); have g5 := em_bound (y1 + 1 + y3) (show (0 : Int) < (ev.length : Int) by omega); clear hnb u1)))
            have HZ := Aside0.mk (mod_ne y10 y11 y30 y31)
            have HNBa : Aside0 (NB w (w9.setCell ⟨ga, 2, none⟩ (.int .i64 ((y1 + 1 + y3) % (ev.length : Int)))) gs gn ga l P (.slice A1 ev.length c1) (.slice A2 ac.length c2) ev ac #[.int .i64 z0', .int .i64 y1, .int .i64 ((y1 + 1 + y3) % (ev.length : Int)), .int .i64 0, .int .i64 0, .int .i64 y2]) := ⟨NB_set HNB9.out 2 _⟩
            clear g0 g1 g2 g3 g4 g5 gm v1 v2 vf HNB HNB9
            go_wp2_with fail
            generalize hz2 : (y1 + 1 + y3) % (ev.length : Int) = z2 at *
            clear hz2
            generalize hwa : w9.setCell ⟨ga, 2, none⟩ (.int .i64 z2) = wa at *
            clear hwa
            have hPb := HP.out
            have u0 : wa.cell? ⟨gn, 0, none⟩ = some (.int .i64 P) := by rw [blk_cell HNBa.out.net]; rfl
            have g1 : IntKind.i64.wrap (3 * (P : Int)) = 3 * (P : Int) := (IntWalk.i64_left _).trans (IntWalk.wrap64_in _ (by omega))
            go_region_held3 (fun w' => w'.cell? ⟨gn, 0, none⟩ = some (.int .i64 P)) (first | go_keep | exact (World.cell?_setCell_other _ _ _ _ hne).trans p1)
              (first | ((go_at_call 31; refine (NB_NextD HNBa.out HL.out (by omega) (by omega)).mono ?_; rintro _ wb ⟨⟨y4, rfl, y40, y41⟩, hnb⟩; have HNBb := Aside0.mk hnb; have p1 : wb.cell? ⟨gn, 0, none⟩ = some (.int .i64 P) := (by rw [blk_cell hnb.net]; rfl); have p2 : wb.cell? ⟨ga, 3, none⟩ = some (.int .i64 0) := (by rw [blk_cell hnb.act]; rfl); have pf := blk_frozen hnb.act 3; have g3 : IntKind.i64.wrap (y4 - (P : Int)) = y4 - (P : Int) := ((IntWalk.i64_left _).trans (IntWalk.wrap64_in _ (by omega))); have hne : (⟨ga, 3, none⟩ : Addr) ≠ ⟨gn, 0, none⟩ := (fun e => blk_ne hnb.act hnb.net (by decide) (by injection e)); clear hnb u0)))
            have HNBc : Aside0 (NB w (wb.setCell ⟨ga, 3, none⟩ (.int .i64 (y4 - (P : Int)))) gs gn ga l P (.slice A1 ev.length c1) (.slice A2 ac.length c2) ev ac #[.int .i64 z0', .int .i64 y1, .int .i64 z2, .int .i64 (y4 - (P : Int)), .int .i64 0, .int .i64 y2]) := ⟨NB_set HNBb.out 3 _⟩
            clear g1 g3 p1 p2 pf hne HNBa HNBb
            go_wp2_with fail
            generalize hz3 : y4 - (P : Int) = z3 at *
            have HZ3 := Aside0.mk (show -(P : Int) ≤ z3 ∧ z3 < 2 * P by omega)
            have z3b : -(P : Int) ≤ z3 ∧ z3 < 2 * P := HZ3.out
            clear hz3
            generalize hwc : wb.setCell ⟨ga, 3, none⟩ (.int .i64 z3) = wc at *
            clear hwc
            have u0 : wc.cell? ⟨gn, 0, none⟩ = some (.int .i64 P) := by rw [blk_cell HNBc.out.net]; rfl
            have u3 : wc.cell? ⟨ga, 3, none⟩ = some (.int .i64 z3) := by rw [blk_cell HNBc.out.act]; rfl
            go_region_held3 (fun w' => w'.cell? ⟨gn, 0, none⟩ = some (.int .i64 P) ∧ w'.cell? ⟨ga, 3, none⟩ = some (.int .i64 z3)) (first | go_keep | exact ⟨(World.cell?_setCell_other _ _ _ _ hne).trans p1, (World.cell?_setCell_other _ _ _ _ (by simp)).trans p3⟩)
              (first | ((go_at_call 31; refine (NB_NextD HNBc.out HL.out (by omega) (by omega)).mono ?_; rintro _ wd ⟨⟨y5, rfl, y50, y51⟩, hnb⟩; have HNBd := Aside0.mk hnb; have p1 : wd.cell? ⟨gn, 0, none⟩ = some (.int .i64 P) := (by rw [blk_cell hnb.net]; rfl); have p3 : wd.cell? ⟨ga, 3, none⟩ = some (.int .i64 z3) := (by rw [blk_cell hnb.act]; rfl); have p2 : wd.cell? ⟨ga, 4, none⟩ = some (.int .i64 0) := (by rw [blk_cell hnb.act]; rfl); have pf := blk_frozen hnb.act 4; have g3 : IntKind.i64.wrap (z3 + y5) = z3 + y5 := ((IntWalk.i64_left _).trans (IntWalk.wrap64_in _ (by omega))); have hne : (⟨ga, 4, none⟩ : Addr) ≠ ⟨gn, 0, none⟩ := (fun e => blk_ne hnb.act hnb.net (by decide) (by injection e)); clear hnb u0 u3)))
            have HNBe : Aside0 (NB w (wd.setCell ⟨ga, 4, none⟩ (.int .i64 (z3 + y5))) gs gn ga l P (.slice A1 ev.length c1) (.slice A2 ac.length c2) ev ac #[.int .i64 z0', .int .i64 y1, .int .i64 z2, .int .i64 z3, .int .i64 (z3 + y5), .int .i64 y2]) := ⟨NB_set HNBd.out 4 _⟩
            clear g3 p1 p2 p3 pf hne HNBc HNBd
            generalize hz4 : z3 + y5 = z4 at *
            have HZ4 := Aside0.mk (show z3 ≤ z4 ∧ z4 < z3 + P by omega)
            clear hz4
            generalize hwe : wd.setCell ⟨ga, 4, none⟩ (.int .i64 z4) = we at *
            clear hwe
            have e0 : we.cell? ⟨ga, 0, none⟩ = some (.int .i64 z0') := by rw [blk_cell HNBe.out.act]; rfl
            have e1 : we.cell? ⟨ga, 1, none⟩ = some (.int .i64 y1) := by rw [blk_cell HNBe.out.act]; rfl
            have e2 : we.cell? ⟨ga, 2, none⟩ = some (.int .i64 z2) := by rw [blk_cell HNBe.out.act]; rfl
            have e3 : we.cell? ⟨ga, 3, none⟩ = some (.int .i64 z3) := by rw [blk_cell HNBe.out.act]; rfl
            have e4 : we.cell? ⟨ga, 4, none⟩ = some (.int .i64 z4) := by rw [blk_cell HNBe.out.act]; rfl
            have e5 : we.cell? ⟨ga, 5, none⟩ = some (.int .i64 y2) := by rw [blk_cell HNBe.out.act]; rfl
            have n2 : we.cell? ⟨gn, 2, none⟩ = some (.slice A2 ac.length c2) := by rw [blk_cell HNBe.out.net]; rfl
            have HACL := Aside0.mk (show ac.length ≤ 8 by omega)
            go_wp2_with (first | ((with_reducible refine gate_builtin (b := .append) (xs := #[.tmp 86, .tmp 88]) rfl ?_); at_builtin; go_loud (refine Kd.R_append k30 (w0 := w) w.heap.size rfl (.tmp 86) (.tmp 88) 23 30 (.agg #[(.int .i64 0), (.int .i64 0), (.int .i64 0), (.int .i64 0), (.int .i64 0), (.int .i64 0)]) 48 rfl Try.underlying23 info30 rfl (by decide) (by omega) (.slice A2 ac.length c2) ac (⟨z0', y1, z2, z3, z4, y2⟩ : S30) [.int .i64 z0', .int .i64 y1, .int .i64 z2, .int .i64 z3, .int .i64 z4, .int .i64 y2] (fun _ => True) (fun _ => False) rfl rfl (k30_mkM _ _ _ _) (fun _ hk => hk.elim) (fun _ _ => trivial) (Kd.R_mono HNBe.out.acs (fun _ _ => trivial)) HNBe.out.below HNBe.out.below.size (by have := HACL.out; omega) ?_; intro v5 wf ho hb hg hat; obtain ⟨A7, c7, e7⟩ := Kd.R_slice ho; rw [List.length_append, List.length_singleton] at e7; subst e7; have hne := Kd.R_ne HNBe.out.acs HNBe.out.net (by decide); have hn := blk_grown HNBe.out.net hg hne; have f2 : wf.cell? ⟨gn, 2, none⟩ = some (.slice A2 ac.length c2) := (by rw [blk_cell hn]; rfl); have ff := blk_frozen hn 2; have HN7 := Aside0.mk (blk_set hn 2 (.slice A7 (ac.length + 1) c7)); have HR7 := Aside0.mk ((Below.heap_setCell wf ⟨gn, 2, none⟩ (.slice A7 (ac.length + 1) c7) w.heap.size HRG.out).trans (blk_grown HNBe.out.res hg (Kd.R_ne HNBe.out.acs HNBe.out.res (by decide)))); have HA7 := Aside0.mk (Kd.R_set ho hn (fun q hq => by have := E30 q hq; omega) 2 (.slice A7 (ac.length + 1) c7)); have HE7 := Aside0.mk (Kd.R_set (Kd.R_over HNBe.out.evs HNBe.out.acs (fun q hq => by have := E65 q hq; omega) hg) hn (fun q hq => by have := E65 q hq; omega) 2 (.slice A7 (ac.length + 1) c7)); have HS7 := Aside0.mk (Src_far (Src_grown HNBe.out.src hg (Src_row HNBe.out.src HNBe.out.acs (by decide))) (p := ⟨gn, 2, none⟩) (Src_ne HNBe.out.src HNBe.out.net (by decide)) (.slice A7 (ac.length + 1) c7)); have HB7 := Aside0.mk (hb.setCell (p := ⟨gn, 2, none⟩) HG.out (.slice A7 (ac.length + 1) c7)); clear ho hb hg hat hne hn n2 e0 e1 e2 e3 e4 e5 HNBe)))
            have HAC7 : Aside0 (∀ a ∈ ac ++ [(⟨z0', y1, z2, z3, z4, y2⟩ : S30)], actNet P ev.length a) := ⟨fun a ha => by
              rcases List.mem_append.1 ha with ha | ha
              · exact HAC.out a ha
              · obtain rfl := List.mem_singleton.1 ha
                obtain ⟨b0, b1, b2⟩ := HZ.out
                obtain ⟨b3, b4⟩ := HZ4.out
                exact ⟨y10, y11, b0, b1, fun e => b2 e.symm, z3b.1, z3b.2, b3, b4, y20, by show y2 ≤ 4; omega⟩⟩
            go_roundw
            case rel => exact ⟨k - 1, ac ++ [⟨z0', y1, z2, z3, z4, y2⟩], _, rfl, ⟨by simp; omega⟩, HN7, HE7, HA7, HS7, HB7, HR7, HAC7⟩
            case measure => simp [intOf]; omega
          · have cm' : ¬ (1 : Int) < (ev.length : Int) := by omega
            have n0 : wr.cell? ⟨gn, 0, none⟩ = some (.int .i64 P) := by rw [blk_cell HN.out]; rfl
            have n1 : wr.cell? ⟨gn, 1, none⟩ = some (.slice A1 ev.length c1) := by rw [blk_cell HN.out]; rfl
            have n2 : wr.cell? ⟨gn, 2, none⟩ = some (.slice A2 ac.length c2) := by rw [blk_cell HN.out]; rfl
            have r0 : wr.cell? ⟨w.heap.size, 0, none⟩ = some (.int .i64 0) := by rw [blk_cell HR.out]; rfl
            have r1 : wr.cell? ⟨w.heap.size, 1, none⟩ = some (.slice none 0 0) := by rw [blk_cell HR.out]; rfl
            have r2 : wr.cell? ⟨w.heap.size, 2, none⟩ = some (.slice none 0 0) := by rw [blk_cell HR.out]; rfl
            have f0 := blk_frozen HR.out 0
            have f1 := blk_frozen HR.out 1
            have f2 := blk_frozen HR.out 2
            have FIN := Aside0.mk (Net_fin HR.out HE.out HA.out HB.out HAC.out HP.out HM.out (show ac.length ≤ 8 by omega))
            go_wp2_with fail
            refine bodyPost_ret (results_cell_row rfl _ _ w.heap.size 25 #[.int .i64 P, .slice A1 ev.length c1, .slice A2 ac.length c2] (0, 0) _ rfl FIN.out.1 Try.underlying25 rfl (by kernel_rfl)) rfl ?_
            exact FIN.out.2
        · have n0 : wr.cell? ⟨gn, 0, none⟩ = some (.int .i64 P) := by rw [blk_cell HN.out]; rfl
          have n1 : wr.cell? ⟨gn, 1, none⟩ = some (.slice A1 ev.length c1) := by rw [blk_cell HN.out]; rfl
          have n2 : wr.cell? ⟨gn, 2, none⟩ = some (.slice A2 ac.length c2) := by rw [blk_cell HN.out]; rfl
          have r0 : wr.cell? ⟨w.heap.size, 0, none⟩ = some (.int .i64 0) := by rw [blk_cell HR.out]; rfl
          have r1 : wr.cell? ⟨w.heap.size, 1, none⟩ = some (.slice none 0 0) := by rw [blk_cell HR.out]; rfl
          have r2 : wr.cell? ⟨w.heap.size, 2, none⟩ = some (.slice none 0 0) := by rw [blk_cell HR.out]; rfl
          have f0 := blk_frozen HR.out 0
          have f1 := blk_frozen HR.out 1
          have f2 := blk_frozen HR.out 2
          have FIN := Aside0.mk (Net_fin HR.out HE.out HA.out HB.out HAC.out HP.out HM.out (show ac.length ≤ 8 by omega))
          go_wp2_with fail
          refine bodyPost_ret (results_cell_row rfl _ _ w.heap.size 25 #[.int .i64 P, .slice A1 ev.length c1, .slice A2 ac.length c2] (0, 0) _ rfl FIN.out.1 Try.underlying25 rfl (by kernel_rfl)) rfl ?_
          exact FIN.out.2
end Go.Proofs.Ytkbcgahpekmlbaa.PPg
