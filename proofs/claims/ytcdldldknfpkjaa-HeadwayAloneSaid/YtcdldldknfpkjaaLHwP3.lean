/- The maker of occupations, and contracts over slices that are only read. -/
import Derived.Test.YtcdldldknfpkjaaLHwP2
import Derived.Test.YtcdldldknfpkjaaLHwCN
namespace Go.Proofs.Ytcdldldknfpkjaa.PHw
open Go.RowKit Go.Proofs.YtcdldldknfpkjaaW.PrintWords Go.Proofs.YtcdldldknfpkjaaW.PrintLast Go.Proofs.YtcdldldknfpkjaaW.PrintMore
set_option linter.unusedVariables false
theorem ovF_snoc (u : S41) : ∀ (a : List S41) (l : Int), ovF l a = true → (∀ x ∈ a, x.f0 < u.f0) → l < u.f0 → -65536 ≤ u.f1 ∧ u.f1 < u.f2 ∧ u.f2 ≤ 65536 → ovF l (a ++ [u]) = true
  | [], l, h, hx, hl, hu => by rw [List.nil_append, ovF_cons]; exact ⟨hl, hu.1, hu.2.1, hu.2.2, rfl⟩
  | x :: a, l, h, hx, hl, hu => by
    rw [ovF_cons] at h
    rw [List.cons_append, ovF_cons]
    exact ⟨h.1, h.2.1, h.2.2.1, h.2.2.2.1, ovF_snoc u a x.f0 h.2.2.2.2 (fun y hy => hx y (List.mem_cons_of_mem _ hy)) (hx x (List.mem_cons_self ..)) hu⟩
/-- The bounds of a made occupation. -/
def Tiny (x : S41) : Prop := -20 ≤ x.f1 ∧ x.f1 < x.f2 ∧ x.f2 ≤ 59 ∧ x.f2 - x.f1 ≤ 20
theorem Occ_loop (l : List Int) (hl : Fit l) : ∀ (d : Nat) (r : Int) (a : List S41) (i : Int), 0 ≤ r → r + d = 6 → ovld a = true → (∀ x ∈ a, x.f0 < r ∧ Tiny x) → a.length ≤ r → 0 ≤ i → i ≤ l.length →
    ∃ b, Ev (fun k => railplankeep_Occupations.l0 k a r l i) b ∧ ovld b = true ∧ (∀ x ∈ b, Tiny x) ∧ b.length ≤ 6
  | 0, r, a, i, r0, hd, ha, hx, hn, i0, i1 => by
    refine ⟨a, Ev.step (f := fun _ => some a) (fun k => ?_) (Ev.now _), ha, fun x h => (hx x h).2, by omega⟩
    simp only [railplankeep_Occupations.l0]
    rw [if_neg (by omega)]
  | d + 1, r, a, i, r0, hd, ha, hx, hn, i0, i1 => by
    obtain ⟨q, j, hq, q0, q1, j0, j1⟩ := Next_some l hl i 3 i0 i1 (by omega) (by omega)
    by_cases hc : q > 0
    · obtain ⟨f, j2, hf, f0, f1, j20, j21⟩ := Next_some l hl j 60 j0 j1 (by omega) (by omega)
      obtain ⟨s, j3, hs, s0, s1, j30, j31⟩ := Next_some l hl j2 20 j20 j21 (by omega) (by omega)
      obtain ⟨b, hb, h1, h2, h3⟩ := Occ_loop l hl d (r + 1) (a ++ [⟨r, f - 20, f - 20 + 1 + s⟩]) j3 (by omega) (by omega)
        (ovF_snoc _ a (-1) ha (fun x h => (hx x h).1) (by show -1 < r; omega) ⟨by show -65536 ≤ f - 20; omega, by show f - 20 < f - 20 + 1 + s; omega, by show f - 20 + 1 + s ≤ 65536; omega⟩)
        (fun x h => by
          rcases List.mem_append.1 h with h | h
          · have := hx x h; exact ⟨by omega, this.2⟩
          · rw [List.mem_singleton] at h; subst h
            exact ⟨by show r < r + 1; omega, by show -20 ≤ f - 20; omega, by show f - 20 < f - 20 + 1 + s; omega, by show f - 20 + 1 + s ≤ 59; omega, by show f - 20 + 1 + s - (f - 20) ≤ 20; omega⟩)
        (by simp; omega) j30 j31
      refine ⟨b, Ev.step (fun k => ?_) hb, h1, h2, h3⟩
      simp only [railplankeep_Occupations.l0]
      rw [if_pos (by omega), hq]; simp only [Option.bind_some]
      rw [if_pos hc, hf]; simp only [Option.bind_some]
      rw [hs]; simp only [Option.bind_some]
      rw [if_pos (by omega), wrap_ok (a := f - 20) (by omega) (by omega), wrap_ok (a := f - 20 + 1) (by omega) (by omega), wrap_ok (a := f - 20 + 1 + s) (by omega) (by omega), wrap_ok (a := r + 1) (by omega) (by omega)]
    · obtain ⟨b, hb, h1, h2, h3⟩ := Occ_loop l hl d (r + 1) a j (by omega) (by omega) ha (fun x h => by have := hx x h; exact ⟨by omega, this.2⟩) (by omega) j0 j1
      refine ⟨b, Ev.step (fun k => ?_) hb, h1, h2, h3⟩
      simp only [railplankeep_Occupations.l0]
      rw [if_pos (by omega), hq]; simp only [Option.bind_some]
      rw [if_neg hc, wrap_ok (a := r + 1) (by omega) (by omega)]
theorem Occ_ev (l : List Int) (hl : Fit l) : ∃ b, Ev (fun k => railplankeep_Occupations.f k l) b ∧ ovld b = true ∧ (∀ x ∈ b, Tiny x) ∧ b.length ≤ 6 := by
  obtain ⟨b, hb, h⟩ := Occ_loop l hl 6 0 [] 0 (Int.le_refl _) (by omega) rfl (fun x h => by cases h) (by simp) (Int.le_refl _) (by omega)
  refine ⟨b, ?_, h⟩
  simp only [railplankeep_Occupations.f, railplankeep_From.f, Option.bind_some]
  exact hb
theorem Occ_c {k : Nat} {A1 : Option Addr} {c1 : Nat} {l : List Int} {r : List S41} {w : World} (h : railplankeep_Occupations.f k l = some r) (hl : Kd.C (Kd.int .i64) w A1 l.length l) (hc : l.length ≤ c1) :
    Calls Try.prog 12 #[.slice A1 l.length c1] w fun x w' => ∃ A c, x = .returned (.slice A r.length c) ∧ VA w' (.slice A r.length c) r ∧ Below w.heap.size w w' := by
  refine (railplankeep_Occupations.calls k A1 c1 l r w hl hc h).mono ?_
  rintro x w' ⟨v, rfl, hr, hb⟩
  have hv := VA_R hr
  obtain ⟨A, c, rfl⟩ := VA_slice hv
  exact ⟨A, c, rfl, hv, hb⟩
theorem tog_c {A1 A2 : Option Addr} {c1 c2 : Nat} {a b : List S41} {w : World} (d : Int) (d0 : -1000000 ≤ d) (d1 : d ≤ 1000000) (Va : VA w (.slice A1 a.length c1) a) (Vb : VA w (.slice A2 b.length c2) b) (fa : Fit a) (fb : Fit b) (hsb : ∀ y ∈ b, Small y) :
    Calls Try.prog 15 #[.slice A1 a.length c1, .slice A2 b.length c2, .int .i64 d] w fun x w' => x = .returned (.bool (tog a b d)) ∧ Below w.heap.size w w' := by
  obtain ⟨k, h⟩ := (tog_ev a b fa fb hsb d d0 d1).rounds
  refine (railplanlaw9_together.calls k A1 c1 a A2 c2 b d _ w (VA_C Va) (VA_le Va) (VA_C Vb) (VA_le Vb) h).mono ?_
  rintro x w' ⟨rfl, nd, rfl⟩
  exact ⟨rfl, pw_below_drewN (Below.refl _ _) nd⟩
theorem Pick_c {v n r : Int} {w : World} (h : railplankeep_Pick.f v n = some r) : Calls Try.prog 16 #[.int .i64 v, .int .i64 n] w fun x w' => x = .returned (.int .i64 r) ∧ Below w.heap.size w w' := by
  refine (railplankeep_Pick.calls v n r w h).mono ?_
  rintro x w' ⟨rfl, nd, rfl⟩
  exact ⟨rfl, pw_below_drewN (Below.refl _ _) nd⟩
theorem Tiny.small {x : S41} (h : Tiny x) : Small x := by unfold Tiny at h; unfold Small; omega
end Go.Proofs.Ytcdldldknfpkjaa.PHw
