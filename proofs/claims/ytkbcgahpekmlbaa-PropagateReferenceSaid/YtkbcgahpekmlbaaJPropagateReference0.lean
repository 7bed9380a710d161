/- What PropagateReference stands on, part 1. -/
import Derived.Test.YtkbcgahpekmlbaaPPgx0
import Derived.Test.YtkbcgahpekmlbaaPPgx33
import Derived.Test.YtkbcgahpekmlbaaPPgx9
import Derived.Test.YtkbcgahpekmlbaaPPgx15
import Derived.Test.YtkbcgahpekmlbaaPPgx12
import Derived.Test.YtkbcgahpekmlbaaPPgx11
import Derived.Deep.LoopGhost
import Derived.Deep.QuietTactic
import Derived.BigQuiet
import Derived.Deep.RegionHeld3
import Derived.Deep.RegionWith
import Derived.Deep.DeepFit
import Derived.Test.YtkbcgahpekmlbaaPPgx18
import Derived.Test.YtkbcgahpekmlbaaPPgx19
namespace Go.Proofs.Ytkbcgahpekmlbaa.PPg
open Go.RowKit Go.Proofs.YtkbcgahpekmlbaaW.PrintWords Go.Proofs.YtkbcgahpekmlbaaW.PrintLast Go.Proofs.YtkbcgahpekmlbaaW.PrintMore
set_option linter.unusedVariables false
set_option linter.unusedSimpArgs false

def inS (u : S41) (x : Int) : Bool := decide (u.f0 ≤ x) && decide (x < u.f1)
def mem (s : List S41) (x : Int) : Bool := s.any fun u => inS u x
def vldF (t : Int) : Int → List S41 → Bool
  | _, [] => true
  | last, u :: s => decide (last < u.f0) && decide (0 ≤ u.f0) && decide (u.f0 < u.f1) && decide (u.f1 ≤ t) && vldF t u.f1 s
def per (t : Int) : Bool := decide (1 ≤ t) && decide (t ≤ 7200)
def vld (t : Int) (s : List S41) : Bool := per t && vldF t (-1) s

theorem inS_iff (u : S41) (x : Int) : inS u x = true ↔ u.f0 ≤ x ∧ x < u.f1 := by simp [inS]
theorem mem_nil (x : Int) : mem [] x = false := rfl
theorem mem_cons (u : S41) (s : List S41) (x : Int) : mem (u :: s) x = (inS u x || mem s x) := rfl
theorem mem_append (a b : List S41) (x : Int) : mem (a ++ b) x = (mem a x || mem b x) := by simp [mem, List.any_append]
theorem mem_reverse (a : List S41) (x : Int) : mem a.reverse x = mem a x := by simp [mem, List.any_reverse]
theorem mem_iff (s : List S41) (x : Int) : mem s x = true ↔ ∃ u, u ∈ s ∧ u.f0 ≤ x ∧ x < u.f1 := by
  simp [mem, List.any_eq_true, inS_iff]
theorem vldF_cons (t a : Int) (u : S41) (s : List S41) : vldF t a (u :: s) = true ↔ a < u.f0 ∧ 0 ≤ u.f0 ∧ u.f0 < u.f1 ∧ u.f1 ≤ t ∧ vldF t u.f1 s = true := by
  simp only [vldF, Bool.and_eq_true, decide_eq_true_eq]
  constructor
  · rintro ⟨⟨⟨⟨h1, h2⟩, h3⟩, h4⟩, h5⟩; exact ⟨h1, h2, h3, h4, h5⟩
  · rintro ⟨h1, h2, h3, h4, h5⟩; exact ⟨⟨⟨⟨h1, h2⟩, h3⟩, h4⟩, h5⟩
theorem per_iff (t : Int) : per t = true ↔ 1 ≤ t ∧ t ≤ 7200 := by simp [per]
theorem vld_iff (t : Int) (s : List S41) : vld t s = true ↔ (1 ≤ t ∧ t ≤ 7200) ∧ vldF t (-1) s = true := by simp [vld, per_iff]
theorem vldF_mono {t a b : Int} {s : List S41} (h : vldF t a s = true) (hb : b ≤ a) : vldF t b s = true := by
  cases s with
  | nil => rfl
  | cons u s => rw [vldF_cons] at h ⊢; obtain ⟨h1, h2⟩ := h; exact ⟨by omega, h2⟩
theorem vldF_mem {t : Int} (s : List S41) : ∀ {a : Int}, vldF t a s = true → ∀ u ∈ s, a < u.f0 ∧ 0 ≤ u.f0 ∧ u.f0 < u.f1 ∧ u.f1 ≤ t := by
  induction s with
  | nil => intro a _ u hu; cases hu
  | cons v s ih =>
    intro a h u hu
    rw [vldF_cons] at h
    obtain ⟨h1, h2, h3, h4, h5⟩ := h
    rcases List.mem_cons.1 hu with rfl | hu
    · exact ⟨h1, h2, h3, h4⟩
    · have := ih h5 u hu; omega
theorem vldF_in {t a : Int} {s : List S41} (h : vldF t a s = true) {x : Int} (hx : mem s x = true) : a < x ∧ 0 ≤ x ∧ x < t := by
  obtain ⟨u, hu, h1, h2⟩ := (mem_iff s x).1 hx
  have := vldF_mem s h u hu
  omega
theorem vldF_out {t a : Int} {s : List S41} (h : vldF t a s = true) {x : Int} (hx : x ≤ a) : mem s x = false := by
  rw [Bool.eq_false_iff]; intro hm; have := vldF_in h hm; omega

/-- A valid list is known by its members. -/
theorem uniq {t : Int} : ∀ (s s' : List S41) {a a' : Int}, vldF t a s = true → vldF t a' s' = true → (∀ x, mem s x = mem s' x) → s = s'
  | [], [], _, _, _, _, _ => rfl
  | [], v :: s', a, a', h, h', hm => by
    exfalso; rw [vldF_cons] at h'; have := hm v.f0; rw [mem_nil, mem_cons, (inS_iff v v.f0).2 ⟨by omega, by omega⟩] at this; simp at this
  | u :: s, [], a, a', h, h', hm => by
    exfalso; rw [vldF_cons] at h; have := hm u.f0; rw [mem_nil, mem_cons, (inS_iff u u.f0).2 ⟨by omega, by omega⟩] at this; simp at this
  | u :: s, v :: s', a, a', h, h', hm => by
    have hh := h; have hh' := h'
    rw [vldF_cons] at h h'
    obtain ⟨h1, h2, h3, h4, h5⟩ := h
    obtain ⟨g1, g2, g3, g4, g5⟩ := h'
    have e0 : u.f0 = v.f0 := by
      have lo : ∀ {w : S41} {r : List S41} {b : Int}, vldF t w.f1 r = true → w.f0 < w.f1 → mem (w :: r) b = true → w.f0 ≤ b := by
        intro w r b hr hw hb
        rw [mem_cons, Bool.or_eq_true, inS_iff] at hb
        rcases hb with hb | hb
        · omega
        · have := vldF_in hr hb; omega
      have m1 : mem (v :: s') u.f0 = true := by rw [← hm, mem_cons, (inS_iff u u.f0).2 ⟨by omega, by omega⟩]; rfl
      have m2 : mem (u :: s) v.f0 = true := by rw [hm, mem_cons, (inS_iff v v.f0).2 ⟨by omega, by omega⟩]; rfl
      have := lo g5 g3 m1; have := lo h5 h3 m2; omega
    have e1 : u.f1 = v.f1 := by
      have no : ∀ {w : S41} {r : List S41}, vldF t w.f1 r = true → mem (w :: r) w.f1 = false := by
        intro w r hr
        rw [mem_cons, vldF_out hr (Int.le_refl _), Bool.or_false, Bool.eq_false_iff]
        intro hc; rw [inS_iff] at hc; omega
      rcases Int.lt_trichotomy u.f1 v.f1 with hl | hl | hl
      · exfalso; have q := no h5; rw [hm, mem_cons, (inS_iff v u.f1).2 ⟨by omega, by omega⟩] at q; simp at q
      · exact hl
      · exfalso; have q := no g5; rw [← hm, mem_cons, (inS_iff u v.f1).2 ⟨by omega, by omega⟩] at q; simp at q
    have euv : u = v := by cases u; cases v; simp_all
    subst euv
    have : s = s' := by
      refine uniq s s' h5 g5 fun x => ?_
      by_cases hx : x ≤ u.f1
      · rw [vldF_out h5 hx, vldF_out g5 hx]
      · have := hm x
        have hn : inS u x = false := by rw [Bool.eq_false_iff]; intro hc; rw [inS_iff] at hc; omega
        rwa [mem_cons, mem_cons, hn, Bool.false_or, Bool.false_or] at this
    rw [this]

/-- The runs of a predicate below i, the last one first. -/
def rr (p : Int → Bool) : Nat → List S41
  | 0 => []
  | i + 1 => if p i = true then (match rr p i with
      | [] => [⟨i, i + 1⟩]
      | u :: l => if u.f1 = i then ⟨u.f0, i + 1⟩ :: l else ⟨i, i + 1⟩ :: u :: l) else rr p i
def can (n : Nat) (p : Int → Bool) : List S41 := (rr p n).reverse
def dn : Int → List S41 → Prop
  | _, [] => True
  | b, u :: l => u.f1 ≤ b ∧ u.f0 < u.f1 ∧ 0 ≤ u.f0 ∧ dn (u.f0 - 1) l
theorem dn_mono {a b : Int} {l : List S41} (h : dn a l) (hb : a ≤ b) : dn b l := by
  cases l with
  | nil => trivial
  | cons u l => exact ⟨by have := h.1; omega, h.2⟩
theorem rr_dn (p : Int → Bool) : ∀ i : Nat, dn i (rr p i)
  | 0 => trivial
  | i + 1 => by
    have ih := rr_dn p i
    simp only [rr]
    split
    · split
      · exact ⟨by simp, by simp; omega, by simp, trivial⟩
      · next u l e =>
        rw [e] at ih
        obtain ⟨h1, h2, h3, h4⟩ := ih
        split
        · exact ⟨by simp, by simp; omega, h3, h4⟩
        · exact ⟨by simp, by simp; omega, by simp, by show u.f1 ≤ (i : Int) - 1; omega, h2, h3, h4⟩
    · exact dn_mono ih (by simp; omega)
theorem rr_mem (p : Int → Bool) (x : Int) : ∀ i : Nat, mem (rr p i) x = (decide (0 ≤ x ∧ x < i) && p x)
  | 0 => by simp only [rr, mem_nil]; rw [decide_eq_false (by omega)]; rfl
  | i + 1 => by
    have ih := rr_mem p x i
    have hd := rr_dn p i
    by_cases hx : x = i
    · subst hx
      have h0 : mem (rr p i) (i : Int) = false := by rw [ih, decide_eq_false (by omega)]; rfl
      rw [decide_eq_true (show (0 : Int) ≤ i ∧ (i : Int) < ((i + 1 : Nat) : Int) by omega), Bool.true_and]
      simp only [rr]
      split
      · next hp =>
        rw [hp]
        split
        · rw [mem_cons, (inS_iff _ _).2 ⟨by simp, by show (i : Int) < (i : Int) + 1; omega⟩]; rfl
        · next u l e =>
          rw [e] at hd
          obtain ⟨h1, h2, h3, h4⟩ := hd
          split
          · rw [mem_cons, (inS_iff _ _).2 ⟨by show u.f0 ≤ (i : Int); omega, by show (i : Int) < (i : Int) + 1; omega⟩]; rfl
          · rw [mem_cons, (inS_iff _ _).2 ⟨by simp, by show (i : Int) < (i : Int) + 1; omega⟩]; rfl
      · next hp => rw [h0]; simpa using hp
    · have hdec : decide (0 ≤ x ∧ x < ((i + 1 : Nat) : Int)) = decide (0 ≤ x ∧ x < (i : Int)) := by
        apply decide_eq_decide.2; omega
      rw [hdec, ← ih]
      have hn : ∀ a : Int, a ≤ i → (inS ⟨a, (i : Int) + 1⟩ x = inS ⟨a, i⟩ x) := by
        intro a ha; rw [Bool.eq_iff_iff, inS_iff, inS_iff]; show a ≤ x ∧ x < (i : Int) + 1 ↔ a ≤ x ∧ x < (i : Int); omega
      have hz : inS ⟨i, (i : Int)⟩ x = false := by rw [Bool.eq_false_iff]; intro hc; rw [inS_iff] at hc; simp at hc; omega
      simp only [rr]
      split
      · split
        · next e => rw [e, mem_cons, hn _ (Int.le_refl _), hz]; rfl
        · next u l e =>
          rw [e] at hd ⊢
          obtain ⟨h1, h2, h3, h4⟩ := hd
          split
          · next he =>
            rw [mem_cons, mem_cons, hn _ (by omega)]
            have : (⟨u.f0, (i : Int)⟩ : S41) = u := by cases u; simp_all
            rw [this]
          · rw [mem_cons, hn _ (Int.le_refl _), hz]; rfl
      · rfl
theorem rr_last (p : Int → Bool) (i : Nat) : (∃ u l, rr p i = u :: l ∧ u.f1 = i) ↔ (0 < i ∧ p ((i : Int) - 1) = true) := by
  have hm := rr_mem p ((i : Int) - 1) i
  have hd := rr_dn p i
  constructor
  · rintro ⟨u, l, e, h1⟩
    rw [e] at hd hm
    obtain ⟨g1, g2, g3, g4⟩ := hd
    rw [mem_cons, (inS_iff _ _).2 ⟨by omega, by omega⟩, Bool.true_or] at hm
    have := hm.symm
    rw [Bool.and_eq_true, decide_eq_true_eq] at this
    exact ⟨by omega, this.2⟩
  · rintro ⟨h0, hp⟩
    rw [hp, decide_eq_true (by omega)] at hm
    cases e : rr p i with
    | nil => rw [e, mem_nil] at hm; cases hm
    | cons u l =>
      refine ⟨u, l, rfl, ?_⟩
      rw [e] at hd hm
      obtain ⟨g1, g2, g3, g4⟩ := hd
      rw [mem_cons, Bool.and_self, Bool.or_eq_true, inS_iff] at hm
      rcases hm with hm | hm
      · omega
      · exfalso
        have lo : ∀ (l : List S41) (b x : Int), dn b l → mem l x = true → x < b := by
          intro l
          induction l with
          | nil => intro b x _ h; cases h
          | cons v l ih =>
            intro b x hv h
            rw [mem_cons, Bool.or_eq_true, inS_iff] at h
            rcases h with h | h
            · have := hv.1; omega
            · have := ih _ _ hv.2.2.2 h; have := hv.1; have := hv.2.1; omega
        have := lo _ _ _ g4 hm; omega
theorem dn_vldF {t : Int} (l : List S41) : ∀ (b : Int) (s : List S41), dn b l → b ≤ t → -1 ≤ b → vldF t b s = true → vldF t (-1) (l.reverse ++ s) = true := by
  induction l with
  | nil => intro b s _ _ hb h; exact vldF_mono h hb
  | cons u l ih =>
    intro b s hd hb h1 hs
    obtain ⟨g1, g2, g3, g4⟩ := hd
    rw [List.reverse_cons, List.append_assoc]
    refine ih (u.f0 - 1) (u :: s) g4 (by omega) (by omega) ?_
    rw [vldF_cons]
    exact ⟨by omega, g3, g2, by omega, vldF_mono hs g1⟩
theorem can_vldF (n : Nat) (p : Int → Bool) : vldF n (-1) (can n p) = true := by
  have := dn_vldF (t := n) (rr p n) n [] (rr_dn p n) (Int.le_refl _) (by omega) rfl
  rwa [List.append_nil] at this
theorem can_vld {n : Nat} (p : Int → Bool) (h1 : 1 ≤ n) (h2 : n ≤ 7200) : vld n (can n p) = true := by
  rw [vld_iff]; exact ⟨by omega, can_vldF n p⟩
theorem can_mem (n : Nat) (p : Int → Bool) (x : Int) : mem (can n p) x = (decide (0 ≤ x ∧ x < n) && p x) := by rw [can, mem_reverse, rr_mem]
theorem can_in {n : Nat} (p : Int → Bool) {x : Int} (h0 : 0 ≤ x) (h1 : x < n) : mem (can n p) x = p x := by rw [can_mem, decide_eq_true ⟨h0, h1⟩, Bool.true_and]
theorem eq_can {n : Nat} {s : List S41} {p : Int → Bool} {a : Int} (h : vldF n a s = true) (hm : ∀ x : Int, 0 ≤ x → x < n → mem s x = p x) : s = can n p := by
  refine uniq s (can n p) h (can_vldF n p) fun x => ?_
  rw [can_mem]
  by_cases hx : 0 ≤ x ∧ x < n
  · rw [decide_eq_true hx, Bool.true_and, hm x hx.1 hx.2]
  · rw [decide_eq_false hx, Bool.false_and, Bool.eq_false_iff]; intro hc; have := vldF_in h hc; omega
theorem can_congr {n : Nat} {p q : Int → Bool} (h : ∀ x : Int, 0 ≤ x → x < n → p x = q x) : can n p = can n q :=
  eq_can (can_vldF n p) fun x h0 h1 => by rw [can_in p h0 h1, h x h0 h1]
theorem can_self {n : Nat} {s : List S41} (h : vldF n (-1) s = true) : can n (mem s) = s := (eq_can h fun _ _ _ => rfl).symm
theorem can_len (p : Int → Bool) (i : Nat) : (rr p i).length ≤ i := by
  induction i with
  | zero => simp [rr]
  | succ i ih =>
    simp only [rr]
    split
    · split
      · simp
      · next u l e => rw [e] at ih; simp only [List.length_cons] at ih; split <;> simp only [List.length_cons] <;> omega
    · omega

theorem vld_fit {t : Int} {s : List S41} (h : vld t s = true) : s.length ≤ 7200 := by
  rw [vld_iff] at h
  have : ∀ (s : List S41) (a : Int), vldF t a s = true → a ≤ t → (s.length : Int) ≤ t - a := by
    intro s
    induction s with
    | nil => intro a _ ha; simp; omega
    | cons u s ih =>
      intro a hv ha
      rw [vldF_cons] at hv
      have := ih u.f1 hv.2.2.2.2 (by omega)
      simp only [List.length_cons, Int.natCast_add]; omega
  have e : s = [] ∨ ∃ u r, s = u :: r := by cases s with | nil => exact .inl rfl | cons u r => exact .inr ⟨u, r, rfl⟩
  rcases e with rfl | ⟨u, r, rfl⟩
  · simp
  · have hv := h.2
    rw [vldF_cons] at hv
    have := this r u.f1 hv.2.2.2.2 (by omega)
    simp only [List.length_cons]; omega

/-! marks -/
def tab (n : Nat) (p : Int → Bool) : List Bool := (List.range n).map fun i : Nat => p (i : Int)
theorem tab_len (n : Nat) (p : Int → Bool) : (tab n p).length = n := by simp [tab]
theorem tab_get (n : Nat) (p : Int → Bool) (i : Nat) (h : i < n) : (tab n p)[i]? = some (p i) := by
  simp [tab, h]
theorem tab_rd {n : Nat} (p : Int → Bool) {i : Int} (h0 : 0 ≤ i) (h1 : i < n) : rdOf false (tab n p) i = p i := by
  unfold rdOf
  rw [List.getD_eq_getElem?_getD, tab_get n p i.toNat (by omega)]
  show p (i.toNat : Int) = p i
  rw [Int.toNat_of_nonneg h0]
theorem tab_congr {n : Nat} {p q : Int → Bool} (h : ∀ x : Int, 0 ≤ x → x < n → p x = q x) : tab n p = tab n q := by
  unfold tab
  refine List.map_congr_left fun i hi => ?_
  rw [List.mem_range] at hi
  exact h i (by omega) (by omega)
theorem tab_set {n : Nat} (p : Int → Bool) (b : Bool) {i : Int} (h0 : 0 ≤ i) : (tab n p).set i.toNat b = tab n (fun x => if x = i then b else p x) := by
  apply List.ext_getElem?
  intro j
  by_cases hj : j < n
  · rw [tab_get _ _ _ hj, List.getElem?_set]
    by_cases he : i.toNat = j
    · rw [if_pos he, if_pos (by simpa [tab_len] using he ▸ hj), if_pos (by omega)]
    · rw [if_neg he, tab_get _ _ _ hj, if_neg (by omega)]
  · rw [List.getElem?_eq_none (by simp [tab_len]; omega), List.getElem?_eq_none (by simp [tab_len]; omega)]
theorem tab_rep (n : Nat) : List.replicate n false = tab n (fun _ => false) := by
  apply List.ext_getElem?
  intro j
  by_cases hj : j < n
  · rw [tab_get _ _ _ hj]; simp [hj]
  · rw [List.getElem?_eq_none (by simp; omega), List.getElem?_eq_none (by simp [tab_len]; omega)]

/-! remainders -/
theorem em_lo {a n : Int} (h0 : 0 ≤ a) (h1 : a < n) : a % n = a := Int.emod_eq_of_lt h0 h1
theorem em_neg {a n : Int} (h0 : -n ≤ a) (h1 : a < 0) : a % n = a + n := by
  rw [← Int.add_emod_right]; exact em_lo (by omega) (by omega)
theorem em_hi {a n : Int} (h0 : n ≤ a) (h1 : a < 2 * n) : a % n = a - n := by
  rw [← Int.sub_emod_right]; exact em_lo (by omega) (by omega)
theorem em_sub (x a n : Int) : (x - a % n) % n = (x - a) % n := by rw [Int.sub_emod, Int.emod_emod, ← Int.sub_emod]
theorem em_sub_left (x a n : Int) : (x % n - a) % n = (x - a) % n := by rw [Int.sub_emod, Int.emod_emod, ← Int.sub_emod]
theorem em_add_left (x a n : Int) : (x % n + a) % n = (x + a) % n := by rw [Int.add_emod, Int.emod_emod, ← Int.add_emod]
theorem em_add (x a n : Int) : (x + a % n) % n = (x + a) % n := by rw [Int.add_emod, Int.emod_emod, ← Int.add_emod]
/-- A run that begins at c, moved by b. -/
theorem em_run {x b c d n : Int} (hn : 0 < n) (hc : 0 ≤ c) (hcd : c < d) (hd : d ≤ n) : (x - (c + b)) % n < d - c ↔ c ≤ (x - b) % n ∧ (x - b) % n < d := by
  have e : (x - (c + b)) % n = ((x - b) % n - c) % n := by rw [em_sub_left]; congr 1; omega
  rw [e]
  have h0 := Int.emod_nonneg (x - b) (show n ≠ 0 by omega)
  have h1 := Int.emod_lt_of_pos (x - b) hn
  generalize (x - b) % n = z at *
  by_cases hz : c ≤ z
  · rw [em_lo (by omega) (by omega)]; omega
  · rw [em_neg (by omega) (by omega)]; omega
theorem em_step {x a n m : Int} (hn : 0 < n) (hx0 : 0 ≤ x) (hx : x < n) (ha0 : 0 ≤ a) (ha : a < n) (hm : 0 < m) : (x - a) % n < m ↔ x = a ∨ (x - (a + 1) % n) % n < m - 1 := by
  rw [em_sub]
  by_cases h : a ≤ x
  · rw [em_lo (show 0 ≤ x - a by omega) (by omega)]
    by_cases h' : x = a
    · subst h'; simp; omega
    · rw [em_lo (show 0 ≤ x - (a + 1) by omega) (by omega)]; omega
  · rw [em_neg (show -n ≤ x - a by omega) (by omega), em_neg (show -n ≤ x - (a + 1) by omega) (by omega)]; omega
theorem em_bound (a : Int) {n : Int} (hn : 0 < n) : 0 ≤ a % n ∧ a % n < n := ⟨Int.emod_nonneg _ (by omega), Int.emod_lt_of_pos _ hn⟩
theorem tmod_pos {a n : Int} (h0 : 0 ≤ a) : Int.tmod a n = a % n := by rw [Int.tmod_eq_emod_of_nonneg h0]
theorem tmod_fix {a n : Int} (hn : 1 ≤ n) : (if Int.tmod a n < 0 then Int.tmod a n + n else Int.tmod a n) = a % n := by
  by_cases h0 : 0 ≤ a
  · have := em_bound a (show 0 < n by omega)
    rw [tmod_pos h0, if_neg (by omega)]
  · have h1 : Int.tmod a n = -(Int.tmod (-a) n) := by rw [Int.neg_tmod, Int.neg_neg]
    have h2 := em_bound (-a) (show 0 < n by omega)
    rw [h1, tmod_pos (by omega)]
    have h3 : a % n = (0 - (-a) % n) % n := by rw [em_sub]; congr 1; omega
    rw [h3]
    by_cases hz : (-a) % n = 0
    · rw [hz]; simp
    · have h4 : (0 - (-a) % n) % n = 0 - (-a) % n + n := em_neg (by omega) (by omega)
      rw [h4, if_pos (by omega)]; omega
theorem wrap_ok {a : Int} (h0 : -9223372036854775808 ≤ a) (h1 : a ≤ 9223372036854775807) : wrap64 a = a := by unfold wrap64; omega
end Go.Proofs.Ytkbcgahpekmlbaa.PPg

namespace Go.Proofs.Ytkbcgahpekmlbaa.PPg
open Go.RowKit Go.Proofs.YtkbcgahpekmlbaaW.PrintWords Go.Proofs.YtkbcgahpekmlbaaW.PrintLast Go.Proofs.YtkbcgahpekmlbaaW.PrintMore
set_option linter.unusedVariables false
set_option linter.unusedSimpArgs false

def Fit {α : Type} (s : List α) : Prop := s.length ≤ 140737488355328
theorem fit_le {α : Type} {s : List α} (h : s.length ≤ 7200) : Fit s := by unfold Fit; omega
theorem fit_nil {α : Type} : Fit ([] : List α) := fit_le (by simp)
theorem len1 {α : Type} (pre : List α) (u : α) : (((pre ++ [u]).length : Nat) : Int) = (pre.length : Int) + 1 := by simp
theorem rd_pre (pre : List S41) (u : S41) (suf : List S41) : rd_T41 (pre ++ u :: suf) (pre.length : Int) = u := by simp [rd_T41]
theorem lt_pre {α : Type} (pre : List α) (u : α) (suf : List α) : (pre.length : Int) < ((pre ++ u :: suf).length : Int) := by simp; omega
theorem nlt_pre {α : Type} (pre : List α) : ¬ (pre.length : Int) < ((pre ++ []).length : Int) := by simp
theorem Ev.ite_pos {α : Type} {c : Prop} [Decidable c] {g f : Nat → Option α} {r : α} (hc : c) (h : Ev g r) : Ev (fun k => if c then g k else f k) r := by simp only [if_pos hc]; exact h
theorem Ev.ite_neg {α : Type} {c : Prop} [Decidable c] {g f : Nat → Option α} {r : α} (hc : ¬ c) (h : Ev f r) : Ev (fun k => if c then g k else f k) r := by simp only [if_neg hc]; exact h

theorem period_eq (t : Int) : residue_period.f t = some (per t) := by
  unfold residue_period.f per
  split
  · next h => rw [decide_eq_true (show 1 ≤ t by omega), Bool.true_and]
  · next h => rw [decide_eq_false (show ¬ 1 ≤ t by omega), Bool.false_and]

theorem Valid_loop (t n : Int) : ∀ (suf pre : List S41) (last : Int), Fit (pre ++ suf) → n = ((pre ++ suf).length : Int) →
    Ev (fun k => residue_Valid.l0 k t last (pre ++ suf) n (pre.length : Int)) (vldF t last suf)
  | [], pre, last, hb, hn => by
    subst hn
    refine Ev.step (f := fun _ => some true) (fun k => ?_) (Ev.now _)
    simp only [residue_Valid.l0]
    rw [if_neg (nlt_pre pre)]
  | u :: suf, pre, last, hb, hn => by
    have ih := Valid_loop t n suf (pre ++ [u]) u.f1 (by rwa [← List.append_cons]) (by rwa [← List.append_cons])
    rw [← List.append_cons, len1] at ih
    have hlt0 := lt_pre pre u suf
    have hlt : (pre.length : Int) < n := by rw [hn]; exact hlt0
    have hb' : (pre.length : Int) < 140737488355328 := by unfold Fit at hb; simp at hb; omega
    by_cases c : last < u.f0 ∧ 0 ≤ u.f0 ∧ u.f0 < u.f1 ∧ u.f1 ≤ t
    · have hv : vldF t last (u :: suf) = vldF t u.f1 suf := by simp [vldF, c]
      rw [hv]
      refine Ev.step (fun k => ?_) ih
      simp only [residue_Valid.l0]
      rw [if_pos hlt, if_pos (by omega), if_pos hlt0, rd_pre, if_neg (by omega), if_neg (by omega), if_neg (by omega), if_neg (by omega), wrap_ok (by omega) (by omega)]
    · have hv : vldF t last (u :: suf) = false := by rw [Bool.eq_false_iff, ne_eq, vldF_cons]; intro h; exact c ⟨h.1, h.2.1, h.2.2.1, h.2.2.2.1⟩
      rw [hv]
      refine Ev.step (f := fun _ => some false) (fun k => ?_) (Ev.now _)
      simp only [residue_Valid.l0]
      rw [if_pos hlt, if_pos (by omega), if_pos hlt0, rd_pre]
      iterate 4 (split; · rfl)
      exfalso; omega
theorem Valid_ev (t : Int) (s : List S41) (hs : Fit s) : Ev (fun k => residue_Valid.f k t s) (vld t s) := by
  simp only [residue_Valid.f, period_eq, Option.bind_some]
  unfold vld
  cases hp : per t
  · exact Ev.ite_neg (by simp) (Ev.now _)
  · exact Ev.ite_pos rfl (Valid_loop t _ s [] (-1) hs rfl)

theorem rdL_pre (pre : List (List S41)) (u : List S41) (suf : List (List S41)) : rd_L2 (pre ++ u :: suf) (pre.length : Int) = u := by simp [rd_L2]
theorem check_loop (t n : Int) (hp : per t = true) : ∀ (suf pre : List (List S41)), Fit (pre ++ suf) → (∀ s ∈ suf, Fit s) → n = ((pre ++ suf).length : Int) →
    Ev (fun k => residue_check.l0 k t (pre ++ suf) n (pre.length : Int)) (if suf.all (vld t) = true then 0 else 1)
  | [], pre, hb, hf, hn => by
    subst hn
    refine Ev.step (f := fun _ => some 0) (fun k => ?_) (Ev.now _)
    simp only [residue_check.l0]
    rw [if_neg (nlt_pre pre)]
  | u :: suf, pre, hb, hf, hn => by
    have ih := check_loop t n hp suf (pre ++ [u]) (by rwa [← List.append_cons]) (fun s hs => hf s (List.mem_cons_of_mem _ hs)) (by rwa [← List.append_cons])
    rw [← List.append_cons, len1] at ih
    have hlt0 := lt_pre pre u suf
    have hlt : (pre.length : Int) < n := by rw [hn]; exact hlt0
    have hb' : (pre.length : Int) < 140737488355328 := by unfold Fit at hb; simp at hb; omega
    refine Ev.step (f := fun k => (residue_Valid.f k t u).bind fun t109 => if t109 = true then residue_check.l0 k t (pre ++ u :: suf) n ((pre.length : Int) + 1) else some 1) (fun k => ?_) ?_
    · simp only [residue_check.l0]
      rw [if_pos hlt, if_pos (by omega), if_pos hlt0, rdL_pre, wrap_ok (by omega) (by omega)]
    · refine Ev.bind (Valid_ev t u (hf u (List.mem_cons_self ..))) ?_
      cases hv : vld t u
      · refine Ev.ite_neg (by simp) ?_
        simp only [List.all_cons, hv, Bool.false_and]
        exact Ev.now _
      · refine Ev.ite_pos rfl ?_
        simp only [List.all_cons, hv, Bool.true_and]
        exact ih
theorem check_ev (t : Int) (ls : List (List S41)) (hb : Fit ls) (hf : ∀ s ∈ ls, Fit s) :
    Ev (fun k => residue_check.f k t ls) (if per t = true then (if ls.all (vld t) = true then 0 else 1) else 4) := by
  simp only [residue_check.f, period_eq, Option.bind_some]
  cases hp : per t
  · exact Ev.ite_neg (by simp) (Ev.now _)
  · exact Ev.ite_pos rfl (check_loop t _ hp ls [] hb hf rfl)

theorem Mod_eq {a n : Int} (hn : 1 ≤ n) (h1 : n ≤ 9223372036854775807) : arith_Mod.f a n = some (a % n) := by
  unfold arith_Mod.f
  rw [if_neg (by omega), if_neg (by omega)]
  have h := tmod_fix (a := a) hn
  have hb := em_bound a (show 0 < n by omega)
  split
  · next hc => rw [if_pos hc] at h; rw [h, wrap_ok (by omega) (by omega)]
  · next hc => rw [if_neg hc] at h; rw [h]
theorem Mod_zero {a n : Int} (hn : n < 1) : arith_Mod.f a n = some 0 := by
  unfold arith_Mod.f; rw [if_pos hn]

theorem put_loop (n : Nat) (hn : 1 ≤ n) (hn2 : n ≤ 7200) (lim : Int) (hl : lim ≤ n) : ∀ (d : Nat) (p : Int → Bool) (at0 i : Int), 0 ≤ at0 → at0 < n → 0 ≤ i → lim - i ≤ d →
    Ev (fun k => residue_marks_put.l0 k (tab n p) n at0 lim i) (tab n fun x => p x || decide ((x - at0) % n < lim - i))
  | 0, p, at0, i, h0, h1, h2, hd => by
    refine Ev.step (f := fun _ => some (tab n p)) (fun k => ?_) ?_
    · simp only [residue_marks_put.l0]
      rw [if_neg (by omega)]
    · have e : (tab n fun x => p x || decide ((x - at0) % n < lim - i)) = tab n p := by
        refine tab_congr fun x hx0 hx1 => ?_
        have := em_bound (x - at0) (show (0 : Int) < n by omega)
        rw [decide_eq_false (by omega), Bool.or_false]
      rw [e]; exact Ev.now _
  | d + 1, p, at0, i, h0, h1, h2, hd => by
    by_cases hi : i < lim
    · have hb := em_bound (at0 + 1) (show (0 : Int) < n by omega)
      have ih := put_loop n hn hn2 lim hl d (fun x => if x = at0 then true else p x) ((at0 + 1) % n) (i + 1) hb.1 hb.2 (by omega) (by omega)
      have e : (tab n fun x => (if x = at0 then true else p x) || decide ((x - (at0 + 1) % n) % n < lim - (i + 1))) = tab n fun x => p x || decide ((x - at0) % n < lim - i) := by
        refine tab_congr fun x hx0 hx1 => ?_
        have hs := em_step (x := x) (a := at0) (n := n) (m := lim - i) (by omega) hx0 hx1 h0 h1 (by omega)
        by_cases hx : x = at0
        · rw [if_pos hx, Bool.true_or, decide_eq_true (hs.2 (.inl hx)), Bool.or_true]
        · rw [if_neg hx]
          congr 1
          apply decide_eq_decide.2
          rw [hs]
          constructor
          · intro h; exact .inr (by omega)
          · rintro (h | h)
            · exact absurd h hx
            · omega
      rw [e] at ih
      refine Ev.step (fun k => ?_) ih
      simp only [residue_marks_put.l0]
      rw [if_pos hi, if_pos h0, if_pos (by rw [tab_len]; exact h1), tab_set p true h0, Option.bind_some, wrap_ok (by omega) (by omega), wrap_ok (by omega) (by omega)]
      by_cases he : at0 + 1 = n
      · rw [if_pos he, he, Int.emod_self]
      · rw [if_neg he, em_lo (by omega) (by omega)]
    · refine Ev.step (f := fun _ => some (tab n p)) (fun k => ?_) ?_
      · simp only [residue_marks_put.l0]
        rw [if_neg hi]
      · have e : (tab n fun x => p x || decide ((x - at0) % n < lim - i)) = tab n p := by
          refine tab_congr fun x hx0 hx1 => ?_
          have := em_bound (x - at0) (show (0 : Int) < n by omega)
          rw [decide_eq_false (by omega), Bool.or_false]
        rw [e]; exact Ev.now _
theorem put_ev (n : Nat) (hn : 1 ≤ n) (hn2 : n ≤ 7200) (p : Int → Bool) (a m : Int) :
    Ev (fun k => residue_marks_put.f k (tab n p) a m) (tab n fun x => p x || decide ((x - a) % n < m)) := by
  simp only [residue_marks_put.f, tab_len, Mod_eq (show (1 : Int) ≤ n by omega) (show (n : Int) ≤ 9223372036854775807 by omega), Option.bind_some]
  have hb := em_bound a (show (0 : Int) < n by omega)
  have hm : mn m n ≤ n := by unfold mn; split <;> omega
  have h := put_loop n hn hn2 (mn m n) hm n p (a % n) 0 hb.1 hb.2 (Int.le_refl _) (by omega)
  have e : (tab n fun x => p x || decide ((x - a % n) % n < mn m n - 0)) = tab n fun x => p x || decide ((x - a) % n < m) := by
    refine tab_congr fun x hx0 hx1 => ?_
    congr 1
    apply decide_eq_decide.2
    rw [em_sub]
    have := em_bound (x - a) (show (0 : Int) < n by omega)
    unfold mn; split <;> omega
  rwa [e] at h

theorem rev_set (u v : S41) (l : List S41) : ((u :: l).reverse).set (((u :: l).reverse.length : Int) - 1).toNat v = (v :: l).reverse := by
  simp only [List.reverse_cons]
  have : ((((l.reverse ++ [u]).length : Nat) : Int) - 1).toNat = l.reverse.length := by simp
  rw [this]; simp
theorem rev_rd (u : S41) (l : List S41) : rd_T41 ((u :: l).reverse) (((u :: l).reverse.length : Int) - 1) = u := by
  have : ((((u :: l).reverse.length : Nat) : Int) - 1) = (l.reverse.length : Int) := by simp
  rw [this, List.reverse_cons]; exact rd_pre _ _ _
theorem list_loop (n : Nat) (hn2 : n ≤ 7200) (p : Int → Bool) : ∀ (d i : Nat), i + d = n →
    Ev (fun k => residue_marks_list.l0 k (tab n p) (rr p i).reverse (tab n p) n i) (can n p)
  | 0, i, hd => by
    obtain rfl : i = n := by omega
    refine Ev.step (f := fun _ => some (can i p)) (fun k => ?_) (Ev.now _)
    simp only [residue_marks_list.l0]
    rw [if_neg (by omega)]; rfl
  | d + 1, i, hd => by
    have ih := list_loop n hn2 p d (i + 1) (by omega)
    have hl := rr_last p i
    have hlen := can_len p i
    refine Ev.step (fun k => ?_) ih
    simp only [residue_marks_list.l0]
    rw [if_pos (by omega), if_pos (by omega), tab_len, if_pos (by omega), tab_rd p (by omega) (by omega), wrap_ok (a := (i : Int) + 1) (by omega) (by omega), wrap_ok (a := (i : Int) - 1) (by omega) (by omega)]
    simp only [rr]
    by_cases hp : p i = true
    · rw [if_pos hp, if_pos hp]
      by_cases h0 : 0 < i
      · rw [if_pos (by omega), if_pos (by omega), if_pos (by omega), tab_rd p (by omega) (by omega)]
        by_cases hq : p ((i : Int) - 1) = true
        · obtain ⟨u, l, e, h1⟩ := hl.2 ⟨h0, hq⟩
          rw [e] at hlen ⊢
          have hle : ((u :: l).reverse.length : Int) ≤ 7200 := by rw [List.length_reverse]; omega
          have hge : 1 ≤ ((u :: l).reverse.length : Int) := by simp; omega
          rw [if_pos hq, wrap_ok (a := ((u :: l).reverse.length : Int) - 1) (by omega) (by omega), if_pos (by omega), if_pos (by omega), rev_set, rev_rd]
          simp only [h1, if_true]; rfl
        · have hlt : ((rr p i).reverse).length < 8796093022208 := by rw [List.length_reverse]; omega
          rw [if_neg hq, if_pos hlt]
          have hno : ∀ u l, rr p i = u :: l → u.f1 ≠ i := fun u l e h1 => hq (hl.1 ⟨u, l, e, h1⟩).2
          cases e : rr p i with
          | nil => simp
          | cons u l => simp only [if_neg (hno u l e)]; simp
      · have hlt : ((rr p i).reverse).length < 8796093022208 := by rw [List.length_reverse]; omega
        rw [if_neg (by omega), if_pos hlt]
        obtain rfl : i = 0 := by omega
        rfl
    · rw [if_neg hp, if_neg hp]; rfl
theorem list_ev (n : Nat) (hn2 : n ≤ 7200) (p : Int → Bool) : Ev (fun k => residue_marks_list.f k (tab n p)) (can n p) := by
  simp only [residue_marks_list.f, tab_len]
  exact list_loop n hn2 p n 0 (by omega)

theorem Make_ev (n : Nat) (hn : 1 ≤ n) (hn2 : n ≤ 7200) (a m : Int) : Ev (fun k => residue_Make.f k n a m) (can n fun x => decide ((x - a) % n < m), 0) := by
  simp only [residue_Make.f]
  refine Ev.bind (check_ev n [] fit_nil (by simp)) ?_
  rw [if_pos ((per_iff _).2 (by omega))]
  refine Ev.ite_pos (by simp) (Ev.ite_pos (by omega) (Ev.ite_pos (by omega) ?_))
  simp only [Int.toNat_natCast, tab_rep]
  refine Ev.bind (put_ev n hn hn2 _ a m) (Ev.bind (list_ev n hn2 _) ?_)
  simp only [Bool.false_or]
  exact Ev.now _
theorem Make_bad (t a m : Int) (h : per t = false) : Ev (fun k => residue_Make.f k t a m) ([], 4) := by
  simp only [residue_Make.f]
  refine Ev.bind (check_ev t [] fit_nil (by simp)) ?_
  rw [if_neg (by simp [h])]
  exact Ev.ite_neg (by simp) (Ev.now _)

theorem Same_loop (n : Int) : ∀ (suf pre : List S41), Fit (pre ++ suf) → n = ((pre ++ suf).length : Int) →
    Ev (fun k => api_Span.l0 k (pre ++ suf) (pre ++ suf) n (pre.length : Int)) true
  | [], pre, hb, hn => by
    subst hn
    refine Ev.step (f := fun _ => some true) (fun k => ?_) (Ev.now _)
    simp only [api_Span.l0]
    rw [if_neg (nlt_pre pre)]
  | u :: suf, pre, hb, hn => by
    have ih := Same_loop n suf (pre ++ [u]) (by rwa [← List.append_cons]) (by rwa [← List.append_cons])
    rw [← List.append_cons, len1] at ih
    have hlt0 := lt_pre pre u suf
    have hlt : (pre.length : Int) < n := by rw [hn]; exact hlt0
    have hb' : (pre.length : Int) < 140737488355328 := by unfold Fit at hb; simp at hb; omega
    refine Ev.step (fun k => ?_) ih
    simp only [api_Span.l0]
    rw [if_pos hlt, if_pos (by omega), if_pos hlt0, if_pos hlt0, rd_pre, if_neg (by simp), wrap_ok (by omega) (by omega)]
theorem Same_ev (s : List S41) (hs : Fit s) : Ev (fun k => api_Span.f k s s) true := by
  simp only [api_Span.f]
  exact Ev.ite_pos trivial (Same_loop _ s [] hs rfl)
end Go.Proofs.Ytkbcgahpekmlbaa.PPg

namespace Go.Proofs.Ytkbcgahpekmlbaa.PPg
open Go.RowKit Go.Proofs.YtkbcgahpekmlbaaW.PrintWords Go.Proofs.YtkbcgahpekmlbaaW.PrintLast Go.Proofs.YtkbcgahpekmlbaaW.PrintMore
set_option linter.unusedVariables false
set_option linter.unusedSimpArgs false

def sm1 (n : Int) (u : S41) (b : List S41) (x : Int) : Bool := b.any fun v => decide ((x - (u.f0 + v.f0)) % n < u.f1 - u.f0 + v.f1 - v.f0 - 1)
def sm (n : Int) (a b : List S41) (x : Int) : Bool := a.any fun u => sm1 n u b x
theorem sm1_cons (n : Int) (u v : S41) (b : List S41) (x : Int) : sm1 n u (v :: b) x = (decide ((x - (u.f0 + v.f0)) % n < u.f1 - u.f0 + v.f1 - v.f0 - 1) || sm1 n u b x) := rfl
theorem sm_cons (n : Int) (u : S41) (a b : List S41) (x : Int) : sm n (u :: a) b x = (sm1 n u b x || sm n a b x) := rfl
theorem sm1_iff (n : Int) (u : S41) (b : List S41) (x : Int) : sm1 n u b x = true ↔ ∃ v, v ∈ b ∧ (x - (u.f0 + v.f0)) % n < u.f1 - u.f0 + v.f1 - v.f0 - 1 := by
  simp [sm1, List.any_eq_true]
theorem sm_iff (n : Int) (a b : List S41) (x : Int) : sm n a b x = true ↔ ∃ u, u ∈ a ∧ ∃ v, v ∈ b ∧ (x - (u.f0 + v.f0)) % n < u.f1 - u.f0 + v.f1 - v.f0 - 1 := by
  simp [sm, List.any_eq_true, sm1_iff]
/-- A residue is in a sum exactly if it is the sum of a member of the one set and a member of the other one. -/
theorem sm_mem {n : Nat} (hn : 1 ≤ n) {a b : List S41} (ha : vldF n (-1) a = true) (hb : vldF n (-1) b = true) (x : Int) :
    sm n a b x = true ↔ ∃ d : Int, 0 ≤ d ∧ d < n ∧ mem a d = true ∧ mem b ((x - d) % n) = true := by
  rw [sm_iff]
  constructor
  · rintro ⟨u, hu, v, hv, h⟩
    have gu := vldF_mem a ha u hu
    have gv := vldF_mem b hb v hv
    have hz := em_bound (x - (u.f0 + v.f0)) (show (0 : Int) < n by omega)
    have key : ∃ d : Int, u.f0 ≤ d ∧ d < u.f1 ∧ (x - (v.f0 + d)) % n < v.f1 - v.f0 := by
      by_cases hc : (x - (u.f0 + v.f0)) % n < u.f1 - u.f0
      · refine ⟨u.f0 + (x - (u.f0 + v.f0)) % n, by omega, by omega, ?_⟩
        have e : x - (v.f0 + (u.f0 + (x - (u.f0 + v.f0)) % n)) = (x - (u.f0 + v.f0)) - (x - (u.f0 + v.f0)) % n := by omega
        rw [e, em_sub, Int.sub_self, Int.zero_emod]; omega
      · refine ⟨u.f1 - 1, by omega, by omega, ?_⟩
        have e : x - (v.f0 + (u.f1 - 1)) = (x - (u.f0 + v.f0)) - (u.f1 - 1 - u.f0) := by omega
        rw [e, ← em_sub_left, em_lo (by omega) (by omega)]; omega
    obtain ⟨d, d0, d1, hd⟩ := key
    have hr := (em_run (x := x) (b := d) (n := n) (by omega) gv.2.1 gv.2.2.1 gv.2.2.2).1 hd
    exact ⟨d, by omega, by omega, (mem_iff _ _).2 ⟨u, hu, d0, d1⟩, (mem_iff _ _).2 ⟨v, hv, hr⟩⟩
  · rintro ⟨d, d0, d1, hm, hm'⟩
    obtain ⟨u, hu, u0, u1⟩ := (mem_iff _ _).1 hm
    obtain ⟨v, hv, v0, v1⟩ := (mem_iff _ _).1 hm'
    have gu := vldF_mem a ha u hu
    have gv := vldF_mem b hb v hv
    refine ⟨u, hu, v, hv, ?_⟩
    have e : (x - (u.f0 + v.f0)) % n = ((x - d) % n - v.f0 + (d - u.f0)) % n := by
      rw [show (x - d) % n - v.f0 + (d - u.f0) = (x - d) % n + (d - u.f0 - v.f0) by omega, em_add_left]; congr 1; omega
    rw [e]
    have hz := em_bound (x - d) (show (0 : Int) < n by omega)
    generalize (x - d) % n = z at *
    by_cases hc : z - v.f0 + (d - u.f0) < n
    · rw [em_lo (by omega) hc]; omega
    · rw [em_hi (by omega) (by omega)]; omega
end Go.Proofs.Ytkbcgahpekmlbaa.PPg

namespace Go.Proofs.Ytkbcgahpekmlbaa.PPg
open Go.RowKit Go.Proofs.YtkbcgahpekmlbaaW.PrintWords Go.Proofs.YtkbcgahpekmlbaaW.PrintLast Go.Proofs.YtkbcgahpekmlbaaW.PrintMore
set_option linter.unusedVariables false
set_option linter.unusedSimpArgs false

def b2i : Bool → Int
  | true => 1
  | false => 0
/-- The number of x below n with p x. -/
def cnt (p : Int → Bool) : Nat → Int
  | 0 => 0
  | i + 1 => cnt p i + b2i (p i)
def sizes : List S41 → Int
  | [] => 0
  | u :: s => u.f1 - u.f0 + sizes s
theorem b2i_b (b : Bool) : 0 ≤ b2i b ∧ b2i b ≤ 1 := by cases b <;> decide
theorem cnt_congr {p q : Int → Bool} : ∀ {n : Nat}, (∀ x : Int, 0 ≤ x → x < n → p x = q x) → cnt p n = cnt q n
  | 0, _ => rfl
  | n + 1, h => by
    simp only [cnt]
    rw [cnt_congr (n := n) (fun x h0 h1 => h x h0 (by omega)), h n (by omega) (by omega)]
theorem cnt_not (p : Int → Bool) : ∀ n : Nat, cnt p n + cnt (fun x => !p x) n = n
  | 0 => rfl
  | n + 1 => by
    have := cnt_not p n
    simp only [cnt]
    cases p n <;> simp [b2i] <;> omega
theorem cnt_bounds (p : Int → Bool) : ∀ n : Nat, 0 ≤ cnt p n ∧ cnt p n ≤ n
  | 0 => by simp [cnt]
  | n + 1 => by have := cnt_bounds p n; have := b2i_b (p n); simp only [cnt]; omega
theorem cnt_all (p : Int → Bool) : ∀ n : Nat, cnt p n = n → ∀ x : Int, 0 ≤ x → x < n → p x = true
  | 0, _, x, h0, h1 => by omega
  | n + 1, h, x, h0, h1 => by
    have := cnt_bounds p n
    have hb := b2i_b (p n)
    simp only [cnt] at h
    by_cases hx : x = n
    · subst hx
      cases hp : p n with
      | true => rfl
      | false => rw [hp] at h; simp only [b2i] at h; omega
    · exact cnt_all p n (by omega) x h0 (by omega)
theorem cnt_span (a b : Int) (p : Int → Bool) (h0 : 0 ≤ a) (hab : a ≤ b) (hp : ∀ x : Int, a ≤ x → x < b → p x = false) : ∀ n : Nat,
    cnt (fun x => (decide (a ≤ x) && decide (x < b)) || p x) n = (if (n : Int) ≤ a then 0 else if (n : Int) ≤ b then (n : Int) - a else b - a) + cnt p n
  | 0 => by simp only [cnt]; rw [if_pos (by omega)]; rfl
  | n + 1 => by
    have ih := cnt_span a b p h0 hab hp n
    simp only [cnt]
    rw [ih]
    by_cases h1 : a ≤ (n : Int)
    · by_cases h2 : (n : Int) < b
      · rw [decide_eq_true h1, decide_eq_true h2, hp n h1 h2]
        simp only [Bool.and_self, Bool.true_or, b2i]
        split <;> split <;> (try split) <;> omega
      · rw [decide_eq_false h2, Bool.and_false, Bool.false_or]
        have : ¬ ((n + 1 : Nat) : Int) ≤ b := by omega
        rw [if_neg this, if_neg (by omega : ¬ ((n + 1 : Nat) : Int) ≤ a)]
        split <;> (try split) <;> omega
    · rw [decide_eq_false h1, Bool.false_and, Bool.false_or, if_pos (by omega), if_pos (by omega)]; omega
theorem sizes_cnt (n : Nat) : ∀ (s : List S41) (a : Int), vldF n a s = true → sizes s = cnt (mem s) n
  | [], a, _ => by
    have : ∀ n : Nat, cnt (mem []) n = 0 := by
      intro n; induction n with
      | zero => rfl
      | succ n ih => simp only [cnt, ih, mem_nil]; rfl
    rw [this]; rfl
  | u :: s, a, h => by
    rw [vldF_cons] at h
    obtain ⟨h1, h2, h3, h4, h5⟩ := h
    have ih := sizes_cnt n s u.f1 h5
    have e := cnt_span u.f0 u.f1 (mem s) h2 (by omega) (fun x _ hx => vldF_out h5 (by omega)) n
    have e' : cnt (mem (u :: s)) n = cnt (fun x => (decide (u.f0 ≤ x) && decide (x < u.f1)) || mem s x) n := rfl
    rw [e', e, ← ih]
    simp only [sizes]
    split
    · omega
    · split <;> omega
theorem sizes_bd {n : Nat} {s : List S41} {a : Int} (h : vldF n a s = true) : 0 ≤ sizes s ∧ sizes s ≤ n := by
  rw [sizes_cnt n s a h]; exact cnt_bounds _ _
end Go.Proofs.Ytkbcgahpekmlbaa.PPg

namespace Go.Proofs.Ytkbcgahpekmlbaa.PPg
open Go.RowKit Go.Proofs.YtkbcgahpekmlbaaW.PrintWords Go.Proofs.YtkbcgahpekmlbaaW.PrintLast Go.Proofs.YtkbcgahpekmlbaaW.PrintMore
set_option linter.unusedVariables false
set_option linter.unusedSimpArgs false

theorem Sum_inner (n : Nat) (hn : 1 ≤ n) (hn2 : n ≤ 7200) (bb aa : List S41) (m i : Int) (u : S41) (R : List S41 × Int) (m' : Int) (hu0 : 0 ≤ u.f0) (hu1 : u.f0 < u.f1) (hu2 : u.f1 ≤ n) : ∀ (suf pre : List S41) (p : Int → Bool) (last : Int), Fit (pre ++ suf) → m' = ((pre ++ suf).length : Int) → vldF n last suf = true →
    (∀ q : Int → Bool, (∀ x, q x = (p x || sm1 n u suf x)) → Ev (fun k => residue_Sum.l0 k bb (tab n q) aa m (wrap64 (i + 1))) R) →
    Ev (fun k => residue_Sum.l1 k bb (tab n p) aa m i (pre ++ suf) m' (pre.length : Int) u.f0 u.f1) R
  | [], pre, p, last, hb, hm, hv, hk => by
    refine Ev.step (fun k => ?_) (hk p (fun x => by simp [sm1]))
    simp only [residue_Sum.l1]
    rw [if_neg (by rw [hm]; exact nlt_pre pre)]
  | v :: suf, pre, p, last, hb, hm, hv, hk => by
    rw [vldF_cons] at hv
    obtain ⟨h1, h2, h3, h4, h5⟩ := hv
    have hlt0 := lt_pre pre v suf
    have hb' : (pre.length : Int) < 140737488355328 := by unfold Fit at hb; simp at hb; omega
    have ih := Sum_inner n hn hn2 bb aa m i u R m' hu0 hu1 hu2 suf (pre ++ [v]) (fun x => p x || decide ((x - (u.f0 + v.f0)) % n < u.f1 - u.f0 + v.f1 - v.f0 - 1)) v.f1 (by rwa [← List.append_cons]) (by rwa [← List.append_cons]) h5
      (fun q hq => hk q fun x => by rw [hq x, sm1_cons, Bool.or_assoc])
    rw [← List.append_cons, len1] at ih
    refine Ev.step (f := fun k => (residue_marks_put.f k (tab n p) (u.f0 + v.f0) (u.f1 - u.f0 + v.f1 - v.f0 - 1)).bind fun t => residue_Sum.l1 k bb t aa m i (pre ++ v :: suf) m' ((pre.length : Int) + 1) u.f0 u.f1) (fun k => ?_) (Ev.bind (put_ev n hn hn2 p (u.f0 + v.f0) (u.f1 - u.f0 + v.f1 - v.f0 - 1)) ih)
    simp only [residue_Sum.l1]
    rw [if_pos (by rw [hm]; exact hlt0), if_pos (by omega), if_pos hlt0, rd_pre, wrap_ok (a := u.f0 + v.f0) (by omega) (by omega), wrap_ok (a := u.f1 - u.f0) (by omega) (by omega), wrap_ok (a := u.f1 - u.f0 + v.f1) (by omega) (by omega), wrap_ok (a := u.f1 - u.f0 + v.f1 - v.f0) (by omega) (by omega), wrap_ok (a := u.f1 - u.f0 + v.f1 - v.f0 - 1) (by omega) (by omega), wrap_ok (by omega) (by omega)]
theorem Sum_loop (n : Nat) (hn : 1 ≤ n) (hn2 : n ≤ 7200) (b : List S41) (hfb : Fit b) (hvb : vldF n (-1) b = true) (m : Int) : ∀ (suf pre : List S41) (p : Int → Bool) (last : Int), Fit (pre ++ suf) → m = ((pre ++ suf).length : Int) → vldF n last suf = true →
    Ev (fun k => residue_Sum.l0 k b (tab n p) (pre ++ suf) m (pre.length : Int)) (can n fun x => p x || sm n suf b x, 0)
  | [], pre, p, last, hb, hm, hv => by
    have e : (can n fun x => p x || sm n [] b x) = can n p := can_congr fun x _ _ => by simp [sm]
    rw [e]
    refine Ev.step (f := fun k => (residue_marks_list.f k (tab n p)).bind fun t => some (t, 0)) (fun k => ?_) (Ev.bind (list_ev n hn2 p) (Ev.now _))
    simp only [residue_Sum.l0]
    rw [if_neg (by rw [hm]; exact nlt_pre pre)]
  | u :: suf, pre, p, last, hb, hm, hv => by
    rw [vldF_cons] at hv
    obtain ⟨h1, h2, h3, h4, h5⟩ := hv
    have hlt0 := lt_pre pre u suf
    have hb' : (pre.length : Int) < 140737488355328 := by unfold Fit at hb; simp at hb; omega
    have := Sum_inner n hn hn2 b (pre ++ u :: suf) m (pre.length : Int) u (can n fun x => p x || sm n (u :: suf) b x, 0) b.length h2 h3 h4 b [] p (-1) hfb rfl hvb (fun q hq => by
      have ih := Sum_loop n hn hn2 b hfb hvb m suf (pre ++ [u]) q u.f1 (by rwa [← List.append_cons]) (by rwa [← List.append_cons]) h5
      rw [← List.append_cons, len1] at ih
      have e : (can n fun x => q x || sm n suf b x) = can n fun x => p x || sm n (u :: suf) b x := can_congr fun x hx0 hx1 => by rw [hq x, sm_cons, Bool.or_assoc]
      rw [e] at ih
      rw [wrap_ok (by omega) (by omega)]; exact ih)
    refine Ev.step (fun k => ?_) this
    simp only [residue_Sum.l0]
    rw [if_pos (by rw [hm]; exact hlt0), if_pos (by omega), if_pos hlt0, rd_pre]; rfl
theorem Sum_ev (n : Nat) (hn : 1 ≤ n) (hn2 : n ≤ 7200) (a b : List S41) (ha : Fit a) (hb : Fit b) :
    Ev (fun k => residue_Sum.f k n a b) (if vld n a = true ∧ vld n b = true then (can n fun x => sm n a b x, 0) else ([], 1)) := by
  simp only [residue_Sum.f]
  refine Ev.bind (check_ev n [a, b] (fit_le (by simp)) (by simp; exact ⟨ha, hb⟩)) ?_
  rw [if_pos ((per_iff _).2 (by omega))]
  by_cases h : vld n a = true ∧ vld n b = true
  · rw [if_pos (by simp [h]), if_pos h]
    obtain ⟨h, h'⟩ := h
    rw [vld_iff] at h h'
    refine Ev.ite_pos (by simp) (Ev.ite_pos (by omega) (Ev.ite_pos (by omega) ?_))
    simp only [Int.toNat_natCast, tab_rep]
    have := Sum_loop n hn hn2 b hb h'.2 a.length a [] (fun _ => false) (-1) ha rfl h.2
    simp only [Bool.false_or] at this
    exact this
  · rw [if_neg (by simpa using h), if_neg h]
    exact Ev.ite_neg (by simp) (Ev.now _)
theorem Sum_bad (t : Int) (a b : List S41) (ha : Fit a) (hb : Fit b) (h : per t = false) : Ev (fun k => residue_Sum.f k t a b) ([], 4) := by
  simp only [residue_Sum.f]
  refine Ev.bind (check_ev t [a, b] (fit_le (by simp)) (by simp; exact ⟨ha, hb⟩)) ?_
  rw [if_neg (by simp [h])]
  exact Ev.ite_neg (by simp) (Ev.now _)
end Go.Proofs.Ytkbcgahpekmlbaa.PPg

namespace Go.Proofs.Ytkbcgahpekmlbaa.PPg
open Go.RowKit Go.Proofs.YtkbcgahpekmlbaaW.PrintWords Go.Proofs.YtkbcgahpekmlbaaW.PrintLast Go.Proofs.YtkbcgahpekmlbaaW.PrintMore
set_option linter.unusedVariables false
set_option linter.unusedSimpArgs false

theorem vldF_lower {t a c : Int} {r : List S41} (h : vldF t a r = true) (hm : ∀ x, mem r x = true → c < x) : vldF t c r = true := by
  cases r with
  | nil => rfl
  | cons u r =>
    rw [vldF_cons] at h ⊢
    exact ⟨hm u.f0 (by rw [mem_cons, (inS_iff u u.f0).2 ⟨by omega, by omega⟩]; rfl), h.2⟩
theorem Intersect_loop (n : Nat) (hn2 : n ≤ 7200) : ∀ (d : Nat) (sa pa sb pb out : List S41) (la lb : Int), sa.length + sb.length ≤ d → out.length + d ≤ 14400 → Fit (pa ++ sa) → Fit (pb ++ sb) → vldF n la sa = true → vldF n lb sb = true →
    ∃ r, Ev (fun k => residue_Intersect.l0 k (pa ++ sa) (pb ++ sb) out (pa.length : Int) (pb.length : Int)) (out ++ r, 0) ∧ vldF n (-1) r = true ∧ ∀ x, mem r x = (mem sa x && mem sb x)
  | d, [], pa, sb, pb, out, la, lb, hd, ho, ha, hb, va, vb => by
    refine ⟨[], ?_, rfl, fun x => by rw [mem_nil, Bool.false_and]⟩
    rw [List.append_nil out]
    refine Ev.step (f := fun k => residue_Intersect.j1 k (pa ++ []) (pb ++ sb) out (pa.length : Int) (pb.length : Int) false) (fun k => ?_) ?_
    · simp only [residue_Intersect.l0]
      rw [if_neg (nlt_pre pa)]
    · refine Ev.step (f := fun _ => some (out, 0)) (fun k => ?_) (Ev.now _)
      simp only [residue_Intersect.j1]; rfl
  | d, u :: sa, pa, [], pb, out, la, lb, hd, ho, ha, hb, va, vb => by
    refine ⟨[], ?_, rfl, fun x => by rw [mem_nil, Bool.and_false]⟩
    rw [List.append_nil out]
    refine Ev.step (f := fun k => residue_Intersect.j1 k (pa ++ u :: sa) (pb ++ []) out (pa.length : Int) (pb.length : Int) false) (fun k => ?_) ?_
    · simp only [residue_Intersect.l0]
      rw [if_pos (lt_pre pa u sa), decide_eq_false (nlt_pre pb)]
    · refine Ev.step (f := fun _ => some (out, 0)) (fun k => ?_) (Ev.now _)
      simp only [residue_Intersect.j1]; rfl
  | 0, u :: sa, pa, v :: sb, pb, out, la, lb, hd, ho, ha, hb, va, vb => by simp only [List.length_cons] at hd; omega
  | d + 1, u :: sa, pa, v :: sb, pb, out, la, lb, hd, ho, ha, hb, va, vb => by
    have hla := lt_pre pa u sa
    have hlb := lt_pre pb v sb
    have ha' : (pa.length : Int) < 140737488355328 := by unfold Fit at ha; simp at ha; omega
    have hb' : (pb.length : Int) < 140737488355328 := by unfold Fit at hb; simp at hb; omega
    have hlen : out.length < 8796093022208 := by omega
    have va' := va
    have vb' := vb
    rw [vldF_cons] at va vb
    obtain ⟨a1, a2, a3, a4, a5⟩ := va
    obtain ⟨b1, b2, b3, b4, b5⟩ := vb
    simp only [List.length_cons] at hd
    have hmx : mx u.f0 v.f0 = if u.f0 < v.f0 then v.f0 else u.f0 := rfl
    have hmn : mn u.f1 v.f1 = if v.f1 < u.f1 then v.f1 else u.f1 := rfl
    have inI : ∀ x, (inS u x && inS v x) = (decide (mx u.f0 v.f0 ≤ x) && decide (x < mn u.f1 v.f1)) := by
      intro x
      rw [Bool.eq_iff_iff, Bool.and_eq_true, inS_iff, inS_iff, Bool.and_eq_true, decide_eq_true_eq, decide_eq_true_eq]
      unfold mx mn; split <;> split <;> omega
    -- what is appended in this round
    have rounds : ∀ (add : List S41), add = (if mx u.f0 v.f0 < mn u.f1 v.f1 then [⟨mx u.f0 v.f0, mn u.f1 v.f1⟩] else []) →
        ∃ r, Ev (fun k => if u.f1 < v.f1 then residue_Intersect.l0 k (pa ++ u :: sa) (pb ++ v :: sb) (out ++ add) ((pa.length : Int) + 1) (pb.length : Int) else residue_Intersect.l0 k (pa ++ u :: sa) (pb ++ v :: sb) (out ++ add) (pa.length : Int) ((pb.length : Int) + 1)) (out ++ r, 0) ∧ vldF n (-1) r = true ∧ ∀ x, mem r x = (mem (u :: sa) x && mem (v :: sb) x) := by
      intro add hadd
      have hal : add.length ≤ 1 := by rw [hadd]; split <;> simp
      have hmem : ∀ x, mem add x = (inS u x && inS v x) := by
        intro x
        rw [inI, hadd]
        split
        · rw [mem_cons, mem_nil, Bool.or_false]; rfl
        · next hn =>
          rw [mem_nil]; symm; rw [Bool.eq_false_iff]; intro hc
          rw [Bool.and_eq_true, decide_eq_true_eq, decide_eq_true_eq] at hc; omega
      by_cases hc : u.f1 < v.f1
      · obtain ⟨r, e1, e2, e3⟩ := Intersect_loop n hn2 d sa (pa ++ [u]) (v :: sb) pb (out ++ add) u.f1 lb (by simp only [List.length_cons]; omega) (by rw [List.length_append]; omega) (by rwa [← List.append_cons]) hb a5 vb'
        rw [← List.append_cons, len1, List.append_assoc] at e1
        refine ⟨add ++ r, Ev.ite_pos hc e1, ?_, fun x => ?_⟩
        · rw [hadd]; split
          · rw [List.cons_append, List.nil_append, vldF_cons]
            refine ⟨by show -1 < mx u.f0 v.f0; rw [hmx]; split <;> omega, by show 0 ≤ mx u.f0 v.f0; rw [hmx]; split <;> omega, by assumption, by show mn u.f1 v.f1 ≤ n; rw [hmn]; split <;> omega, vldF_lower e2 fun x hx => ?_⟩
            rw [e3, Bool.and_eq_true] at hx
            have := vldF_in a5 hx.1
            show mn u.f1 v.f1 < x; rw [hmn]; split <;> omega
          · exact e2
        · rw [mem_append, hmem, e3, mem_cons, mem_cons]
          by_cases hx : x < u.f1
          · rw [vldF_out a5 (show x ≤ u.f1 by omega), vldF_out b5 (show x ≤ v.f1 by omega)]; simp
          · have hf : inS u x = false := by rw [Bool.eq_false_iff]; intro hc; rw [inS_iff] at hc; omega
            rw [hf]; simp
      · obtain ⟨r, e1, e2, e3⟩ := Intersect_loop n hn2 d (u :: sa) pa sb (pb ++ [v]) (out ++ add) la v.f1 (by simp only [List.length_cons]; omega) (by rw [List.length_append]; omega) ha (by rwa [← List.append_cons]) va' b5
        rw [← List.append_cons, len1, List.append_assoc] at e1
        refine ⟨add ++ r, Ev.ite_neg hc e1, ?_, fun x => ?_⟩
        · rw [hadd]; split
          · rw [List.cons_append, List.nil_append, vldF_cons]
            refine ⟨by show -1 < mx u.f0 v.f0; rw [hmx]; split <;> omega, by show 0 ≤ mx u.f0 v.f0; rw [hmx]; split <;> omega, by assumption, by show mn u.f1 v.f1 ≤ n; rw [hmn]; split <;> omega, vldF_lower e2 fun x hx => ?_⟩
            rw [e3, Bool.and_eq_true] at hx
            have := vldF_in b5 hx.2
            show mn u.f1 v.f1 < x; rw [hmn]; split <;> omega
          · exact e2
        · rw [mem_append, hmem, e3, mem_cons, mem_cons]
          by_cases hx : x < v.f1
          · rw [vldF_out b5 (show x ≤ v.f1 by omega)]
            by_cases hy : x < u.f1
            · rw [vldF_out a5 (show x ≤ u.f1 by omega)]; simp
            · exfalso; omega
          · have hf : inS v x = false := by rw [Bool.eq_false_iff]; intro hc; rw [inS_iff] at hc; omega
            rw [hf]; simp
    refine (rounds _ rfl).imp fun r hr => ⟨?_, hr.2⟩
    refine Ev.step (f := fun k => residue_Intersect.j1 k (pa ++ u :: sa) (pb ++ v :: sb) out (pa.length : Int) (pb.length : Int) true) (fun k => ?_) ?_
    · simp only [residue_Intersect.l0]
      rw [if_pos hla, decide_eq_true hlb]
    · refine Ev.step (fun k => ?_) hr.1
      simp only [residue_Intersect.j1]
      rw [if_pos trivial, if_pos (by omega), if_pos hla, if_pos (by omega), if_pos hlb, rd_pre, rd_pre, wrap_ok (a := (pa.length : Int) + 1) (by omega) (by omega), wrap_ok (a := (pb.length : Int) + 1) (by omega) (by omega)]
      by_cases hc : mx u.f0 v.f0 < mn u.f1 v.f1
      · rw [if_pos hc, if_pos hlen, if_pos hc]; rfl
      · rw [if_neg hc, if_neg hc, List.append_nil]
theorem Intersect_ev (n : Nat) (hn : 1 ≤ n) (hn2 : n ≤ 7200) (a b : List S41) (ha : Fit a) (hb : Fit b) :
    Ev (fun k => residue_Intersect.f k n a b) (if vld n a = true ∧ vld n b = true then (can n fun x => mem a x && mem b x, 0) else ([], 1)) := by
  simp only [residue_Intersect.f]
  refine Ev.bind (check_ev n [a, b] (fit_le (by simp)) (by simp; exact ⟨ha, hb⟩)) ?_
  rw [if_pos ((per_iff _).2 (by omega))]
  by_cases h : vld n a = true ∧ vld n b = true
  · rw [if_pos (by simp [h]), if_pos h]
    obtain ⟨h, h'⟩ := h
    have la := vld_fit h
    have lb := vld_fit h'
    rw [vld_iff] at h h'
    refine Ev.ite_pos (by simp) ?_
    obtain ⟨r, e1, e2, e3⟩ := Intersect_loop n hn2 14400 a [] b [] [] (-1) (-1) (by omega) (by simp) ha hb h.2 h'.2
    rw [List.nil_append, List.nil_append, List.nil_append, eq_can (p := fun x => mem a x && mem b x) e2 (fun x _ _ => e3 x)] at e1
    exact e1
  · rw [if_neg (by simpa using h), if_neg h]
    exact Ev.ite_neg (by simp) (Ev.now _)
theorem Intersect_bad (t : Int) (a b : List S41) (ha : Fit a) (hb : Fit b) (h : per t = false) : Ev (fun k => residue_Intersect.f k t a b) ([], 4) := by
  simp only [residue_Intersect.f]
  refine Ev.bind (check_ev t [a, b] (fit_le (by simp)) (by simp; exact ⟨ha, hb⟩)) ?_
  rw [if_neg (by simp [h])]
  exact Ev.ite_neg (by simp) (Ev.now _)
end Go.Proofs.Ytkbcgahpekmlbaa.PPg

namespace Go.Proofs.Ytkbcgahpekmlbaa.PPg
open Go.RowKit Go.Proofs.YtkbcgahpekmlbaaW.PrintWords Go.Proofs.YtkbcgahpekmlbaaW.PrintLast Go.Proofs.YtkbcgahpekmlbaaW.PrintMore
set_option linter.unusedVariables false
set_option linter.unusedSimpArgs false

theorem Count_loop (n : Nat) (hn2 : n ≤ 7200) (m : Int) : ∀ (suf pre : List S41) (last c : Int), Fit (pre ++ suf) → m = ((pre ++ suf).length : Int) → vldF n last suf = true → 0 ≤ c → c ≤ last + 1 →
    Ev (fun k => residue_Count.l0 k c (pre ++ suf) m (pre.length : Int)) (c + sizes suf)
  | [], pre, last, c, hb, hm, hv, hc0, hc1 => by
    have e : c + sizes [] = c := by simp [sizes]
    rw [e]
    refine Ev.step (f := fun _ => some c) (fun k => ?_) (Ev.now _)
    simp only [residue_Count.l0]
    rw [if_neg (by rw [hm]; exact nlt_pre pre)]
  | u :: suf, pre, last, c, hb, hm, hv, hc0, hc1 => by
    rw [vldF_cons] at hv
    obtain ⟨h1, h2, h3, h4, h5⟩ := hv
    have hlt0 := lt_pre pre u suf
    have hb' : (pre.length : Int) < 140737488355328 := by unfold Fit at hb; simp at hb; omega
    have ih := Count_loop n hn2 m suf (pre ++ [u]) u.f1 (c + (u.f1 - u.f0)) (by rwa [← List.append_cons]) (by rwa [← List.append_cons]) h5 (by omega) (by omega)
    rw [← List.append_cons, len1] at ih
    have e : c + sizes (u :: suf) = c + (u.f1 - u.f0) + sizes suf := by simp only [sizes]; omega
    rw [e]
    refine Ev.step (fun k => ?_) ih
    simp only [residue_Count.l0]
    rw [if_pos (by rw [hm]; exact hlt0), if_pos (by omega), if_pos hlt0, rd_pre, wrap_ok (a := u.f1 - u.f0) (by omega) (by omega), wrap_ok (a := c + (u.f1 - u.f0)) (by omega) (by omega), wrap_ok (by omega) (by omega)]
theorem Count_ev (n : Nat) (hn : 1 ≤ n) (hn2 : n ≤ 7200) (s : List S41) (hs : Fit s) : Ev (fun k => residue_Count.f k n s) (if vld n s = true then cnt (mem s) n else 0) := by
  simp only [residue_Count.f]
  refine Ev.bind (Valid_ev n s hs) ?_
  by_cases h : vld n s = true
  · rw [if_pos h]
    rw [vld_iff] at h
    refine Ev.ite_pos ((vld_iff _ _).2 h) ?_
    have := Count_loop n hn2 s.length s [] (-1) 0 hs rfl h.2 (Int.le_refl _) (by omega)
    rw [Int.zero_add, sizes_cnt n s _ h.2] at this
    exact this
  · rw [if_neg h]
    exact Ev.ite_neg h (Ev.now _)
end Go.Proofs.Ytkbcgahpekmlbaa.PPg

namespace Go.Proofs.Ytkbcgahpekmlbaa.PPg
open Go.RowKit Go.Proofs.YtkbcgahpekmlbaaW.PrintWords Go.Proofs.YtkbcgahpekmlbaaW.PrintLast Go.Proofs.YtkbcgahpekmlbaaW.PrintMore
set_option linter.unusedVariables false
set_option maxRecDepth 100000
/-- The rows of the table's sets. -/
abbrev kL : Kd (List S41) := Kd.slice 41 k41
/-- The table at block g, made behind block B: its period, events, activities, size and sets. -/
def Tb (w : World) (B g : Nat) (P : Int) (ev : List S65) (ac : List S30) (m : Int) (sets : List (List S41)) : Prop :=
  ∃ v1 v2 v4, w.heap[g]? = some (.cells #[.int .i64 P, v1, v2, .int .i64 m, v4] 69 (0, 0)) ∧ B ≤ g ∧ Kd.R k65 65 w B (fun k => k ≠ g) v1 ev ∧ Kd.R k30 30 w B (fun k => k ≠ g) v2 ac ∧ Kd.R kL 42 w B (fun k => k ≠ g) v4 sets
section
variable {w w' : World} {B g : Nat} {P m : Int} {ev : List S65} {ac : List S30} {sets : List (List S41)}
theorem Tb_below (h : Tb w B g P ev ac m sets) (hb : Below w.heap.size w w') : Tb w' B g P ev ac m sets := by
  obtain ⟨v1, v2, v4, h1, h2, h3, h4, h5⟩ := h
  exact ⟨v1, v2, v4, (hb.block g (blk_lt h1)).trans h1, h2, Kd.R_below h3 hb, Kd.R_below h4 hb, Kd.R_below h5 hb⟩
theorem Tb_lt (h : Tb w B g P ev ac m sets) : g < w.heap.size := by
  obtain ⟨v1, v2, v4, h1, _⟩ := h
  exact blk_lt h1
theorem Tb_ge (h : Tb w B g P ev ac m sets) : B ≤ g := by
  obtain ⟨v1, v2, v4, _, h2, _⟩ := h
  exact h2
theorem Tb_P (h : Tb w B g P ev ac m sets) : w.cell? ⟨g, 0, none⟩ = some (.int .i64 P) := by
  obtain ⟨v1, v2, v4, h1, _⟩ := h
  rw [blk_cell h1]; rfl
theorem Tb_m (h : Tb w B g P ev ac m sets) : w.cell? ⟨g, 3, none⟩ = some (.int .i64 m) := by
  obtain ⟨v1, v2, v4, h1, _⟩ := h
  rw [blk_cell h1]; rfl
/-- The value of the sets' slice, and the rows behind it. -/
theorem Tb_sets (h : Tb w B g P ev ac m sets) : ∃ A c, w.cell? ⟨g, 4, none⟩ = some (.slice A sets.length c) ∧ sets.length ≤ c ∧ Kd.C kL w A sets.length sets := by
  obtain ⟨v1, v2, v4, h1, _, _, _, h5⟩ := h
  obtain ⟨A, c, rfl, hl, hc⟩ := Kd.R_reads h5
  exact ⟨A, c, by rw [blk_cell h1]; rfl, hl, hc⟩
theorem Tb_net (h : Tb w B g P ev ac m sets) : ∃ A1 c1 A2 c2, w.cell? ⟨g, 1, none⟩ = some (.slice A1 ev.length c1) ∧ w.cell? ⟨g, 2, none⟩ = some (.slice A2 ac.length c2) ∧ ev.length ≤ c1 ∧ Kd.C k65 w A1 ev.length ev ∧ ac.length ≤ c2 ∧ Kd.C k30 w A2 ac.length ac := by
  obtain ⟨v1, v2, v4, h1, _, h3, h4, _⟩ := h
  obtain ⟨A1, c1, rfl, hl1, hc1⟩ := Kd.R_reads h3
  obtain ⟨A2, c2, rfl, hl2, hc2⟩ := Kd.R_reads h4
  exact ⟨A1, c1, A2, c2, by rw [blk_cell h1]; rfl, by rw [blk_cell h1]; rfl, hl1, hc1, hl2, hc2⟩
end
theorem ret_bool {a b : Bool} (h : a = b) : Ending.returned (.bool a) = .returned (.bool b) := by rw [h]
theorem beq_dec (a b : Int) : (a == b) = decide (a = b) := rfl
theorem at_c (w : World) (g : Nat) (i j m : Int) (h : w.cell? ⟨g, 3, none⟩ = some (.int .i64 m)) (h0 : 0 ≤ i * m) (h1 : i * m ≤ 100000) (j0 : 0 ≤ j) (j1 : j ≤ 100000) :
    Calls Try.prog 37 #[.pointer (some ⟨g, 0, none⟩), .int .i64 i, .int .i64 j] w fun e w' => e = .returned (.int .i64 (i * m + j)) ∧ w = w' := by
  go_enter Try.func37, Try.ntmps37
  go_wp2_with fail
  go_ret
  exact ⟨rfl, rfl⟩
/-- A list is the whole set. -/
def wholeB (P : Int) (s : List S41) : Bool := decide (s.length = 1) && decide ((rd_T41 s 0).f1 - (rd_T41 s 0).f0 = P)
theorem whole_c (w : World) (g : Nat) (P : Int) (A : Option Addr) (c : Nat) (s : List S41) (hP : w.cell? ⟨g, 0, none⟩ = some (.int .i64 P)) (hs : Kd.C k41 w A s.length s) (hf : ∀ x ∈ s, 0 ≤ x.f0 ∧ x.f0 ≤ 7200 ∧ 0 ≤ x.f1 ∧ x.f1 ≤ 7200) :
    Calls Try.prog 36 #[.pointer (some ⟨g, 0, none⟩), .slice A s.length c] w fun e w' => e = .returned (.bool (wholeB P s)) ∧ Drawn0 w w' := by
  by_cases h1 : s.length = 1
  · obtain ⟨ad, ea, k0, k1⟩ := at_T41 hs 0 (by omega) (by omega)
    subst ea
    have hm : rd_T41 s 0 ∈ s := by
      unfold rd_T41; rw [List.getD_eq_getElem?_getD, List.getElem?_eq_getElem (by simp; omega)]; exact List.getElem_mem _
    obtain ⟨f0, f1, f2, f3⟩ := hf _ hm
    have hw : wholeB P s = decide ((rd_T41 s 0).f1 - (rd_T41 s 0).f0 = P) := by unfold wholeB; rw [decide_eq_true h1, Bool.true_and]
    have HW := Aside0.mk hw
    have hl : ((s.length : Nat) : Int) = 1 := by omega
    clear hw hm hs hf
    generalize rd_T41 s 0 = x at *
    have ea0 : ad.add ((0 : Int).toNat * 2) = ad := by unfold Addr.add; simp
    rw [ea0] at k0 k1
    clear ea0
    rw [h1]
    go_enter Try.func36, Try.ntmps36
    go_wp2_with fail
    go_quiet (fail)
    go_wp2_with fail
    go_ret
    exact ⟨(ret_bool (beq_dec _ _)).trans (by rw [HW.out]), ⟨⟨_, rfl⟩⟩⟩
  · have hw : wholeB P s = false := by unfold wholeB; rw [decide_eq_false h1, Bool.false_and]
    have HW := Aside0.mk hw
    have hl : ((((s.length : Nat) : Int) == 1)) = false := by simp; omega
    have hm := hs.2.1
    clear hw hs hf
    go_enter Try.func36, Try.ntmps36
    go_wp2_with fail
    go_quiet (fail)
    go_wp2_with fail
    go_ret
    exact ⟨by rw [HW.out]; rfl, ⟨⟨_, rfl⟩⟩⟩
end Go.Proofs.Ytkbcgahpekmlbaa.PPg

namespace Go.Proofs.Ytkbcgahpekmlbaa.PPg
open Go.RowKit Go.Proofs.YtkbcgahpekmlbaaW.PrintWords Go.Proofs.YtkbcgahpekmlbaaW.PrintLast Go.Proofs.YtkbcgahpekmlbaaW.PrintMore
set_option linter.unusedVariables false
set_option maxRecDepth 100000
theorem below_weaken' {w w' : World} {B : Nat} (h : Below w.heap.size w w') (hB : B ≤ w.heap.size) : Below B w w' := h.mono hB
theorem at_k (w : World) (g : Nat) (i j m k : Int) (h : w.cell? ⟨g, 3, none⟩ = some (.int .i64 m)) (hk : i * m + j = k) (h0 : 0 ≤ i * m) (h1 : i * m ≤ 100000) (j0 : 0 ≤ j) (j1 : j ≤ 100000) :
    Calls Try.prog 37 #[.pointer (some ⟨g, 0, none⟩), .int .i64 i, .int .i64 j] w fun e w' => e = .returned (.int .i64 k) ∧ w = w' := by
  subst hk; exact at_c w g i j m h h0 h1 j0 j1
/-- A slice of spans that is only read, whatever becomes of the world above. -/
def VS (w : World) (v : Value) (xs : List S41) : Prop := Kd.V k41 41 w 0 (fun _ => True) v xs
theorem VS_below {w w' : World} {v : Value} {xs : List S41} (h : VS w v xs) (hb : Below w.heap.size w w') : VS w' v xs := Kd.V_below h hb
theorem VS_alloc {w : World} {v : Value} {xs : List S41} (h : VS w v xs) (o : Obj) : VS (w.alloc o) v xs := Kd.V_alloc h o
theorem VS_drew {w : World} {v : Value} {xs : List S41} (h : VS w v xs) : VS w.drew v xs := Kd.V_below h (below_drew (Below.refl _ _))
theorem VS_drewN {w : World} {v : Value} {xs : List S41} (h : VS w v xs) (n : Nat) : VS (w.drewN n) v xs := Kd.V_drewN h n
theorem VS_slice {w : World} {v : Value} {xs : List S41} (h : VS w v xs) : ∃ A c, v = .slice A xs.length c := Kd.V_slice h
theorem VS_C {w : World} {A : Option Addr} {c : Nat} {xs : List S41} (h : VS w (.slice A xs.length c) xs) : Kd.C k41 w A xs.length xs := (Kd.V_reads' h).2.2
theorem VS_le {w : World} {A : Option Addr} {c : Nat} {xs : List S41} (h : VS w (.slice A xs.length c) xs) : xs.length ≤ c := (Kd.V_reads' h).2.1
theorem VS_R {w : World} {base : Nat} {ok : Nat → Prop} {v : Value} {xs : List S41} (h : Kd.R k41 41 w base ok v xs) : VS w v xs := Kd.V_mono (Kd.R_V h) (fun _ _ => trivial)
theorem heap_span : Kd.Heap k41 := Kd.heap_iso _ (Kd.heap_pair (Kd.heap_int _) (Kd.heap_int _))
theorem VS_of {w : World} {A : Option Addr} {c : Nat} {xs : List S41} (h : Kd.C k41 w A xs.length xs) (hc : xs.length ≤ c) : VS w (.slice A xs.length c) xs :=
  Kd.V_mk hc (fun W' hm => heap_span.C (fun k hk => hm k trivial hk) h)
/-- Where the table's set number k lies. -/
theorem Tb_at {w : World} {B g : Nat} {P m : Int} {ev : List S65} {ac : List S30} {sets : List (List S41)} (h : Tb w B g P ev ac m sets) (k : Int) (h0 : 0 ≤ k) (h1 : k < sets.length) :
    ∃ gr c A ck, w.cell? ⟨g, 4, none⟩ = some (.slice (some ⟨gr, 0, none⟩) sets.length c) ∧ w.cell? ⟨gr, k.toNat, none⟩ = some (.slice A (rd_L2 sets k).length ck) ∧ VS w (.slice A (rd_L2 sets k).length ck) (rd_L2 sets k) ∧
      w.heap[g]? ≠ none ∧ gr ≠ g := by
  obtain ⟨v1, v2, v4, hb, _, _, _, h5⟩ := h
  obtain ⟨gr, c, rfl, hbg, hlt, cells, hcl⟩ := Kd.R_form h5 (by omega)
  obtain ⟨cs, hl, ⟨v, rfl, hR⟩, hcs, _⟩ := Kd.R_elem h5 [] k h0 (by omega)
  have hc0 := hcs 0 v rfl
  rw [show k.toNat * kL.sz + 0 = k.toNat by show k.toNat * 1 + 0 = _; omega] at hc0
  obtain ⟨A, ck, rfl⟩ := Kd.R_slice hR
  exact ⟨gr, c, A, ck, by rw [blk_cell hb]; rfl, hc0, VS_R hR, by rw [hb]; simp, h5.1 gr rfl⟩
/-- All blocks but the rows of sets are as they were. -/
def Kp (w w' : World) : Prop := w.heap.size ≤ w'.heap.size ∧ ∀ (k : Nat) (cells : Array Value) (t : TypeId), t ≠ 42 → w.heap[k]? = some (.cells cells t (0, 0)) → w'.heap[k]? = some (.cells cells t (0, 0))
theorem Kp_refl (w : World) : Kp w w := ⟨Nat.le_refl _, fun _ _ _ _ h => h⟩
theorem Kp_trans {a b c : World} (h : Kp a b) (k : Kp b c) : Kp a c := ⟨Nat.le_trans h.1 k.1, fun i cs t ht hc => k.2 i cs t ht (h.2 i cs t ht hc)⟩
theorem Kp_below {w w' : World} (h : Below w.heap.size w w') : Kp w w' := ⟨h.size, fun i cs t _ hc => (h.block i (blk_lt hc)).trans hc⟩
theorem Kp_set {w : World} {g : Nat} {cs : Array Value} (h : w.heap[g]? = some (.cells cs 42 (0, 0))) (j : Nat) (v : Value) : Kp w (w.setCell ⟨g, j, none⟩ v) :=
  ⟨by simp [World.setCell], fun i cells t ht hc => (Below.heap_setCell w ⟨g, j, none⟩ v i (fun e => by
    have e' : i = g := e
    subst e'
    rw [h] at hc
    injection hc with hc
    injection hc with _ hc
    exact ht hc.symm)).trans hc⟩
/-- A row of another kind stays. -/
theorem R_Kp {α : Type} {d : Kd α} {e : Nat} {w w' : World} {base : Nat} {ok : Nat → Prop} {v : Value} {xs : List α} (h : d.R e w base ok v xs) (hk : Kp w w') (ht : ∀ q, q ∈ e :: d.E → q ≠ 42) : d.R e w' base ok v xs :=
  Kd.R_mono (Kd.R_move (Kd.R_bound h) (fun k hk' => by
    obtain ⟨_, _, _, q, hq, cells, hc⟩ := hk'
    rw [hc, hk.2 k cells q (ht q hq) hc])) (fun _ hk' => hk'.1)
theorem Tb_free {w : World} {B g : Nat} {P m : Int} {ev : List S65} {ac : List S30} {sets : List (List S41)} (h : Tb w B g P ev ac m sets) {gr n c : Nat} (h4 : w.cell? ⟨g, 4, none⟩ = some (.slice (some ⟨gr, 0, none⟩) n c)) (k : Nat) : w.frozen? ⟨gr, k, none⟩ = false := by
  obtain ⟨v1, v2, v4, hb, _, _, _, h5⟩ := h
  rw [blk_cell hb] at h4
  have e : v4 = .slice (some ⟨gr, 0, none⟩) n c := by simpa using h4
  subst e
  obtain ⟨_, l, ho, _⟩ := h5
  obtain ⟨cells, hc⟩ := own_typed ho gr rfl
  exact blk_frozen hc _
theorem Tb_put {w : World} {B g : Nat} {P m : Int} {ev : List S65} {ac : List S30} {sets : List (List S41)} (h : Tb w B g P ev ac m sets) {gr n c : Nat} (h4 : w.cell? ⟨g, 4, none⟩ = some (.slice (some ⟨gr, 0, none⟩) n c)) (k : Int) (h0 : 0 ≤ k) (h1 : k < sets.length) {v : Value} {x : List S41} {ok : Nat → Prop} (hx : Kd.R k41 41 w B ok v x) :
    Tb (w.setCell ⟨gr, k.toNat, none⟩ v) B g P ev ac m (sets.set k.toNat x) ∧ Below B w (w.setCell ⟨gr, k.toNat, none⟩ v) ∧ Kp w (w.setCell ⟨gr, k.toNat, none⟩ v) := by
  obtain ⟨v1, v2, v4, hb, hg, h2, h3, h5⟩ := h
  rw [blk_cell hb] at h4
  have e : v4 = .slice (some ⟨gr, 0, none⟩) n c := by simpa using h4
  subst e
  have hgr : B ≤ gr := Kd.R_base h5 gr rfl
  obtain ⟨cells, hc⟩ : ∃ cells, w.heap[gr]? = some (.cells cells 42 (0, 0)) := by
    obtain ⟨_, l, ho, _⟩ := h5
    exact own_typed ho gr rfl
  have hne : gr ≠ g := h5.1 gr rfl
  have hn : n = sets.length := (Kd.R_reads' h5).1
  have hx1 := Kd.R_types (Kd.R_types (Kd.R_mono hx (fun _ _ => trivial)) hb (fun q hq => by
    have : q = 41 := by simpa [k41, Kd.iso, Kd.pair, Kd.int, Kd.scalar] using hq
    omega)) hc (fun q hq => by
    have : q = 41 := by simpa [k41, Kd.iso, Kd.pair, Kd.int, Kd.scalar] using hq
    omega)
  obtain ⟨cs, hl, hM, hcs, _⟩ := Kd.R_elem h5 [] k h0 (by omega)
  obtain ⟨hR, hgrow⟩ := Kd.R_seg (xs := sets) (j := 0) (seg := [v]) (x' := x) (okp := fun q => (True ∧ q ≠ g) ∧ q ≠ gr) h5 k h0 (by omega) hl hcs (by show 0 + [v].length ≤ 1; simp) (by
    have e1 : cs.take 0 ++ [v] ++ cs.drop (0 + [v].length) = [v] := by
      have hl1 : cs.length = 1 := hl
      match cs, hl1 with
      | [u], _ => rfl
    rw [e1]
    exact ⟨v, rfl, hx1⟩) (fun q hq => ⟨hq.1.2, hq.2⟩)
  have eo : k.toNat * kL.sz + 0 = k.toNat := by show k.toNat * 1 + 0 = _; omega
  rw [eo] at hR hgrow
  have es : w.setCells gr k.toNat [v] = w.setCell ⟨gr, k.toNat, none⟩ v := rfl
  rw [es] at hR hgrow
  refine ⟨⟨v1, v2, _, (Below.heap_setCell w _ v g (fun e => hne e.symm)).trans hb, hg, ?_, ?_, hR⟩, (Below.refl B w).setCell hgr v, Kp_set hc _ v⟩
  · have h6 := Kd.R_types h2 hc (fun q hq => by
      have : q = 65 := by simpa [k65, Kd.iso, Kd.pair, Kd.int, Kd.scalar] using hq
      omega)
    exact Kd.R_mono (Kd.R_grown h6 hgrow (fun q hq => by intro e; injection e with e; exact hq.2 e)) (fun _ hq => hq.1)
  · have h6 := Kd.R_types h3 hc (fun q hq => by
      have : q = 30 := by simpa [k30, Kd.iso, Kd.pair, Kd.int, Kd.scalar] using hq
      omega)
    exact Kd.R_mono (Kd.R_grown h6 hgrow (fun q hq => by intro e; injection e with e; exact hq.2 e)) (fun _ hq => hq.1)
set_option maxHeartbeats 1000000 in
theorem cut_w (K : Nat) (w : World) (B g : Nat) (P : Int) (ev : List S65) (ac : List S30) (m : Int) (sets : List (List S41)) (i j k : Int) (A : Option Addr) (c : Nat) (s x : List S41) (e0 cx cs : Int)
    (ht : Tb w B g P ev ac m sets) (hk : i * m + j = k) (i0 : 0 ≤ i * m) (i1 : i * m ≤ 100000) (j0 : 0 ≤ j) (j1 : j ≤ 100000) (k0 : 0 ≤ k) (k1 : k < sets.length) (hs : VS w (.slice A s.length c) s)
    (hI : residue_Intersect.f K P (rd_L2 sets k) s = some (x, e0)) (hX : residue_Count.f K P x = some cx) (hS : residue_Count.f K P (rd_L2 sets k) = some cs) :
    Calls Try.prog 64 #[.pointer (some ⟨g, 0, none⟩), .int .i64 i, .int .i64 j, .slice A s.length c] w fun e w' => e = .returned (.bool (decide (cx < cs))) ∧ Tb w' B g P ev ac m (sets.set k.toNat x) ∧ Below B w w' ∧ Kp w w' := by
  have HT := Aside0.mk ht
  have HK := Aside0.mk hk
  have HVs := Aside0.mk hs
  have HI := Aside0.mk hI
  have HX := Aside0.mk hX
  have HS := Aside0.mk hS
  have hm := Tb_m ht
  clear ht hk hs hI hX hS
  go_enter Try.func64, Try.ntmps64
  go_wp2_with fail
  refine (at_k w g i j m k hm HK.out i0 i1 j0 j1).mono ?_
  rintro _ _ ⟨rfl, rfl⟩
  clear hm
  have hP := Tb_P HT.out
  obtain ⟨gr, cr, Ak, ck, h4, h5, hv, _, hne⟩ := Tb_at HT.out k k0 k1
  have HV := Aside0.mk hv
  clear hv
  generalize hsl : (rd_L2 sets k) = sk at *
  have HSL := Aside0.mk hsl
  clear hsl
  have HW0 := Aside0.mk (Below.refl w.heap.size w)
  go_wp2_with fail
  go_region_held3 (fun w' => w'.cell? ⟨g, 0, none⟩ = some (.int .i64 P) ∧ w'.cell? ⟨g, 4, none⟩ = some (.slice (some ⟨gr, 0, none⟩) sets.length cr) ∧ w'.cell? ⟨gr, k.toNat, none⟩ = some (.slice Ak sk.length ck)) (go_keep)
    (first | ((go_at_call 78; refine (residue_Intersect.calls K P (fun _ => True) Ak ck sk (fun _ => True) A c s x e0 _ (VS_drew HV.out) (VS_drew HVs.out) HI.out).mono ?_; rintro _ w1 ⟨v, rfl, hr, hb⟩; have z0 := (hb.cell (World.block_lt_of_cell? w _ hP)).trans hP; have z4 := (hb.cell (World.block_lt_of_cell? w _ h4)).trans h4; have z5 := (hb.cell (World.block_lt_of_cell? w _ h5)).trans h5; have HR1 := Aside0.mk hr; have HB1 := Aside0.mk (below_step (below_drew (Below.refl _ w)) hb); clear hr hb hP h4 h5)))
  have HT1 := Aside0.mk (Tb_below HT.out HB1.out)
  have HV1 := Aside0.mk (VS_below HV.out HB1.out)
  have HVx := Aside0.mk (VS_R HR1.out)
  obtain ⟨Ax, cx', rfl⟩ := Kd.R_slice HR1.out
  go_wp2_with fail
  go_region_held3 (fun w' => w'.cell? ⟨g, 0, none⟩ = some (.int .i64 P) ∧ w'.cell? ⟨g, 4, none⟩ = some (.slice (some ⟨gr, 0, none⟩) sets.length cr) ∧ w'.cell? ⟨gr, k.toNat, none⟩ = some (.slice Ak sk.length ck)) (go_keep)
    (first
      | ((go_at_call_of 45 (Value.slice Ax x.length cx'); refine (residue_Count.calls K P Ax cx' x cx _ (VS_C (VS_drew HVx.out)) (VS_le HVx.out) HX.out).mono ?_; rintro _ w2 ⟨rfl, hb⟩; have z0' := (hb.cell (World.block_lt_of_cell? w1 _ z0)).trans z0; have z4' := (hb.cell (World.block_lt_of_cell? w1 _ z4)).trans z4; have z5' := (hb.cell (World.block_lt_of_cell? w1 _ z5)).trans z5; have HB2 := Aside0.mk (below_step (below_drew (Below.refl _ w1)) hb); clear hb z0 z4 z5))
      | ((go_at_call_of 45 (Value.slice Ak sk.length ck); refine (residue_Count.calls K P Ak ck sk cs _ (VS_C (VS_below HV1.out HB2.out)) (VS_le HV1.out) HS.out).mono ?_; rintro _ w3 ⟨rfl, hb⟩; have y0 := (hb.cell (World.block_lt_of_cell? w2 _ z0')).trans z0'; have y4 := (hb.cell (World.block_lt_of_cell? w2 _ z4')).trans z4'; have y5 := (hb.cell (World.block_lt_of_cell? w2 _ z5')).trans z5'; have HB3 := Aside0.mk (below_step HB2.out hb); clear hb z0' z4' z5')))
  have HT3 := Aside0.mk (Tb_below HT1.out HB3.out)
  have HR3 := Aside0.mk (Kd.R_lower (Kd.R_below HR1.out HB3.out) (show B ≤ w.heap.size from by have := Tb_ge HT.out; have := Tb_lt HT.out; omega))
  have hfz := Tb_free HT3.out y4 k.toNat
  have HPUT := Aside0.mk (Tb_put HT3.out y4 k k0 k1 HR3.out)
  have HWB := Aside0.mk (show B ≤ w.heap.size from by have := Tb_ge HT.out; have := Tb_lt HT.out; omega)
  go_wp2_with fail
  go_ret
  exact ⟨rfl, HPUT.out.1, (below_weaken' HB1.out HWB.out).trans ((below_weaken' HB3.out (Nat.le_trans HWB.out HB1.out.size)).trans HPUT.out.2.1), Kp_trans (Kp_below HB1.out) (Kp_trans (Kp_below HB3.out) HPUT.out.2.2)⟩
end Go.Proofs.Ytkbcgahpekmlbaa.PPg

namespace Go.Proofs.Ytkbcgahpekmlbaa.PPg
open Go.RowKit Go.Proofs.YtkbcgahpekmlbaaW.PrintWords Go.Proofs.YtkbcgahpekmlbaaW.PrintLast Go.Proofs.YtkbcgahpekmlbaaW.PrintMore
set_option linter.unusedVariables false
set_option maxRecDepth 100000
theorem at_q {w : World} {n g : Nat} {i j m k : Int} (h : w.cell? ⟨g, 3, none⟩ = some (.int .i64 m)) (hk : i * m + j = k) (h0 : 0 ≤ i * m) (h1 : i * m ≤ 100000) (j0 : 0 ≤ j) (j1 : j ≤ 100000) :
    Calls Try.prog 37 #[.pointer (some ⟨g, 0, none⟩), .int .i64 i, .int .i64 j] (w.drewN n) fun e w'' => e = .returned (.int .i64 k) ∧ ∃ q, w'' = w.drewN q :=
  (at_k (w.drewN n) g i j m k h hk h0 h1 j0 j1).mono fun _ _ ⟨he, hw⟩ => ⟨he, n, hw.symm⟩
/-- Spans within 7200. -/
def Low (s : List S41) : Prop := ∀ x ∈ s, 0 ≤ x.f0 ∧ x.f0 ≤ 7200 ∧ 0 ≤ x.f1 ∧ x.f1 ≤ 7200
/-- An index of a pair, within bounds. -/
def Ix (m i j k : Int) (n : Nat) : Prop := i * m + j = k ∧ 0 ≤ i * m ∧ i * m ≤ 100000 ∧ 0 ≤ j ∧ j ≤ 100000 ∧ 0 ≤ k ∧ k < n
theorem Drawn_below {w w' : World} (h : Drawn0 w w') : Below w.heap.size w w' := h.below
set_option maxHeartbeats 1000000 in
theorem join_no (w : World) (B g : Nat) (P : Int) (ev : List S65) (ac : List S30) (m : Int) (sets : List (List S41)) (i j k p q : Int)
    (ht : Tb w B g P ev ac m sets) (hp : Ix m i j p sets.length) (hq : Ix m j k q sets.length) (la : Low (rd_L2 sets p)) (lb : Low (rd_L2 sets q)) (hw : (wholeB P (rd_L2 sets p) || wholeB P (rd_L2 sets q)) = true) :
    Calls Try.prog 38 #[.pointer (some ⟨g, 0, none⟩), .int .i64 i, .int .i64 j, .int .i64 k] w fun e w' => e = .returned (.bool false) ∧ Below w.heap.size w w' := by
  obtain ⟨p1, p2, p3, p4, p5, p6, p7⟩ := hp
  obtain ⟨q1, q2, q3, q4, q5, q6, q7⟩ := hq
  have HT := Aside0.mk ht
  have hm := Tb_m ht
  obtain ⟨gr, cr, Aa, ca, h4, h5, hva, _, hne⟩ := Tb_at ht p p6 p7
  obtain ⟨gr', cr', Ab, cb, h4', h5', hvb, _, _⟩ := Tb_at ht q q6 q7
  rw [h4] at h4'
  injection h4' with h4'
  injection h4' with e1 _ _
  injection e1 with e1
  injection e1 with e1
  subst e1
  generalize hsa : (rd_L2 sets p) = sa at *
  generalize hsb : (rd_L2 sets q) = sb at *
  have HVa := Aside0.mk hva
  have HVb := Aside0.mk hvb
  have HP1 := Aside0.mk p1
  have HQ1 := Aside0.mk q1
  have LA := Aside0.mk la
  have LB := Aside0.mk lb
  have HW := Aside0.mk hw
  clear hva hvb p1 q1 la lb hw hsa hsb ht
  go_enter Try.func38, Try.ntmps38
  go_wp2_with fail
  go_quiet ((first | (go_at_call 37; exact at_q hm HP1.out p2 p3 p4 p5) | (go_at_call 37; exact at_q hm HQ1.out q2 q3 q4 q5)))
  clear h4 h5 h5' hm
  go_wp2_with fail
  refine (whole_c _ g P Aa ca sa (Tb_P (Tb_below HT.out (pw_below_drewN (Below.refl _ _) _))) (VS_C (VS_drewN HVa.out _)) LA.out).mono ?_
  rintro _ w2 ⟨rfl, hd⟩
  have HB2 := Aside0.mk (below_step (pw_below_drewN (Below.refl w.heap.size w) _) hd.below)
  clear hd
  cases h1 : wholeB P sa with
  | true =>
    clear h1
    go_wp2_with fail
    go_ret
    exact ⟨rfl, HB2.out⟩
  | false =>
    have h2 : wholeB P sb = true := by have := HW.out; rw [h1] at this; simpa using this
    have H2 := Aside0.mk h2
    clear h1 h2
    go_wp2_with fail
    refine (whole_c _ g P Ab cb sb (Tb_P (Tb_below HT.out HB2.out)) (VS_C (VS_below HVb.out HB2.out)) LB.out).mono ?_
    rw [H2.out]
    rintro _ w3 ⟨rfl, hd⟩
    have HB3 := Aside0.mk (below_step HB2.out hd.below)
    clear hd
    go_wp2_with fail
    go_ret
    exact ⟨rfl, HB3.out⟩
set_option maxHeartbeats 1000000 in
theorem join_yes (K : Nat) (w : World) (B g : Nat) (P : Int) (ev : List S65) (ac : List S30) (m : Int) (sets : List (List S41)) (i j k p q r : Int) (s x : List S41) (e0 e1 cx cs : Int)
    (ht : Tb w B g P ev ac m sets) (hp : Ix m i j p sets.length) (hq : Ix m j k q sets.length) (hr : Ix m i k r sets.length) (la : Low (rd_L2 sets p)) (lb : Low (rd_L2 sets q)) (wa : wholeB P (rd_L2 sets p) = false) (wb : wholeB P (rd_L2 sets q) = false)
    (hS : residue_Sum.f K P (rd_L2 sets p) (rd_L2 sets q) = some (s, e0)) (hI : residue_Intersect.f K P (rd_L2 sets r) s = some (x, e1)) (hX : residue_Count.f K P x = some cx) (hC : residue_Count.f K P (rd_L2 sets r) = some cs) :
    Calls Try.prog 38 #[.pointer (some ⟨g, 0, none⟩), .int .i64 i, .int .i64 j, .int .i64 k] w fun e w' => e = .returned (.bool (decide (cx < cs))) ∧ Tb w' B g P ev ac m (sets.set r.toNat x) ∧ Below B w w' ∧ Kp w w' := by
  obtain ⟨p1, p2, p3, p4, p5, p6, p7⟩ := hp
  obtain ⟨q1, q2, q3, q4, q5, q6, q7⟩ := hq
  have HT := Aside0.mk ht
  have hm := Tb_m ht
  obtain ⟨gr, cr, Aa, ca, h4, h5, hva, _, hne⟩ := Tb_at ht p p6 p7
  obtain ⟨gr', cr', Ab, cb, h4', h5', hvb, _, _⟩ := Tb_at ht q q6 q7
  rw [h4] at h4'
  injection h4' with h4'
  injection h4' with e1 _ _
  injection e1 with e1
  injection e1 with e1
  subst e1
  have HR := Aside0.mk hr
  have HI := Aside0.mk hI
  have HX := Aside0.mk hX
  have HC := Aside0.mk hC
  clear hr hI hX hC
  generalize hsa : (rd_L2 sets p) = sa at *
  generalize hsb : (rd_L2 sets q) = sb at *
  have HVa := Aside0.mk hva
  have HVb := Aside0.mk hvb
  have HP1 := Aside0.mk p1
  have HQ1 := Aside0.mk q1
  have LA := Aside0.mk la
  have LB := Aside0.mk lb
  have WA := Aside0.mk wa
  have WB := Aside0.mk wb
  have HS := Aside0.mk hS
  have HWB := Aside0.mk (show B ≤ w.heap.size from by have := Tb_ge ht; have := Tb_lt ht; omega)
  clear hva hvb p1 q1 la lb wa wb hS hsa hsb ht
  go_enter Try.func38, Try.ntmps38
  go_wp2_with fail
  go_quiet ((first | (go_at_call 37; exact at_q hm HP1.out p2 p3 p4 p5) | (go_at_call 37; exact at_q hm HQ1.out q2 q3 q4 q5)))
  clear h4 h5 h5' hm
  go_wp2_with fail
  refine (whole_c _ g P Aa ca sa (Tb_P (Tb_below HT.out (pw_below_drewN (Below.refl _ _) _))) (VS_C (VS_drewN HVa.out _)) LA.out).mono ?_
  rw [WA.out]
  rintro _ w2 ⟨rfl, hd⟩
  have HB2 := Aside0.mk (below_step (pw_below_drewN (Below.refl w.heap.size w) _) hd.below)
  clear hd
  go_wp2_with fail
  refine (whole_c _ g P Ab cb sb (Tb_P (Tb_below HT.out HB2.out)) (VS_C (VS_below HVb.out HB2.out)) LB.out).mono ?_
  rw [WB.out]
  rintro _ w3 ⟨rfl, hd⟩
  have HB3 := Aside0.mk (below_step HB2.out hd.below)
  clear hd
  have hP3 := Tb_P (Tb_below HT.out HB3.out)
  go_wp2_with fail
  refine (residue_Sum.calls K P (fun _ => True) Aa ca sa (fun _ => True) Ab cb sb s e0 _ (VS_below HVa.out HB3.out) (VS_below HVb.out HB3.out) HS.out).mono ?_
  rintro _ w4 ⟨v, rfl, hrs, hb⟩
  have HB4 := Aside0.mk (below_step HB3.out hb)
  have hv := VS_R hrs
  obtain ⟨As, cs', rfl⟩ := VS_slice hv
  have HVs := Aside0.mk hv
  clear hb hrs hv hP3
  go_wp2_with fail
  obtain ⟨r1, r2, r3, r4, r5, r6, r7⟩ := HR.out
  refine (cut_w K _ B g P ev ac m sets i k r As cs' s x e1 cx cs (Tb_below HT.out HB4.out) r1 r2 r3 r4 r5 r6 r7 HVs.out HI.out HX.out HC.out).mono ?_
  rintro _ w5 ⟨rfl, ht5, hb5, hk5⟩
  have HK5 := Aside0.mk (Kp_trans (Kp_below HB4.out) hk5)
  have HT5 := Aside0.mk ht5
  have HB5 := Aside0.mk ((below_weaken' HB4.out HWB.out).trans hb5)
  clear ht5 hb5 hk5 r1 HR
  go_wp2_with fail
  go_ret
  exact ⟨rfl, HT5.out, HB5.out, HK5.out⟩
end Go.Proofs.Ytkbcgahpekmlbaa.PPg

namespace Go.Proofs.Ytkbcgahpekmlbaa.PPg
open Go.RowKit Go.Proofs.YtkbcgahpekmlbaaW.PrintWords Go.Proofs.YtkbcgahpekmlbaaW.PrintLast Go.Proofs.YtkbcgahpekmlbaaW.PrintMore
set_option linter.unusedVariables false
set_option maxRecDepth 100000
theorem drop_L2 (a : List (List S41)) (i : Int) (h0 : 0 ≤ i) (h1 : i < a.length) : a.drop i.toNat = rd_L2 a i :: a.drop (i + 1).toNat := by
  rw [show (i + 1).toNat = i.toNat + 1 by omega]
  unfold rd_L2
  rw [List.getD_eq_getElem?_getD, List.getElem?_eq_getElem (by omega : i.toNat < a.length)]
  exact List.drop_eq_getElem_cons (by omega)
theorem drop_end' {α : Type} (a : List α) (i : Int) (h : ¬ i < a.length) : a.drop i.toNat = [] := List.drop_eq_nil_of_le (by omega)
def noneIn (l : List (List S41)) : Bool := l.any (fun s => s.isEmpty)
set_option maxHeartbeats 1000000 in
theorem Empty_c (w : World) (B g : Nat) (P : Int) (ev : List S65) (ac : List S30) (m : Int) (sets : List (List S41)) (ht : Tb w B g P ev ac m sets) :
    Calls Try.prog 19 #[.pointer (some ⟨g, 0, none⟩)] w fun e w' => e = .returned (.bool (noneIn sets)) ∧ w = w' := by
  obtain ⟨A, c, h4, hl, hC⟩ := Tb_sets ht
  have HC := Aside0.mk hC
  have hmx := hC.2.1
  clear ht hC
  go_enter Try.func19, Try.ntmps19
  go_wp2_with fail
  go_loop [10] (fun v10 => ∃ i : Int, v10 = .int .i64 i ∧ Aside0 (0 ≤ i ∧ i ≤ sets.length) ∧ Aside0 (noneIn (sets.drop i.toNat) = noneIn sets)) (fun v10 => sets.length - (intOf v10).toNat)
  case atStart => exact ⟨0, rfl, ⟨by omega⟩, ⟨rfl⟩⟩
  case round =>
    obtain ⟨i, rfl, HI, HR⟩ := hrel
    obtain ⟨i0, i1⟩ := HI.out
    clear HI
    by_cases ci : i < sets.length
    · obtain ⟨ad, A0, c0, ea, hcell, hc0, hk⟩ := at_L2 HC.out i i0 ci
      cases ea
      have DR := Aside0.mk (drop_L2 sets i i0 ci)
      have hk2 := hk.2.1
      clear hk
      generalize rd_L2 sets i = s at *
      by_cases hs : s = []
      · subst hs
        go_wp2_with fail
        go_ret
        refine ⟨ret_bool ?_, rfl⟩
        rw [← HR.out, DR.out]; rfl
      · have hs1 : ((s.length : Int) == 0) = false := by
          have : s.length ≠ 0 := fun e => hs (List.eq_nil_of_length_eq_zero e)
          simp; omega
        have HS := Aside0.mk hs
        clear hs
        go_wp2_with fail
        go_round
        case rel =>
          refine ⟨i + 1, rfl, ⟨by omega⟩, ⟨?_⟩⟩
          rw [← HR.out, DR.out]
          show _ = (s.isEmpty || noneIn (sets.drop (i + 1).toNat))
          rw [List.isEmpty_eq_false_iff.2 HS.out, Bool.false_or]
        case measure => simp [intOf]; omega
    · go_wp2_with fail
      go_ret
      refine ⟨ret_bool ?_, rfl⟩
      rw [← HR.out, drop_end' _ _ (by omega)]; rfl
/-- The sizes of the sets, added. -/
def total (f : List S41 → Int) : List (List S41) → Int
  | [] => 0
  | s :: l => f s + total f l
theorem total_snoc (f : List S41 → Int) (l : List (List S41)) (s : List S41) : total f (l ++ [s]) = total f l + f s := by
  induction l with
  | nil => simp [total]
  | cons a l ih => simp only [List.cons_append, total, ih]; omega
theorem take_L2 (a : List (List S41)) (i : Int) (h0 : 0 ≤ i) (h1 : i < a.length) : a.take (i + 1).toNat = a.take i.toNat ++ [rd_L2 a i] := by
  rw [show (i + 1).toNat = i.toNat + 1 by omega]
  unfold rd_L2
  rw [List.getD_eq_getElem?_getD, List.getElem?_eq_getElem (by omega : i.toNat < a.length), List.take_succ_eq_append_getElem (by omega)]; rfl
theorem total_bd (f : List S41 → Int) (l : List (List S41)) (h : ∀ s ∈ l, 0 ≤ f s ∧ f s ≤ 7200) : 0 ≤ total f l ∧ total f l ≤ 7200 * l.length := by
  induction l with
  | nil => simp [total]
  | cons a l ih =>
    have h1 := h a List.mem_cons_self
    have h2 := ih (fun s hs => h s (List.mem_cons_of_mem _ hs))
    simp only [total, List.length_cons]
    omega
theorem rd_L2_mem (a : List (List S41)) (i : Int) (h0 : 0 ≤ i) (h1 : i < a.length) : rd_L2 a i ∈ a := by
  unfold rd_L2
  rw [List.getD_eq_getElem?_getD, List.getElem?_eq_getElem (by omega : i.toNat < a.length)]
  exact List.getElem_mem _
set_option maxHeartbeats 1000000 in
theorem Count_c (K : Nat) (w : World) (B g : Nat) (P : Int) (ev : List S65) (ac : List S30) (m : Int) (sets : List (List S41)) (f : List S41 → Int) (ht : Tb w B g P ev ac m sets) (hl : sets.length ≤ 100000)
    (hf : ∀ s ∈ sets, residue_Count.f K P s = some (f s) ∧ 0 ≤ f s ∧ f s ≤ 7200) :
    Calls Try.prog 24 #[.pointer (some ⟨g, 0, none⟩)] w fun e w' => e = .returned (.int .i64 (total f sets)) ∧ Below w.heap.size w w' := by
  obtain ⟨A, c, h4, hlc, hC⟩ := Tb_sets ht
  have HT := Aside0.mk ht
  have HC := Aside0.mk hC
  have HF := Aside0.mk hf
  have HP := Aside0.mk (Tb_P ht)
  clear ht hC hf
  go_enter Try.func24, Try.ntmps24
  go_wp2_with fail
  clear h4
  go_loopw [3, 11] (fun v3 v11 wr => ∃ i : Int, v11 = .int .i64 i ∧ v3 = .int .i64 (total f (sets.take i.toNat)) ∧ Aside0 (0 ≤ i ∧ i ≤ sets.length) ∧ Aside0 (Below w.heap.size w wr)) (fun _ v11 _ => sets.length - (intOf v11).toNat)
  case atStart => exact ⟨0, rfl, rfl, ⟨by omega⟩, ⟨Below.refl _ _⟩⟩
  case round =>
    obtain ⟨i, rfl, rfl, HI, HB⟩ := hrel
    obtain ⟨i0, i1⟩ := HI.out
    clear HI
    by_cases ci : i < sets.length
    · obtain ⟨ad, A0, c0, ea, hcell, hc0, hk⟩ := at_L2 (Kd.C_below HC.out HB.out) i i0 ci
      cases ea
      obtain ⟨hf1, f0, f1⟩ := HF.out _ (rd_L2_mem sets i i0 ci)
      have TS := Aside0.mk (show total f (sets.take (i + 1).toNat) = total f (sets.take i.toNat) + f (rd_L2 sets i) by rw [take_L2 sets i i0 ci, total_snoc])
      obtain ⟨t0, t1⟩ := total_bd f (sets.take i.toNat) (fun s hs => (HF.out s (List.mem_of_mem_take hs)).2)
      rw [List.length_take] at t1
      have HK := Aside0.mk hk
      have HF1 := Aside0.mk hf1
      have hP := (HB.out.cell (World.block_lt_of_cell? w _ HP.out)).trans HP.out
      clear hk hf1
      generalize rd_L2 sets i = s at *
      generalize total f (sets.take i.toNat) = t at *
      generalize f s = fs at *
      go_wp2_with fail
      refine (residue_Count.calls K P A0 c0 s fs _ HK.out hc0 HF1.out).mono ?_
      rintro _ w2 ⟨rfl, hb⟩
      have HB2 := Aside0.mk (below_step HB.out hb)
      clear hb hcell hP
      go_wp2_with fail
      go_roundw
      case rel => exact ⟨i + 1, rfl, by rw [TS.out], ⟨by omega⟩, HB2⟩
      case measure => simp [intOf]; omega
    · go_wp2_with fail
      go_ret
      refine ⟨?_, HB.out⟩
      rw [List.take_of_length_le (by omega)]; rfl
end Go.Proofs.Ytkbcgahpekmlbaa.PPg

namespace Go.Proofs.Ytkbcgahpekmlbaa.PPg
open Go.RowKit Go.Proofs.YtkbcgahpekmlbaaW.PrintWords Go.Proofs.YtkbcgahpekmlbaaW.PrintLast Go.Proofs.YtkbcgahpekmlbaaW.PrintMore
set_option linter.unusedVariables false
abbrev Mx := Nat → Nat → Int → Bool
def upd (q : Mx) (i j : Nat) (p : Int → Bool) : Mx := fun a b => if a = i ∧ b = j then p else q a b
/-- The table's list of sets. -/
def tabl (n m : Nat) (q : Mx) : List (List S41) := (List.range (m * m)).map fun k => can n (q (k / m) (k % m))
theorem tabl_len (n m : Nat) (q : Mx) : (tabl n m q).length = m * m := by simp [tabl]
theorem ix_lt {m i j : Nat} (hi : i < m) (hj : j < m) : i * m + j < m * m := by
  have : (i + 1) * m ≤ m * m := Nat.mul_le_mul_right m hi
  rw [Nat.succ_mul] at this
  omega
theorem ix_div {m i j : Nat} (hj : j < m) : (i * m + j) / m = i := by
  rw [Nat.add_comm, Nat.mul_comm, Nat.add_mul_div_left _ _ (by omega), Nat.div_eq_of_lt hj]; omega
theorem ix_mod {m i j : Nat} (hj : j < m) : (i * m + j) % m = j := by
  rw [Nat.add_comm, Nat.mul_comm, Nat.add_mul_mod_self_left, Nat.mod_eq_of_lt hj]
theorem tabl_get {n m : Nat} (q : Mx) {i j : Nat} (hi : i < m) (hj : j < m) : (tabl n m q)[i * m + j]? = some (can n (q i j)) := by
  unfold tabl
  rw [List.getElem?_map, List.getElem?_range (ix_lt hi hj), Option.map_some, ix_div hj, ix_mod hj]
theorem tabl_rd {n m : Nat} (q : Mx) {i j : Nat} (hi : i < m) (hj : j < m) : rd_L2 (tabl n m q) ((i * m + j : Nat) : Int) = can n (q i j) := by
  unfold rd_L2
  rw [Int.toNat_natCast, List.getD_eq_getElem?_getD, tabl_get q hi hj]; rfl
theorem ix_inj {m i j a b : Nat} (hj : j < m) (hb : b < m) (h : i * m + j = a * m + b) : i = a ∧ j = b := by
  have h1 := congrArg (· / m) h
  have h2 := congrArg (· % m) h
  simp only [ix_div hj, ix_div hb, ix_mod hj, ix_mod hb] at h1 h2
  exact ⟨h1, h2⟩
theorem ix_form {m k : Nat} (hk : k < m * m) : ∃ i j, i < m ∧ j < m ∧ k = i * m + j := by
  have hm : 0 < m := by
    rcases Nat.eq_zero_or_pos m with h | h
    · subst h; omega
    · exact h
  exact ⟨k / m, k % m, Nat.div_lt_of_lt_mul hk, Nat.mod_lt _ hm, by have := Nat.div_add_mod k m; rw [Nat.mul_comm]; exact this.symm⟩
theorem tabl_ext {n m : Nat} {q : Mx} {l : List (List S41)} (hl : l.length = m * m) (h : ∀ i j, i < m → j < m → l[i * m + j]? = some (can n (q i j))) : l = tabl n m q := by
  apply List.ext_getElem?
  intro k
  by_cases hk : k < m * m
  · obtain ⟨i, j, hi, hj, rfl⟩ := ix_form hk
    rw [h i j hi hj, tabl_get q hi hj]
  · rw [List.getElem?_eq_none (by omega), List.getElem?_eq_none (by rw [tabl_len]; omega)]
theorem tabl_set {n m : Nat} (q : Mx) {i j : Nat} (p : Int → Bool) (hi : i < m) (hj : j < m) : (tabl n m q).set (i * m + j) (can n p) = tabl n m (upd q i j p) := by
  refine tabl_ext (by rw [List.length_set, tabl_len]) (fun a b ha hb => ?_)
  rw [List.getElem?_set]
  unfold upd
  by_cases h : i * m + j = a * m + b
  · obtain ⟨rfl, rfl⟩ := ix_inj hj hb h
    rw [if_pos rfl, if_pos (by rw [tabl_len]; exact ix_lt hi hj), if_pos ⟨rfl, rfl⟩]
  · rw [if_neg h, tabl_get q ha hb, if_neg (fun e => h (by rw [e.1, e.2]))]
/-- The same residues. -/
def same (n m : Nat) (q q' : Mx) : Prop := ∀ i j, i < m → j < m → ∀ x : Int, 0 ≤ x → x < n → q i j x = q' i j x
theorem tabl_congr {n m : Nat} {q q' : Mx} (h : same n m q q') : tabl n m q = tabl n m q' :=
  tabl_ext (tabl_len n m q) fun i j hi hj => by rw [tabl_get q hi hj, can_congr (h i j hi hj)]
/-- The sums of the residues of two sets. -/
def sumB (n : Nat) (a b : Int → Bool) (x : Int) : Bool := (List.range n).any fun d => a d && b ((x - d) % n)
theorem sumB_iff {n : Nat} {a b : Int → Bool} {x : Int} : sumB n a b x = true ↔ ∃ d : Int, 0 ≤ d ∧ d < n ∧ a d = true ∧ b ((x - d) % n) = true := by
  unfold sumB
  rw [List.any_eq_true]
  constructor
  · rintro ⟨d, hd, h⟩
    rw [List.mem_range] at hd
    rw [Bool.and_eq_true] at h
    exact ⟨d, by omega, by omega, h.1, h.2⟩
  · rintro ⟨d, d0, d1, h1, h2⟩
    refine ⟨d.toNat, by rw [List.mem_range]; omega, ?_⟩
    rw [Bool.and_eq_true, show ((d.toNat : Nat) : Int) = d by omega]
    exact ⟨h1, h2⟩
theorem sumB_congr {n : Nat} (hn : 1 ≤ n) {a a' b b' : Int → Bool} (ha : ∀ x : Int, 0 ≤ x → x < n → a x = a' x) (hb : ∀ x : Int, 0 ≤ x → x < n → b x = b' x) (x : Int) : sumB n a b x = sumB n a' b' x := by
  rw [Bool.eq_iff_iff, sumB_iff, sumB_iff]
  constructor
  · rintro ⟨d, d0, d1, h1, h2⟩
    obtain ⟨z0, z1⟩ := em_bound (x - d) (show (0 : Int) < n by omega)
    exact ⟨d, d0, d1, by rw [← ha d d0 d1]; exact h1, by rw [← hb _ z0 z1]; exact h2⟩
  · rintro ⟨d, d0, d1, h1, h2⟩
    obtain ⟨z0, z1⟩ := em_bound (x - d) (show (0 : Int) < n by omega)
    exact ⟨d, d0, d1, by rw [ha d d0 d1]; exact h1, by rw [hb _ z0 z1]; exact h2⟩
theorem sm_sumB {n : Nat} (hn : 1 ≤ n) (a b : Int → Bool) (x : Int) : sm n (can n a) (can n b) x = sumB n a b x := by
  rw [Bool.eq_iff_iff, sm_mem hn (can_vldF n a) (can_vldF n b), sumB_iff]
  constructor
  · rintro ⟨d, d0, d1, h1, h2⟩
    obtain ⟨z0, z1⟩ := em_bound (x - d) (show (0 : Int) < n by omega)
    rw [can_in _ d0 d1] at h1
    rw [can_in _ z0 z1] at h2
    exact ⟨d, d0, d1, h1, h2⟩
  · rintro ⟨d, d0, d1, h1, h2⟩
    obtain ⟨z0, z1⟩ := em_bound (x - d) (show (0 : Int) < n by omega)
    exact ⟨d, d0, d1, by rw [can_in _ d0 d1]; exact h1, by rw [can_in _ z0 z1]; exact h2⟩
/-- The size of all sets. -/
def tot (n m : Nat) (q : Mx) : Int := total (fun s => cnt (mem s) n) (tabl n m q)
theorem cnt_can {n : Nat} (p : Int → Bool) : cnt (mem (can n p)) n = cnt p n := cnt_congr fun x h0 h1 => can_in p h0 h1
theorem total_set (f : List S41 → Int) : ∀ (l : List (List S41)) (k : Nat) (x y : List S41), l[k]? = some y → total f (l.set k x) = total f l - f y + f x
  | [], k, x, y, h => by simp at h
  | a :: l, 0, x, y, h => by
    simp only [List.getElem?_cons_zero, Option.some.injEq] at h
    subst h
    simp only [List.set_cons_zero, total]; omega
  | a :: l, k + 1, x, y, h => by
    simp only [List.getElem?_cons_succ] at h
    simp only [List.set_cons_succ, total, total_set f l k x y h]; omega
theorem tot_upd {n m : Nat} (q : Mx) {i j : Nat} (p : Int → Bool) (hi : i < m) (hj : j < m) : tot n m (upd q i j p) = tot n m q - cnt (q i j) n + cnt p n := by
  unfold tot
  rw [← tabl_set q p hi hj, total_set _ _ _ _ _ (tabl_get q hi hj), cnt_can, cnt_can]
theorem tot_bd {n m : Nat} (hn : n ≤ 7200) (q : Mx) : 0 ≤ tot n m q := (total_bd _ _ fun s _ => by have := cnt_bounds (mem s) n; omega).1
theorem cnt_le {p q : Int → Bool} : ∀ {n : Nat}, (∀ x : Int, 0 ≤ x → x < n → p x = true → q x = true) → cnt p n ≤ cnt q n
  | 0, _ => Int.le_refl _
  | n + 1, h => by
    have ih := cnt_le (n := n) (fun x h0 h1 => h x h0 (by omega))
    simp only [cnt]
    have hh := h n (by omega) (by omega)
    cases hp : p n with
    | false => have := b2i_b (q n); simp only [b2i] at *; omega
    | true => rw [hh hp]; simp only [b2i]; omega
theorem cnt_eq {p q : Int → Bool} : ∀ {n : Nat}, (∀ x : Int, 0 ≤ x → x < n → p x = true → q x = true) → cnt q n ≤ cnt p n → ∀ x : Int, 0 ≤ x → x < n → p x = q x
  | 0, _, _, x, h0, h1 => by omega
  | n + 1, h, hc, x, h0, h1 => by
    have hl := cnt_le (n := n) (fun x h0 h1 => h x h0 (by omega))
    have hh := h n (by omega) (by omega)
    simp only [cnt] at hc
    have hn : p n = q n ∧ cnt q n ≤ cnt p n := by
      cases hp : p n with
      | false =>
        cases hq : q n with
        | false => rw [hp, hq] at hc; exact ⟨rfl, by omega⟩
        | true => rw [hp, hq] at hc; simp only [b2i] at hc; omega
      | true => rw [hp, hh hp] at hc; exact ⟨(hh hp).symm, by omega⟩
    by_cases hx : x = n
    · subst hx; exact hn.1
    · exact cnt_eq (n := n) (fun x h0 h1 => h x h0 (by omega)) hn.2 x h0 (by omega)
/-- The step of a join: the set of i and k is cut by the way over j; nothing where one of the ways is whole. -/
def jp (n : Nat) (q : Mx) (i j k : Nat) : Int → Bool := fun x => q i k x && sumB n (q i j) (q j k) x
def jw (n : Nat) (q : Mx) (i j k : Nat) : Bool := wholeB n (can n (q i j)) || wholeB n (can n (q j k))
/-- The step leaves the table as it is. -/
def still (n : Nat) (q : Mx) (i j k : Nat) : Prop := jw n q i j k = true ∨ ∀ x : Int, 0 ≤ x → x < n → jp n q i j k x = q i k x
theorem jp_le {n : Nat} {q : Mx} {i j k : Nat} (x : Int) (h : jp n q i j k x = true) : q i k x = true := (Bool.and_eq_true _ _ ▸ h : _ ∧ _).1
end Go.Proofs.Ytkbcgahpekmlbaa.PPg

namespace Go.Proofs.Ytkbcgahpekmlbaa.PPg
open Go.RowKit Go.Proofs.YtkbcgahpekmlbaaW.PrintWords Go.Proofs.YtkbcgahpekmlbaaW.PrintLast Go.Proofs.YtkbcgahpekmlbaaW.PrintMore
set_option linter.unusedVariables false
theorem mul_bd {i m : Nat} (hi : i < m) (hm : m ≤ 48) : (i : Int) * (m : Int) = ((i * m : Nat) : Int) ∧ i * m ≤ 2304 := by
  refine ⟨by simp, ?_⟩
  have : i * m ≤ 48 * 48 := Nat.mul_le_mul (by omega) hm
  omega
theorem ix_ok {n m i j : Nat} (q : Mx) (hi : i < m) (hj : j < m) (hm : m ≤ 48) : Ix m i j ((i * m + j : Nat) : Int) (tabl n m q).length := by
  obtain ⟨h1, h2⟩ := mul_bd hi hm
  have h3 := ix_lt hi hj
  rw [tabl_len]
  refine ⟨by rw [h1]; omega, by rw [h1]; omega, by rw [h1]; omega, by omega, by omega, by omega, by omega⟩
theorem can_low {n : Nat} (hn : n ≤ 7200) (p : Int → Bool) : Low (can n p) := fun x hx => by
  obtain ⟨h1, h2, h3, h4⟩ := vldF_mem _ (can_vldF n p) x hx
  exact ⟨h2, by omega, by omega, by omega⟩
theorem count_can {n : Nat} (h1 : 1 ≤ n) (h2 : n ≤ 7200) (p : Int → Bool) : Ev (fun k => residue_Count.f k n (can n p)) (cnt p n) := by
  have h := Count_ev n h1 h2 (can n p) (fit_le (vld_fit (can_vld p h1 h2)))
  rwa [if_pos (can_vld p h1 h2), cnt_can] at h
theorem inter_can {n : Nat} (h1 : 1 ≤ n) (h2 : n ≤ 7200) (p r : Int → Bool) : Ev (fun k => residue_Intersect.f k n (can n p) (can n r)) (can n fun x => p x && r x, 0) := by
  have h := Intersect_ev n h1 h2 (can n p) (can n r) (fit_le (vld_fit (can_vld p h1 h2))) (fit_le (vld_fit (can_vld r h1 h2)))
  rw [if_pos ⟨can_vld p h1 h2, can_vld r h1 h2⟩] at h
  have e : (can n fun x => mem (can n p) x && mem (can n r) x) = can n fun x => p x && r x := can_congr fun x x0 x1 => by rw [can_in _ x0 x1, can_in _ x0 x1]
  rwa [e] at h
theorem sum_can {n : Nat} (h1 : 1 ≤ n) (h2 : n ≤ 7200) (p r : Int → Bool) : Ev (fun k => residue_Sum.f k n (can n p) (can n r)) (can n (sumB n p r), 0) := by
  have h := Sum_ev n h1 h2 (can n p) (can n r) (fit_le (vld_fit (can_vld p h1 h2))) (fit_le (vld_fit (can_vld r h1 h2)))
  rw [if_pos ⟨can_vld p h1 h2, can_vld r h1 h2⟩] at h
  have e : (can n fun x => sm n (can n p) (can n r) x) = can n (sumB n p r) := can_congr fun x _ _ => sm_sumB h1 p r x
  rwa [e] at h
theorem cut_c {n m i j : Nat} (w : World) (B g : Nat) (ev : List S65) (ac : List S30) (q : Mx) (p : Int → Bool) (A : Option Addr) (c : Nat) (h1 : 1 ≤ n) (h2 : n ≤ 7200) (hm : m ≤ 48) (hi : i < m) (hj : j < m) (ht : Tb w B g n ev ac m (tabl n m q)) (hs : VS w (.slice A (can n p).length c) (can n p)) :
    Calls Try.prog 64 #[.pointer (some ⟨g, 0, none⟩), .int .i64 i, .int .i64 j, .slice A (can n p).length c] w fun e w' =>
      e = .returned (.bool (decide (cnt (fun x => q i j x && p x) n < cnt (q i j) n))) ∧ Tb w' B g n ev ac m (tabl n m (upd q i j fun x => q i j x && p x)) ∧ Below B w w' ∧ Kp w w' := by
  obtain ⟨k1, e1⟩ := inter_can h1 h2 (q i j) p
  obtain ⟨k2, e2⟩ := count_can h1 h2 (fun x => q i j x && p x)
  obtain ⟨k3, e3⟩ := count_can h1 h2 (q i j)
  obtain ⟨a1, a2, a3, a4, a5, a6, a7⟩ := ix_ok (n := n) q hi hj hm
  have := cut_w (k1 + k2 + k3) w B g n ev ac m (tabl n m q) i j _ A c (can n p) (can n fun x => q i j x && p x) 0 _ _ ht a1 a2 a3 a4 a5 a6 a7 hs (by rw [tabl_rd q hi hj]; exact e1 _ (by omega)) (e2 _ (by omega)) (by rw [tabl_rd q hi hj]; exact e3 _ (by omega))
  rwa [Int.toNat_natCast, tabl_set q _ hi hj] at this
/-- A join that leaves the table as it is. -/
theorem join_still {n m i j k : Nat} (w : World) (B g : Nat) (ev : List S65) (ac : List S30) (q : Mx) (h1 : 1 ≤ n) (h2 : n ≤ 7200) (hm : m ≤ 48) (hi : i < m) (hj : j < m) (hk : k < m) (ht : Tb w B g n ev ac m (tabl n m q)) (hs : still n q i j k) :
    Calls Try.prog 38 #[.pointer (some ⟨g, 0, none⟩), .int .i64 i, .int .i64 j, .int .i64 k] w fun e w' => e = .returned (.bool false) ∧ Tb w' B g n ev ac m (tabl n m q) ∧ Below B w w' ∧ Kp w w' := by
  have aij := ix_ok (n := n) q hi hj hm
  have ajk := ix_ok (n := n) q hj hk hm
  have aik := ix_ok (n := n) q hi hk hm
  have hB : B ≤ w.heap.size := by have := Tb_ge ht; have := Tb_lt ht; omega
  by_cases hw : jw n q i j k = true
  · refine (join_no w B g n ev ac m (tabl n m q) i j k _ _ ht aij ajk (by rw [tabl_rd q hi hj]; exact can_low h2 _) (by rw [tabl_rd q hj hk]; exact can_low h2 _) (by rw [tabl_rd q hi hj, tabl_rd q hj hk]; exact hw)).mono ?_
    rintro e w' ⟨rfl, hb⟩
    exact ⟨rfl, Tb_below ht hb, hb.mono hB, Kp_below hb⟩
  · have hq : ∀ x : Int, 0 ≤ x → x < n → jp n q i j k x = q i k x := hs.resolve_left hw
    have hw' : wholeB n (can n (q i j)) = false ∧ wholeB n (can n (q j k)) = false := by
      have : jw n q i j k = false := by simpa using hw
      unfold jw at this
      simpa using this
    obtain ⟨k1, e1⟩ := sum_can h1 h2 (q i j) (q j k)
    obtain ⟨k2, e2⟩ := inter_can h1 h2 (q i k) (sumB n (q i j) (q j k))
    obtain ⟨k3, e3⟩ := count_can h1 h2 (jp n q i j k)
    obtain ⟨k4, e4⟩ := count_can h1 h2 (q i k)
    refine (join_yes (k1 + k2 + k3 + k4) w B g n ev ac m (tabl n m q) i j k _ _ _ (can n (sumB n (q i j) (q j k))) (can n (jp n q i j k)) 0 0 _ _ ht aij ajk aik (by rw [tabl_rd q hi hj]; exact can_low h2 _) (by rw [tabl_rd q hj hk]; exact can_low h2 _) (by rw [tabl_rd q hi hj]; exact hw'.1) (by rw [tabl_rd q hj hk]; exact hw'.2)
      (by rw [tabl_rd q hi hj, tabl_rd q hj hk]; exact e1 _ (by omega)) (by rw [tabl_rd q hi hk]; exact e2 _ (by omega)) (e3 _ (by omega)) (by rw [tabl_rd q hi hk]; exact e4 _ (by omega))).mono ?_
    rintro e w' ⟨rfl, ht', hb, hkp⟩
    rw [Int.toNat_natCast, tabl_set q _ hi hk] at ht'
    have hc : cnt (jp n q i j k) n = cnt (q i k) n := cnt_congr hq
    have es : tabl n m (upd q i k (jp n q i j k)) = tabl n m q := tabl_congr fun a b ha hb x x0 x1 => by
      unfold upd
      by_cases h : a = i ∧ b = k
      · obtain ⟨rfl, rfl⟩ := h
        rw [if_pos ⟨rfl, rfl⟩, hq x x0 x1]
      · rw [if_neg h]
    rw [es] at ht'
    exact ⟨by rw [hc, decide_eq_false (by omega)], ht', hb, hkp⟩
/-- A join that makes the set of i and k smaller. -/
theorem join_less {n m i j k : Nat} (w : World) (B g : Nat) (ev : List S65) (ac : List S30) (q : Mx) (h1 : 1 ≤ n) (h2 : n ≤ 7200) (hm : m ≤ 48) (hi : i < m) (hj : j < m) (hk : k < m) (ht : Tb w B g n ev ac m (tabl n m q)) (hs : ¬ still n q i j k) :
    Calls Try.prog 38 #[.pointer (some ⟨g, 0, none⟩), .int .i64 i, .int .i64 j, .int .i64 k] w fun e w' => e = .returned (.bool true) ∧ Tb w' B g n ev ac m (tabl n m (upd q i k (jp n q i j k))) ∧ Below B w w' ∧ Kp w w' := by
  have aij := ix_ok (n := n) q hi hj hm
  have ajk := ix_ok (n := n) q hj hk hm
  have aik := ix_ok (n := n) q hi hk hm
  have hw : ¬ jw n q i j k = true := fun h => hs (.inl h)
  have hw' : wholeB n (can n (q i j)) = false ∧ wholeB n (can n (q j k)) = false := by
    have : jw n q i j k = false := by simpa using hw
    unfold jw at this
    simpa using this
  obtain ⟨k1, e1⟩ := sum_can h1 h2 (q i j) (q j k)
  obtain ⟨k2, e2⟩ := inter_can h1 h2 (q i k) (sumB n (q i j) (q j k))
  obtain ⟨k3, e3⟩ := count_can h1 h2 (jp n q i j k)
  obtain ⟨k4, e4⟩ := count_can h1 h2 (q i k)
  refine (join_yes (k1 + k2 + k3 + k4) w B g n ev ac m (tabl n m q) i j k _ _ _ (can n (sumB n (q i j) (q j k))) (can n (jp n q i j k)) 0 0 _ _ ht aij ajk aik (by rw [tabl_rd q hi hj]; exact can_low h2 _) (by rw [tabl_rd q hj hk]; exact can_low h2 _) (by rw [tabl_rd q hi hj]; exact hw'.1) (by rw [tabl_rd q hj hk]; exact hw'.2)
    (by rw [tabl_rd q hi hj, tabl_rd q hj hk]; exact e1 _ (by omega)) (by rw [tabl_rd q hi hk]; exact e2 _ (by omega)) (e3 _ (by omega)) (by rw [tabl_rd q hi hk]; exact e4 _ (by omega))).mono ?_
  rintro e w' ⟨rfl, ht', hb, hkp⟩
  rw [Int.toNat_natCast, tabl_set q _ hi hk] at ht'
  have hc : cnt (jp n q i j k) n < cnt (q i k) n := by
    by_cases h : cnt (jp n q i j k) n < cnt (q i k) n
    · exact h
    · exact absurd (.inr (cnt_eq (fun x _ _ hx => jp_le x hx) (by omega))) hs
  exact ⟨by rw [decide_eq_true hc], ht', hb, hkp⟩
theorem tot_less {n m i j k : Nat} (q : Mx) (hi : i < m) (hk : k < m) (hs : ¬ still n q i j k) : tot n m (upd q i k (jp n q i j k)) < tot n m q := by
  rw [tot_upd q _ hi hk]
  have hc : cnt (jp n q i j k) n < cnt (q i k) n := by
    by_cases h : cnt (jp n q i j k) n < cnt (q i k) n
    · exact h
    · exact absurd (.inr (cnt_eq (fun x _ _ hx => jp_le x hx) (by omega))) hs
  omega
end Go.Proofs.Ytkbcgahpekmlbaa.PPg

namespace Go.Proofs.Ytkbcgahpekmlbaa.PPg
open Go.RowKit Go.Proofs.YtkbcgahpekmlbaaW.PrintWords Go.Proofs.YtkbcgahpekmlbaaW.PrintLast Go.Proofs.YtkbcgahpekmlbaaW.PrintMore
set_option linter.unusedVariables false
set_option maxRecDepth 100000
theorem in_c (w : World) (a lo hi : Int) (b : Bool) (h : decide (lo ≤ a ∧ a ≤ hi) = b) :
    Calls Try.prog 60 #[.int .i64 a, .int .i64 lo, .int .i64 hi] w fun e w' => e = .returned (.bool b) ∧ w = w' := by
  subst h
  by_cases c : lo ≤ a
  · have hd : decide (lo ≤ a ∧ a ≤ hi) = decide (a ≤ hi) := by rw [Bool.eq_iff_iff]; simp; omega
    rw [hd]
    clear hd
    go_enter Try.func60, Try.ntmps60
    go_wp2_with fail
    go_ret
    exact ⟨rfl, rfl⟩
  · have hd : decide (lo ≤ a ∧ a ≤ hi) = false := by simp; omega
    rw [hd]
    clear hd
    go_enter Try.func60, Try.ntmps60
    go_wp2_with fail
    go_ret
    exact ⟨rfl, rfl⟩
/-- An activity is valid in a network with the last event 'last' and the period P. -/
def okA (last P : Int) (x : S30) : Bool := decide (0 ≤ x.f1 ∧ x.f1 ≤ last) && decide (0 ≤ x.f2 ∧ x.f2 ≤ last) && decide (x.f1 ≠ x.f2) && decide (-65536 ≤ x.f3) && decide (x.f3 ≤ x.f4) && decide (x.f4 ≤ 65536) && decide (x.f4 - x.f3 < P) && decide (0 ≤ x.f5 ∧ x.f5 ≤ 1048576)
theorem okA_iff {last P : Int} {x : S30} : okA last P x = true ↔ (0 ≤ x.f1 ∧ x.f1 ≤ last) ∧ (0 ≤ x.f2 ∧ x.f2 ≤ last) ∧ x.f1 ≠ x.f2 ∧ -65536 ≤ x.f3 ∧ x.f3 ≤ x.f4 ∧ x.f4 ≤ 65536 ∧ x.f4 - x.f3 < P ∧ (0 ≤ x.f5 ∧ x.f5 ≤ 1048576) := by
  unfold okA; simp only [Bool.and_eq_true, decide_eq_true_eq]; constructor
  · rintro ⟨⟨⟨⟨⟨⟨⟨h1, h2⟩, h3⟩, h4⟩, h5⟩, h6⟩, h7⟩, h8⟩; exact ⟨h1, h2, h3, h4, h5, h6, h7, h8⟩
  · rintro ⟨h1, h2, h3, h4, h5, h6, h7, h8⟩; exact ⟨⟨⟨⟨⟨⟨⟨h1, h2⟩, h3⟩, h4⟩, h5⟩, h6⟩, h7⟩, h8⟩
set_option maxHeartbeats 2000000 in
theorem Check1_c (w : World) (x : S30) (bl bn : Nat) (last P : Int) (hl : w.cell? ⟨bl, 0, none⟩ = some (.int .i64 last)) (hP : w.cell? ⟨bn, 0, none⟩ = some (.int .i64 P)) :
    Calls Try.prog 62 #[.agg #[.int .i64 x.f0, .int .i64 x.f1, .int .i64 x.f2, .int .i64 x.f3, .int .i64 x.f4, .int .i64 x.f5], .pointer (some ⟨bl, 0, none⟩), .pointer (some ⟨bn, 0, none⟩)] w fun e w' => e = .returned (.bool (!okA last P x)) ∧ Below w.heap.size w w' := by
  have l1 := World.block_lt_of_cell? w _ hl
  have l2 := World.block_lt_of_cell? w _ hP
  simp only at l1 l2
  have HO := Aside0.mk (okA_iff (last := last) (P := P) (x := x))
  generalize okA last P x = ok at *
  obtain ⟨x0, x1, x2, x3, x4, x5⟩ := x
  simp only at *
  by_cases c0 : 0 ≤ x1 ∧ x1 ≤ last
  · by_cases c1 : 0 ≤ x2 ∧ x2 ≤ last
    · by_cases c2 : x1 ≠ x2
      · by_cases c3 : -65536 ≤ x3
        · by_cases c4 : x3 ≤ x4
          · by_cases c5 : x4 ≤ 65536
            · by_cases c6 : x4 - x3 < P
              · by_cases c7 : 0 ≤ x5 ∧ x5 ≤ 1048576
                · have hk : ok = true := HO.out.2 ⟨c0, c1, c2, c3, c4, c5, c6, c7⟩
                  have D0 := Aside0.mk (show decide (0 ≤ x1 ∧ x1 ≤ last) = true by simp; omega)
                  have D1 := Aside0.mk (show decide (0 ≤ x2 ∧ x2 ≤ last) = true by simp; omega)
                  have D7 := Aside0.mk (show decide (0 ≤ x5 ∧ x5 ≤ 1048576) = true by simp; omega)
                  have e2 : (x1 == x2) = false := by simp; omega
                  have b3 : decide (x3 < -65536) = false := by simp; omega
                  have b4 : decide (x4 < x3) = false := by simp; omega
                  have b5 : decide (65536 < x4) = false := by simp; omega
                  have b6 : decide (P ≤ x4 - x3) = false := by simp; omega
                  subst hk
                  clear HO c0 c1 c2 c7
                  go_enter Try.func62, Try.ntmps62
                  go_wp2_with fail
                  refine (in_c _ x1 0 last _ D0.out).mono ?_
                  rintro _ _ ⟨rfl, rfl⟩
                  go_wp2_with fail
                  refine (in_c _ x2 0 last _ D1.out).mono ?_
                  rintro _ _ ⟨rfl, rfl⟩
                  go_wp2_with fail
                  refine (in_c _ x5 0 1048576 _ D7.out).mono ?_
                  rintro _ _ ⟨rfl, rfl⟩
                  go_wp2_with fail
                  go_ret
                  exact ⟨rfl, (Below.refl _ _).alloc (Nat.le_refl _) _⟩
                · have hk : ok = false := by
                    cases h : ok with
                    | false => rfl
                    | true => exact absurd ((HO.out.1 h).2.2.2.2.2.2.2) c7
                  have D0 := Aside0.mk (show decide (0 ≤ x1 ∧ x1 ≤ last) = true by simp; omega)
                  have D1 := Aside0.mk (show decide (0 ≤ x2 ∧ x2 ≤ last) = true by simp; omega)
                  have D7 := Aside0.mk (show decide (0 ≤ x5 ∧ x5 ≤ 1048576) = false by simp; omega)
                  have e2 : (x1 == x2) = false := by simp; omega
                  subst hk
                  clear HO c0 c1 c2 c7
                  go_enter Try.func62, Try.ntmps62
                  go_wp2_with fail
                  refine (in_c _ x1 0 last _ D0.out).mono ?_
                  rintro _ _ ⟨rfl, rfl⟩
                  go_wp2_with fail
                  refine (in_c _ x2 0 last _ D1.out).mono ?_
                  rintro _ _ ⟨rfl, rfl⟩
                  go_wp2_with fail
                  refine (in_c _ x5 0 1048576 _ D7.out).mono ?_
                  rintro _ _ ⟨rfl, rfl⟩
                  go_wp2_with fail
                  go_ret
                  exact ⟨rfl, (Below.refl _ _).alloc (Nat.le_refl _) _⟩
              · have hk : ok = false := by
                  cases h : ok with
                  | false => rfl
                  | true => exact absurd ((HO.out.1 h).2.2.2.2.2.2.1) c6
                have D0 := Aside0.mk (show decide (0 ≤ x1 ∧ x1 ≤ last) = true by simp; omega)
                have D1 := Aside0.mk (show decide (0 ≤ x2 ∧ x2 ≤ last) = true by simp; omega)
                have e2 : (x1 == x2) = false := by simp; omega
                subst hk
                clear HO c0 c1 c2
                go_enter Try.func62, Try.ntmps62
                go_wp2_with fail
                refine (in_c _ x1 0 last _ D0.out).mono ?_
                rintro _ _ ⟨rfl, rfl⟩
                go_wp2_with fail
                refine (in_c _ x2 0 last _ D1.out).mono ?_
                rintro _ _ ⟨rfl, rfl⟩
                go_wp2_with fail
                go_ret
                exact ⟨rfl, (Below.refl _ _).alloc (Nat.le_refl _) _⟩
            · have hk : ok = false := by
                cases h : ok with
                | false => rfl
                | true => exact absurd ((HO.out.1 h).2.2.2.2.2.1) c5
              have D0 := Aside0.mk (show decide (0 ≤ x1 ∧ x1 ≤ last) = true by simp; omega)
              have D1 := Aside0.mk (show decide (0 ≤ x2 ∧ x2 ≤ last) = true by simp; omega)
              have e2 : (x1 == x2) = false := by simp; omega
              subst hk
              clear HO c0 c1 c2
              go_enter Try.func62, Try.ntmps62
              go_wp2_with fail
              refine (in_c _ x1 0 last _ D0.out).mono ?_
              rintro _ _ ⟨rfl, rfl⟩
              go_wp2_with fail
              refine (in_c _ x2 0 last _ D1.out).mono ?_
              rintro _ _ ⟨rfl, rfl⟩
              go_wp2_with fail
              go_ret
              exact ⟨rfl, (Below.refl _ _).alloc (Nat.le_refl _) _⟩
          · have hk : ok = false := by
              cases h : ok with
              | false => rfl
              | true => exact absurd ((HO.out.1 h).2.2.2.2.1) c4
            have D0 := Aside0.mk (show decide (0 ≤ x1 ∧ x1 ≤ last) = true by simp; omega)
            have D1 := Aside0.mk (show decide (0 ≤ x2 ∧ x2 ≤ last) = true by simp; omega)
            have e2 : (x1 == x2) = false := by simp; omega
            subst hk
            clear HO c0 c1 c2
            go_enter Try.func62, Try.ntmps62
            go_wp2_with fail
            refine (in_c _ x1 0 last _ D0.out).mono ?_
            rintro _ _ ⟨rfl, rfl⟩
            go_wp2_with fail
            refine (in_c _ x2 0 last _ D1.out).mono ?_
            rintro _ _ ⟨rfl, rfl⟩
            go_wp2_with fail
            go_ret
            exact ⟨rfl, (Below.refl _ _).alloc (Nat.le_refl _) _⟩
        · have hk : ok = false := by
            cases h : ok with
            | false => rfl
            | true => exact absurd ((HO.out.1 h).2.2.2.1) c3
          have D0 := Aside0.mk (show decide (0 ≤ x1 ∧ x1 ≤ last) = true by simp; omega)
          have D1 := Aside0.mk (show decide (0 ≤ x2 ∧ x2 ≤ last) = true by simp; omega)
          have e2 : (x1 == x2) = false := by simp; omega
          subst hk
          clear HO c0 c1 c2
          go_enter Try.func62, Try.ntmps62
          go_wp2_with fail
          refine (in_c _ x1 0 last _ D0.out).mono ?_
          rintro _ _ ⟨rfl, rfl⟩
          go_wp2_with fail
          refine (in_c _ x2 0 last _ D1.out).mono ?_
          rintro _ _ ⟨rfl, rfl⟩
          go_wp2_with fail
          go_ret
          exact ⟨rfl, (Below.refl _ _).alloc (Nat.le_refl _) _⟩
      · have hk : ok = false := by
          cases h : ok with
          | false => rfl
          | true => exact absurd ((HO.out.1 h).2.2.1) c2
        have D0 := Aside0.mk (show decide (0 ≤ x1 ∧ x1 ≤ last) = true by simp; omega)
        have D1 := Aside0.mk (show decide (0 ≤ x2 ∧ x2 ≤ last) = true by simp; omega)
        have e2 : (x1 == x2) = true := by simp; omega
        subst hk
        clear HO c0 c1 c2
        go_enter Try.func62, Try.ntmps62
        go_wp2_with fail
        refine (in_c _ x1 0 last _ D0.out).mono ?_
        rintro _ _ ⟨rfl, rfl⟩
        go_wp2_with fail
        refine (in_c _ x2 0 last _ D1.out).mono ?_
        rintro _ _ ⟨rfl, rfl⟩
        go_wp2_with fail
        go_ret
        exact ⟨rfl, (Below.refl _ _).alloc (Nat.le_refl _) _⟩
    · have hk : ok = false := by
        cases h : ok with
        | false => rfl
        | true => exact absurd ((HO.out.1 h).2.1) c1
      have D0 := Aside0.mk (show decide (0 ≤ x1 ∧ x1 ≤ last) = true by simp; omega)
      have D1 := Aside0.mk (show decide (0 ≤ x2 ∧ x2 ≤ last) = false by simp; omega)
      subst hk
      clear HO c0 c1
      go_enter Try.func62, Try.ntmps62
      go_wp2_with fail
      refine (in_c _ x1 0 last _ D0.out).mono ?_
      rintro _ _ ⟨rfl, rfl⟩
      go_wp2_with fail
      refine (in_c _ x2 0 last _ D1.out).mono ?_
      rintro _ _ ⟨rfl, rfl⟩
      go_wp2_with fail
      go_ret
      exact ⟨rfl, (Below.refl _ _).alloc (Nat.le_refl _) _⟩
  · have hk : ok = false := by
      cases h : ok with
      | false => rfl
      | true => exact absurd ((HO.out.1 h).1) c0
    have D0 := Aside0.mk (show decide (0 ≤ x1 ∧ x1 ≤ last) = false by simp; omega)
    subst hk
    clear HO c0
    go_enter Try.func62, Try.ntmps62
    go_wp2_with fail
    refine (in_c _ x1 0 last _ D0.out).mono ?_
    rintro _ _ ⟨rfl, rfl⟩
    go_wp2_with fail
    go_ret
    exact ⟨rfl, (Below.refl _ _).alloc (Nat.le_refl _) _⟩
theorem drop_30 (a : List S30) (i : Int) (h0 : 0 ≤ i) (h1 : i < a.length) : a.drop i.toNat = rd_T30 a i :: a.drop (i + 1).toNat := by
  rw [show (i + 1).toNat = i.toNat + 1 by omega]
  unfold rd_T30
  rw [List.getD_eq_getElem?_getD, List.getElem?_eq_getElem (by omega : i.toNat < a.length)]
  exact List.drop_eq_getElem_cons (by omega)
def badA (last P : Int) (a : List S30) : Bool := a.any (fun x => !okA last P x)
set_option maxHeartbeats 1000000 in
theorem IndexA_c (w : World) (A : Option Addr) (c : Nat) (a : List S30) (ha : Kd.C k30 w A a.length a) (bl bn : Nat) (last P : Int) (hl : w.cell? ⟨bl, 0, none⟩ = some (.int .i64 last)) (hP : w.cell? ⟨bn, 0, none⟩ = some (.int .i64 P)) :
    Calls Try.prog 74 #[.slice A a.length c, .func (.func 62) #[] #[.pointer (some ⟨bl, 0, none⟩), .pointer (some ⟨bn, 0, none⟩)]] w fun e w' => (∃ r : Int, e = .returned (.int .i64 r) ∧ decide (0 ≤ r) = badA last P a) ∧ Below w.heap.size w w' := by
  have HA := Aside0.mk ha
  have LA := ha.2.1
  have HL := Aside0.mk hl
  have HP := Aside0.mk hP
  clear ha hl hP
  go_enter Try.func74, Try.ntmps74
  go_wp2_with fail
  go_loopw [8] (fun v8 wr => ∃ (i : Int), v8 = .int .i64 i ∧ Aside0 (0 ≤ i ∧ i ≤ a.length) ∧ Aside0 (Below w.heap.size w wr) ∧ Aside0 (badA last P (a.drop i.toNat) = badA last P a)) (fun v8 _ => a.length - (intOf v8).toNat)
  case atStart => exact ⟨0, rfl, ⟨by omega⟩, ⟨Below.refl _ _⟩, ⟨rfl⟩⟩
  case round =>
    obtain ⟨i, rfl, HI, HB, HR⟩ := hrel
    obtain ⟨i0, i1⟩ := HI.out
    clear HI
    by_cases ci : i < a.length
    · have DA := Aside0.mk (drop_30 a i i0 ci)
      obtain ⟨ada, ea, hx0, hx1, hx2, hx3, hx4, hx5⟩ := at_T30 (Kd.C_below HA.out HB.out) i i0 ci
      cases ea
      generalize rd_T30 a i = x at *
      have HL1 := Aside0.mk ((HB.out.cell (World.block_lt_of_cell? w _ HL.out)).trans HL.out)
      have HP1 := Aside0.mk ((HB.out.cell (World.block_lt_of_cell? w _ HP.out)).trans HP.out)
      cases hx : okA last P x with
      | false =>
        have HX := Aside0.mk hx
        clear hx
        go_wp2_with fail
        refine (Check1_c _ x bl bn last P HL1.out HP1.out).mono ?_
        rw [HX.out]
        rintro _ w1 ⟨rfl, hb⟩
        have HB1 := Aside0.mk (below_step HB.out hb)
        clear hb hx0 hx1 hx2 hx3 hx4 hx5
        go_wp2_with fail
        go_ret
        refine ⟨⟨i, rfl, ?_⟩, HB1.out⟩
        rw [decide_eq_true i0, ← HR.out, DA.out, badA, List.any_cons, HX.out]; rfl
      | true =>
        have HX := Aside0.mk hx
        clear hx
        go_wp2_with fail
        refine (Check1_c _ x bl bn last P HL1.out HP1.out).mono ?_
        rw [HX.out]
        rintro _ w1 ⟨rfl, hb⟩
        have HB1 := Aside0.mk (below_step HB.out hb)
        clear hb hx0 hx1 hx2 hx3 hx4 hx5
        go_wp2_with fail
        go_roundw
        case rel =>
          refine ⟨i + 1, rfl, ⟨by omega⟩, HB1, ⟨?_⟩⟩
          have e := HR.out
          rw [DA.out, badA, List.any_cons, HX.out] at e
          exact e
        case measure => simp [intOf]; omega
    · go_wp2_with fail
      go_ret
      refine ⟨⟨-1, rfl, ?_⟩, HB.out⟩
      have e := HR.out
      rw [show a.drop i.toNat = [] from List.drop_eq_nil_of_le (by omega)] at e
      rw [← e]; rfl
theorem ContainsA_c (w : World) (A : Option Addr) (c : Nat) (a : List S30) (ha : Kd.C k30 w A a.length a) (bl bn : Nat) (last P : Int) (hl : w.cell? ⟨bl, 0, none⟩ = some (.int .i64 last)) (hP : w.cell? ⟨bn, 0, none⟩ = some (.int .i64 P)) :
    Calls Try.prog 61 #[.slice A a.length c, .func (.func 62) #[] #[.pointer (some ⟨bl, 0, none⟩), .pointer (some ⟨bn, 0, none⟩)]] w fun e w' => e = .returned (.bool (badA last P a)) ∧ Below w.heap.size w w' := by
  have HA := Aside0.mk ha
  have HL := Aside0.mk hl
  have HP := Aside0.mk hP
  clear ha hl hP
  go_enter Try.func61, Try.ntmps61
  go_wp2_with fail
  refine (IndexA_c w A c a HA.out bl bn last P HL.out HP.out).mono ?_
  rintro _ w1 ⟨⟨r, rfl, hr⟩, hb⟩
  have HR := Aside0.mk hr
  have HB := Aside0.mk hb
  clear hr hb
  go_wp2_with fail
  go_ret
  exact ⟨by rw [← HR.out]; rfl, HB.out⟩
/-- A network is valid. -/
def okN (P : Int) (ev : List S65) (ac : List S30) : Bool := decide (2 ≤ P ∧ P ≤ 7200) && (decide (ev.length ≤ 48) && (decide (ac.length ≤ 512) && !badA ((ev.length : Int) - 1) P ac))
set_option maxHeartbeats 1000000 in
theorem Check_c (w : World) (P : Int) (A1 A2 : Option Addr) (c1 c2 : Nat) (ev : List S65) (ac : List S30) (h1 : Kd.C k65 w A1 ev.length ev) (h2 : Kd.C k30 w A2 ac.length ac) :
    Calls Try.prog 34 #[.agg #[.int .i64 P, .slice A1 ev.length c1, .slice A2 ac.length c2]] w fun e w' => e = .returned (.bool (okN P ev ac)) ∧ Below w.heap.size w w' := by
  have m1 := h1.2.1
  have m2 := h2.2.1
  have H2 := Aside0.mk h2
  clear h1 h2
  by_cases cp : 2 ≤ P ∧ P ≤ 7200
  · have D := Aside0.mk (show decide (2 ≤ P ∧ P ≤ 7200) = true by simp; omega)
    have C := Aside0.mk cp
    clear cp
    by_cases ce : ev.length ≤ 48
    · by_cases ca : ac.length ≤ 512
      · have HK : Aside0 (okN P ev ac = !badA ((ev.length : Int) - 1) P ac) := ⟨by unfold okN; rw [D.out, decide_eq_true ce, decide_eq_true ca]; rfl⟩
        go_enter Try.func34, Try.ntmps34
        go_wp2_with fail
        refine (in_c _ P 2 7200 _ D.out).mono ?_
        rintro _ _ ⟨rfl, rfl⟩
        go_wp2_with fail
        refine (ContainsA_c _ A2 c2 ac ?_ (w.heap.size + 1) w.heap.size ((ev.length : Int) - 1) P ?_ ?_).mono ?_
        · exact Kd.C_below (Kd.C_below H2.out ((Below.refl _ _).alloc (Nat.le_refl _) _)) ((Below.refl _ _).alloc (Nat.le_refl _) _)
        · go_simp
        · go_simp
        rintro _ w1 ⟨rfl, hb⟩
        have HB := Aside0.mk hb
        clear hb
        go_wp2_with fail
        go_ret
        exact ⟨by rw [HK.out]; rfl, below_step (((Below.refl _ _).alloc (Nat.le_refl _) _).alloc (by simp) _) HB.out⟩
      · have HK : Aside0 (okN P ev ac = false) := ⟨by unfold okN; rw [D.out, decide_eq_true ce, decide_eq_false ca]; rfl⟩
        go_enter Try.func34, Try.ntmps34
        go_wp2_with fail
        refine (in_c _ P 2 7200 _ D.out).mono ?_
        rintro _ _ ⟨rfl, rfl⟩
        go_wp2_with fail
        go_ret
        exact ⟨by rw [HK.out]; rfl, (Below.refl _ _).alloc (Nat.le_refl _) _⟩
    · have HK : Aside0 (okN P ev ac = false) := ⟨by unfold okN; rw [D.out, decide_eq_false ce]; rfl⟩
      go_enter Try.func34, Try.ntmps34
      go_wp2_with fail
      refine (in_c _ P 2 7200 _ D.out).mono ?_
      rintro _ _ ⟨rfl, rfl⟩
      go_wp2_with fail
      go_ret
      exact ⟨by rw [HK.out]; rfl, (Below.refl _ _).alloc (Nat.le_refl _) _⟩
  · have D := Aside0.mk (show decide (2 ≤ P ∧ P ≤ 7200) = false by simp; omega)
    have HK : Aside0 (okN P ev ac = false) := ⟨by unfold okN; rw [D.out]; rfl⟩
    clear cp
    go_enter Try.func34, Try.ntmps34
    go_wp2_with fail
    refine (in_c _ P 2 7200 _ D.out).mono ?_
    rintro _ _ ⟨rfl, rfl⟩
    go_wp2_with fail
    go_ret
    exact ⟨by rw [HK.out]; rfl, (Below.refl _ _).alloc (Nat.le_refl _) _⟩
end Go.Proofs.Ytkbcgahpekmlbaa.PPg

namespace Go.Proofs.Ytkbcgahpekmlbaa.PPg
open Go.RowKit Go.Proofs.YtkbcgahpekmlbaaW.PrintWords Go.Proofs.YtkbcgahpekmlbaaW.PrintLast Go.Proofs.YtkbcgahpekmlbaaW.PrintMore
set_option linter.unusedVariables false
set_option maxRecDepth 100000
/-- All blocks but the rows of sets and the tables are as they were. -/
def Kq (w w' : World) : Prop := w.heap.size ≤ w'.heap.size ∧ ∀ (k : Nat) (cells : Array Value) (t : TypeId), t ≠ 42 → t ≠ 69 → w.heap[k]? = some (.cells cells t (0, 0)) → w'.heap[k]? = some (.cells cells t (0, 0))
theorem Kq_of {w w' : World} (h : Kp w w') : Kq w w' := ⟨h.1, fun k c t h1 _ hc => h.2 k c t h1 hc⟩
theorem Kq_refl (w : World) : Kq w w := Kq_of (Kp_refl w)
theorem Kq_trans {a b c : World} (h : Kq a b) (k : Kq b c) : Kq a c := ⟨Nat.le_trans h.1 k.1, fun i cs t h1 h2 hc => k.2 i cs t h1 h2 (h.2 i cs t h1 h2 hc)⟩
theorem R_Kq {α : Type} {d : Kd α} {e : Nat} {w w' : World} {base : Nat} {ok : Nat → Prop} {v : Value} {xs : List α} (h : d.R e w base ok v xs) (hk : Kq w w') (ht : ∀ q, q ∈ e :: d.E → q ≠ 42 ∧ q ≠ 69) : d.R e w' base ok v xs :=
  Kd.R_mono (Kd.R_move (Kd.R_bound h) (fun k hk' => by
    obtain ⟨_, _, _, q, hq, cells, hc⟩ := hk'
    rw [hc, hk.2 k cells q (ht q hq).1 (ht q hq).2 hc])) (fun _ hk' => hk'.1)
theorem E41 : ∀ q, q ∈ 41 :: k41.E → q = 41 := fun q hq => by simpa [k41, Kd.iso, Kd.pair, Kd.int, Kd.scalar] using hq
theorem E30 : ∀ q, q ∈ 30 :: k30.E → q = 30 := fun q hq => by simpa [k30, Kd.iso, Kd.pair, Kd.int, Kd.scalar] using hq
theorem E65 : ∀ q, q ∈ 65 :: k65.E → q = 65 := fun q hq => by simpa [k65, Kd.iso, Kd.pair, Kd.int, Kd.scalar] using hq
/-- The value of the table's slice of sets, as a row of its own. -/
theorem Tb_row {w : World} {B g : Nat} {P m : Int} {ev : List S65} {ac : List S30} {sets : List (List S41)} (h : Tb w B g P ev ac m sets) : ∃ v4, w.cell? ⟨g, 4, none⟩ = some v4 ∧ w.frozen? ⟨g, 4, none⟩ = false ∧ Kd.R kL 42 w B (fun k => k ≠ g) v4 sets := by
  obtain ⟨v1, v2, v4, h1, _, _, _, h5⟩ := h
  exact ⟨v4, by rw [blk_cell h1]; rfl, blk_frozen h1 _, h5⟩
theorem Tb_app {W w5 : World} {B g : Nat} {P m : Int} {ev : List S65} {ac : List S30} {sets sets' : List (List S41)} {v4 v5 : Value} (h : Tb W B g P ev ac m sets) (h4 : W.cell? ⟨g, 4, none⟩ = some v4) (ho : Kd.R kL 42 w5 B (fun k => k ≠ g) v5 sets') (hg : W.grownBy w5 v4.ownBlock) :
    w5.cell? ⟨g, 4, none⟩ = some v4 ∧ w5.frozen? ⟨g, 4, none⟩ = false ∧ Tb (w5.setCell ⟨g, 4, none⟩ v5) B g P ev ac m sets' ∧ Kq W (w5.setCell ⟨g, 4, none⟩ v5) := by
  obtain ⟨v1, v2, u4, hb, hB, h2, h3, h5⟩ := h
  rw [blk_cell hb] at h4
  have e : u4 = v4 := by simpa using h4
  subst e
  have hne : some g ≠ u4.ownBlock := fun e => h5.1 g e.symm rfl
  have hb5 := (hg.block g (blk_lt hb) hne).trans hb
  have hcells : ∀ k, u4.ownBlock = some k → ∃ cells, W.heap[k]? = some (.cells cells 42 (0, 0)) := fun k hk => by
    obtain ⟨_, l, ho4, _⟩ := h5
    exact own_typed ho4 k hk
  have hkq : Kq W w5 := ⟨hg.size, fun k cells t h1 h2' hc => (hg.block k (blk_lt hc) (fun e => by
    obtain ⟨cs, hcs⟩ := hcells k e.symm
    rw [hcs] at hc
    injection hc with hc
    injection hc with _ hc
    exact h1 hc.symm)).trans hc⟩
  have hkq2 : Kq w5 (w5.setCell ⟨g, 4, none⟩ v5) := ⟨by simp [World.setCell], fun k cells t h1 h2' hc => (Below.heap_setCell w5 ⟨g, 4, none⟩ v5 k (fun e => by
    have e' : k = g := e
    subst e'
    rw [hb5] at hc
    injection hc with hc
    injection hc with _ hc
    exact h2' hc.symm)).trans hc⟩
  have hk := Kq_trans hkq hkq2
  refine ⟨by rw [blk_cell hb5]; rfl, blk_frozen hb5 _, ⟨v1, v2, v5, ?_, hB, R_Kq h2 hk (fun q hq => by have := E65 q hq; omega), R_Kq h3 hk (fun q hq => by have := E30 q hq; omega), Kd.R_far (p := ⟨g, 4, none⟩) ho (fun k hk => hk) v5⟩, hk⟩
  have := blk_set hb5 4 v5
  exact this
/-- The row of spans x, apart from the table and its slice of sets. -/
theorem R_apart {W : World} {B g : Nat} {ok : Nat → Prop} {v4 v : Value} {sets : List (List S41)} {x : List S41} {cs : Array Value} (hb : W.heap[g]? = some (.cells cs 69 (0, 0))) (h5 : Kd.R kL 42 W B (fun k => k ≠ g) v4 sets) (hx : Kd.R k41 41 W B ok v x) :
    Kd.R k41 41 W B (fun k => k ≠ g ∧ some k ≠ v4.ownBlock) v x :=
  Kd.R_mono (Kd.R_bound hx) (fun k hk => by
    obtain ⟨_, _, _, q, hq, cells, hc⟩ := hk
    have hq' := E41 q hq
    subst hq'
    refine ⟨fun e => ?_, fun e => ?_⟩
    · subst e
      rw [hb] at hc
      injection hc with hc
      injection hc with _ hc
      exact absurd hc (by decide)
    · obtain ⟨_, l, ho4, _⟩ := h5
      obtain ⟨cs', hcs⟩ := own_typed ho4 k e.symm
      rw [hcs] at hc
      injection hc with hc
      injection hc with _ hc
      exact absurd hc (by decide))
theorem Tb_new {W : World} {B : Nat} {P m : Int} {ev : List S65} {ac : List S30} {v1 v2 : Value} {ok1 ok2 : Nat → Prop} (hB : B ≤ W.heap.size) (h1 : Kd.R k65 65 W B ok1 v1 ev) (h2 : Kd.R k30 30 W B ok2 v2 ac) :
    Tb (W.alloc (.cells #[.int .i64 P, v1, v2, .int .i64 m, .slice none 0 0] 69)) B W.heap.size P ev ac m [] :=
  ⟨v1, v2, .slice none 0 0, heap_alloc_new W _, hB, Kd.R_alloc (Kd.R_mono (Kd.R_bound h1) (fun k hk => by obtain ⟨_, _, h3, _⟩ := hk; omega)) _, Kd.R_alloc (Kd.R_mono (Kd.R_bound h2) (fun k hk => by obtain ⟨_, _, h3, _⟩ := hk; omega)) _, Kd.R_nil _ _ _ _ _⟩
/-- The matrix before the activities. -/
def q00 (n : Nat) : Mx := fun i j => if i = j then (fun x => decide ((x - 0) % n < 1)) else (fun x => decide ((x - 0) % n < n))
/-- An activity's cuts. -/
def there (n : Nat) (a : S30) : Int → Bool := fun x => decide ((x - a.f3) % n < a.f4 - a.f3 + 1)
def back (n : Nat) (a : S30) : Int → Bool := fun x => decide ((x - -a.f4) % n < a.f4 - a.f3 + 1)
def cutP (q : Mx) (i j : Nat) (p : Int → Bool) : Mx := upd q i j fun x => q i j x && p x
def acut (n : Nat) (q : Mx) (a : S30) : Mx := cutP (cutP q a.f1.toNat a.f2.toNat (there n a)) a.f2.toNat a.f1.toNat (back n a)
def initM (n : Nat) (ac : List S30) : Mx := ac.foldl (acut n) (q00 n)
/-- The first t sets of the table. -/
def pre (n m t : Nat) : List (List S41) := (List.range t).map fun k => can n (q00 n (k / m) (k % m))
theorem pre_snoc {n m i j : Nat} (hj : j < m) : pre n m (i * m + j) ++ [can n (q00 n i j)] = pre n m (i * m + (j + 1)) := by
  unfold pre
  rw [← Nat.add_assoc, List.range_succ, List.map_append, List.map_singleton, ix_div hj, ix_mod hj]
theorem pre_all (n m : Nat) : pre n m (m * m) = tabl n m (q00 n) := rfl
theorem pre_len (n m t : Nat) : (pre n m t).length = t := by simp [pre]
theorem cut_s {n m i j : Nat} (w : World) (B g : Nat) (ev : List S65) (ac : List S30) (q : Mx) (p : Int → Bool) (A : Option Addr) (c : Nat) (s : List S41) (hp : can n p = s) (h1 : 1 ≤ n) (h2 : n ≤ 7200) (hm : m ≤ 48) (hi : i < m) (hj : j < m) (ht : Tb w B g n ev ac m (tabl n m q)) (hs : VS w (.slice A s.length c) s) :
    Calls Try.prog 64 #[.pointer (some ⟨g, 0, none⟩), .int .i64 i, .int .i64 j, .slice A s.length c] w fun e w' =>
      (∃ b, e = .returned (.bool b)) ∧ Tb w' B g n ev ac m (tabl n m (cutP q i j p)) ∧ Below B w w' ∧ Kp w w' := by
  subst hp
  exact (cut_c w B g ev ac q p A c h1 h2 hm hi hj ht hs).mono fun e w' ⟨he, ht, hb, hk⟩ => ⟨⟨_, he⟩, ht, hb, hk⟩
theorem okA_mem {last P : Int} {a : List S30} (h : badA last P a = false) (i : Int) (h0 : 0 ≤ i) (h1 : i < a.length) : okA last P (rd_T30 a i) = true := by
  have hm : rd_T30 a i ∈ a := by
    unfold rd_T30
    rw [List.getD_eq_getElem?_getD, List.getElem?_eq_getElem (by omega : i.toNat < a.length)]
    exact List.getElem_mem _
  unfold badA at h
  rw [List.any_eq_false] at h
  simpa using h _ hm
theorem take_30 (a : List S30) (k : Nat) (h1 : k < a.length) : a.take (k + 1) = a.take k ++ [rd_T30 a k] := by
  unfold rd_T30
  rw [Int.toNat_natCast, List.getD_eq_getElem?_getD, List.getElem?_eq_getElem h1, List.take_succ_eq_append_getElem h1]; rfl
theorem initM_snoc (n : Nat) (a : List S30) (x : S30) : initM n (a ++ [x]) = acut n (initM n a) x := by unfold initM; rw [List.foldl_append]; rfl
theorem make_can {n : Nat} (h1 : 1 ≤ n) (h2 : n ≤ 7200) (a m : Int) : Ev (fun k => residue_Make.f k n a m) (can n fun x => decide ((x - a) % n < m), 0) := Make_ev n h1 h2 a m
end Go.Proofs.Ytkbcgahpekmlbaa.PPg

namespace Go.Proofs.Ytkbcgahpekmlbaa.PPg
open Go.RowKit Go.Proofs.YtkbcgahpekmlbaaW.PrintWords Go.Proofs.YtkbcgahpekmlbaaW.PrintLast Go.Proofs.YtkbcgahpekmlbaaW.PrintMore
set_option linter.unusedVariables false
set_option maxRecDepth 100000
set_option maxHeartbeats 2000000 in
theorem initial_c {n : Nat} (w0 w : World) (ev : List S65) (ac : List S30) (v1 v2 : Value) (ok1 ok2 : Nat → Prop) (hok : okN n ev ac = true) (HB0 : Below w0.heap.size w0 w) (h1 : Kd.R k65 65 w w0.heap.size ok1 v1 ev) (h2 : Kd.R k30 30 w w0.heap.size ok2 v2 ac) :
    Calls Try.prog 35 #[.agg #[.int .i64 n, v1, v2]] w fun e w' => (∃ g, e = .returned (.pointer (some ⟨g, 0, none⟩)) ∧ Tb w' w0.heap.size g n ev ac ev.length (tabl n ev.length (initM n ac))) ∧ Below w0.heap.size w0 w' := by
  have hk : (2 ≤ n ∧ n ≤ 7200) ∧ ev.length ≤ 48 ∧ ac.length ≤ 512 ∧ badA ((ev.length : Int) - 1) n ac = false := by
    unfold okN at hok
    simp only [Bool.and_eq_true, decide_eq_true_eq, Bool.not_eq_true'] at hok
    exact ⟨by omega, hok.2.1, hok.2.2.1, hok.2.2.2⟩
  obtain ⟨⟨n2, n72⟩, he, ha, hbad⟩ := hk
  have n1 : 1 ≤ n := by omega
  obtain ⟨K1, e1⟩ := make_can n1 n72 0 n
  obtain ⟨K2, e2⟩ := make_can n1 n72 0 1
  have E1 := Aside0.mk (e1 K1 (by omega))
  have E2 := Aside0.mk (e2 K2 (by omega))
  obtain ⟨A1, c1, rfl⟩ := Kd.R_slice h1
  obtain ⟨A2, c2, rfl⟩ := Kd.R_slice h2
  have HBAD := Aside0.mk hbad
  have HW := Aside0.mk HB0
  have H1 := Aside0.mk h1
  have H2 := Aside0.mk h2
  have mxe := Kd.C_max (Kd.R_reads' h1).2.2
  clear hok HB0 h1 h2 e1 e2 hbad
  generalize hsA : (can n fun x => decide ((x - 0) % n < n)) = sA at *
  generalize hsN : (can n fun x => decide ((x - 0) % n < 1)) = sN at *
  have HSA := Aside0.mk hsA
  have HSN := Aside0.mk hsN
  clear hsA hsN
  have HT0 : Aside0 (Tb ((w.alloc (.cells #[.int .i64 n, .slice A1 ev.length c1, .slice A2 ac.length c2] 25)).alloc (.cells #[.int .i64 n, .slice A1 ev.length c1, .slice A2 ac.length c2, .int .i64 ev.length, .slice none 0 0] 69)) w0.heap.size (w.heap.size + 1) n ev ac ev.length []) := by
    have h := Tb_new (W := w.alloc (.cells #[.int .i64 n, .slice A1 ev.length c1, .slice A2 ac.length c2] 25)) (B := w0.heap.size) (P := n) (m := ev.length) (by have := HW.out.size; simp; omega) (Kd.R_alloc H1.out _) (Kd.R_alloc H2.out _)
    exact ⟨by simpa using h⟩
  have HX0 : Aside0 (((w.alloc (.cells #[.int .i64 n, .slice A1 ev.length c1, .slice A2 ac.length c2] 25)).alloc (.cells #[.int .i64 n, .slice A1 ev.length c1, .slice A2 ac.length c2, .int .i64 ev.length, .slice none 0 0] 69)).heap[w.heap.size]? = some (.cells #[.int .i64 n, .slice A1 ev.length c1, .slice A2 ac.length c2] 25 (0, 0))) := ⟨by
    rw [Below.heap_alloc _ _ _ (by simp)]; exact heap_alloc_new w _⟩
  have HW0 : Aside0 (Below w0.heap.size w0 ((w.alloc (.cells #[.int .i64 n, .slice A1 ev.length c1, .slice A2 ac.length c2] 25)).alloc (.cells #[.int .i64 n, .slice A1 ev.length c1, .slice A2 ac.length c2, .int .i64 ev.length, .slice none 0 0] 69))) := ⟨(HW.out.alloc HW.out.size _).alloc (by have := HW.out.size; simp; omega) _⟩
  have HR1 : Aside0 (Kd.R k30 30 ((w.alloc (.cells #[.int .i64 n, .slice A1 ev.length c1, .slice A2 ac.length c2] 25)).alloc (.cells #[.int .i64 n, .slice A1 ev.length c1, .slice A2 ac.length c2, .int .i64 ev.length, .slice none 0 0] 69)) w0.heap.size ok2 (.slice A2 ac.length c2) ac) := ⟨Kd.R_alloc (Kd.R_alloc H2.out _) _⟩
  go_enter Try.func35, Try.ntmps35
  go_wp2_with fail
  refine (residue_Make.calls K1 n 0 n _ 0 _ E1.out).mono ?_
  rintro _ w3 ⟨vA, rfl, hr, hb⟩
  have HT3 := Aside0.mk (Tb_below HT0.out hb)
  have HX3' := (hb.block w.heap.size (by simp; omega)).trans HX0.out
  have HRA := Aside0.mk (Kd.R_lower (base' := w0.heap.size) hr (by have := HW.out.size; simp; omega))
  have HW3 := Aside0.mk (below_step HW0.out hb)
  have HR3 := Aside0.mk (Kd.R_below HR1.out hb)
  have hz3 : w.heap.size + 1 < w3.heap.size := by have := hb.size; simp at this; omega
  have x0 : w3.cell? ⟨w.heap.size, 0, none⟩ = some (.int .i64 n) := by rw [blk_cell HX3']; rfl
  have HX3 := Aside0.mk HX3'
  clear HX3'
  obtain ⟨AA, cA, eA⟩ := Kd.R_slice hr
  subst eA
  clear hb hr HT0 HX0 HW0 HR1
  go_wp2_with fail
  refine (residue_Make.calls K2 n 0 1 _ 0 _ E2.out).mono ?_
  rintro _ w4 ⟨vN, rfl, hr, hb⟩
  have HT4 := Aside0.mk (Tb_below HT3.out hb)
  have HX4 := Aside0.mk ((hb.block w.heap.size (by omega)).trans HX3.out)
  have HRA4 := Aside0.mk (Kd.R_below HRA.out hb)
  have HRN4 := Aside0.mk (Kd.R_lower (base' := w0.heap.size) hr (by have := HW3.out.size; omega))
  have HW4 := Aside0.mk (below_step HW3.out hb)
  have HR4 := Aside0.mk (Kd.R_below HR3.out hb)
  obtain ⟨AN, cN, eN⟩ := Kd.R_slice hr
  subst eN
  have t3 := Tb_m HT4.out
  clear hb hr HT3 HX3 HRA HW3 HR3 x0
  go_wp2_with fail
  clear t3
  have KA := Aside0.mk (Kq_refl w4)
  have HMM := Aside0.mk (show ev.length * ev.length ≤ 2304 from Nat.mul_le_mul he he)
  go_loopw [40] (fun v40 wr => ∃ i : Nat, v40 = .int .i64 i ∧ Aside0 (i ≤ ev.length) ∧ Aside0 (Tb wr w0.heap.size (w.heap.size + 1) n ev ac ev.length (pre n ev.length (i * ev.length))) ∧ Aside0 (Below w0.heap.size w0 wr) ∧ Aside0 (Kq w4 wr)) (fun v40 _ => ev.length - (intOf v40).toNat)
  case atStart => exact ⟨0, rfl, ⟨Nat.zero_le _⟩, by rw [Nat.zero_mul]; exact HT4, HW4, KA⟩
  case round =>
    clear KA HW4 HT4
    obtain ⟨i, rfl, HI, HT, HW5, HK⟩ := hrel
    have i1 := HI.out
    by_cases ci : i < ev.length
    · have tm := Tb_m HT.out
      go_wp2_with fail
      clear tm
      go_loopw [47] (fun v47 w5 => ∃ j : Nat, v47 = .int .i64 j ∧ Aside0 (j ≤ ev.length) ∧ Aside0 (Tb w5 w0.heap.size (w.heap.size + 1) n ev ac ev.length (pre n ev.length (i * ev.length + j))) ∧ Aside0 (Below w0.heap.size w0 w5) ∧ Aside0 (Kq w4 w5)) (fun v47 _ => ev.length - (intOf v47).toNat)
      case atStart => exact ⟨0, rfl, ⟨Nat.zero_le _⟩, HT, HW5, HK⟩
      case round =>
        clear HT HW5 HK
        obtain ⟨j, rfl, HJ, HT, HW5, HK⟩ := hrel
        have j1 := HJ.out
        by_cases cj : j < ev.length
        · obtain ⟨v4, q4, f4, h5⟩ := Tb_row HT.out
          obtain ⟨cells, hcell⟩ : ∃ cells, wr.heap[w.heap.size + 1]? = some (.cells cells 69 (0, 0)) := by obtain ⟨_, _, _, hh, _⟩ := HT.out; exact ⟨_, hh⟩
          have HR5 := Aside0.mk h5
          have HPL : Aside0 ((pre n ev.length (i * ev.length + j)).length = i * ev.length + j) := ⟨pre_len _ _ _⟩
          have HLT := Aside0.mk (ix_lt ci cj)
          have hA := Aside0.mk (R_apart hcell h5 (R_Kq HRA4.out HK.out (fun q hq => by have := E41 q hq; omega)))
          have hN := Aside0.mk (R_apart hcell h5 (R_Kq HRN4.out HK.out (fun q hq => by have := E41 q hq; omega)))
          have hgl := Tb_lt HT.out
          obtain ⟨A4, c4, e4⟩ := Kd.R_slice h5
          subst e4
          have HZ := Aside0.mk HW5.out.size
          clear hcell h5
          by_cases cij : i = j
          · subst cij
            have PS : Aside0 (pre n ev.length (i * ev.length + i) ++ [sN] = pre n ev.length (i * ev.length + (i + 1))) := ⟨by
              rw [← pre_snoc ci, q00, if_pos rfl, HSN.out]⟩
            go_wp2_with (first | ((with_reducible refine gate_builtin (b := .append) (xs := #[.tmp 57, .tmp 59]) rfl ?_); at_builtin; go_loud (refine Kd.R_append kL (w0 := w0) w0.heap.size rfl (.tmp 57) (.tmp 59) 67 42 (.slice none 0 0) 24 rfl Try.underlying67 info42 rfl (by decide) (by omega) (.slice A4 (pre n ev.length (i * ev.length + i)).length c4) (pre n ev.length (i * ev.length + i)) sN [.slice AN sN.length cN] (fun k => k ≠ w.heap.size + 1) (fun k => k ≠ w.heap.size + 1 ∧ some k ≠ (Value.slice A4 (pre n ev.length (i * ev.length + i)).length c4).ownBlock) rfl rfl ⟨_, rfl, hN.out⟩ (fun _ hk => hk) (fun k hk => by omega) HR5.out HW5.out HZ.out (by rw [HPL.out]; have := HLT.out; have := HMM.out; omega) ?_; intro v5 w5 ho hb hg hat; obtain ⟨A5, c5, e5⟩ := Kd.R_slice ho; rw [List.length_append, List.length_singleton] at e5; subst e5; obtain ⟨y4, y5, HT5, HK5⟩ := Tb_app HT.out q4 ho hg; have HT5 := Aside0.mk HT5; have HK5 := Aside0.mk (Kq_trans HK.out HK5); have HB5 := Aside0.mk hb; clear ho hb hg hat q4 f4 HT HK HW5 HR5)))
            go_roundw
            case rel => exact ⟨i + 1, by go_num, ⟨by omega⟩, ⟨by rw [← PS.out]; exact HT5.out⟩, ⟨HB5.out.setCell (by show w0.heap.size ≤ w.heap.size + 1; have := HW.out.size; omega) _⟩, HK5⟩
            case measure => simp [intOf]; omega
          · have PS : Aside0 (pre n ev.length (i * ev.length + j) ++ [sA] = pre n ev.length (i * ev.length + (j + 1))) := ⟨by
              rw [← pre_snoc cj, q00, if_neg cij, HSA.out]⟩
            have cijb : ((i : Int) == (j : Int)) = false := by simp; omega
            clear cij
            go_wp2_with (first | ((with_reducible refine gate_builtin (b := .append) (xs := #[.tmp 67, .tmp 69]) rfl ?_); at_builtin; go_loud (refine Kd.R_append kL (w0 := w0) w0.heap.size rfl (.tmp 67) (.tmp 69) 67 42 (.slice none 0 0) 24 rfl Try.underlying67 info42 rfl (by decide) (by omega) (.slice A4 (pre n ev.length (i * ev.length + j)).length c4) (pre n ev.length (i * ev.length + j)) sA [.slice AA sA.length cA] (fun k => k ≠ w.heap.size + 1) (fun k => k ≠ w.heap.size + 1 ∧ some k ≠ (Value.slice A4 (pre n ev.length (i * ev.length + j)).length c4).ownBlock) rfl rfl ⟨_, rfl, hA.out⟩ (fun _ hk => hk) (fun k hk => by omega) HR5.out HW5.out HZ.out (by rw [HPL.out]; have := HLT.out; have := HMM.out; omega) ?_; intro v5 w5 ho hb hg hat; obtain ⟨A5, c5, e5⟩ := Kd.R_slice ho; rw [List.length_append, List.length_singleton] at e5; subst e5; obtain ⟨y4, y5, HT5, HK5⟩ := Tb_app HT.out q4 ho hg; have HT5 := Aside0.mk HT5; have HK5 := Aside0.mk (Kq_trans HK.out HK5); have HB5 := Aside0.mk hb; clear ho hb hg hat q4 f4 HT HK HW5 HR5)))
            go_roundw
            case rel => exact ⟨j + 1, by go_num, ⟨by omega⟩, ⟨by rw [← PS.out]; exact HT5.out⟩, ⟨HB5.out.setCell (by show w0.heap.size ≤ w.heap.size + 1; have := HW.out.size; omega) _⟩, HK5⟩
            case measure => simp [intOf]; omega
        · have ej : j = ev.length := by omega
          subst ej
          go_wp2_with fail
          go_roundw
          case rel => exact ⟨i + 1, by go_num, ⟨by omega⟩, ⟨by have := HT.out; rwa [show (i + 1) * ev.length = i * ev.length + ev.length from Nat.succ_mul _ _]⟩, HW5, HK⟩
          case measure => simp [intOf]; omega
    · have ei : i = ev.length := by omega
      have HT9 : Aside0 (Tb wr w0.heap.size (w.heap.size + 1) n ev ac ev.length (tabl n ev.length (q00 n))) := ⟨by have := HT.out; rw [ei, pre_all] at this; exact this⟩
      clear HT
      subst ei
      have HX9 := Aside0.mk (HK.out.2 _ _ _ (by decide) (by decide) HX4.out)
      have HR9 := Aside0.mk (R_Kq HR4.out HK.out (fun q hq => by have := E30 q hq; omega))
      have x2 : wr.cell? ⟨w.heap.size, 2, none⟩ = some (.slice A2 ac.length c2) := by rw [blk_cell HX9.out]; rfl
      go_wp2_with fail
      clear x2
      have KB := Aside0.mk (Kq_refl wr)
      go_loopw [78] (fun v78 w5 => ∃ k : Nat, v78 = .int .i64 k ∧ Aside0 (k ≤ ac.length) ∧ Aside0 (Tb w5 w0.heap.size (w.heap.size + 1) n ev ac ev.length (tabl n ev.length (initM n (ac.take k)))) ∧ Aside0 (Below w0.heap.size w0 w5) ∧ Aside0 (Kq wr w5)) (fun v78 _ => ac.length - (intOf v78).toNat)
      case atStart => exact ⟨0, rfl, ⟨Nat.zero_le _⟩, HT9, HW5, KB⟩
      case round =>
        clear KB HW5 HT9 HK
        obtain ⟨k, rfl, HI, HT, HW5, HK⟩ := hrel
        have k1 := HI.out
        have HX10 := HK.out.2 _ _ _ (by decide) (by decide) HX9.out
        have HC10 := (Kd.R_reads' (R_Kq HR9.out HK.out (fun q hq => by have := E30 q hq; omega))).2.2
        by_cases ck : k < ac.length
        · obtain ⟨ad, ea, a0, a1, a2, a3, a4, a5⟩ := at_T30 HC10 (k : Int) (by omega) (by omega)
          cases ea
          simp only [Int.toNat_natCast] at a0 a1 a2 a3 a4 a5
          have x0 : wr.cell? ⟨w.heap.size, 0, none⟩ = some (.int .i64 n) := by rw [blk_cell HX10]; rfl
          have HXA := Aside0.mk HX10
          have hzr : w.heap.size + 1 < wr.heap.size := Tb_lt HT.out
          have hzr2 : w.heap.size < wr.heap.size := by omega
          obtain ⟨⟨g1, g1'⟩, ⟨g2, g2'⟩, g3, g4, g5, g6, g7, g8⟩ := okA_iff.1 (okA_mem HBAD.out (k : Int) (by omega) (by omega))
          have TK := Aside0.mk (take_30 ac k ck)
          clear HX10 HC10
          generalize rd_T30 ac (k : Int) = x at *
          obtain ⟨z0, z1, z2, z3, z4, z5⟩ := x
          simp only at *
          obtain ⟨p, rfl⟩ := Int.eq_ofNat_of_zero_le g1
          obtain ⟨r, rfl⟩ := Int.eq_ofNat_of_zero_le g2
          have HPL := Aside0.mk (show p < ev.length by omega)
          have HRL := Aside0.mk (show r < ev.length by omega)
          obtain ⟨K3, e3⟩ := make_can n1 n72 z3 (z4 - z3 + 1)
          obtain ⟨K4, e4⟩ := make_can n1 n72 (-z4) (z4 - z3 + 1)
          have E3 := Aside0.mk (e3 K3 (by omega))
          have E4 := Aside0.mk (e4 K4 (by omega))
          clear e3 e4
          generalize hsT : (can n fun x => decide ((x - z3) % n < z4 - z3 + 1)) = sT at *
          generalize hsB : (can n fun x => decide ((x - -z4) % n < z4 - z3 + 1)) = sB at *
          have HST := Aside0.mk hsT
          have HSB := Aside0.mk hsB
          clear hsT hsB
          go_wp2_with fail
          refine (residue_Make.calls K3 n z3 (z4 - z3 + 1) sT 0 _ E3.out).mono ?_
          rintro _ w6 ⟨vT, rfl, hr, hb⟩
          have hbx := (hb.block w.heap.size (by simp; omega)).trans ((Below.heap_alloc wr _ _ hzr2).trans HXA.out)
          have hba := (hb.block wr.heap.size (by simp)).trans (heap_alloc_new wr _)
          have HT6 := Aside0.mk (Tb_below (Tb_below HT.out ((Below.refl _ _).alloc (Nat.le_refl _) _)) hb)
          have HW6 := Aside0.mk (below_step (HW5.out.alloc HW5.out.size _) hb)
          have HK6 := Aside0.mk (Kq_trans HK.out (Kq_of (Kp_trans (Kp_below ((Below.refl wr.heap.size wr).alloc (Nat.le_refl _) _)) (Kp_below hb))))
          have HVT := Aside0.mk (VS_R hr)
          obtain ⟨AT, cT, eT⟩ := Kd.R_slice hr
          subst eT
          have b0 : w6.cell? ⟨w.heap.size, 0, none⟩ = some (.int .i64 n) := by rw [blk_cell hbx]; rfl
          have b3 : w6.cell? ⟨wr.heap.size, 3, none⟩ = some (.int .i64 z3) := by rw [blk_cell hba]; rfl
          have b4 : w6.cell? ⟨wr.heap.size, 4, none⟩ = some (.int .i64 z4) := by rw [blk_cell hba]; rfl
          have HBX := Aside0.mk hbx
          have HBA := Aside0.mk hba
          clear hbx hba hb hr HT HW5 HK a0 a1 a2 a3 a4 a5 x0 HXA
          go_wp2_with fail
          refine (residue_Make.calls K4 n (-z4) (z4 - z3 + 1) sB 0 _ E4.out).mono ?_
          rintro _ w7 ⟨vB, rfl, hr, hb⟩
          have hbx := (hb.block w.heap.size (blk_lt HBX.out)).trans HBX.out
          have hba := (hb.block wr.heap.size (blk_lt HBA.out)).trans HBA.out
          have HT7 := Aside0.mk (Tb_below HT6.out hb)
          have HW7 := Aside0.mk (below_step HW6.out hb)
          have HK7 := Aside0.mk (Kq_trans HK6.out (Kq_of (Kp_below hb)))
          have HVT7 := Aside0.mk (VS_below HVT.out hb)
          have HRB := Aside0.mk (Kd.R_lower (base' := w0.heap.size) hr HW6.out.size)
          obtain ⟨AB, cB, eB⟩ := Kd.R_slice hr
          subst eB
          have d1 : w7.cell? ⟨wr.heap.size, 1, none⟩ = some (.int .i64 p) := by rw [blk_cell hba]; rfl
          have d2 : w7.cell? ⟨wr.heap.size, 2, none⟩ = some (.int .i64 r) := by rw [blk_cell hba]; rfl
          replace HBX := Aside0.mk hbx
          replace HBA := Aside0.mk hba
          clear hbx hba hb hr HT6 HW6 HK6 HVT b0 b3 b4
          go_wp2_with fail
          refine (cut_s w7 w0.heap.size _ ev ac _ _ AT cT sT HST.out n1 n72 he HPL.out HRL.out HT7.out HVT7.out).mono ?_
          rintro _ w8 ⟨⟨b, rfl⟩, ht, hb, hk⟩
          have hba := hk.2 _ _ _ (by decide) HBA.out
          have HT8 := Aside0.mk ht
          have HW8 := Aside0.mk (HW7.out.trans hb)
          have HK8 := Aside0.mk (Kq_trans HK7.out (Kq_of hk))
          have HVB := Aside0.mk (VS_R (R_Kp HRB.out hk (fun q hq => by have := E41 q hq; omega)))
          have y1 : w8.cell? ⟨wr.heap.size, 1, none⟩ = some (.int .i64 p) := by rw [blk_cell hba]; rfl
          have y2 : w8.cell? ⟨wr.heap.size, 2, none⟩ = some (.int .i64 r) := by rw [blk_cell hba]; rfl
          clear hba ht hb hk HT7 HW7 HK7 HVT7 HRB d1 d2
          go_wp2_with fail
          refine (cut_s w8 w0.heap.size _ ev ac _ _ AB cB sB HSB.out n1 n72 he HRL.out HPL.out HT8.out HVB.out).mono ?_
          rintro _ w9 ⟨⟨b', rfl⟩, ht, hb, hk⟩
          have HTf := Aside0.mk ht
          have HWf := Aside0.mk (HW8.out.trans hb)
          have HKf := Aside0.mk (Kq_trans HK8.out (Kq_of hk))
          clear ht hb hk HT8 HW8 HK8 HVB y1 y2
          go_wp2_with fail
          go_roundw
          case rel =>
            refine ⟨k + 1, by go_num, ⟨by omega⟩, ⟨?_⟩, HWf, HKf⟩
            rw [TK.out, initM_snoc]
            exact HTf.out
          case measure => simp [intOf]; omega
        · have ek : k = ac.length := by omega
          subst ek
          have HTz : Aside0 (Tb wr w0.heap.size (w.heap.size + 1) n ev ac ev.length (tabl n ev.length (initM n ac))) := ⟨by have := HT.out; rwa [List.take_length] at this⟩
          go_wp2_with fail
          go_ret
          exact ⟨⟨_, rfl, HTz.out⟩, HW5.out⟩
end Go.Proofs.Ytkbcgahpekmlbaa.PPg

namespace Go.Proofs.Ytkbcgahpekmlbaa.PPg
open Go.RowKit Go.Proofs.YtkbcgahpekmlbaaW.PrintWords Go.Proofs.YtkbcgahpekmlbaaW.PrintLast Go.Proofs.YtkbcgahpekmlbaaW.PrintMore
set_option linter.unusedVariables false
set_option maxRecDepth 100000
/-- The header of a set's slice: a whole block of n cells. -/
def hdr (n b : Nat) : Value := .slice (some ⟨b, 0, none⟩) n n
abbrev kH (n : Nat) : Kd Nat := Kd.scalar (hdr n) (fun _ => rfl)
/-- A set's block. -/
def rowA (n : Nat) (p : Int → Bool) : Array Value := ((List.range n).map fun d : Nat => Value.bool (p d)).toArray
theorem rowA_get {n : Nat} {p : Int → Bool} {d : Nat} (h : d < n) : (rowA n p)[d]? = some (.bool (p d)) := by
  unfold rowA
  rw [List.getElem?_toArray, List.getElem?_map, List.getElem?_range h]; rfl
theorem rowA_size (n : Nat) (p : Int → Bool) : (rowA n p).size = n := by simp [rowA]
/-- A set without one residue. -/
def off (p : Int → Bool) (d : Int) : Int → Bool := fun x => p x && !decide (x = d)
def put1 (p : Int → Bool) (d : Int) (b : Bool) : Int → Bool := fun x => if x = d then b else p x
theorem rowA_put (n : Nat) (p : Int → Bool) (d : Nat) (b : Bool) : (rowA n p).setIfInBounds d (.bool b) = rowA n (put1 p d b) := by
  apply Array.ext_getElem?
  intro i
  rw [Array.getElem?_setIfInBounds]
  by_cases e : d = i
  · subst e
    by_cases h : d < n
    · rw [if_pos rfl, if_pos (by rw [rowA_size]; exact h), rowA_get h, put1, if_pos rfl]
    · rw [if_pos rfl, if_neg (by rw [rowA_size]; exact h), Array.getElem?_eq_none (by rw [rowA_size]; omega)]
  · rw [if_neg e]
    by_cases h : i < n
    · rw [rowA_get h, rowA_get h, put1, if_neg (by omega)]
    · rw [Array.getElem?_eq_none (by rw [rowA_size]; omega), Array.getElem?_eq_none (by rw [rowA_size]; omega)]
/-- The table at block g, made behind w0: its network (which came in), the headers bs, the sets p. -/
structure RT (w w0 : World) (g n : Nat) (ev : List S65) (ac : List S30) (bs : List Nat) (p : Nat → Int → Bool) : Prop where
  tab : ∃ A1 c1 A2 c2 v3, w.heap[g]? = some (.cells #[.int .i64 n, .slice A1 ev.length c1, .slice A2 ac.length c2, v3] 97 (0, 0)) ∧ (ev.length ≤ c1 ∧ Kd.C k65 w0 A1 ev.length ev) ∧ (ac.length ≤ c2 ∧ Kd.C k30 w0 A2 ac.length ac) ∧ Kd.R (kH n) 73 w w0.heap.size (fun k => k ≠ g) v3 bs
  ge : w0.heap.size ≤ g
  rows : ∀ k b : Nat, bs[k]? = some b → w.heap[b]? = some (.cells (rowA n (p k)) 4 (0, 0)) ∧ w0.heap.size ≤ b
  inj : ∀ k k' b : Nat, bs[k]? = some b → bs[k']? = some b → k = k'
  below : Below w0.heap.size w0 w
theorem E73 {n : Nat} : ∀ q, q ∈ 73 :: (kH n).E → q = 73 := fun q hq => by simpa [kH, Kd.scalar] using hq
section
variable {w w' w0 : World} {g n : Nat} {ev : List S65} {ac : List S30} {bs : List Nat} {p : Nat → Int → Bool}
theorem RT_below (h : RT w w0 g n ev ac bs p) (hb : Below w.heap.size w w') : RT w' w0 g n ev ac bs p := by
  obtain ⟨A1, c1, A2, c2, v3, h1, h2, h3, h4⟩ := h.tab
  exact ⟨⟨A1, c1, A2, c2, v3, (hb.block g (blk_lt h1)).trans h1, h2, h3, Kd.R_below h4 hb⟩, h.ge, fun k b hk => ⟨(hb.block b (blk_lt (h.rows k b hk).1)).trans (h.rows k b hk).1, (h.rows k b hk).2⟩, h.inj, below_step h.below hb⟩
theorem RT_lt (h : RT w w0 g n ev ac bs p) : g < w.heap.size := by
  obtain ⟨A1, c1, A2, c2, v3, h1, _⟩ := h.tab
  exact blk_lt h1
theorem RT_P (h : RT w w0 g n ev ac bs p) : w.cell? ⟨g, 0, none⟩ = some (.int .i64 n) := by
  obtain ⟨A1, c1, A2, c2, v3, h1, _⟩ := h.tab
  rw [blk_cell h1]; rfl
theorem RT_net (h : RT w w0 g n ev ac bs p) : ∃ A1 c1 A2 c2, w.cell? ⟨g, 1, none⟩ = some (.slice A1 ev.length c1) ∧ w.cell? ⟨g, 2, none⟩ = some (.slice A2 ac.length c2) ∧ (ev.length ≤ c1 ∧ Kd.C k65 w A1 ev.length ev) ∧ ac.length ≤ c2 ∧ Kd.C k30 w A2 ac.length ac := by
  obtain ⟨A1, c1, A2, c2, v3, h1, h2, h3, _⟩ := h.tab
  exact ⟨A1, c1, A2, c2, by rw [blk_cell h1]; rfl, by rw [blk_cell h1]; rfl, ⟨h2.1, Kd.C_below h2.2 h.below⟩, h3.1, Kd.C_below h3.2 h.below⟩
/-- The headers' slice. -/
theorem RT_sets (h : RT w w0 g n ev ac bs p) : ∃ A c, w.cell? ⟨g, 3, none⟩ = some (.slice A bs.length c) ∧ bs.length ≤ c ∧ bs.length ≤ 9223372036854775807 := by
  obtain ⟨A1, c1, A2, c2, v3, h1, _, _, h4⟩ := h.tab
  obtain ⟨A, c, rfl, hl, hc⟩ := Kd.R_reads h4
  exact ⟨A, c, by rw [blk_cell h1]; rfl, hl, Kd.C_max hc⟩
/-- A header by its place. -/
theorem RT_at (h : RT w w0 g n ev ac bs p) {k b : Nat} (hk : bs[k]? = some b) : ∃ gr c, w.cell? ⟨g, 3, none⟩ = some (.slice (some ⟨gr, 0, none⟩) bs.length c) ∧ w.cell? ⟨gr, k, none⟩ = some (.slice (some ⟨b, 0, none⟩) n n) := by
  obtain ⟨A1, c1, A2, c2, v3, h1, _, _, h4⟩ := h.tab
  have hl : k < bs.length := (List.getElem?_eq_some_iff.1 hk).1
  obtain ⟨gr, c, rfl, _, _, _, _⟩ := Kd.R_form h4 (by omega)
  obtain ⟨hc, _⟩ := Kd.R_celln (0 : Nat) h4 (k : Int) (by omega) (by omega)
  refine ⟨gr, c, by rw [blk_cell h1]; rfl, ?_⟩
  rw [Int.toNat_natCast] at hc
  rw [hc]
  unfold rdOf
  rw [Int.toNat_natCast, List.getD_eq_getElem?_getD, hk]; rfl
/-- A residue's cell. -/
theorem RT_cell (h : RT w w0 g n ev ac bs p) {k b : Nat} (hk : bs[k]? = some b) {d : Nat} (hd : d < n) : w.cell? ⟨b, d, none⟩ = some (.bool (p k d)) ∧ w.frozen? ⟨b, d, none⟩ = false := by
  have hb := (h.rows k b hk).1
  exact ⟨by rw [blk_cell hb, rowA_get hd], blk_frozen hb d⟩
/-- A store into a set. -/
theorem RT_put (h : RT w w0 g n ev ac bs p) {k b : Nat} (hk : bs[k]? = some b) (d : Nat) (x : Bool) : RT (w.setCell ⟨b, d, none⟩ (.bool x)) w0 g n ev ac bs (fun k' => if k' = k then put1 (p k) d x else p k') := by
  obtain ⟨A1, c1, A2, c2, v3, h1, h2, h3, h4⟩ := h.tab
  have hb := (h.rows k b hk).1
  refine ⟨⟨A1, c1, A2, c2, v3, ?_, h2, h3, Kd.R_set h4 hb (fun q hq => by have := E73 q hq; omega) _ _⟩, h.ge, fun k' b' hk' => ?_, h.inj, h.below.setCell (p := ⟨b, d, none⟩) (h.rows k b hk).2 _⟩
  · exact (Below.heap_setCell w ⟨b, d, none⟩ _ g (blk_ne h1 hb (by decide))).trans h1
  · by_cases e : k' = k
    · subst e
      have : b' = b := by rw [hk] at hk'; injection hk' with e; exact e.symm
      subst this
      refine ⟨?_, (h.rows k' b' hk).2⟩
      rw [if_pos rfl, blk_set hb, rowA_put]
    · have hne : b' ≠ b := fun e' => e (h.inj k' k b' hk' (by rw [e']; exact hk))
      rw [if_neg e]
      exact ⟨(Below.heap_setCell w ⟨b, d, none⟩ _ b' hne).trans (h.rows k' b' hk').1, (h.rows k' b' hk').2⟩
theorem RT_congr {p' : Nat → Int → Bool} (h : RT w w0 g n ev ac bs p) (hp : ∀ k, k < bs.length → ∀ x : Int, 0 ≤ x → x < n → p k x = p' k x) : RT w w0 g n ev ac bs p' :=
  ⟨h.tab, h.ge, fun k b hk => by
    obtain ⟨h1, h2⟩ := h.rows k b hk
    refine ⟨?_, h2⟩
    rw [h1]
    have hl : k < bs.length := (List.getElem?_eq_some_iff.1 hk).1
    have : rowA n (p k) = rowA n (p' k) := by
      unfold rowA
      congr 1
      refine List.map_congr_left fun d hd => ?_
      rw [List.mem_range] at hd
      rw [hp k hl d (by omega) (by omega)]
    rw [this], h.inj, h.below⟩
end
end Go.Proofs.Ytkbcgahpekmlbaa.PPg

namespace Go.Proofs.Ytkbcgahpekmlbaa.PPg
open Go.RowKit Go.Proofs.YtkbcgahpekmlbaaW.PrintWords Go.Proofs.YtkbcgahpekmlbaaW.PrintLast Go.Proofs.YtkbcgahpekmlbaaW.PrintMore
set_option linter.unusedVariables false
set_option linter.unusedSimpArgs false

theorem Pick_some (a n : Int) (h1 : 1 ≤ n) (h2 : n ≤ 9223372036854775807) : ∃ r, railplankeep_Pick.f a n = some r ∧ 0 ≤ r ∧ r < n := by
  have hu : IntKind.u64.wrap n = n := by simp only [IntKind.wrap_u64]; exact em_lo (by omega) (by omega)
  have hb := em_bound (IntKind.u64.wrap a) (show 0 < n by omega)
  have h0 : 0 ≤ IntKind.u64.wrap a := by simp only [IntKind.wrap_u64]; exact Int.emod_nonneg _ (by omega)
  refine ⟨IntKind.u64.wrap a % n, ?_, hb⟩
  unfold railplankeep_Pick.f
  rw [hu, if_neg (by omega), tmod_pos h0, wrap_ok (by omega) (by omega)]
end Go.Proofs.Ytkbcgahpekmlbaa.PPg

namespace Go.Proofs.Ytkbcgahpekmlbaa.PPg
open Go.RowKit Go.Proofs.YtkbcgahpekmlbaaW.PrintWords Go.Proofs.YtkbcgahpekmlbaaW.PrintLast Go.Proofs.YtkbcgahpekmlbaaW.PrintMore
set_option linter.unusedVariables false
set_option linter.unusedSimpArgs false

theorem Next_some (l : List Int) (hl : Fit l) (i n : Int) (h0 : 0 ≤ i) (hi : i ≤ l.length) (h1 : 1 ≤ n) (h2 : n ≤ 9223372036854775807) :
    ∃ r j, railplankeep_Source_Next.f l i n = some (r, j) ∧ 0 ≤ r ∧ r < n ∧ 0 ≤ j ∧ j ≤ l.length := by
  unfold Fit at hl
  unfold railplankeep_Source_Next.f
  by_cases h : i ≥ (l.length : Int)
  · rw [if_pos h]; exact ⟨0, i, rfl, by omega, by omega, h0, hi⟩
  · rw [if_neg h, wrap_ok (a := i + 1) (by omega) (by omega), wrap_ok (by omega) (by omega), if_pos (by omega), if_pos (by omega)]
    obtain ⟨r, hr, r0, r1⟩ := Pick_some (rd l (i + 1 - 1)) n h1 h2
    rw [hr]
    exact ⟨r, i + 1, rfl, r0, r1, by omega, by omega⟩
end Go.Proofs.Ytkbcgahpekmlbaa.PPg

namespace Go.Proofs.Ytkbcgahpekmlbaa.PPg
open Go.RowKit Go.Proofs.YtkbcgahpekmlbaaW.PrintWords Go.Proofs.YtkbcgahpekmlbaaW.PrintLast Go.Proofs.YtkbcgahpekmlbaaW.PrintMore
set_option linter.unusedVariables false
/-- What joins make of a matrix. -/
inductive Reach (n m : Nat) (q0 : Mx) : Mx → Prop
  | base : Reach n m q0 q0
  | step {q : Mx} {i j k : Nat} : Reach n m q0 q → i < m → j < m → k < m → i ≠ j → k ≠ i → k ≠ j → Reach n m q0 (upd q i k (jp n q i j k))
/-- No join makes a set smaller. -/
def Stable (n m : Nat) (q : Mx) : Prop := ∀ i j k, i < m → j < m → k < m → i ≠ j → k ≠ i → k ≠ j → still n q i j k
/-- The triples that a pass has come by. -/
def Vis (n m : Nat) (q : Mx) (J I K : Nat) : Prop := ∀ j i k, j < m → i < m → k < m → (j < J ∨ j = J ∧ (i < I ∨ i = I ∧ k < K)) → i ≠ j → k ≠ i → k ≠ j → still n q i j k
/-- In a pass that began at qs. -/
structure PInv (n m : Nat) (q0 qs : Mx) (t : Bool) (q : Mx) (J I K : Nat) : Prop where
  reach : Reach n m q0 q
  less : t = true → tot n m q < tot n m qs
  here : t = false → q = qs ∧ Vis n m q J I K
theorem PInv_start {n m : Nat} {q0 qs : Mx} (h : Reach n m q0 qs) : PInv n m q0 qs false qs 0 0 0 :=
  ⟨h, (fun e => by cases e), fun _ => ⟨rfl, fun j i k _ _ _ hv => by omega⟩⟩
theorem PInv_skipK {n m : Nat} {q0 qs : Mx} {t : Bool} {q : Mx} {J I K : Nat} (h : PInv n m q0 qs t q J I K) (hk : K = I ∨ K = J) : PInv n m q0 qs t q J I (K + 1) :=
  ⟨h.reach, h.less, fun e => ⟨(h.here e).1, fun j i k hj hi hk' hv h1 h2 h3 => (h.here e).2 j i k hj hi hk' (by omega) h1 h2 h3⟩⟩
theorem PInv_still {n m : Nat} {q0 qs : Mx} {t : Bool} {q : Mx} {J I K : Nat} (h : PInv n m q0 qs t q J I K) (hs : still n q I J K) : PInv n m q0 qs t q J I (K + 1) :=
  ⟨h.reach, h.less, fun e => ⟨(h.here e).1, fun j i k hj hi hk' hv h1 h2 h3 => by
    by_cases hc : j = J ∧ i = I ∧ k = K
    · obtain ⟨rfl, rfl, rfl⟩ := hc; exact hs
    · exact (h.here e).2 j i k hj hi hk' (by omega) h1 h2 h3⟩⟩
theorem tot_less' {n m i j k : Nat} (q : Mx) (hi : i < m) (hk : k < m) (hs : ¬ still n q i j k) : tot n m (upd q i k (jp n q i j k)) < tot n m q := by
  rw [tot_upd q _ hi hk]
  have hc : cnt (jp n q i j k) n < cnt (q i k) n := by
    by_cases h : cnt (jp n q i j k) n < cnt (q i k) n
    · exact h
    · exact absurd (.inr (cnt_eq (fun x _ _ hx => jp_le x hx) (by omega))) hs
  omega
theorem PInv_less {n m : Nat} {q0 qs : Mx} {t : Bool} {q : Mx} {J I K : Nat} (h : PInv n m q0 qs t q J I K) (hJ : J < m) (hI : I < m) (hK : K < m) (h1 : I ≠ J) (h2 : K ≠ I) (h3 : K ≠ J) (hs : ¬ still n q I J K) : PInv n m q0 qs true (upd q I K (jp n q I J K)) J I (K + 1) := by
  have hl := tot_less' q hI hK hs
  refine ⟨h.reach.step hI hJ hK h1 h2 h3, fun _ => ?_, fun e => by cases e⟩
  cases t with
  | true => have := h.less rfl; omega
  | false => rw [(h.here rfl).1] at hl ⊢; exact hl
theorem PInv_nextI {n m : Nat} {q0 qs : Mx} {t : Bool} {q : Mx} {J I : Nat} (h : PInv n m q0 qs t q J I m) : PInv n m q0 qs t q J (I + 1) 0 :=
  ⟨h.reach, h.less, fun e => ⟨(h.here e).1, fun j i k hj hi hk' hv h1 h2 h3 => (h.here e).2 j i k hj hi hk' (by omega) h1 h2 h3⟩⟩
theorem PInv_skipI {n m : Nat} {q0 qs : Mx} {t : Bool} {q : Mx} {J I : Nat} (h : PInv n m q0 qs t q J I 0) (hs : I = J ∨ wholeB n (can n (q I J)) = true) : PInv n m q0 qs t q J (I + 1) 0 :=
  ⟨h.reach, h.less, fun e => ⟨(h.here e).1, fun j i k hj hi hk' hv h1 h2 h3 => by
    by_cases hc : j = J ∧ i = I
    · obtain ⟨rfl, rfl⟩ := hc
      rcases hs with hs | hs
      · exact absurd hs h1
      · exact .inl (by unfold jw; rw [hs, Bool.true_or])
    · exact (h.here e).2 j i k hj hi hk' (by omega) h1 h2 h3⟩⟩
theorem PInv_nextJ {n m : Nat} {q0 qs : Mx} {t : Bool} {q : Mx} {J : Nat} (h : PInv n m q0 qs t q J m 0) : PInv n m q0 qs t q (J + 1) 0 0 :=
  ⟨h.reach, h.less, fun e => ⟨(h.here e).1, fun j i k hj hi hk' hv h1 h2 h3 => (h.here e).2 j i k hj hi hk' (by omega) h1 h2 h3⟩⟩
theorem PInv_end {n m : Nat} {q0 qs q : Mx} (h : PInv n m q0 qs false q m 0 0) : Stable n m q := fun i j k hi hj hk h1 h2 h3 => (h.here rfl).2 j i k hj hi hk (.inl hj) h1 h2 h3
/-- What Close leaves in the table. -/
def Closed (n m : Nat) (q0 : Mx) (sets : List (List S41)) : Prop :=
  ∃ q, Reach n m q0 q ∧ ((noneIn (tabl n m q) = true ∧ sets = List.replicate (m * m) []) ∨ (noneIn (tabl n m q) = false ∧ Stable n m q ∧ sets = tabl n m q))
theorem nil_set (l : List (List S41)) (k : Nat) (hk : k < l.length) : (List.replicate k ([] : List S41) ++ l.drop k).set k [] = List.replicate (k + 1) [] ++ l.drop (k + 1) := by
  rw [List.drop_eq_getElem_cons hk, List.set_append_right _ _ (by simp), List.length_replicate, Nat.sub_self, List.set_cons_zero, List.replicate_succ', List.append_assoc]; rfl
end Go.Proofs.Ytkbcgahpekmlbaa.PPg

namespace Go.Proofs.Ytkbcgahpekmlbaa.PPg
open Go.RowKit Go.Proofs.YtkbcgahpekmlbaaW.PrintWords Go.Proofs.YtkbcgahpekmlbaaW.PrintLast Go.Proofs.YtkbcgahpekmlbaaW.PrintMore
set_option linter.unusedVariables false
set_option maxRecDepth 100000
theorem whole_q {w : World} {n g : Nat} {P : Int} {A : Option Addr} {c : Nat} {s : List S41} {b : Bool} (hb : wholeB P s = b) (hP : w.cell? ⟨g, 0, none⟩ = some (.int .i64 P)) (hs : VS w (.slice A s.length c) s) (hf : Low s) :
    Calls Try.prog 36 #[.pointer (some ⟨g, 0, none⟩), .slice A s.length c] (w.drewN n) fun e w'' => e = .returned (.bool b) ∧ ∃ q, w'' = w.drewN q := by
  subst hb
  refine (whole_c (w.drewN n) g P A c s hP (VS_C (VS_drewN hs n)) hf).mono ?_
  rintro e w' ⟨he, ⟨m, hm⟩⟩
  exact ⟨he, n + m, by rw [hm, World.drewN_drewN]⟩
theorem Close_bad (w : World) (P : Int) (A1 A2 : Option Addr) (c1 c2 : Nat) (ev : List S65) (ac : List S30) (h1 : Kd.C k65 w A1 ev.length ev) (h2 : Kd.C k30 w A2 ac.length ac) (hok : okN P ev ac = false) :
    Calls Try.prog 14 #[.agg #[.int .i64 P, .slice A1 ev.length c1, .slice A2 ac.length c2]] w fun e w' => e = .returned (.tuple #[.pointer none, .int .i64 1]) ∧ Below w.heap.size w w' := by
  have H1 := Aside0.mk h1
  have H2 := Aside0.mk h2
  have HK := Aside0.mk hok
  clear h1 h2 hok
  go_enter Try.func14, Try.ntmps14
  go_wp2_with fail
  refine (Check_c _ P A1 A2 c1 c2 ev ac (Kd.C_alloc H1.out _) (Kd.C_alloc H2.out _)).mono ?_
  rw [HK.out]
  rintro _ w1 ⟨rfl, hb⟩
  have HB := Aside0.mk (below_step ((Below.refl w.heap.size w).alloc (Nat.le_refl _) _) hb)
  clear hb
  go_wp2_with fail
  go_ret2
  exact ⟨rfl, HB.out⟩
set_option maxHeartbeats 4000000 in
theorem Close_ok {n : Nat} (w : World) (A1 A2 : Option Addr) (c1 c2 : Nat) (ev : List S65) (ac : List S30) (h1 : Kd.C k65 w A1 ev.length ev) (h2 : Kd.C k30 w A2 ac.length ac) (hok : okN n ev ac = true) :
    Calls Try.prog 14 #[.agg #[.int .i64 n, .slice A1 ev.length c1, .slice A2 ac.length c2]] w fun e w' => (∃ g sets, e = .returned (.tuple #[.pointer (some ⟨g, 0, none⟩), .int .i64 0]) ∧ Tb w' w.heap.size g n ev ac ev.length sets ∧ Closed n ev.length (initM n ac) sets) ∧ Below w.heap.size w w' := by
  have hk : (2 ≤ n ∧ n ≤ 7200) ∧ ev.length ≤ 48 ∧ ac.length ≤ 512 := by
    unfold okN at hok
    simp only [Bool.and_eq_true, decide_eq_true_eq, Bool.not_eq_true'] at hok
    exact ⟨by omega, hok.2.1, hok.2.2.1⟩
  obtain ⟨⟨n2, n72⟩, he, ha⟩ := hk
  have n1 : 1 ≤ n := by omega
  have H1 := Aside0.mk h1
  have H2 := Aside0.mk h2
  have HK := Aside0.mk hok
  clear h1 h2 hok
  go_enter Try.func14, Try.ntmps14
  go_wp2_with fail
  refine (Check_c _ n A1 A2 c1 c2 ev ac (Kd.C_alloc H1.out _) (Kd.C_alloc H2.out _)).mono ?_
  rw [HK.out]
  rintro _ w1 ⟨rfl, hb⟩
  have HB := Aside0.mk (below_step ((Below.refl w.heap.size w).alloc (Nat.le_refl _) _) hb)
  have hbx := (hb.block w.heap.size (by simp)).trans (heap_alloc_new w (.cells #[.int .i64 n, .slice A1 ev.length c1, .slice A2 ac.length c2] 25))
  have q1 : w1.cell? ⟨w.heap.size, 1, none⟩ = some (.slice A1 ev.length c1) := by rw [blk_cell hbx]; rfl
  have q2 : w1.cell? ⟨w.heap.size, 2, none⟩ = some (.slice A2 ac.length c2) := by rw [blk_cell hbx]; rfl
  have qf := blk_frozen hbx 2
  have HX := Aside0.mk hbx
  have HC1 := Aside0.mk (Kd.C_below (Kd.C_alloc H1.out _) hb)
  have HC2 := Aside0.mk (Kd.C_below (Kd.C_alloc H2.out _) hb)
  have HZ1 := Aside0.mk (show w.heap.size < w1.heap.size from blk_lt hbx)
  clear hbx hb
  go_wp2_with (first
    | ((with_reducible refine gate_builtin (b := .append) (xs := #[.const (.slice none 0 0), .tmp 14]) rfl ?_); at_builtin; go_loud (refine Kd.R_append_rows k30 (w0 := w) w.heap.size rfl (.const (.slice none 0 0)) (.tmp 14) 23 30 (.agg #[(.int .i64 0), (.int .i64 0), (.int .i64 0), (.int .i64 0), (.int .i64 0), (.int .i64 0)]) 48 rfl Try.underlying23 info30 rfl (by decide) (by omega) (.slice none 0 0) ([] : List S30) ac A2 ac.length c2 (fun _ => True) (fun _ => False) rfl rfl (Kd.R_nil _ _ _ _ _) HC2.out (fun x cs hk => by rw [k30_open hk]; exact k30_mkM _ _ _ x) (fun _ hk => hk.elim) (fun _ _ => trivial) HB.out (Nat.le_of_lt HZ1.out) (by simp; omega) ?_; intro v2 w2 ho hb hg hat; rw [List.nil_append] at ho; obtain ⟨A3, c3, e3⟩ := Kd.R_slice ho; subst e3; have hbx := (hg.block w.heap.size HZ1.out (by simp [Value.ownBlock])).trans HX.out; have q3 : w2.cell? ⟨w.heap.size, 1, none⟩ = some (.slice A1 ev.length c1) := (by rw [blk_cell hbx]; rfl); have q4 : w2.cell? ⟨w.heap.size, 2, none⟩ = some (.slice A2 ac.length c2) := (by rw [blk_cell hbx]; rfl); have qf2 := blk_frozen hbx 2; have HX2 := Aside0.mk (blk_set hbx 2 (.slice A3 ac.length c3)); have HB2 := Aside0.mk (hb.setCell (p := ⟨w.heap.size, 2, none⟩) (Nat.le_refl _) (.slice A3 ac.length c3)); have hr := Kd.R_types ho hbx (fun q hq => by have := E30 q hq; omega); have HR2 := Aside0.mk (Kd.R_far (p := ⟨w.heap.size, 2, none⟩) hr (fun k hk => hk.2) (.slice A3 ac.length c3)); have HC3 := Aside0.mk (Kd.C_below H1.out HB2.out); have HZ2 := Aside0.mk (show w.heap.size < (w2.setCell ⟨w.heap.size, 2, none⟩ (.slice A3 ac.length c3)).heap.size from blk_lt HX2.out); clear ho hb hg hat hbx hr q1 q2 qf))
    | ((with_reducible refine gate_builtin (b := .append) (xs := #[.const (.slice none 0 0), .tmp 18]) rfl ?_); at_builtin; go_loud (refine Kd.R_append_rows k65 (w0 := w) w.heap.size rfl (.const (.slice none 0 0)) (.tmp 18) 22 65 (.agg #[(.int .i64 0), (.int .i64 0), (.int .i64 0)]) 24 rfl Try.underlying22 info65 rfl (by decide) (by omega) (.slice none 0 0) ([] : List S65) ev A1 ev.length c1 (fun _ => True) (fun _ => False) rfl rfl (Kd.R_nil _ _ _ _ _) HC3.out (fun x cs hk => by rw [k65_open hk]; exact k65_mkM _ _ _ x) (fun _ hk => hk.elim) (fun _ _ => trivial) HB2.out (Nat.le_of_lt HZ2.out) (by simp; omega) ?_; intro v4 w4 ho hb hg hat; rw [List.nil_append] at ho; obtain ⟨A4, c4, e4⟩ := Kd.R_slice ho; subst e4; have hbx := (hg.block w.heap.size HZ2.out (by simp [Value.ownBlock])).trans HX2.out; have q5 : w4.cell? ⟨w.heap.size, 0, none⟩ = some (.int .i64 n) := (by rw [blk_cell hbx]; rfl); have q6 : w4.cell? ⟨w.heap.size, 1, none⟩ = some (.slice A1 ev.length c1) := (by rw [blk_cell hbx]; rfl); have q7 : w4.cell? ⟨w.heap.size, 2, none⟩ = some (.slice A3 ac.length c3) := (by rw [blk_cell hbx]; rfl); have qf4 := blk_frozen hbx 1; have hr := Kd.R_types ho hbx (fun q hq => by have := E65 q hq; omega); have HR4 := Aside0.mk (Kd.R_far (p := ⟨w.heap.size, 1, none⟩) hr (fun k hk => hk.2) (.slice A4 ev.length c4)); have hr2 := Kd.R_types (Kd.R_grown HR2.out hg (fun k hk => by simp [Value.ownBlock])) hbx (fun q hq => by have := E30 q hq; omega); have HR24 := Aside0.mk (Kd.R_far (p := ⟨w.heap.size, 1, none⟩) hr2 (fun k hk => hk.2) (.slice A4 ev.length c4)); have HB4 := Aside0.mk (hb.setCell (p := ⟨w.heap.size, 1, none⟩) (Nat.le_refl _) (.slice A4 ev.length c4)); clear ho hb hg hat hbx hr hr2 q3 q4 qf2 HX2 HR2)))
  refine (initial_c w _ ev ac (.slice A4 ev.length c4) (.slice A3 ac.length c3) _ _ HK.out HB4.out HR4.out HR24.out).mono ?_
  rintro _ w5 ⟨⟨g, rfl, ht⟩, hb⟩
  have HT5 := Aside0.mk ht
  have HB5 := Aside0.mk hb
  clear ht hb q5 q6 q7 qf4 HB HX HC1 HC2 HZ1 HR4 HR24 HB4 HB2 HC3 HZ2
  go_wp2_with fail
  go_loopg [5] ((tot n ev.length (initM n ac)).toNat + 1) (fun G v5 wr => ∃ (t : Bool) (q : Mx), v5 = .bool t ∧ Aside0 (Reach n ev.length (initM n ac) q) ∧ Aside0 ((tot n ev.length q).toNat + (if t then 1 else 0) ≤ G) ∧ Aside0 (t = false → Stable n ev.length q) ∧ Aside0 (Tb wr w.heap.size g n ev ac ev.length (tabl n ev.length q)) ∧ Aside0 (Below w.heap.size w wr))
  case atStart => exact ⟨true, _, rfl, ⟨.base⟩, ⟨by simp⟩, ⟨fun h => by cases h⟩, HT5, HB5⟩
  case round =>
    clear HT5 HB5
    obtain ⟨t, q, rfl, HRq, HG, HS, HT, HB⟩ := hrel
    cases hn : noneIn (tabl n ev.length q) with
    | true =>
      have HN := Aside0.mk hn
      clear hn
      have HE : Aside0 (∀ W, Tb W w.heap.size g n ev ac ev.length (tabl n ev.length q) → Calls Try.prog 19 #[.pointer (some ⟨g, 0, none⟩)] W fun e w' => e = .returned (.bool true) ∧ W = w') := ⟨fun W h => by have := Empty_c W w.heap.size g n ev ac ev.length _ h; rwa [HN.out] at this⟩
      cases t
      · go_wp2_with fail
        refine (HE.out _ HT.out).mono ?_
        rintro _ _ ⟨rfl, rfl⟩
        obtain ⟨AL, cL, h4, _, _⟩ := Tb_sets HT.out
        go_wp2_with fail
        clear h4
        go_loopw [92] (fun v92 w6 => ∃ (k : Nat) (S : List (List S41)), v92 = .int .i64 k ∧ Aside0 (k ≤ (tabl n ev.length q).length) ∧ Aside0 (S = List.replicate k [] ++ (tabl n ev.length q).drop k) ∧ Aside0 (Tb w6 w.heap.size g n ev ac ev.length S) ∧ Aside0 (Below w.heap.size w w6)) (fun v92 _ => (tabl n ev.length q).length - (intOf v92).toNat)
        case atStart => exact ⟨0, _, rfl, ⟨Nat.zero_le _⟩, ⟨rfl⟩, HT, HB⟩
        case round =>
          clear HT HB
          obtain ⟨k, S, rfl, HK1, HS1, HT, HB⟩ := hrel
          have hk1 := HK1.out
          have hsl : S.length = (tabl n ev.length q).length := by rw [HS1.out]; simp; omega
          have HML := Aside0.mk (tabl_len n ev.length q)
          have hmx : (tabl n ev.length q).length ≤ 2304 := by rw [tabl_len]; exact Nat.mul_le_mul he he
          by_cases ck : k < (tabl n ev.length q).length
          · have hks : k < S.length := by omega
            obtain ⟨gr, cr, Ak, ckk, h4, h5, hv, _, _⟩ := Tb_at HT.out (k : Int) (by omega) (by omega)
            have hf := Tb_free HT.out h4 k
            have PUT := Aside0.mk (Tb_put HT.out h4 (k : Int) (by omega) (by omega) (Kd.R_nil k41 41 wr w.heap.size (fun _ => True)))
            simp only [Int.toNat_natCast] at h5 PUT
            have SET : Aside0 (S.set k [] = List.replicate (k + 1) [] ++ (tabl n ev.length q).drop (k + 1)) := ⟨by rw [HS1.out]; exact nil_set _ k ck⟩
            clear hv
            have HSL := Aside0.mk hsl
            clear hsl
            go_wp2_with fail
            go_roundw
            case rel => exact ⟨k + 1, _, by go_num, ⟨by omega⟩, ⟨SET.out⟩, ⟨PUT.out.1⟩, ⟨HB.out.trans PUT.out.2.1⟩⟩
            case measure => simp [intOf]; omega
          · have HSL := Aside0.mk hsl
            clear hsl
            go_wp2_with fail
            go_ret2
            refine ⟨⟨g, S, rfl, HT.out, q, HRq.out, .inl ⟨HN.out, ?_⟩⟩, HB.out⟩
            rw [HS1.out, List.drop_eq_nil_of_le (by omega), List.append_nil]
            congr 1
            have := HML.out
            omega
      · go_wp2_with fail
        refine (HE.out _ HT.out).mono ?_
        rintro _ _ ⟨rfl, rfl⟩
        go_wp2_with fail
        refine (HE.out _ HT.out).mono ?_
        rintro _ _ ⟨rfl, rfl⟩
        obtain ⟨AL, cL, h4, _, _⟩ := Tb_sets HT.out
        go_wp2_with fail
        clear h4
        go_loopw [92] (fun v92 w6 => ∃ (k : Nat) (S : List (List S41)), v92 = .int .i64 k ∧ Aside0 (k ≤ (tabl n ev.length q).length) ∧ Aside0 (S = List.replicate k [] ++ (tabl n ev.length q).drop k) ∧ Aside0 (Tb w6 w.heap.size g n ev ac ev.length S) ∧ Aside0 (Below w.heap.size w w6)) (fun v92 _ => (tabl n ev.length q).length - (intOf v92).toNat)
        case atStart => exact ⟨0, _, rfl, ⟨Nat.zero_le _⟩, ⟨rfl⟩, HT, HB⟩
        case round =>
          clear HT HB
          obtain ⟨k, S, rfl, HK1, HS1, HT, HB⟩ := hrel
          have hk1 := HK1.out
          have hsl : S.length = (tabl n ev.length q).length := by rw [HS1.out]; simp; omega
          have HML := Aside0.mk (tabl_len n ev.length q)
          have hmx : (tabl n ev.length q).length ≤ 2304 := by rw [tabl_len]; exact Nat.mul_le_mul he he
          by_cases ck : k < (tabl n ev.length q).length
          · have hks : k < S.length := by omega
            obtain ⟨gr, cr, Ak, ckk, h4, h5, hv, _, _⟩ := Tb_at HT.out (k : Int) (by omega) (by omega)
            have hf := Tb_free HT.out h4 k
            have PUT := Aside0.mk (Tb_put HT.out h4 (k : Int) (by omega) (by omega) (Kd.R_nil k41 41 wr w.heap.size (fun _ => True)))
            simp only [Int.toNat_natCast] at h5 PUT
            have SET : Aside0 (S.set k [] = List.replicate (k + 1) [] ++ (tabl n ev.length q).drop (k + 1)) := ⟨by rw [HS1.out]; exact nil_set _ k ck⟩
            clear hv
            have HSL := Aside0.mk hsl
            clear hsl
            go_wp2_with fail
            go_roundw
            case rel => exact ⟨k + 1, _, by go_num, ⟨by omega⟩, ⟨SET.out⟩, ⟨PUT.out.1⟩, ⟨HB.out.trans PUT.out.2.1⟩⟩
            case measure => simp [intOf]; omega
          · have HSL := Aside0.mk hsl
            clear hsl
            go_wp2_with fail
            go_ret2
            refine ⟨⟨g, S, rfl, HT.out, q, HRq.out, .inl ⟨HN.out, ?_⟩⟩, HB.out⟩
            rw [HS1.out, List.drop_eq_nil_of_le (by omega), List.append_nil]
            congr 1
            have := HML.out
            omega
    | false =>
      have HN := Aside0.mk hn
      clear hn
      have HE : Aside0 (∀ W, Tb W w.heap.size g n ev ac ev.length (tabl n ev.length q) → Calls Try.prog 19 #[.pointer (some ⟨g, 0, none⟩)] W fun e w' => e = .returned (.bool false) ∧ W = w') := ⟨fun W h => by have := Empty_c W w.heap.size g n ev ac ev.length _ h; rwa [HN.out] at this⟩
      cases t with
      | false =>
        go_wp2_with fail
        refine (HE.out _ HT.out).mono ?_
        rintro _ _ ⟨rfl, rfl⟩
        go_wp2_with fail
        go_ret2
        exact ⟨⟨g, _, rfl, HT.out, q, HRq.out, .inr ⟨HN.out, HS.out (by first | trivial | rfl), rfl⟩⟩, HB.out⟩
      | true =>
        go_wp2_with fail
        have QS := Aside0.mk (tot_bd (m := ev.length) n72 q)
        have tm := Tb_m HT.out
        refine (HE.out _ HT.out).mono ?_
        rintro _ _ ⟨rfl, rfl⟩
        go_wp2_with fail
        clear tm
        go_loopw [5, 33] (fun v5 v33 w6 => ∃ (t : Bool) (q' : Mx) (J : Nat), v5 = .bool t ∧ v33 = .int .i64 J ∧ Aside0 (J ≤ ev.length) ∧ Aside0 (PInv n ev.length (initM n ac) q t q' J 0 0) ∧ Aside0 (Tb w6 w.heap.size g n ev ac ev.length (tabl n ev.length q')) ∧ Aside0 (Below w.heap.size w w6)) (fun _ v33 _ => ev.length - (intOf v33).toNat)
        case atStart => exact ⟨false, q, 0, rfl, rfl, ⟨Nat.zero_le _⟩, ⟨PInv_start HRq.out⟩, HT, HB⟩
        case round =>
          clear HT HB HE
          obtain ⟨t, qj, J, rfl, rfl, HJ, HPj, HT, HB⟩ := hrel
          have J1 := HJ.out
          by_cases cJ : J < ev.length
          · have tm := Tb_m HT.out
            go_wp2_with fail
            clear tm
            go_loopw [5, 40] (fun v5 v40 w6 => ∃ (t : Bool) (q' : Mx) (I : Nat), v5 = .bool t ∧ v40 = .int .i64 I ∧ Aside0 (I ≤ ev.length) ∧ Aside0 (PInv n ev.length (initM n ac) q t q' J I 0) ∧ Aside0 (Tb w6 w.heap.size g n ev ac ev.length (tabl n ev.length q')) ∧ Aside0 (Below w.heap.size w w6)) (fun _ v40 _ => ev.length - (intOf v40).toNat)
            case atStart => exact ⟨t, qj, 0, rfl, rfl, ⟨Nat.zero_le _⟩, HPj, HT, HB⟩
            case round =>
              clear HT HB HPj
              obtain ⟨t, qi, I, rfl, rfl, HI, HPi, HT, HB⟩ := hrel
              have I1 := HI.out
              by_cases cI : I < ev.length
              · by_cases hIJ : I = J
                · have eIJ : ((I : Int) == (J : Int)) = true := by simp; omega
                  have HIJ := Aside0.mk hIJ
                  clear hIJ
                  go_wp2_with fail
                  go_quiet (fail)
                  go_wp2_with fail
                  go_roundw
                  case rel => exact ⟨t, qi, I + 1, rfl, by go_num, ⟨by omega⟩, ⟨PInv_skipI HPi.out (.inl HIJ.out)⟩, ⟨Tb_below HT.out (pw_below_drewN (Below.refl _ _) _)⟩, ⟨pw_below_drewN HB.out _⟩⟩
                  case measure => simp [intOf]; omega
                · have eIJ : ((I : Int) == (J : Int)) = false := by simp; omega
                  have HIJ := Aside0.mk hIJ
                  obtain ⟨a1, a2, a3, a4, a5, a6, a7⟩ := ix_ok (n := n) qi cI cJ he
                  obtain ⟨gr, cr, AI, cI', h4, h5, hv, _, _⟩ := Tb_at HT.out _ a6 a7
                  rw [tabl_rd qi cI cJ] at h5 hv
                  have hP := Tb_P HT.out
                  have tm := Tb_m HT.out
                  have A1x := Aside0.mk a1
                  have HV := Aside0.mk hv
                  have LW := Aside0.mk (can_low n72 (qi I J))
                  clear hIJ a1 hv
                  generalize hs : can n (qi I J) = sI at *
                  have HSI := Aside0.mk hs
                  clear hs
                  generalize hix : ((I * ev.length + J : Nat) : Int) = ix at *
                  clear hix
                  cases hw : wholeB n sI with
                  | true =>
                    have HW := Aside0.mk hw
                    clear hw
                    go_wp2_with fail
                    go_quiet ((first | (go_at_call 37; exact at_q tm A1x.out a2 a3 a4 a5) | (go_at_call 36; exact whole_q HW.out hP HV.out LW.out)))
                    go_wp2_with fail
                    go_roundw
                    case rel => exact ⟨t, qi, I + 1, rfl, by go_num, ⟨by omega⟩, ⟨PInv_skipI HPi.out (.inr (by rw [HSI.out]; exact HW.out))⟩, ⟨Tb_below HT.out (pw_below_drewN (Below.refl _ _) _)⟩, ⟨pw_below_drewN HB.out _⟩⟩
                    case measure => simp [intOf]; omega
                  | false =>
                    have HW := Aside0.mk hw
                    clear hw
                    go_wp2_with fail
                    go_quiet ((first | (go_at_call 37; exact at_q tm A1x.out a2 a3 a4 a5) | (go_at_call 36; exact whole_q HW.out hP HV.out LW.out)))
                    clear h4 h5 hP
                    go_wp2_with fail
                    clear tm
                    go_loopw [5, 64] (fun v5 v64 w6 => ∃ (t : Bool) (q' : Mx) (K : Nat), v5 = .bool t ∧ v64 = .int .i64 K ∧ Aside0 (K ≤ ev.length) ∧ Aside0 (PInv n ev.length (initM n ac) q t q' J I K) ∧ Aside0 (Tb w6 w.heap.size g n ev ac ev.length (tabl n ev.length q')) ∧ Aside0 (Below w.heap.size w w6)) (fun _ v64 _ => ev.length - (intOf v64).toNat)
                    case atStart => exact ⟨t, qi, 0, rfl, rfl, ⟨Nat.zero_le _⟩, HPi, ⟨Tb_below HT.out (pw_below_drewN (Below.refl _ _) _)⟩, ⟨pw_below_drewN HB.out _⟩⟩
                    case round =>
                      clear HT HB HPi HV
                      obtain ⟨t, qk, K, rfl, rfl, HKK, HPk, HT, HB⟩ := hrel
                      have K1 := HKK.out
                      by_cases cK : K < ev.length
                      · by_cases hKI : K = I
                        · have e1 : ((K : Int) != (I : Int)) = false := by simp; omega
                          have HKI := Aside0.mk hKI
                          clear hKI
                          go_wp2_with fail
                          go_roundw
                          case rel => exact ⟨t, qk, K + 1, rfl, by go_num, ⟨by omega⟩, ⟨PInv_skipK HPk.out (.inl HKI.out)⟩, HT, HB⟩
                          case measure => simp [intOf]; omega
                        · have e1 : ((K : Int) != (I : Int)) = true := by simp; omega
                          have HKI := Aside0.mk hKI
                          clear hKI
                          by_cases hKJ : K = J
                          · have e2 : ((K : Int) != (J : Int)) = false := by simp; omega
                            have HKJ := Aside0.mk hKJ
                            clear hKJ
                            go_wp2_with fail
                            go_roundw
                            case rel => exact ⟨t, qk, K + 1, rfl, by go_num, ⟨by omega⟩, ⟨PInv_skipK HPk.out (.inr HKJ.out)⟩, HT, HB⟩
                            case measure => simp [intOf]; omega
                          · have e2 : ((K : Int) != (J : Int)) = true := by simp; omega
                            have HKJ := Aside0.mk hKJ
                            clear hKJ
                            by_cases hst : still n qk I J K
                            · have HST := Aside0.mk hst
                              clear hst
                              go_wp2_with fail
                              refine (join_still wr w.heap.size g ev ac qk n1 n72 he cI cJ cK HT.out HST.out).mono ?_
                              rintro _ w7 ⟨rfl, ht, hb, hk⟩
                              have HT7 := Aside0.mk ht
                              have HB7 := Aside0.mk (HB.out.trans hb)
                              clear ht hb hk HT HB
                              go_wp2_with fail
                              go_roundw
                              case rel => exact ⟨t, qk, K + 1, rfl, by go_num, ⟨by omega⟩, ⟨PInv_still HPk.out HST.out⟩, HT7, HB7⟩
                              case measure => simp [intOf]; omega
                            · have HST := Aside0.mk hst
                              clear hst
                              go_wp2_with fail
                              refine (join_less wr w.heap.size g ev ac qk n1 n72 he cI cJ cK HT.out HST.out).mono ?_
                              rintro _ w7 ⟨rfl, ht, hb, hk⟩
                              have HT7 := Aside0.mk ht
                              have HB7 := Aside0.mk (HB.out.trans hb)
                              clear ht hb hk HT HB
                              go_wp2_with fail
                              go_roundw
                              case rel => exact ⟨true, _, K + 1, rfl, by go_num, ⟨by omega⟩, ⟨PInv_less HPk.out cJ cI cK HIJ.out HKI.out HKJ.out HST.out⟩, HT7, HB7⟩
                              case measure => simp [intOf]; omega
                      · have eK : K = ev.length := by omega
                        subst eK
                        go_wp2_with fail
                        go_roundw
                        case rel => exact ⟨t, qk, I + 1, rfl, by go_num, ⟨by omega⟩, ⟨PInv_nextI HPk.out⟩, HT, HB⟩
                        case measure => simp [intOf]; omega
              · have eI : I = ev.length := by omega
                subst eI
                go_wp2_with fail
                go_roundw
                case rel => exact ⟨t, qi, J + 1, rfl, by go_num, ⟨by omega⟩, ⟨PInv_nextJ HPi.out⟩, HT, HB⟩
                case measure => simp [intOf]; omega
          · have eJ : J = ev.length := by omega
            subst eJ
            go_wp2_with fail
            go_roundg ((tot n ev.length qj).toNat + (if t then 1 else 0))
            case measure =>
              have h1 := HG.out
              have h2 := QS.out
              have h3 := tot_bd (m := ev.length) n72 qj
              cases t with
              | true => have := HPj.out.less rfl; simp at h1 ⊢; omega
              | false => rw [(HPj.out.here rfl).1]; simp at h1 ⊢; omega
            case rel => exact ⟨t, qj, rfl, ⟨HPj.out.reach⟩, ⟨Nat.le_refl _⟩, ⟨fun e => by subst e; exact PInv_end HPj.out⟩, HT, HB⟩
end Go.Proofs.Ytkbcgahpekmlbaa.PPg

namespace Go.Proofs.Ytkbcgahpekmlbaa.PPg
open Go.RowKit Go.Proofs.YtkbcgahpekmlbaaW.PrintWords Go.Proofs.YtkbcgahpekmlbaaW.PrintLast Go.Proofs.YtkbcgahpekmlbaaW.PrintMore
set_option linter.unusedVariables false
set_option maxRecDepth 100000
theorem at_d {w : World} {g : Nat} {i j m k : Int} (h : w.cell? ⟨g, 3, none⟩ = some (.int .i64 m)) (hk : i * m + j = k) (h0 : 0 ≤ i * m) (h1 : i * m ≤ 100000) (j0 : 0 ≤ j) (j1 : j ≤ 100000) :
    Calls Try.prog 37 #[.pointer (some ⟨g, 0, none⟩), .int .i64 i, .int .i64 j] w.drew fun e w'' => e = .returned (.int .i64 k) ∧ w.drew = w'' := at_k w.drew g i j m k h hk h0 h1 j0 j1
section
variable {Pr : Program} {ops : Array Oper} {o : Oper} {a : Act} {Q : Exit → Act → World → Prop} {Kc : Act → World → Prop} {W : World}
theorem gate_bstep {b : Builtin} {xs : Array Operand} {ts : Array TypeId} (_ho : o.op = .call { callee := .builtin b, args := xs, argTypes := ts }) (h : if Region.wanted o (yielded ops a.tmps) = true then Oper.wp Pr o a W Kc Q else Kc (a.put o.dst undef) W) : if Region.wanted o (yielded ops a.tmps) = true then Oper.wp Pr o a W Kc Q else Kc (a.put o.dst undef) W := h
end
set_option maxHeartbeats 1000000 in
theorem Between_out (w : World) (B g : Nat) (P : Int) (ev : List S65) (ac : List S30) (m : Int) (sets : List (List S41)) (i j : Int) (ht : Tb w B g P ev ac m sets) (ho : i < 0 ∨ j < 0 ∨ m ≤ i ∨ m ≤ j) :
    Calls Try.prog 18 #[.pointer (some ⟨g, 0, none⟩), .int .i64 i, .int .i64 j] w fun e w' => e = .returned (.slice none 0 0) ∧ w = w' := by
  have hm := Tb_m ht
  clear ht
  by_cases h1 : i < 0
  · clear ho
    go_enter Try.func18, Try.ntmps18
    go_wp2_with fail
    go_ret
    exact ⟨rfl, rfl⟩
  · by_cases h2 : j < 0
    · clear ho
      go_enter Try.func18, Try.ntmps18
      go_wp2_with fail
      go_ret
      exact ⟨rfl, rfl⟩
    · by_cases h3 : m ≤ i
      · clear ho
        go_enter Try.func18, Try.ntmps18
        go_wp2_with fail
        go_ret
        exact ⟨rfl, rfl⟩
      · have h4 : m ≤ j := by omega
        clear ho
        go_enter Try.func18, Try.ntmps18
        go_wp2_with fail
        go_ret
        exact ⟨rfl, rfl⟩
set_option maxHeartbeats 1000000 in
theorem Between_in (w : World) (B g : Nat) (P : Int) (ev : List S65) (ac : List S30) (m : Int) (sets : List (List S41)) (i j k : Int) (ht : Tb w B g P ev ac m sets) (hk : Ix m i j k sets.length) (i0 : 0 ≤ i) (i1 : i < m) (j1 : j < m) (hl : (rd_L2 sets k).length ≤ 7200) :
    Calls Try.prog 18 #[.pointer (some ⟨g, 0, none⟩), .int .i64 i, .int .i64 j] w fun e w' => (∃ v, e = .returned v ∧ Kd.R k41 41 w' w.heap.size (fun _ => True) v (rd_L2 sets k)) ∧ Below w.heap.size w w' := by
  obtain ⟨p1, p2, p3, p4, p5, p6, p7⟩ := hk
  have hm := Tb_m ht
  obtain ⟨gr, cr, A, c, h4, h5, hv, _, _⟩ := Tb_at ht k p6 p7
  have n1 : ¬ i < 0 := by omega
  have n2 : ¬ j < 0 := by omega
  have n3 : ¬ m ≤ i := by omega
  have n4 : ¬ m ≤ j := by omega
  have HV := Aside0.mk hv
  have HP1 := Aside0.mk p1
  clear ht hv p1
  generalize hs : rd_L2 sets k = s at *
  have HL := Aside0.mk hl
  clear hs hl
  go_enter Try.func18, Try.ntmps18
  go_wp2_with fail
  go_region_held3 (fun w' => w'.cell? ⟨g, 3, none⟩ = some (.int .i64 m) ∧ w'.cell? ⟨g, 4, none⟩ = some (.slice (some ⟨gr, 0, none⟩) sets.length cr) ∧ w'.cell? ⟨gr, k.toNat, none⟩ = some (.slice A s.length c)) (go_keep)
    (first
      | ((go_at_call 37; refine (at_d hm HP1.out p2 p3 p4 p5).mono ?_; rintro _ _ ⟨rfl, rfl⟩))
      | (((with_reducible refine gate_bstep (b := .append) (xs := #[.const (.slice none 0 0), .tmp 38]) (ts := #[42, 42]) rfl ?_); refine Kd.R_append_rows_step k41 (w0 := w) w.heap.size (by rfl) (.const (.slice none 0 0)) (.tmp 38) 42 41 (.agg #[(.int .i64 0), (.int .i64 0)]) 16 (by rfl) Try.underlying42 info41 (by rfl) (by decide) (by omega) (.slice none 0 0) ([] : List S41) s A s.length c (fun _ => True) (fun _ => False) (by rfl) (by rfl) (Kd.R_nil _ _ _ _ _) (VS_C (VS_drew HV.out)) (fun x cs hk => by rw [k41_open hk]; exact k41_mkM _ _ _ x) (fun _ hk => hk.elim) (fun _ _ => trivial) (below_drew (Below.refl _ _)) (by exact Nat.le_refl _) (by have := HL.out; simp; omega) ?_; intro v1 w1 ho hb hg hat; have HR1 := Aside0.mk ho; have HB1 := Aside0.mk hb; have z3 := (hb.cell (World.block_lt_of_cell? w _ hm)).trans hm; have z4 := (hb.cell (World.block_lt_of_cell? w _ h4)).trans h4; have z5 := (hb.cell (World.block_lt_of_cell? w _ h5)).trans h5; clear ho hb hg hat hm h4 h5)))
  go_wp2_with fail
  go_ret
  exact ⟨⟨_, rfl, by have := HR1.out; rwa [List.nil_append] at this⟩, HB1.out⟩
end Go.Proofs.Ytkbcgahpekmlbaa.PPg

namespace Go.Proofs.Ytkbcgahpekmlbaa.PPg
open Go.RowKit Go.Proofs.YtkbcgahpekmlbaaW.PrintWords Go.Proofs.YtkbcgahpekmlbaaW.PrintLast Go.Proofs.YtkbcgahpekmlbaaW.PrintMore
set_option linter.unusedVariables false
/-- All blocks but the sources are as they were. -/
def Ks (w w' : World) : Prop := w.heap.size ≤ w'.heap.size ∧ ∀ (k : Nat) (cells : Array Value) (t : TypeId), t ≠ 82 → w.heap[k]? = some (.cells cells t (0, 0)) → w'.heap[k]? = some (.cells cells t (0, 0))
theorem Ks_refl (w : World) : Ks w w := ⟨Nat.le_refl _, fun _ _ _ _ h => h⟩
theorem Ks_trans {a b c : World} (h : Ks a b) (k : Ks b c) : Ks a c := ⟨Nat.le_trans h.1 k.1, fun i cs t ht hc => k.2 i cs t ht (h.2 i cs t ht hc)⟩
theorem Ks_below {w w' : World} (h : Below w.heap.size w w') : Ks w w' := ⟨h.size, fun i cs t _ hc => (h.block i (blk_lt hc)).trans hc⟩
theorem R_Ks {α : Type} {d : Kd α} {e : Nat} {w w' : World} {base : Nat} {ok : Nat → Prop} {v : Value} {xs : List α} (h : d.R e w base ok v xs) (hk : Ks w w') (ht : ∀ q, q ∈ e :: d.E → q ≠ 82) : d.R e w' base ok v xs :=
  Kd.R_mono (Kd.R_move (Kd.R_bound h) (fun k hk' => by
    obtain ⟨_, _, _, q, hq, cells, hc⟩ := hk'
    rw [hc, hk.2 k cells q (ht q hq) hc])) (fun _ hk' => hk'.1)
/-- The source at block g. -/
def Src (w0 w : World) (g : Nat) (l : List Int) : Prop := ∃ i : Int, (0 ≤ i ∧ i ≤ l.length) ∧ IsS82 w0 w g l i
theorem Src_below {w0 w w' : World} {g : Nat} {l : List Int} (h : Src w0 w g l) (hb : Below w.heap.size w w') : Src w0 w' g l := by
  obtain ⟨i, hi, h⟩ := h
  exact ⟨i, hi, h.below hb⟩
theorem Src_far {w0 w : World} {g : Nat} {l : List Int} (h : Src w0 w g l) {p : Addr} (hne : g ≠ p.block) (u : Value) : Src w0 (w.setCell p u) g l := by
  obtain ⟨i, hi, h⟩ := h
  exact ⟨i, hi, h.far hne u⟩
theorem Src_grown {w0 w w' : World} {g : Nat} {l : List Int} {row : Option Nat} (h : Src w0 w g l) (hg : w.grownBy w' row) (hne : some g ≠ row) : Src w0 w' g l := by
  obtain ⟨i, hi, h⟩ := h
  exact ⟨i, hi, h.grown hg hne⟩
theorem Src_lt {w0 w : World} {g : Nat} {l : List Int} (h : Src w0 w g l) : g < w.heap.size := by
  obtain ⟨i, hi, h⟩ := h
  exact h.lt
theorem Src_ge {w0 w : World} {g : Nat} {l : List Int} (h : Src w0 w g l) : w0.heap.size ≤ g := by
  obtain ⟨i, hi, h⟩ := h
  exact h.ge
theorem Src_ne {w0 w : World} {g : Nat} {l : List Int} {a : Nat} {cs : Array Value} {t : TypeId} {fr : Nat × Nat} (h : Src w0 w g l) (hb : w.heap[a]? = some (.cells cs t fr)) (ht : t ≠ 82) : g ≠ a := by
  obtain ⟨i, hi, h⟩ := h
  exact h.ne_blk hb ht
theorem Src_row {w0 w : World} {g : Nat} {l : List Int} {α : Type} {d : Kd α} {e base : Nat} {ok : Nat → Prop} {v : Value} {xs : List α} (h : Src w0 w g l) (ho : d.R e w base ok v xs) (ht : e ≠ 82) : some g ≠ v.ownBlock := by
  obtain ⟨i, hi, h⟩ := h
  exact h.own_ne ho ht
theorem Next_k {w0 w : World} {g : Nat} {l : List Int} {n : Int} (h : Src w0 w g l) (hB : Below w0.heap.size w0 w) (hl : Fit l) (h1 : 1 ≤ n) (h2 : n ≤ 9223372036854775807) :
    Calls Try.prog 31 #[.pointer (some ⟨g, 0, none⟩), .int .i64 n] w fun e w' => (∃ r : Int, e = .returned (.int .i64 r) ∧ 0 ≤ r ∧ r < n) ∧ Src w0 w' g l ∧ Below w0.heap.size w0 w' ∧ Ks w w' := by
  obtain ⟨i, ⟨i0, i1⟩, hI⟩ := h
  obtain ⟨r, j, hf, r0, r1, j0, j1⟩ := Next_some l hl i n i0 i1 h1 h2
  refine (railplankeep_Source_Next.calls g l i n r j w0 w hI hB hf).mono ?_
  rintro e w' ⟨rfl, hI', hB', hk⟩
  refine ⟨⟨r, rfl, r0, r1⟩, ⟨j, ⟨j0, j1⟩, hI'⟩, hB', hk.1, fun k cells t ht hc => ?_⟩
  exact (hk.2 k (blk_lt hc) (fun e => hI.ne_blk hc ht e.symm) (by simp)).trans hc
theorem Next_d {w0 w : World} {g : Nat} {l : List Int} {n : Int} (h : Src w0 w g l) (hB : Below w0.heap.size w0 w) (hl : Fit l) (h1 : 1 ≤ n) (h2 : n ≤ 9223372036854775807) :
    Calls Try.prog 31 #[.pointer (some ⟨g, 0, none⟩), .int .i64 n] w.drew fun e w' => (∃ r : Int, e = .returned (.int .i64 r) ∧ 0 ≤ r ∧ r < n) ∧ Src w0 w' g l ∧ Below w0.heap.size w0 w' ∧ Ks w w' :=
  (Next_k (Src_below h (below_drew (Below.refl _ _))) (below_drew hB) hl h1 h2).mono fun _ _ ⟨h1, h2, h3, h4⟩ => ⟨h1, h2, h3, Ks_trans (Ks_below (below_drew (Below.refl _ _))) h4⟩
theorem From_k {w : World} {A : Option Addr} {c : Nat} {l : List Int} (h : Kd.C (Kd.int .i64) w A l.length l) (hc : l.length ≤ c) :
    Calls Try.prog 30 #[.slice A l.length c] w fun e w' => (∃ g : Nat, e = .returned (.pointer (some ⟨g, 0, none⟩)) ∧ Src w w' g l) ∧ Below w.heap.size w w' := by
  refine (railplankeep_From.calls A c l l 0 w w (Below.refl _ _) h hc rfl).mono ?_
  rintro e w' ⟨g, rfl, hI, hb, _⟩
  exact ⟨⟨g, rfl, 0, ⟨by omega, by omega⟩, hI⟩, hb⟩
/-- The same, called in a world w behind w0. -/
theorem From_k' {w0 w : World} {A : Option Addr} {c : Nat} {l : List Int} (hB : Below w0.heap.size w0 w) (h : Kd.C (Kd.int .i64) w0 A l.length l) (hc : l.length ≤ c) :
    Calls Try.prog 30 #[.slice A l.length c] w fun e w' => (∃ g : Nat, e = .returned (.pointer (some ⟨g, 0, none⟩)) ∧ Src w0 w' g l) ∧ Below w0.heap.size w0 w' ∧ Below w.heap.size w w' := by
  refine (railplankeep_From.calls A c l l 0 w0 w hB h hc rfl).mono ?_
  rintro e w' ⟨g, rfl, hI, hb, hb'⟩
  exact ⟨⟨g, rfl, 0, ⟨by omega, by omega⟩, hI⟩, hb, hb'⟩
end Go.Proofs.Ytkbcgahpekmlbaa.PPg

namespace Go.Proofs.Ytkbcgahpekmlbaa.PPg
open Go.RowKit Go.Proofs.YtkbcgahpekmlbaaW.PrintWords Go.Proofs.YtkbcgahpekmlbaaW.PrintLast Go.Proofs.YtkbcgahpekmlbaaW.PrintMore
set_option linter.unusedVariables false
theorem mod_ne {y r m : Int} (h0 : 0 ≤ y) (h1 : y < m) (r0 : 0 ≤ r) (r1 : r < m - 1) : 0 ≤ (y + 1 + r) % m ∧ (y + 1 + r) % m < m ∧ (y + 1 + r) % m ≠ y := by
  obtain ⟨b0, b1⟩ := em_bound (y + 1 + r) (show (0 : Int) < m by omega)
  refine ⟨b0, b1, ?_⟩
  by_cases h : y + 1 + r < m
  · rw [em_lo (by omega) h]; omega
  · rw [em_hi (by omega) (by omega)]; omega
/-- The maker's memory: the network at gn, the source at gs, the activity at ga, the result at w0's end. -/
structure NB (w0 W : World) (gs gn ga : Nat) (l : List Int) (P : Int) (v1 v2 : Value) (ev : List S65) (ac : List S30) (cs : Array Value) : Prop where
  net : W.heap[gn]? = some (.cells #[.int .i64 P, v1, v2] 25 (0, 0))
  evs : Kd.R k65 65 W w0.heap.size (fun _ => True) v1 ev
  acs : Kd.R k30 30 W w0.heap.size (fun k => k ≠ ga) v2 ac
  src : Src w0 W gs l
  below : Below w0.heap.size w0 W
  res : W.heap[w0.heap.size]? = some (.cells #[.int .i64 0, .slice none 0 0, .slice none 0 0] 25 (0, 0))
  act : W.heap[ga]? = some (.cells cs 30 (0, 0))
  ge : w0.heap.size ≤ ga
section
variable {w0 W W' : World} {gs gn ga : Nat} {l : List Int} {P : Int} {v1 v2 : Value} {ev : List S65} {ac : List S30} {cs : Array Value}
theorem NB_next (h : NB w0 W gs gn ga l P v1 v2 ev ac cs) (hs : Src w0 W' gs l) (hb : Below w0.heap.size w0 W') (hk : Ks W W') : NB w0 W' gs gn ga l P v1 v2 ev ac cs :=
  ⟨hk.2 _ _ _ (by decide) h.net, R_Ks h.evs hk (fun q hq => by have := E65 q hq; omega), R_Ks h.acs hk (fun q hq => by have := E30 q hq; omega), hs, hb, hk.2 _ _ _ (by decide) h.res, hk.2 _ _ _ (by decide) h.act, h.ge⟩
theorem NB_drew (h : NB w0 W gs gn ga l P v1 v2 ev ac cs) : NB w0 W.drew gs gn ga l P v1 v2 ev ac cs :=
  NB_next h (Src_below h.src (below_drew (Below.refl _ _))) (below_drew h.below) (Ks_below (below_drew (Below.refl _ _)))
theorem blk_other {W : World} {g g' : Nat} {t t' : TypeId} {cs cs' : Array Value} (h : W.heap[g]? = some (.cells cs t (0, 0))) (h' : W.heap[g']? = some (.cells cs' t' (0, 0))) (ht : t ≠ t') (j : Nat) (u : Value) : (W.setCell ⟨g', j, none⟩ u).heap[g]? = some (.cells cs t (0, 0)) :=
  (Below.heap_setCell W ⟨g', j, none⟩ u g (blk_ne h h' ht)).trans h
theorem NB_set (h : NB w0 W gs gn ga l P v1 v2 ev ac cs) (j : Nat) (u : Value) : NB w0 (W.setCell ⟨ga, j, none⟩ u) gs gn ga l P v1 v2 ev ac (cs.setIfInBounds j u) :=
  ⟨blk_other h.net h.act (by decide) j u, Kd.R_set h.evs h.act (fun q hq => by have := E65 q hq; omega) j u, Kd.R_far (p := ⟨ga, j, none⟩) h.acs (fun k hk => hk) u, Src_far h.src (p := ⟨ga, j, none⟩) (Src_ne h.src h.act (by decide)) u, h.below.setCell h.ge u, blk_other h.res h.act (by decide) j u, blk_set h.act j u, h.ge⟩
theorem NB_Next {n : Int} (h : NB w0 W gs gn ga l P v1 v2 ev ac cs) (hl : Fit l) (h1 : 1 ≤ n) (h2 : n ≤ 9223372036854775807) :
    Calls Try.prog 31 #[.pointer (some ⟨gs, 0, none⟩), .int .i64 n] W fun e w' => (∃ r : Int, e = .returned (.int .i64 r) ∧ 0 ≤ r ∧ r < n) ∧ NB w0 w' gs gn ga l P v1 v2 ev ac cs :=
  (Next_k h.src h.below hl h1 h2).mono fun _ _ ⟨a, b, c, d⟩ => ⟨a, NB_next h b c d⟩
theorem NB_NextD {n : Int} (h : NB w0 W gs gn ga l P v1 v2 ev ac cs) (hl : Fit l) (h1 : 1 ≤ n) (h2 : n ≤ 9223372036854775807) :
    Calls Try.prog 31 #[.pointer (some ⟨gs, 0, none⟩), .int .i64 n] W.drew fun e w' => (∃ r : Int, e = .returned (.int .i64 r) ∧ 0 ≤ r ∧ r < n) ∧ NB w0 w' gs gn ga l P v1 v2 ev ac cs := NB_Next (NB_drew h) hl h1 h2
end
def actNet (n m : Nat) (a : S30) : Prop := 0 ≤ a.f1 ∧ a.f1 < m ∧ 0 ≤ a.f2 ∧ a.f2 < m ∧ a.f1 ≠ a.f2 ∧ -(n : Int) ≤ a.f3 ∧ a.f3 < 2 * n ∧ a.f3 ≤ a.f4 ∧ a.f4 < a.f3 + n ∧ 0 ≤ a.f5 ∧ a.f5 ≤ 4
/-- A network as the maker makes it. -/
def NetOk (n : Nat) (ev : List S65) (ac : List S30) : Prop := 2 ≤ n ∧ n ≤ 9 ∧ 1 ≤ ev.length ∧ ev.length ≤ 5 ∧ ac.length ≤ 8 ∧ ∀ a ∈ ac, actNet n ev.length a
def NetRes (w : World) (e : Ending) (w' : World) : Prop := (∃ (n : Nat) (ev : List S65) (ac : List S30) (v1 v2 : Value), e = .returned (.agg #[.int .i64 n, v1, v2]) ∧ Kd.R k65 65 w' w.heap.size (fun _ => True) v1 ev ∧ Kd.R k30 30 w' w.heap.size (fun _ => True) v2 ac ∧ NetOk n ev ac) ∧ Below w.heap.size w w'
/-- The end of the maker: the network is stored as the result. -/
theorem Net_fin {w W : World} {P : Nat} {v1 v2 : Value} {ev : List S65} {ac : List S30} (hr : W.heap[w.heap.size]? = some (.cells #[.int .i64 0, .slice none 0 0, .slice none 0 0] 25 (0, 0))) (h1 : Kd.R k65 65 W w.heap.size (fun _ => True) v1 ev) (h2 : Kd.R k30 30 W w.heap.size (fun _ => True) v2 ac) (hb : Below w.heap.size w W)
    (ha : ∀ a ∈ ac, actNet P ev.length a) (hP : 2 ≤ P ∧ P ≤ 9) (hm : 1 ≤ ev.length ∧ ev.length ≤ 5) (hl : ac.length ≤ 8) :
    (((W.setCell ⟨w.heap.size, 0, none⟩ (.int .i64 P)).setCell ⟨w.heap.size, 1, none⟩ v1).setCell ⟨w.heap.size, 2, none⟩ v2).heap[w.heap.size]? = some (.cells #[.int .i64 P, v1, v2] 25 (0, 0)) ∧
      NetRes w (.returned (.agg #[.int .i64 P, v1, v2])) (((W.setCell ⟨w.heap.size, 0, none⟩ (.int .i64 P)).setCell ⟨w.heap.size, 1, none⟩ v1).setCell ⟨w.heap.size, 2, none⟩ v2) := by
  have b0 := blk_set hr 0 (.int .i64 P)
  have b1 := blk_set b0 1 v1
  have b2 := blk_set b1 2 v2
  refine ⟨b2, ⟨P, ev, ac, v1, v2, rfl, ?_, ?_, hP.1, hP.2, hm.1, hm.2, hl, ha⟩, ((hb.setCell (Nat.le_refl _) _).setCell (Nat.le_refl _) _).setCell (Nat.le_refl _) _⟩
  · exact Kd.R_set (Kd.R_set (Kd.R_set h1 hr (fun q hq => by have := E65 q hq; omega) 0 _) b0 (fun q hq => by have := E65 q hq; omega) 1 _) b1 (fun q hq => by have := E65 q hq; omega) 2 _
  · exact Kd.R_set (Kd.R_set (Kd.R_set h2 hr (fun q hq => by have := E30 q hq; omega) 0 _) b0 (fun q hq => by have := E30 q hq; omega) 1 _) b1 (fun q hq => by have := E30 q hq; omega) 2 _
end Go.Proofs.Ytkbcgahpekmlbaa.PPg

namespace Go.Proofs.Ytkbcgahpekmlbaa.PPg
open Go.RowKit Go.Proofs.YtkbcgahpekmlbaaW.PrintWords Go.Proofs.YtkbcgahpekmlbaaW.PrintLast Go.Proofs.YtkbcgahpekmlbaaW.PrintMore
set_option linter.unusedVariables false
/-- Every set of three events lies in the sum of the other two. -/
def WC (n m : Nat) (f : Mx) : Prop := ∀ i j k, i < m → j < m → k < m → i ≠ j → k ≠ i → k ≠ j → ∀ x : Int, 0 ≤ x → x < n → f i k x = true → sumB n (f i j) (f j k) x = true
def le (n m : Nat) (f q : Mx) : Prop := ∀ i j, i < m → j < m → ∀ x : Int, 0 ≤ x → x < n → f i j x = true → q i j x = true
theorem le_trans' {n m : Nat} {a b c : Mx} (h : le n m a b) (k : le n m b c) : le n m a c := fun i j hi hj x x0 x1 hx => k i j hi hj x x0 x1 (h i j hi hj x x0 x1 hx)
theorem le_refl' (n m : Nat) (a : Mx) : le n m a a := fun _ _ _ _ _ _ _ h => h
theorem sumB_mono {n : Nat} (hn : 1 ≤ n) {a a' b b' : Int → Bool} (ha : ∀ x : Int, 0 ≤ x → x < n → a x = true → a' x = true) (hb : ∀ x : Int, 0 ≤ x → x < n → b x = true → b' x = true) {x : Int} (h : sumB n a b x = true) : sumB n a' b' x = true := by
  obtain ⟨d, d0, d1, h1, h2⟩ := sumB_iff.1 h
  obtain ⟨z0, z1⟩ := em_bound (x - d) (show (0 : Int) < n by omega)
  exact sumB_iff.2 ⟨d, d0, d1, ha d d0 d1 h1, hb _ z0 z1 h2⟩
theorem reach_le {n m : Nat} (hn : 1 ≤ n) {q0 q f : Mx} (hw : WC n m f) (h0 : le n m f q0) (h : Reach n m q0 q) : le n m f q := by
  induction h with
  | base => exact h0
  | @step q i j k hr hi hj hk h1 h2 h3 ih =>
    intro a b ha hb x x0 x1 hx
    unfold upd
    by_cases hc : a = i ∧ b = k
    · obtain ⟨rfl, rfl⟩ := hc
      rw [if_pos ⟨rfl, rfl⟩, jp, Bool.and_eq_true]
      exact ⟨ih a b ha hb x x0 x1 hx, sumB_mono hn (ih a j ha hj) (ih j b hj hb) (hw a j b ha hj hb h1 h2 h3 x x0 x1 hx)⟩
    · rw [if_neg hc]; exact ih a b ha hb x x0 x1 hx
theorem reach_sub {n m : Nat} {q0 q : Mx} (h : Reach n m q0 q) : le n m q q0 := by
  induction h with
  | base => exact le_refl' _ _ _
  | @step q i j k hr hi hj hk h1 h2 h3 ih =>
    intro a b ha hb x x0 x1 hx
    refine ih a b ha hb x x0 x1 ?_
    unfold upd at hx
    by_cases hc : a = i ∧ b = k
    · obtain ⟨rfl, rfl⟩ := hc
      rw [if_pos ⟨rfl, rfl⟩] at hx
      exact jp_le x hx
    · rwa [if_neg hc] at hx
theorem reach_diag {n m : Nat} {q0 q : Mx} (h : Reach n m q0 q) (a : Nat) : q a a = q0 a a := by
  induction h with
  | base => rfl
  | @step q i j k hr hi hj hk h1 h2 h3 ih =>
    unfold upd
    rw [if_neg (by omega)]
    exact ih
/-- No set is empty. -/
def full (n m : Nat) (q : Mx) : Prop := ∀ i j, i < m → j < m → ∃ x : Int, 0 ≤ x ∧ x < n ∧ q i j x = true
theorem can_nil {n : Nat} {p : Int → Bool} (h : ∀ x : Int, 0 ≤ x → x < n → p x = false) : can n p = [] := by
  have e : can n p = can n (mem []) := can_congr fun x x0 x1 => by rw [h x x0 x1, mem_nil]
  rw [e]
  exact can_self rfl
theorem can_ne {n : Nat} {p : Int → Bool} (h : can n p ≠ []) : ∃ x : Int, 0 ≤ x ∧ x < n ∧ p x = true := by
  apply Classical.byContradiction
  intro hc
  exact h (can_nil fun x x0 x1 => by
    cases hp : p x with
    | false => rfl
    | true => exact absurd ⟨x, x0, x1, hp⟩ hc)
theorem ne_can {n : Nat} {p : Int → Bool} {x : Int} (x0 : 0 ≤ x) (x1 : x < n) (h : p x = true) : can n p ≠ [] := by
  intro e
  have := can_in p x0 x1
  rw [e, mem_nil, h] at this
  cases this
theorem full_iff {n m : Nat} {q : Mx} : noneIn (tabl n m q) = false ↔ full n m q := by
  unfold noneIn
  rw [List.any_eq_false]
  constructor
  · intro h i j hi hj
    refine can_ne fun e => ?_
    have hm : can n (q i j) ∈ tabl n m q := List.mem_of_getElem? (tabl_get q hi hj)
    have := h _ hm
    rw [e] at this
    exact this rfl
  · intro h s hs
    obtain ⟨k, hk, e⟩ := List.getElem_of_mem hs
    rw [tabl_len] at hk
    obtain ⟨i, j, hi, hj, rfl⟩ := ix_form hk
    obtain ⟨x, x0, x1, hx⟩ := h i j hi hj
    have hg := tabl_get (n := n) q hi hj
    rw [List.getElem?_eq_getElem (by rw [tabl_len]; exact hk), e] at hg
    injection hg with hg
    subst hg
    rw [List.isEmpty_iff]
    exact ne_can x0 x1 hx
theorem whole_all {n : Nat} {p : Int → Bool} (h : wholeB n (can n p) = true) (x : Int) (x0 : 0 ≤ x) (x1 : x < n) : p x = true := by
  unfold wholeB at h
  rw [Bool.and_eq_true, decide_eq_true_eq, decide_eq_true_eq] at h
  obtain ⟨h1, h2⟩ := h
  obtain ⟨u, hu⟩ := List.length_eq_one_iff.1 h1
  have hv := can_vldF n p
  rw [hu, vldF_cons] at hv
  rw [hu] at h2
  have e : rd_T41 [u] 0 = u := rfl
  rw [e] at h2
  have hm : mem (can n p) x = true := by rw [hu, mem_cons, (inS_iff u x).2 (by omega), Bool.true_or]
  rwa [can_in p x0 x1] at hm
theorem stable_WC {n m : Nat} (hn : 1 ≤ n) {q : Mx} (hs : Stable n m q) (hf : full n m q) : WC n m q := by
  intro i j k hi hj hk h1 h2 h3 x x0 x1 hx
  rcases hs i j k hi hj hk h1 h2 h3 with hw | hj'
  · unfold jw at hw
    rw [Bool.or_eq_true] at hw
    rcases hw with hw | hw
    · obtain ⟨y, y0, y1, hy⟩ := hf j k hj hk
      obtain ⟨z0, z1⟩ := em_bound (x - y) (show (0 : Int) < n by omega)
      refine sumB_iff.2 ⟨(x - y) % n, z0, z1, whole_all hw _ z0 z1, ?_⟩
      rw [em_sub, show x - (x - y) = y by omega, em_lo y0 y1]; exact hy
    · obtain ⟨y, y0, y1, hy⟩ := hf i j hi hj
      obtain ⟨z0, z1⟩ := em_bound (x - y) (show (0 : Int) < n by omega)
      exact sumB_iff.2 ⟨y, y0, y1, hy, whole_all hw _ z0 z1⟩
  · have := hj' x x0 x1
    rw [hx, jp, Bool.and_eq_true] at this
    exact this.2
/-- The transposed matrix, with negated residues. -/
def tr (n : Nat) (q : Mx) : Mx := fun i j x => q j i ((-x) % n)
theorem tr_WC {n m : Nat} (hn : 1 ≤ n) {q : Mx} (h : WC n m q) : WC n m (tr n q) := by
  intro i j k hi hj hk h1 h2 h3 x x0 x1 hx
  have hn0 : (0 : Int) < n := by omega
  obtain ⟨z0, z1⟩ := em_bound (-x) hn0
  obtain ⟨d, d0, d1, hd1, hd2⟩ := sumB_iff.1 (h k j i hk hj hi (fun e => h3 e) (fun e => h2 e.symm) h1 _ z0 z1 hx)
  obtain ⟨e0, e1⟩ := em_bound (x + d) hn0
  refine sumB_iff.2 ⟨(x + d) % n, e0, e1, ?_, ?_⟩
  · show q j i ((-((x + d) % n)) % n) = true
    have e : (-((x + d) % (n : Int))) % n = ((-x) % n - d) % n := by
      rw [em_sub_left, show -((x + d) % (n : Int)) = 0 - (x + d) % n by omega, em_sub]; congr 1; omega
    rw [e]; exact hd2
  · show q k j ((-((x - (x + d) % n) % n)) % n) = true
    have e : (-((x - (x + d) % (n : Int)) % n)) % n = d := by
      rw [em_sub, show x - (x + d) = -d by omega, show -((-d) % (n : Int)) = 0 - (-d) % n by omega, em_sub, show 0 - -d = d by omega, em_lo d0 d1]
    rw [e]; exact hd1
/-- The sets of j and i are the negated ones of i and j. -/
def sym (n m : Nat) (q : Mx) : Prop := ∀ i j, i < m → j < m → ∀ x : Int, 0 ≤ x → x < n → q i j x = true → q j i ((-x) % n) = true
theorem neg_neg {n : Nat} {x : Int} (x0 : 0 ≤ x) (x1 : x < n) : (-((-x) % (n : Int))) % n = x := by
  rw [show -((-x) % (n : Int)) = 0 - (-x) % n by omega, em_sub, show 0 - -x = x by omega, em_lo x0 x1]
theorem closed_sym {n m : Nat} (hn : 1 ≤ n) {q0 q : Mx} (h0 : sym n m q0) (hr : Reach n m q0 q) (hs : Stable n m q) (hf : full n m q) : sym n m q := by
  have hn0 : (0 : Int) < n := by omega
  have hw := tr_WC hn (stable_WC hn hs hf)
  have h1 : le n m (tr n q) q0 := fun i j hi hj x x0 x1 hx => by
    obtain ⟨z0, z1⟩ := em_bound (-x) hn0
    have := h0 j i hj hi _ z0 z1 (reach_sub hr j i hj hi _ z0 z1 hx)
    rwa [neg_neg x0 x1] at this
  have h2 := reach_le hn hw h1 hr
  intro i j hi hj x x0 x1 hx
  obtain ⟨z0, z1⟩ := em_bound (-x) hn0
  refine h2 j i hj hi _ z0 z1 ?_
  show q i j ((-((-x) % (n : Int))) % n) = true
  rw [neg_neg x0 x1]; exact hx
/-- The whole of what closed means: for all events, equal ones too. -/
def FC (n m : Nat) (q : Mx) : Prop := ∀ i j k, i < m → j < m → k < m → ∀ x : Int, 0 ≤ x → x < n → q i k x = true → sumB n (q i j) (q j k) x = true
def diag (n m : Nat) (q : Mx) : Prop := ∀ i, i < m → ∀ x : Int, 0 ≤ x → x < n → (q i i x = true ↔ x = 0)
theorem closed_FC {n m : Nat} (hn : 1 ≤ n) {q : Mx} (hw : WC n m q) (hf : full n m q) (hy : sym n m q) (hd : diag n m q) : FC n m q := by
  intro i j k hi hj hk x x0 x1 hx
  have hn0 : (0 : Int) < n := by omega
  by_cases h1 : i = j
  · subst h1
    exact sumB_iff.2 ⟨0, by omega, by omega, (hd i hi 0 (by omega) (by omega)).2 rfl, by rw [show x - 0 = x by omega, em_lo x0 x1]; exact hx⟩
  · by_cases h2 : k = j
    · subst h2
      exact sumB_iff.2 ⟨x, x0, x1, hx, by rw [show x - x = 0 by omega, Int.zero_emod]; exact (hd k hk 0 (by omega) (by omega)).2 rfl⟩
    · by_cases h3 : k = i
      · subst h3
        have hx0 := (hd k hk x x0 x1).1 hx
        subst hx0
        obtain ⟨y, y0, y1, hy'⟩ := hf k j hk hj
        refine sumB_iff.2 ⟨y, y0, y1, hy', ?_⟩
        rw [show 0 - y = -y by omega]
        exact hy k j hk hj y y0 y1 hy'
      · exact hw i j k hi hj hk h1 h3 h2 x x0 x1 hx
theorem FC_WC {n m : Nat} {q : Mx} (h : FC n m q) : WC n m q := fun i j k hi hj hk _ _ _ x x0 x1 hx => h i j k hi hj hk x x0 x1 hx
end Go.Proofs.Ytkbcgahpekmlbaa.PPg

namespace Go.Proofs.Ytkbcgahpekmlbaa.PPg
open Go.RowKit Go.Proofs.YtkbcgahpekmlbaaW.PrintWords Go.Proofs.YtkbcgahpekmlbaaW.PrintLast Go.Proofs.YtkbcgahpekmlbaaW.PrintMore
set_option linter.unusedVariables false
theorem acut_iff {n : Nat} {q : Mx} {a : S30} (hne : a.f1.toNat ≠ a.f2.toNat) (i j : Nat) (x : Int) :
    acut n q a i j x = true ↔ q i j x = true ∧ (i = a.f1.toNat ∧ j = a.f2.toNat → there n a x = true) ∧ (i = a.f2.toNat ∧ j = a.f1.toNat → back n a x = true) := by
  unfold acut cutP upd
  by_cases h1 : i = a.f2.toNat ∧ j = a.f1.toNat
  · rw [if_pos h1, if_neg (by omega)]
    rw [Bool.and_eq_true, h1.1, h1.2]
    constructor
    · rintro ⟨h2, h3⟩; exact ⟨h2, fun h => absurd h.1.symm hne, fun _ => h3⟩
    · rintro ⟨h2, _, h3⟩; exact ⟨h2, h3 ⟨rfl, rfl⟩⟩
  · rw [if_neg h1]
    by_cases h2 : i = a.f1.toNat ∧ j = a.f2.toNat
    · rw [if_pos h2, Bool.and_eq_true, h2.1, h2.2]
      constructor
      · rintro ⟨h3, h4⟩; exact ⟨h3, fun _ => h4, fun h => absurd h.1 hne⟩
      · rintro ⟨h3, h4, _⟩; exact ⟨h3, h4 ⟨rfl, rfl⟩⟩
    · rw [if_neg h2]
      exact ⟨fun h => ⟨h, fun h' => absurd h' h2, fun h' => absurd h' h1⟩, fun h => h.1⟩
theorem initM_iff {n : Nat} {ac : List S30} (hne : ∀ a ∈ ac, a.f1.toNat ≠ a.f2.toNat) (i j : Nat) (x : Int) :
    initM n ac i j x = true ↔ q00 n i j x = true ∧ ∀ a ∈ ac, (i = a.f1.toNat ∧ j = a.f2.toNat → there n a x = true) ∧ (i = a.f2.toNat ∧ j = a.f1.toNat → back n a x = true) := by
  have : ∀ (ac : List S30) (q : Mx), (∀ a ∈ ac, a.f1.toNat ≠ a.f2.toNat) → (ac.foldl (acut n) q i j x = true ↔ q i j x = true ∧ ∀ a ∈ ac, (i = a.f1.toNat ∧ j = a.f2.toNat → there n a x = true) ∧ (i = a.f2.toNat ∧ j = a.f1.toNat → back n a x = true)) := by
    intro ac
    induction ac with
    | nil => intro q _; simp
    | cons a ac ih =>
      intro q h
      rw [List.foldl_cons, ih _ (fun b hb => h b (List.mem_cons_of_mem _ hb)), acut_iff (h a List.mem_cons_self)]
      constructor
      · rintro ⟨⟨h1, h2⟩, h3⟩
        refine ⟨h1, fun b hb => ?_⟩
        rcases List.mem_cons.1 hb with rfl | hb
        · exact h2
        · exact h3 b hb
      · rintro ⟨h1, h2⟩
        exact ⟨⟨h1, h2 a List.mem_cons_self⟩, fun b hb => h2 b (List.mem_cons_of_mem _ hb)⟩
  exact this ac _ hne
theorem there_back {n : Nat} (hn : 1 ≤ n) {a : S30} (h1 : a.f3 ≤ a.f4) (h2 : a.f4 - a.f3 < n) (x : Int) : there n a x = back n a ((-x) % n) := by
  unfold there back
  have hn0 : (0 : Int) < n := by omega
  obtain ⟨u0, u1⟩ := em_bound (x - a.f3) hn0
  have e : ((-x) % (n : Int) - -a.f4) % n = ((a.f4 - a.f3) - (x - a.f3) % n) % n := by
    rw [em_sub_left, em_sub]; congr 1; omega
  rw [e, Bool.eq_iff_iff, decide_eq_true_eq, decide_eq_true_eq]
  generalize (x - a.f3) % (n : Int) = u at *
  by_cases hu : u ≤ a.f4 - a.f3
  · rw [em_lo (by omega) (by omega)]; omega
  · rw [em_neg (by omega) (by omega)]; omega
theorem back_there {n : Nat} (hn : 1 ≤ n) {a : S30} (h1 : a.f3 ≤ a.f4) (h2 : a.f4 - a.f3 < n) {x : Int} (x0 : 0 ≤ x) (x1 : x < n) : back n a x = there n a ((-x) % n) := by
  rw [there_back hn h1 h2, neg_neg x0 x1]
/-- What is asked of the activities. -/
def okAct (n : Nat) (a : S30) : Prop := a.f1.toNat ≠ a.f2.toNat ∧ a.f3 ≤ a.f4 ∧ a.f4 - a.f3 < n
theorem initM_diag {n m : Nat} (hn : 1 ≤ n) {ac : List S30} (h : ∀ a ∈ ac, okAct n a) : diag n m (initM n ac) := by
  intro i hi x x0 x1
  rw [initM_iff (fun a ha => (h a ha).1)]
  unfold q00
  rw [if_pos rfl, decide_eq_true_eq, show x - 0 = x by omega, em_lo x0 x1]
  constructor
  · rintro ⟨h1, _⟩; omega
  · intro hx
    refine ⟨by omega, fun a ha => ⟨fun e => ?_, fun e => ?_⟩⟩
    · exact absurd (e.1.symm.trans e.2) (h a ha).1
    · exact absurd (e.2.symm.trans e.1) (h a ha).1
theorem initM_sym {n m : Nat} (hn : 1 ≤ n) {ac : List S30} (h : ∀ a ∈ ac, okAct n a) : sym n m (initM n ac) := by
  intro i j hi hj x x0 x1 hx
  have hn0 : (0 : Int) < n := by omega
  rw [initM_iff (fun a ha => (h a ha).1)] at hx ⊢
  obtain ⟨h1, h2⟩ := hx
  refine ⟨?_, fun a ha => ⟨fun e => ?_, fun e => ?_⟩⟩
  · unfold q00 at h1 ⊢
    by_cases hij : i = j
    · subst hij
      rw [if_pos rfl, decide_eq_true_eq, show x - 0 = x by omega, em_lo x0 x1] at h1
      have : x = 0 := by omega
      subst this
      rw [if_pos rfl, decide_eq_true_eq]
      simp
    · rw [if_neg (fun e => hij e.symm), decide_eq_true_eq]
      exact (em_bound _ hn0).2
  · have := (h2 a ha).2 ⟨e.2, e.1⟩
    rwa [back_there hn (h a ha).2.1 (h a ha).2.2 x0 x1] at this
  · have := (h2 a ha).1 ⟨e.2, e.1⟩
    rwa [there_back hn (h a ha).2.1 (h a ha).2.2] at this
/-- A table without sets; no closed matrix without an empty set lies below the initial one. -/
def Case1 (n m : Nat) (q0 : Mx) : Prop := 0 < m ∧ ∀ f, WC n m f → le n m f q0 → ¬ full n m f
/-- A table with sets: the greatest closed matrix below the initial one. -/
structure Case2 (n m : Nat) (q0 q : Mx) : Prop where
  full : full n m q
  fc : FC n m q
  sym : sym n m q
  diag : diag n m q
  sub : le n m q q0
  most : ∀ f, WC n m f → le n m f q0 → le n m f q
theorem le_full {n m : Nat} {f q : Mx} (h : le n m f q) (hf : full n m f) : full n m q := fun i j hi hj => by
  obtain ⟨x, x0, x1, hx⟩ := hf i j hi hj
  exact ⟨x, x0, x1, h i j hi hj x x0 x1 hx⟩
theorem Closed_cases {n m : Nat} (hn : 1 ≤ n) {ac : List S30} (h : ∀ a ∈ ac, okAct n a) {sets : List (List S41)} (hc : Closed n m (initM n ac) sets) :
    (sets = List.replicate (m * m) [] ∧ Case1 n m (initM n ac)) ∨ ∃ q, sets = tabl n m q ∧ Case2 n m (initM n ac) q := by
  obtain ⟨q, hr, ⟨hn', rfl⟩ | ⟨hn', hs, rfl⟩⟩ := hc
  · refine .inl ⟨rfl, ?_, fun f hw hl hf => ?_⟩
    · rcases Nat.eq_zero_or_pos m with h0 | h0
      · subst h0; cases hn'
      · exact h0
    · have := full_iff.2 (le_full (reach_le hn hw hl hr) hf)
      rw [hn'] at this
      cases this
  · have hf := full_iff.1 hn'
    have hy := closed_sym hn (initM_sym hn h) hr hs hf
    have hd : diag n m q := fun i hi x x0 x1 => by rw [reach_diag hr i]; exact initM_diag (m := m) hn h i hi x x0 x1
    exact .inr ⟨q, rfl, hf, closed_FC hn (stable_WC hn hs hf) hf hy hd, hy, hd, reach_sub hr, fun f hw hl => reach_le hn hw hl hr⟩
theorem okN_act {n : Nat} {ev : List S65} {ac : List S30} (h : okN n ev ac = true) : ∀ a ∈ ac, okAct n a := by
  intro a ha
  unfold okN at h
  simp only [Bool.and_eq_true, decide_eq_true_eq, Bool.not_eq_true'] at h
  have hb := h.2.2.2
  unfold badA at hb
  rw [List.any_eq_false] at hb
  have := hb a ha
  obtain ⟨h1, h2, h3, h4, h5, h6, h7, h8⟩ := okA_iff.1 (show okA ((ev.length : Int) - 1) n a = true by simpa using this)
  exact ⟨by omega, h5, h7⟩
end Go.Proofs.Ytkbcgahpekmlbaa.PPg

namespace Go.Proofs.Ytkbcgahpekmlbaa.PPg
open Go.RowKit Go.Proofs.YtkbcgahpekmlbaaW.PrintWords Go.Proofs.YtkbcgahpekmlbaaW.PrintLast Go.Proofs.YtkbcgahpekmlbaaW.PrintMore
set_option linter.unusedVariables false
set_option maxRecDepth 100000
/-- A law's memory: its network at bn, the closed table at g. -/
structure LB (w0 W : World) (bn g n : Nat) (v1 v2 : Value) (ev : List S65) (ac : List S30) (q : Mx) : Prop where
  below : Below w0.heap.size w0 W
  net : W.heap[bn]? = some (.cells #[.int .i64 n, v1, v2] 25 (0, 0))
  evs : Kd.R k65 65 W w0.heap.size (fun _ => True) v1 ev
  acs : Kd.R k30 30 W w0.heap.size (fun _ => True) v2 ac
  tab : ∃ B, Tb W B g n ev ac ev.length (tabl n ev.length q)
/-- The matrix without residues. -/
def q0M : Mx := fun _ _ _ => false
theorem tabl_none (n m : Nat) : tabl n m q0M = List.replicate (m * m) [] := by
  refine (tabl_ext (by simp) fun i j hi hj => ?_).symm
  rw [List.getElem?_replicate, if_pos (ix_lt hi hj)]
  exact congrArg some (can_nil fun x _ _ => rfl).symm
/-- What the table is. -/
def TabOk (n : Nat) (ev : List S65) (ac : List S30) (q : Mx) : Prop := (q = q0M ∧ Case1 n ev.length (initM n ac)) ∨ Case2 n ev.length (initM n ac) q
section
variable {w0 W W' : World} {bn g n : Nat} {v1 v2 : Value} {ev : List S65} {ac : List S30} {q : Mx}
theorem LB_next (h : LB w0 W bn g n v1 v2 ev ac q) (hb : Below W.heap.size W W') : LB w0 W' bn g n v1 v2 ev ac q :=
  ⟨below_step h.below hb, (hb.block bn (blk_lt h.net)).trans h.net, Kd.R_below h.evs hb, Kd.R_below h.acs hb, h.tab.elim fun B ht => ⟨B, Tb_below ht hb⟩⟩
theorem LB_drew (h : LB w0 W bn g n v1 v2 ev ac q) : LB w0 W.drew bn g n v1 v2 ev ac q := LB_next h (below_drew (Below.refl _ _))
theorem LB_drewN (h : LB w0 W bn g n v1 v2 ev ac q) (k : Nat) : LB w0 (W.drewN k) bn g n v1 v2 ev ac q := LB_next h (pw_below_drewN (Below.refl _ _) k)
theorem LB_P (h : LB w0 W bn g n v1 v2 ev ac q) : W.cell? ⟨bn, 0, none⟩ = some (.int .i64 n) := by rw [blk_cell h.net]; rfl
theorem LB_1 (h : LB w0 W bn g n v1 v2 ev ac q) : W.cell? ⟨bn, 1, none⟩ = some v1 := by rw [blk_cell h.net]; rfl
theorem LB_2 (h : LB w0 W bn g n v1 v2 ev ac q) : W.cell? ⟨bn, 2, none⟩ = some v2 := by rw [blk_cell h.net]; rfl
/-- Between, of a pair. -/
theorem Btw_c {i j : Nat} (h : LB w0 W bn g n v1 v2 ev ac q) (h1 : 1 ≤ n) (h2 : n ≤ 7200) (hm : ev.length ≤ 48) (hi : i < ev.length) (hj : j < ev.length) :
    Calls Try.prog 18 #[.pointer (some ⟨g, 0, none⟩), .int .i64 i, .int .i64 j] W fun e w' => (∃ A c, e = .returned (.slice A (can n (q i j)).length c) ∧ VS w' (.slice A (can n (q i j)).length c) (can n (q i j))) ∧ LB w0 w' bn g n v1 v2 ev ac q ∧ Below W.heap.size W w' := by
  obtain ⟨B, ht⟩ := h.tab
  have hx := ix_ok (n := n) q hi hj hm
  have e := tabl_rd (n := n) q hi hj
  refine (Between_in W B g n ev ac ev.length (tabl n ev.length q) i j _ ht hx (by omega) (by omega) (by omega) (by rw [e]; exact vld_fit (can_vld _ h1 h2))).mono ?_
  rw [e]
  rintro _ w' ⟨⟨v, rfl, hr⟩, hb⟩
  obtain ⟨A, c, rfl⟩ := Kd.R_slice hr
  exact ⟨⟨A, c, rfl, VS_R hr⟩, LB_next h hb, hb⟩
theorem Btw_d {i j : Nat} (h : LB w0 W bn g n v1 v2 ev ac q) (h1 : 1 ≤ n) (h2 : n ≤ 7200) (hm : ev.length ≤ 48) (hi : i < ev.length) (hj : j < ev.length) :
    Calls Try.prog 18 #[.pointer (some ⟨g, 0, none⟩), .int .i64 i, .int .i64 j] W.drew fun e w' => (∃ A c, e = .returned (.slice A (can n (q i j)).length c) ∧ VS w' (.slice A (can n (q i j)).length c) (can n (q i j))) ∧ LB w0 w' bn g n v1 v2 ev ac q ∧ Below W.heap.size W w' :=
  (Btw_c (LB_drew h) h1 h2 hm hi hj).mono fun _ _ ⟨a, b, c⟩ => ⟨a, b, below_step (below_drew (Below.refl _ _)) c⟩
theorem Btw_e {i j : Nat} (h : LB w0 W bn g n v1 v2 ev ac q) (h1 : 1 ≤ n) (h2 : n ≤ 7200) (hm : ev.length ≤ 48) (hi : i < ev.length) (hj : j < ev.length) :
    Calls Try.prog 18 #[.pointer (some ⟨g, 0, none⟩), .int .i64 i, .int .i64 j] W fun e w' => (∃ A c s, e = .returned (.slice A (List.length s) c) ∧ VS w' (.slice A (List.length s) c) s ∧ can n (q i j) = s) ∧ LB w0 w' bn g n v1 v2 ev ac q ∧ Below W.heap.size W w' :=
  (Btw_c h h1 h2 hm hi hj).mono fun _ _ ⟨⟨A, c, e, h⟩, b, d⟩ => ⟨⟨A, c, _, e, h, rfl⟩, b, d⟩
theorem Btw_de {i j : Nat} (h : LB w0 W bn g n v1 v2 ev ac q) (h1 : 1 ≤ n) (h2 : n ≤ 7200) (hm : ev.length ≤ 48) (hi : i < ev.length) (hj : j < ev.length) :
    Calls Try.prog 18 #[.pointer (some ⟨g, 0, none⟩), .int .i64 i, .int .i64 j] W.drew fun e w' => (∃ A c s, e = .returned (.slice A (List.length s) c) ∧ VS w' (.slice A (List.length s) c) s ∧ can n (q i j) = s) ∧ LB w0 w' bn g n v1 v2 ev ac q ∧ Below W.heap.size W w' :=
  (Btw_d h h1 h2 hm hi hj).mono fun _ _ ⟨⟨A, c, e, h⟩, b, d⟩ => ⟨⟨A, c, _, e, h, rfl⟩, b, d⟩
theorem Btw_o (h : LB w0 W bn g n v1 v2 ev ac q) (i j : Int) (ho : i < 0 ∨ j < 0 ∨ (ev.length : Int) ≤ i ∨ (ev.length : Int) ≤ j) :
    Calls Try.prog 18 #[.pointer (some ⟨g, 0, none⟩), .int .i64 i, .int .i64 j] W fun e w' => e = .returned (.slice none 0 0) ∧ W = w' := by
  obtain ⟨B, ht⟩ := h.tab
  exact Between_out W B g n ev ac ev.length _ i j ht ho
theorem Emp_c (h : LB w0 W bn g n v1 v2 ev ac q) :
    Calls Try.prog 19 #[.pointer (some ⟨g, 0, none⟩)] W fun e w' => e = .returned (.bool (noneIn (tabl n ev.length q))) ∧ W = w' := by
  obtain ⟨B, ht⟩ := h.tab
  exact Empty_c W B g n ev ac ev.length _ ht
theorem Cnt_c (h : LB w0 W bn g n v1 v2 ev ac q) (h1 : 1 ≤ n) (h2 : n ≤ 7200) (hm : ev.length ≤ 48) :
    Calls Try.prog 24 #[.pointer (some ⟨g, 0, none⟩)] W fun e w' => e = .returned (.int .i64 (tot n ev.length q)) ∧ LB w0 w' bn g n v1 v2 ev ac q ∧ Below W.heap.size W w' := by
  obtain ⟨B, ht⟩ := h.tab
  have hl : (tabl n ev.length q).length ≤ 2304 := by rw [tabl_len]; exact Nat.mul_le_mul hm hm
  have hex : ∀ l : List (List S41), (∀ s ∈ l, ∃ p, s = can n p) → ∃ K, ∀ s ∈ l, residue_Count.f K n s = some (cnt (mem s) n) := by
    intro l
    induction l with
    | nil => intro _; exact ⟨0, fun s hs => by cases hs⟩
    | cons a l ih =>
      intro h
      obtain ⟨K1, k1⟩ := ih fun s hs => h s (List.mem_cons_of_mem _ hs)
      obtain ⟨p, rfl⟩ := h a List.mem_cons_self
      obtain ⟨K2, k2⟩ := count_can h1 h2 p
      refine ⟨K1 + K2, fun s hs => ?_⟩
      rcases List.mem_cons.1 hs with rfl | hs
      · rw [cnt_can]; exact k2 _ (by omega)
      · exact at_rounds (g := fun k => residue_Count.f k n s) (fun k => residue_Count.mono _ _ k) (Nat.le_add_right K1 K2) (k1 s hs)
  obtain ⟨K, hK⟩ := hex (tabl n ev.length q) (fun s hs => by
    unfold tabl at hs
    obtain ⟨k, _, rfl⟩ := List.mem_map.1 hs
    exact ⟨_, rfl⟩)
  refine (Count_c K W B g n ev ac ev.length (tabl n ev.length q) (fun s => cnt (mem s) n) ht (by omega) fun s hs => ⟨hK s hs, ?_⟩).mono ?_
  · have := cnt_bounds (mem s) n; omega
  · rintro e w' ⟨rfl, hb⟩
    exact ⟨rfl, LB_next h hb, hb⟩
end
/-- The statements' table of a valid network. -/
theorem table_c {n : Nat} {w0 w : World} {bn : Nat} {v1 v2 : Value} {ev : List S65} {ac : List S30} (hok : okN n ev ac = true) (hB : Below w0.heap.size w0 w) (hn : w.heap[bn]? = some (.cells #[.int .i64 n, v1, v2] 25 (0, 0))) (h1 : Kd.R k65 65 w w0.heap.size (fun _ => True) v1 ev) (h2 : Kd.R k30 30 w w0.heap.size (fun _ => True) v2 ac) :
    Calls Try.prog 20 #[.agg #[.int .i64 n, v1, v2]] w fun e w' => ∃ g q, e = .returned (.pointer (some ⟨g, 0, none⟩)) ∧ LB w0 w' bn g n v1 v2 ev ac q ∧ TabOk n ev ac q ∧ Below w.heap.size w w' := by
  obtain ⟨A1, c1, rfl⟩ := Kd.R_slice h1
  obtain ⟨A2, c2, rfl⟩ := Kd.R_slice h2
  have H1 := Aside0.mk h1
  have H2 := Aside0.mk h2
  have HN := Aside0.mk hn
  have HB := Aside0.mk hB
  have HK := Aside0.mk hok
  clear h1 h2 hn hB hok
  go_enter Try.func20, Try.ntmps20
  go_wp2_with fail
  refine (Close_ok _ A1 A2 c1 c2 ev ac (Kd.R_reads' (Kd.R_alloc H1.out _)).2.2 (Kd.R_reads' (Kd.R_alloc H2.out _)).2.2 HK.out).mono ?_
  rintro _ w1 ⟨⟨g, sets, rfl, ht, hc⟩, hb⟩
  have n1 : 1 ≤ n := by
    have := HK.out
    unfold okN at this
    simp only [Bool.and_eq_true, decide_eq_true_eq] at this
    omega
  have HB1 := Aside0.mk (below_step ((Below.refl w.heap.size w).alloc (Nat.le_refl _) _) hb)
  have HT := Aside0.mk ht
  have HC := Aside0.mk (Closed_cases n1 (okN_act HK.out) hc)
  clear ht hc hb n1
  go_wp2_with fail
  go_ret
  rcases HC.out with ⟨rfl, hc⟩ | ⟨q, rfl, hc⟩
  · have ht := HT.out
    rw [← tabl_none n] at ht
    exact ⟨g, q0M, rfl, ⟨below_step HB.out HB1.out, (HB1.out.block bn (blk_lt HN.out)).trans HN.out, Kd.R_below H1.out HB1.out, Kd.R_below H2.out HB1.out, _, ht⟩, .inl ⟨rfl, hc⟩, HB1.out⟩
  · exact ⟨g, q, rfl, ⟨below_step HB.out HB1.out, (HB1.out.block bn (blk_lt HN.out)).trans HN.out, Kd.R_below H1.out HB1.out, Kd.R_below H2.out HB1.out, _, HT.out⟩, .inr hc, HB1.out⟩
theorem NetOk_ok {n : Nat} {ev : List S65} {ac : List S30} (h : NetOk n ev ac) : okN n ev ac = true := by
  obtain ⟨h1, h2, h3, h4, h5, h6⟩ := h
  unfold okN badA
  simp only [Bool.and_eq_true, decide_eq_true_eq, Bool.not_eq_true']
  refine ⟨by omega, by omega, by omega, ?_⟩
  rw [List.any_eq_false]
  intro a ha
  obtain ⟨a1, a2, a3, a4, a5, a6, a7, a8, a9, a10, a11⟩ := h6 a ha
  have : okA ((ev.length : Int) - 1) n a = true := okA_iff.2 ⟨by omega, by omega, a5, by omega, a8, by omega, by omega, by omega⟩
  simp [this]
theorem TabOk_FC {n : Nat} {ev : List S65} {ac : List S30} {q : Mx} (h : TabOk n ev ac q) : FC n ev.length q := by
  rcases h with ⟨rfl, _⟩ | h
  · intro i j k _ _ _ x _ _ hx; cases hx
  · exact h.fc
theorem none_of {n m : Nat} (h : 0 < m) : noneIn (tabl n m q0M) = true := by
  unfold noneIn
  rw [List.any_eq_true]
  refine ⟨[], ?_, rfl⟩
  rw [tabl_none, List.mem_replicate]
  exact ⟨by have := Nat.mul_pos h h; omega, rfl⟩
theorem q0_can (n i j : Nat) : can n (q0M i j) = [] := can_nil fun x _ _ => rfl
theorem inter_all {n : Nat} {p r : Int → Bool} (h : ∀ x : Int, 0 ≤ x → x < n → r x = true → p x = true) : can n (fun x => p x && r x) = can n r := can_congr fun x x0 x1 => by
  cases hr : r x with
  | false => rw [Bool.and_false]
  | true => rw [h x x0 x1 hr]; rfl
theorem one_can {n : Nat} (h1 : 1 ≤ n) {q : Mx} {i m : Nat} (hi : i < m) (hd : diag n m q) : can n (q i i) = [⟨0, 1⟩] := by
  refine (eq_can (a := -1) ?_ fun x x0 x1 => ?_).symm
  · rw [vldF_cons]; exact ⟨by simp, by simp, by simp, by simp; omega, rfl⟩
  · rw [mem_cons, mem_nil, Bool.or_false, Bool.eq_iff_iff, inS_iff, hd i hi x x0 x1]
    simp only
    omega
theorem total_rep (f : List S41 → Int) (h : f [] = 0) : ∀ k, total f (List.replicate k []) = 0
  | 0 => rfl
  | k + 1 => by rw [List.replicate_succ]; simp only [total, h, total_rep f h k]; rfl
theorem cnt_none : ∀ n : Nat, cnt (mem []) n = 0
  | 0 => rfl
  | n + 1 => by simp only [cnt, cnt_none n, mem_nil]; rfl
theorem tot_none (n m : Nat) : tot n m q0M = 0 := by
  unfold tot
  rw [tabl_none]
  exact total_rep _ (cnt_none n) _
theorem total_ge {f : List S41 → Int} : ∀ {l : List (List S41)}, (∀ s ∈ l, 0 ≤ f s) → ∀ s ∈ l, f s ≤ total f l
  | [], _, s, hs => by cases hs
  | a :: l, h, s, hs => by
    have h0 := h a List.mem_cons_self
    simp only [total]
    rcases List.mem_cons.1 hs with rfl | hs
    · have : 0 ≤ total f l := by
        clear hs
        have hl := fun s hs => h s (List.mem_cons_of_mem _ hs)
        clear h h0
        induction l with
        | nil => exact Int.le_refl _
        | cons b l ih =>
          have := hl b List.mem_cons_self
          have := ih (fun s hs => hl s (List.mem_cons_of_mem _ hs))
          simp only [total]; omega
      omega
    · have := total_ge (fun s hs => h s (List.mem_cons_of_mem _ hs)) s hs
      omega
theorem tot_full {n m : Nat} (hn : n ≤ 7200) (hm : 1 ≤ m) {q : Mx} (h : full n m q) : 0 < tot n m q := by
  obtain ⟨x, x0, x1, hx⟩ := h 0 0 (by omega) (by omega)
  have hmem : can n (q 0 0) ∈ tabl n m q := List.mem_of_getElem? (tabl_get q (i := 0) (j := 0) (by omega) (by omega))
  have h1 := total_ge (f := fun s => cnt (mem s) n) (fun s _ => (cnt_bounds (mem s) n).1) _ hmem
  have h2 : cnt (q 0 0) n ≠ 0 := fun e => by
    have h3 := cnt_eq (p := mem []) (q := q 0 0) (n := n) (fun x _ _ hx => by rw [mem_nil] at hx; cases hx) (by rw [cnt_none, e]; exact Int.le_refl _) x x0 x1
    rw [mem_nil, hx] at h3
    cases h3
  have h3 := (cnt_bounds (q 0 0) n).1
  rw [cnt_can] at h1
  unfold tot
  omega
/-- A literal of one span. -/
theorem VS_one (w : World) (a b : Int) : VS (w.alloc (.cells #[.int .i64 a, .int .i64 b] 41)) (.slice (some ⟨w.heap.size, 0, none⟩) ([⟨a, b⟩] : List S41).length 1) [⟨a, b⟩] := by
  refine VS_of ⟨rfl, by simp, fun _ => ⟨_, rfl, fun j p hj => ?_⟩⟩ (by simp)
  match j, hj with
  | 0, hj =>
    simp only [List.getElem?_cons_zero, Option.some.injEq] at hj
    subst hj
    refine ⟨[.int .i64 a, .int .i64 b], rfl, k41_mk _ _, fun i u hu => ?_⟩
    match i, hu with
    | 0, hu => simp only [List.getElem?_cons_zero, Option.some.injEq] at hu; subst hu; exact World.cell?_alloc_at _ _ _ _ rfl
    | 1, hu => simp only [List.getElem?_cons_succ, List.getElem?_cons_zero, Option.some.injEq] at hu; subst hu; exact World.cell?_alloc_at _ _ _ _ rfl
    | i + 2, hu => simp at hu
  | j + 1, hj => simp at hj
end Go.Proofs.Ytkbcgahpekmlbaa.PPg
