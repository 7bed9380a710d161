/- Lemmas on residue sets, over the printed functions of this seat. -/
import Derived.Test.YtkbcgahpekmlbaaPPgx0
import Derived.Test.YtkbcgahpekmlbaaPPgx33
import Derived.Test.YtkbcgahpekmlbaaPPgx9
import Derived.Test.YtkbcgahpekmlbaaPPgx11
import Derived.Test.YtkbcgahpekmlbaaPPgx12
import Derived.Test.YtkbcgahpekmlbaaPPgx15
import Derived.Test.YtkbcgahpekmlbaaPPgx18
import Derived.Test.YtkbcgahpekmlbaaPPgx19
import Derived.Test.YtkbcgahpekmlbaaPPgx26
import Derived.Test.YtkbcgahpekmlbaaPPgx31
namespace Go.Proofs.Ytkbcgahpekmlbaa.PPg
open Go.RowKit Go.Proofs.YtkbcgahpekmlbaaW.PrintWords Go.Proofs.YtkbcgahpekmlbaaW.PrintLast Go.Proofs.YtkbcgahpekmlbaaW.PrintMore
set_option linter.unusedVariables false
set_option linter.unusedSimpArgs false

def inS (u : S41) (x : Int) : Bool := decide (u.f0 ≤ x) && decide (x < u.f1)
def mem (s : List S41) (x : Int) : Bool := s.any fun u => inS u x
def vldF (t : Int) : Int → List S41 → Bool
  | _, [] => true
  | last, u :: s => decide (last < u.f0) && decide (0 ≤ u.f0) && decide (u.f0 < u.f1) && decide (u.f1 ≤ t) && vldF t u.f1 s
def per (t : Int) : Bool := decide (1 ≤ t) && decide (t ≤ 7200)
def vld (t : Int) (s : List S41) : Bool := per t && vldF t (-1) s

theorem inS_iff (u : S41) (x : Int) : inS u x = true ↔ u.f0 ≤ x ∧ x < u.f1 := by simp [inS]
theorem mem_nil (x : Int) : mem [] x = false := rfl
theorem mem_cons (u : S41) (s : List S41) (x : Int) : mem (u :: s) x = (inS u x || mem s x) := rfl
theorem mem_append (a b : List S41) (x : Int) : mem (a ++ b) x = (mem a x || mem b x) := by simp [mem, List.any_append]
theorem mem_reverse (a : List S41) (x : Int) : mem a.reverse x = mem a x := by simp [mem, List.any_reverse]
theorem mem_iff (s : List S41) (x : Int) : mem s x = true ↔ ∃ u, u ∈ s ∧ u.f0 ≤ x ∧ x < u.f1 := by
  simp [mem, List.any_eq_true, inS_iff]
theorem vldF_cons (t a : Int) (u : S41) (s : List S41) : vldF t a (u :: s) = true ↔ a < u.f0 ∧ 0 ≤ u.f0 ∧ u.f0 < u.f1 ∧ u.f1 ≤ t ∧ vldF t u.f1 s = true := by
  simp only [vldF, Bool.and_eq_true, decide_eq_true_eq]
  constructor
  · rintro ⟨⟨⟨⟨h1, h2⟩, h3⟩, h4⟩, h5⟩; exact ⟨h1, h2, h3, h4, h5⟩
  · rintro ⟨h1, h2, h3, h4, h5⟩; exact ⟨⟨⟨⟨h1, h2⟩, h3⟩, h4⟩, h5⟩
theorem per_iff (t : Int) : per t = true ↔ 1 ≤ t ∧ t ≤ 7200 := by simp [per]
theorem vld_iff (t : Int) (s : List S41) : vld t s = true ↔ (1 ≤ t ∧ t ≤ 7200) ∧ vldF t (-1) s = true := by simp [vld, per_iff]
theorem vldF_mono {t a b : Int} {s : List S41} (h : vldF t a s = true) (hb : b ≤ a) : vldF t b s = true := by
  cases s with
  | nil => rfl
  | cons u s => rw [vldF_cons] at h ⊢; obtain ⟨h1, h2⟩ := h; exact ⟨by omega, h2⟩
theorem vldF_mem {t : Int} (s : List S41) : ∀ {a : Int}, vldF t a s = true → ∀ u ∈ s, a < u.f0 ∧ 0 ≤ u.f0 ∧ u.f0 < u.f1 ∧ u.f1 ≤ t := by
  induction s with
  | nil => intro a _ u hu; cases hu
  | cons v s ih =>
    intro a h u hu
    rw [vldF_cons] at h
    obtain ⟨h1, h2, h3, h4, h5⟩ := h
    rcases List.mem_cons.1 hu with rfl | hu
    · exact ⟨h1, h2, h3, h4⟩
    · have := ih h5 u hu; omega
theorem vldF_in {t a : Int} {s : List S41} (h : vldF t a s = true) {x : Int} (hx : mem s x = true) : a < x ∧ 0 ≤ x ∧ x < t := by
  obtain ⟨u, hu, h1, h2⟩ := (mem_iff s x).1 hx
  have := vldF_mem s h u hu
  omega
theorem vldF_out {t a : Int} {s : List S41} (h : vldF t a s = true) {x : Int} (hx : x ≤ a) : mem s x = false := by
  rw [Bool.eq_false_iff]; intro hm; have := vldF_in h hm; omega

/-- A valid list is known by its members. -/
theorem uniq {t : Int} : ∀ (s s' : List S41) {a a' : Int}, vldF t a s = true → vldF t a' s' = true → (∀ x, mem s x = mem s' x) → s = s'
  | [], [], _, _, _, _, _ => rfl
  | [], v :: s', a, a', h, h', hm => by
    exfalso; rw [vldF_cons] at h'; have := hm v.f0; rw [mem_nil, mem_cons, (inS_iff v v.f0).2 ⟨by omega, by omega⟩] at this; simp at this
  | u :: s, [], a, a', h, h', hm => by
    exfalso; rw [vldF_cons] at h; have := hm u.f0; rw [mem_nil, mem_cons, (inS_iff u u.f0).2 ⟨by omega, by omega⟩] at this; simp at this
  | u :: s, v :: s', a, a', h, h', hm => by
    have hh := h; have hh' := h'
    rw [vldF_cons] at h h'
    obtain ⟨h1, h2, h3, h4, h5⟩ := h
    obtain ⟨g1, g2, g3, g4, g5⟩ := h'
    have e0 : u.f0 = v.f0 := by
      have lo : ∀ {w : S41} {r : List S41} {b : Int}, vldF t w.f1 r = true → w.f0 < w.f1 → mem (w :: r) b = true → w.f0 ≤ b := by
        intro w r b hr hw hb
        rw [mem_cons, Bool.or_eq_true, inS_iff] at hb
        rcases hb with hb | hb
        · omega
        · have := vldF_in hr hb; omega
      have m1 : mem (v :: s') u.f0 = true := by rw [← hm, mem_cons, (inS_iff u u.f0).2 ⟨by omega, by omega⟩]; rfl
      have m2 : mem (u :: s) v.f0 = true := by rw [hm, mem_cons, (inS_iff v v.f0).2 ⟨by omega, by omega⟩]; rfl
      have := lo g5 g3 m1; have := lo h5 h3 m2; omega
    have e1 : u.f1 = v.f1 := by
      have no : ∀ {w : S41} {r : List S41}, vldF t w.f1 r = true → mem (w :: r) w.f1 = false := by
        intro w r hr
        rw [mem_cons, vldF_out hr (Int.le_refl _), Bool.or_false, Bool.eq_false_iff]
        intro hc; rw [inS_iff] at hc; omega
      rcases Int.lt_trichotomy u.f1 v.f1 with hl | hl | hl
      · exfalso; have q := no h5; rw [hm, mem_cons, (inS_iff v u.f1).2 ⟨by omega, by omega⟩] at q; simp at q
      · exact hl
      · exfalso; have q := no g5; rw [← hm, mem_cons, (inS_iff u v.f1).2 ⟨by omega, by omega⟩] at q; simp at q
    have euv : u = v := by cases u; cases v; simp_all
    subst euv
    have : s = s' := by
      refine uniq s s' h5 g5 fun x => ?_
      by_cases hx : x ≤ u.f1
      · rw [vldF_out h5 hx, vldF_out g5 hx]
      · have := hm x
        have hn : inS u x = false := by rw [Bool.eq_false_iff]; intro hc; rw [inS_iff] at hc; omega
        rwa [mem_cons, mem_cons, hn, Bool.false_or, Bool.false_or] at this
    rw [this]

/-- The runs of a predicate below i, the last one first. -/
def rr (p : Int → Bool) : Nat → List S41
  | 0 => []
  | i + 1 => if p i = true then (match rr p i with
      | [] => [⟨i, i + 1⟩]
      | u :: l => if u.f1 = i then ⟨u.f0, i + 1⟩ :: l else ⟨i, i + 1⟩ :: u :: l) else rr p i
def can (n : Nat) (p : Int → Bool) : List S41 := (rr p n).reverse
def dn : Int → List S41 → Prop
  | _, [] => True
  | b, u :: l => u.f1 ≤ b ∧ u.f0 < u.f1 ∧ 0 ≤ u.f0 ∧ dn (u.f0 - 1) l
theorem dn_mono {a b : Int} {l : List S41} (h : dn a l) (hb : a ≤ b) : dn b l := by
  cases l with
  | nil => trivial
  | cons u l => exact ⟨by have := h.1; omega, h.2⟩
theorem rr_dn (p : Int → Bool) : ∀ i : Nat, dn i (rr p i)
  | 0 => trivial
  | i + 1 => by
    have ih := rr_dn p i
    simp only [rr]
    split
    · split
      · exact ⟨by simp, by simp; omega, by simp, trivial⟩
      · next u l e =>
        rw [e] at ih
        obtain ⟨h1, h2, h3, h4⟩ := ih
        split
        · exact ⟨by simp, by simp; omega, h3, h4⟩
        · exact ⟨by simp, by simp; omega, by simp, by show u.f1 ≤ (i : Int) - 1; omega, h2, h3, h4⟩
    · exact dn_mono ih (by simp; omega)
theorem rr_mem (p : Int → Bool) (x : Int) : ∀ i : Nat, mem (rr p i) x = (decide (0 ≤ x ∧ x < i) && p x)
  | 0 => by simp only [rr, mem_nil]; rw [decide_eq_false (by omega)]; rfl
  | i + 1 => by
    have ih := rr_mem p x i
    have hd := rr_dn p i
    by_cases hx : x = i
    · subst hx
      have h0 : mem (rr p i) (i : Int) = false := by rw [ih, decide_eq_false (by omega)]; rfl
      rw [decide_eq_true (show (0 : Int) ≤ i ∧ (i : Int) < ((i + 1 : Nat) : Int) by omega), Bool.true_and]
      simp only [rr]
      split
      · next hp =>
        rw [hp]
        split
        · rw [mem_cons, (inS_iff _ _).2 ⟨by simp, by show (i : Int) < (i : Int) + 1; omega⟩]; rfl
        · next u l e =>
          rw [e] at hd
          obtain ⟨h1, h2, h3, h4⟩ := hd
          split
          · rw [mem_cons, (inS_iff _ _).2 ⟨by show u.f0 ≤ (i : Int); omega, by show (i : Int) < (i : Int) + 1; omega⟩]; rfl
          · rw [mem_cons, (inS_iff _ _).2 ⟨by simp, by show (i : Int) < (i : Int) + 1; omega⟩]; rfl
      · next hp => rw [h0]; simpa using hp
    · have hdec : decide (0 ≤ x ∧ x < ((i + 1 : Nat) : Int)) = decide (0 ≤ x ∧ x < (i : Int)) := by
        apply decide_eq_decide.2; omega
      rw [hdec, ← ih]
      have hn : ∀ a : Int, a ≤ i → (inS ⟨a, (i : Int) + 1⟩ x = inS ⟨a, i⟩ x) := by
        intro a ha; rw [Bool.eq_iff_iff, inS_iff, inS_iff]; show a ≤ x ∧ x < (i : Int) + 1 ↔ a ≤ x ∧ x < (i : Int); omega
      have hz : inS ⟨i, (i : Int)⟩ x = false := by rw [Bool.eq_false_iff]; intro hc; rw [inS_iff] at hc; simp at hc; omega
      simp only [rr]
      split
      · split
        · next e => rw [e, mem_cons, hn _ (Int.le_refl _), hz]; rfl
        · next u l e =>
          rw [e] at hd ⊢
          obtain ⟨h1, h2, h3, h4⟩ := hd
          split
          · next he =>
            rw [mem_cons, mem_cons, hn _ (by omega)]
            have : (⟨u.f0, (i : Int)⟩ : S41) = u := by cases u; simp_all
            rw [this]
          · rw [mem_cons, hn _ (Int.le_refl _), hz]; rfl
      · rfl
theorem rr_last (p : Int → Bool) (i : Nat) : (∃ u l, rr p i = u :: l ∧ u.f1 = i) ↔ (0 < i ∧ p ((i : Int) - 1) = true) := by
  have hm := rr_mem p ((i : Int) - 1) i
  have hd := rr_dn p i
  constructor
  · rintro ⟨u, l, e, h1⟩
    rw [e] at hd hm
    obtain ⟨g1, g2, g3, g4⟩ := hd
    rw [mem_cons, (inS_iff _ _).2 ⟨by omega, by omega⟩, Bool.true_or] at hm
    have := hm.symm
    rw [Bool.and_eq_true, decide_eq_true_eq] at this
    exact ⟨by omega, this.2⟩
  · rintro ⟨h0, hp⟩
    rw [hp, decide_eq_true (by omega)] at hm
    cases e : rr p i with
    | nil => rw [e, mem_nil] at hm; cases hm
    | cons u l =>
      refine ⟨u, l, rfl, ?_⟩
      rw [e] at hd hm
      obtain ⟨g1, g2, g3, g4⟩ := hd
      rw [mem_cons, Bool.and_self, Bool.or_eq_true, inS_iff] at hm
      rcases hm with hm | hm
      · omega
      · exfalso
        have lo : ∀ (l : List S41) (b x : Int), dn b l → mem l x = true → x < b := by
          intro l
          induction l with
          | nil => intro b x _ h; cases h
          | cons v l ih =>
            intro b x hv h
            rw [mem_cons, Bool.or_eq_true, inS_iff] at h
            rcases h with h | h
            · have := hv.1; omega
            · have := ih _ _ hv.2.2.2 h; have := hv.1; have := hv.2.1; omega
        have := lo _ _ _ g4 hm; omega
theorem dn_vldF {t : Int} (l : List S41) : ∀ (b : Int) (s : List S41), dn b l → b ≤ t → -1 ≤ b → vldF t b s = true → vldF t (-1) (l.reverse ++ s) = true := by
  induction l with
  | nil => intro b s _ _ hb h; exact vldF_mono h hb
  | cons u l ih =>
    intro b s hd hb h1 hs
    obtain ⟨g1, g2, g3, g4⟩ := hd
    rw [List.reverse_cons, List.append_assoc]
    refine ih (u.f0 - 1) (u :: s) g4 (by omega) (by omega) ?_
    rw [vldF_cons]
    exact ⟨by omega, g3, g2, by omega, vldF_mono hs g1⟩
theorem can_vldF (n : Nat) (p : Int → Bool) : vldF n (-1) (can n p) = true := by
  have := dn_vldF (t := n) (rr p n) n [] (rr_dn p n) (Int.le_refl _) (by omega) rfl
  rwa [List.append_nil] at this
theorem can_vld {n : Nat} (p : Int → Bool) (h1 : 1 ≤ n) (h2 : n ≤ 7200) : vld n (can n p) = true := by
  rw [vld_iff]; exact ⟨by omega, can_vldF n p⟩
theorem can_mem (n : Nat) (p : Int → Bool) (x : Int) : mem (can n p) x = (decide (0 ≤ x ∧ x < n) && p x) := by rw [can, mem_reverse, rr_mem]
theorem can_in {n : Nat} (p : Int → Bool) {x : Int} (h0 : 0 ≤ x) (h1 : x < n) : mem (can n p) x = p x := by rw [can_mem, decide_eq_true ⟨h0, h1⟩, Bool.true_and]
theorem eq_can {n : Nat} {s : List S41} {p : Int → Bool} {a : Int} (h : vldF n a s = true) (hm : ∀ x : Int, 0 ≤ x → x < n → mem s x = p x) : s = can n p := by
  refine uniq s (can n p) h (can_vldF n p) fun x => ?_
  rw [can_mem]
  by_cases hx : 0 ≤ x ∧ x < n
  · rw [decide_eq_true hx, Bool.true_and, hm x hx.1 hx.2]
  · rw [decide_eq_false hx, Bool.false_and, Bool.eq_false_iff]; intro hc; have := vldF_in h hc; omega
theorem can_congr {n : Nat} {p q : Int → Bool} (h : ∀ x : Int, 0 ≤ x → x < n → p x = q x) : can n p = can n q :=
  eq_can (can_vldF n p) fun x h0 h1 => by rw [can_in p h0 h1, h x h0 h1]
theorem can_self {n : Nat} {s : List S41} (h : vldF n (-1) s = true) : can n (mem s) = s := (eq_can h fun _ _ _ => rfl).symm
theorem can_len (p : Int → Bool) (i : Nat) : (rr p i).length ≤ i := by
  induction i with
  | zero => simp [rr]
  | succ i ih =>
    simp only [rr]
    split
    · split
      · simp
      · next u l e => rw [e] at ih; simp only [List.length_cons] at ih; split <;> simp only [List.length_cons] <;> omega
    · omega

theorem vld_fit {t : Int} {s : List S41} (h : vld t s = true) : s.length ≤ 7200 := by
  rw [vld_iff] at h
  have : ∀ (s : List S41) (a : Int), vldF t a s = true → a ≤ t → (s.length : Int) ≤ t - a := by
    intro s
    induction s with
    | nil => intro a _ ha; simp; omega
    | cons u s ih =>
      intro a hv ha
      rw [vldF_cons] at hv
      have := ih u.f1 hv.2.2.2.2 (by omega)
      simp only [List.length_cons, Int.natCast_add]; omega
  have e : s = [] ∨ ∃ u r, s = u :: r := by cases s with | nil => exact .inl rfl | cons u r => exact .inr ⟨u, r, rfl⟩
  rcases e with rfl | ⟨u, r, rfl⟩
  · simp
  · have hv := h.2
    rw [vldF_cons] at hv
    have := this r u.f1 hv.2.2.2.2 (by omega)
    simp only [List.length_cons]; omega

/-! marks -/
def tab (n : Nat) (p : Int → Bool) : List Bool := (List.range n).map fun i : Nat => p (i : Int)
theorem tab_len (n : Nat) (p : Int → Bool) : (tab n p).length = n := by simp [tab]
theorem tab_get (n : Nat) (p : Int → Bool) (i : Nat) (h : i < n) : (tab n p)[i]? = some (p i) := by
  simp [tab, h]
theorem tab_rd {n : Nat} (p : Int → Bool) {i : Int} (h0 : 0 ≤ i) (h1 : i < n) : rdOf false (tab n p) i = p i := by
  unfold rdOf
  rw [List.getD_eq_getElem?_getD, tab_get n p i.toNat (by omega)]
  show p (i.toNat : Int) = p i
  rw [Int.toNat_of_nonneg h0]
theorem tab_congr {n : Nat} {p q : Int → Bool} (h : ∀ x : Int, 0 ≤ x → x < n → p x = q x) : tab n p = tab n q := by
  unfold tab
  refine List.map_congr_left fun i hi => ?_
  rw [List.mem_range] at hi
  exact h i (by omega) (by omega)
theorem tab_set {n : Nat} (p : Int → Bool) (b : Bool) {i : Int} (h0 : 0 ≤ i) : (tab n p).set i.toNat b = tab n (fun x => if x = i then b else p x) := by
  apply List.ext_getElem?
  intro j
  by_cases hj : j < n
  · rw [tab_get _ _ _ hj, List.getElem?_set]
    by_cases he : i.toNat = j
    · rw [if_pos he, if_pos (by simpa [tab_len] using he ▸ hj), if_pos (by omega)]
    · rw [if_neg he, tab_get _ _ _ hj, if_neg (by omega)]
  · rw [List.getElem?_eq_none (by simp [tab_len]; omega), List.getElem?_eq_none (by simp [tab_len]; omega)]
theorem tab_rep (n : Nat) : List.replicate n false = tab n (fun _ => false) := by
  apply List.ext_getElem?
  intro j
  by_cases hj : j < n
  · rw [tab_get _ _ _ hj]; simp [hj]
  · rw [List.getElem?_eq_none (by simp; omega), List.getElem?_eq_none (by simp [tab_len]; omega)]

/-! remainders -/
theorem em_lo {a n : Int} (h0 : 0 ≤ a) (h1 : a < n) : a % n = a := Int.emod_eq_of_lt h0 h1
theorem em_neg {a n : Int} (h0 : -n ≤ a) (h1 : a < 0) : a % n = a + n := by
  rw [← Int.add_emod_right]; exact em_lo (by omega) (by omega)
theorem em_hi {a n : Int} (h0 : n ≤ a) (h1 : a < 2 * n) : a % n = a - n := by
  rw [← Int.sub_emod_right]; exact em_lo (by omega) (by omega)
theorem em_sub (x a n : Int) : (x - a % n) % n = (x - a) % n := by rw [Int.sub_emod, Int.emod_emod, ← Int.sub_emod]
theorem em_sub_left (x a n : Int) : (x % n - a) % n = (x - a) % n := by rw [Int.sub_emod, Int.emod_emod, ← Int.sub_emod]
theorem em_add_left (x a n : Int) : (x % n + a) % n = (x + a) % n := by rw [Int.add_emod, Int.emod_emod, ← Int.add_emod]
theorem em_add (x a n : Int) : (x + a % n) % n = (x + a) % n := by rw [Int.add_emod, Int.emod_emod, ← Int.add_emod]
/-- A run that begins at c, moved by b. -/
theorem em_run {x b c d n : Int} (hn : 0 < n) (hc : 0 ≤ c) (hcd : c < d) (hd : d ≤ n) : (x - (c + b)) % n < d - c ↔ c ≤ (x - b) % n ∧ (x - b) % n < d := by
  have e : (x - (c + b)) % n = ((x - b) % n - c) % n := by rw [em_sub_left]; congr 1; omega
  rw [e]
  have h0 := Int.emod_nonneg (x - b) (show n ≠ 0 by omega)
  have h1 := Int.emod_lt_of_pos (x - b) hn
  generalize (x - b) % n = z at *
  by_cases hz : c ≤ z
  · rw [em_lo (by omega) (by omega)]; omega
  · rw [em_neg (by omega) (by omega)]; omega
theorem em_step {x a n m : Int} (hn : 0 < n) (hx0 : 0 ≤ x) (hx : x < n) (ha0 : 0 ≤ a) (ha : a < n) (hm : 0 < m) : (x - a) % n < m ↔ x = a ∨ (x - (a + 1) % n) % n < m - 1 := by
  rw [em_sub]
  by_cases h : a ≤ x
  · rw [em_lo (show 0 ≤ x - a by omega) (by omega)]
    by_cases h' : x = a
    · subst h'; simp; omega
    · rw [em_lo (show 0 ≤ x - (a + 1) by omega) (by omega)]; omega
  · rw [em_neg (show -n ≤ x - a by omega) (by omega), em_neg (show -n ≤ x - (a + 1) by omega) (by omega)]; omega
theorem em_bound (a : Int) {n : Int} (hn : 0 < n) : 0 ≤ a % n ∧ a % n < n := ⟨Int.emod_nonneg _ (by omega), Int.emod_lt_of_pos _ hn⟩
theorem tmod_pos {a n : Int} (h0 : 0 ≤ a) : Int.tmod a n = a % n := by rw [Int.tmod_eq_emod_of_nonneg h0]
theorem tmod_fix {a n : Int} (hn : 1 ≤ n) : (if Int.tmod a n < 0 then Int.tmod a n + n else Int.tmod a n) = a % n := by
  by_cases h0 : 0 ≤ a
  · have := em_bound a (show 0 < n by omega)
    rw [tmod_pos h0, if_neg (by omega)]
  · have h1 : Int.tmod a n = -(Int.tmod (-a) n) := by rw [Int.neg_tmod, Int.neg_neg]
    have h2 := em_bound (-a) (show 0 < n by omega)
    rw [h1, tmod_pos (by omega)]
    have h3 : a % n = (0 - (-a) % n) % n := by rw [em_sub]; congr 1; omega
    rw [h3]
    by_cases hz : (-a) % n = 0
    · rw [hz]; simp
    · have h4 : (0 - (-a) % n) % n = 0 - (-a) % n + n := em_neg (by omega) (by omega)
      rw [h4, if_pos (by omega)]; omega
theorem wrap_ok {a : Int} (h0 : -9223372036854775808 ≤ a) (h1 : a ≤ 9223372036854775807) : wrap64 a = a := by unfold wrap64; omega
end Go.Proofs.Ytkbcgahpekmlbaa.PPg

namespace Go.Proofs.Ytkbcgahpekmlbaa.PPg
open Go.RowKit Go.Proofs.YtkbcgahpekmlbaaW.PrintWords Go.Proofs.YtkbcgahpekmlbaaW.PrintLast Go.Proofs.YtkbcgahpekmlbaaW.PrintMore
set_option linter.unusedVariables false
set_option linter.unusedSimpArgs false

def Fit {α : Type} (s : List α) : Prop := s.length ≤ 140737488355328
theorem fit_le {α : Type} {s : List α} (h : s.length ≤ 7200) : Fit s := by unfold Fit; omega
theorem fit_nil {α : Type} : Fit ([] : List α) := fit_le (by simp)
theorem len1 {α : Type} (pre : List α) (u : α) : (((pre ++ [u]).length : Nat) : Int) = (pre.length : Int) + 1 := by simp
theorem rd_pre (pre : List S41) (u : S41) (suf : List S41) : rd_T41 (pre ++ u :: suf) (pre.length : Int) = u := by simp [rd_T41]
theorem lt_pre {α : Type} (pre : List α) (u : α) (suf : List α) : (pre.length : Int) < ((pre ++ u :: suf).length : Int) := by simp; omega
theorem nlt_pre {α : Type} (pre : List α) : ¬ (pre.length : Int) < ((pre ++ []).length : Int) := by simp
theorem Ev.ite_pos {α : Type} {c : Prop} [Decidable c] {g f : Nat → Option α} {r : α} (hc : c) (h : Ev g r) : Ev (fun k => if c then g k else f k) r := by simp only [if_pos hc]; exact h
theorem Ev.ite_neg {α : Type} {c : Prop} [Decidable c] {g f : Nat → Option α} {r : α} (hc : ¬ c) (h : Ev f r) : Ev (fun k => if c then g k else f k) r := by simp only [if_neg hc]; exact h

theorem period_eq (t : Int) : residue_period.f t = some (per t) := by
  unfold residue_period.f per
  split
  · next h => rw [decide_eq_true (show 1 ≤ t by omega), Bool.true_and]
  · next h => rw [decide_eq_false (show ¬ 1 ≤ t by omega), Bool.false_and]

theorem Valid_loop (t n : Int) : ∀ (suf pre : List S41) (last : Int), Fit (pre ++ suf) → n = ((pre ++ suf).length : Int) →
    Ev (fun k => residue_Valid.l0 k t last (pre ++ suf) n (pre.length : Int)) (vldF t last suf)
  | [], pre, last, hb, hn => by
    subst hn
    refine Ev.step (f := fun _ => some true) (fun k => ?_) (Ev.now _)
    simp only [residue_Valid.l0]
    rw [if_neg (nlt_pre pre)]
  | u :: suf, pre, last, hb, hn => by
    have ih := Valid_loop t n suf (pre ++ [u]) u.f1 (by rwa [← List.append_cons]) (by rwa [← List.append_cons])
    rw [← List.append_cons, len1] at ih
    have hlt0 := lt_pre pre u suf
    have hlt : (pre.length : Int) < n := by rw [hn]; exact hlt0
    have hb' : (pre.length : Int) < 140737488355328 := by unfold Fit at hb; simp at hb; omega
    by_cases c : last < u.f0 ∧ 0 ≤ u.f0 ∧ u.f0 < u.f1 ∧ u.f1 ≤ t
    · have hv : vldF t last (u :: suf) = vldF t u.f1 suf := by simp [vldF, c]
      rw [hv]
      refine Ev.step (fun k => ?_) ih
      simp only [residue_Valid.l0]
      rw [if_pos hlt, if_pos (by omega), if_pos hlt0, rd_pre, if_neg (by omega), if_neg (by omega), if_neg (by omega), if_neg (by omega), wrap_ok (by omega) (by omega)]
    · have hv : vldF t last (u :: suf) = false := by rw [Bool.eq_false_iff, ne_eq, vldF_cons]; intro h; exact c ⟨h.1, h.2.1, h.2.2.1, h.2.2.2.1⟩
      rw [hv]
      refine Ev.step (f := fun _ => some false) (fun k => ?_) (Ev.now _)
      simp only [residue_Valid.l0]
      rw [if_pos hlt, if_pos (by omega), if_pos hlt0, rd_pre]
      iterate 4 (split; · rfl)
      exfalso; omega
theorem Valid_ev (t : Int) (s : List S41) (hs : Fit s) : Ev (fun k => residue_Valid.f k t s) (vld t s) := by
  simp only [residue_Valid.f, period_eq, Option.bind_some]
  unfold vld
  cases hp : per t
  · exact Ev.ite_neg (by simp) (Ev.now _)
  · exact Ev.ite_pos rfl (Valid_loop t _ s [] (-1) hs rfl)

theorem rdL_pre (pre : List (List S41)) (u : List S41) (suf : List (List S41)) : rd_L2 (pre ++ u :: suf) (pre.length : Int) = u := by simp [rd_L2]
theorem check_loop (t n : Int) (hp : per t = true) : ∀ (suf pre : List (List S41)), Fit (pre ++ suf) → (∀ s ∈ suf, Fit s) → n = ((pre ++ suf).length : Int) →
    Ev (fun k => residue_check.l0 k t (pre ++ suf) n (pre.length : Int)) (if suf.all (vld t) = true then 0 else 1)
  | [], pre, hb, hf, hn => by
    subst hn
    refine Ev.step (f := fun _ => some 0) (fun k => ?_) (Ev.now _)
    simp only [residue_check.l0]
    rw [if_neg (nlt_pre pre)]
  | u :: suf, pre, hb, hf, hn => by
    have ih := check_loop t n hp suf (pre ++ [u]) (by rwa [← List.append_cons]) (fun s hs => hf s (List.mem_cons_of_mem _ hs)) (by rwa [← List.append_cons])
    rw [← List.append_cons, len1] at ih
    have hlt0 := lt_pre pre u suf
    have hlt : (pre.length : Int) < n := by rw [hn]; exact hlt0
    have hb' : (pre.length : Int) < 140737488355328 := by unfold Fit at hb; simp at hb; omega
    refine Ev.step (f := fun k => (residue_Valid.f k t u).bind fun t109 => if t109 = true then residue_check.l0 k t (pre ++ u :: suf) n ((pre.length : Int) + 1) else some 1) (fun k => ?_) ?_
    · simp only [residue_check.l0]
      rw [if_pos hlt, if_pos (by omega), if_pos hlt0, rdL_pre, wrap_ok (by omega) (by omega)]
    · refine Ev.bind (Valid_ev t u (hf u (List.mem_cons_self ..))) ?_
      cases hv : vld t u
      · refine Ev.ite_neg (by simp) ?_
        simp only [List.all_cons, hv, Bool.false_and]
        exact Ev.now _
      · refine Ev.ite_pos rfl ?_
        simp only [List.all_cons, hv, Bool.true_and]
        exact ih
theorem check_ev (t : Int) (ls : List (List S41)) (hb : Fit ls) (hf : ∀ s ∈ ls, Fit s) :
    Ev (fun k => residue_check.f k t ls) (if per t = true then (if ls.all (vld t) = true then 0 else 1) else 4) := by
  simp only [residue_check.f, period_eq, Option.bind_some]
  cases hp : per t
  · exact Ev.ite_neg (by simp) (Ev.now _)
  · exact Ev.ite_pos rfl (check_loop t _ hp ls [] hb hf rfl)

theorem Mod_eq {a n : Int} (hn : 1 ≤ n) (h1 : n ≤ 9223372036854775807) : arith_Mod.f a n = some (a % n) := by
  unfold arith_Mod.f
  rw [if_neg (by omega), if_neg (by omega)]
  have h := tmod_fix (a := a) hn
  have hb := em_bound a (show 0 < n by omega)
  split
  · next hc => rw [if_pos hc] at h; rw [h, wrap_ok (by omega) (by omega)]
  · next hc => rw [if_neg hc] at h; rw [h]
theorem Mod_zero {a n : Int} (hn : n < 1) : arith_Mod.f a n = some 0 := by
  unfold arith_Mod.f; rw [if_pos hn]

theorem put_loop (n : Nat) (hn : 1 ≤ n) (hn2 : n ≤ 7200) (lim : Int) (hl : lim ≤ n) : ∀ (d : Nat) (p : Int → Bool) (at0 i : Int), 0 ≤ at0 → at0 < n → 0 ≤ i → lim - i ≤ d →
    Ev (fun k => residue_marks_put.l0 k (tab n p) n at0 lim i) (tab n fun x => p x || decide ((x - at0) % n < lim - i))
  | 0, p, at0, i, h0, h1, h2, hd => by
    refine Ev.step (f := fun _ => some (tab n p)) (fun k => ?_) ?_
    · simp only [residue_marks_put.l0]
      rw [if_neg (by omega)]
    · have e : (tab n fun x => p x || decide ((x - at0) % n < lim - i)) = tab n p := by
        refine tab_congr fun x hx0 hx1 => ?_
        have := em_bound (x - at0) (show (0 : Int) < n by omega)
        rw [decide_eq_false (by omega), Bool.or_false]
      rw [e]; exact Ev.now _
  | d + 1, p, at0, i, h0, h1, h2, hd => by
    by_cases hi : i < lim
    · have hb := em_bound (at0 + 1) (show (0 : Int) < n by omega)
      have ih := put_loop n hn hn2 lim hl d (fun x => if x = at0 then true else p x) ((at0 + 1) % n) (i + 1) hb.1 hb.2 (by omega) (by omega)
      have e : (tab n fun x => (if x = at0 then true else p x) || decide ((x - (at0 + 1) % n) % n < lim - (i + 1))) = tab n fun x => p x || decide ((x - at0) % n < lim - i) := by
        refine tab_congr fun x hx0 hx1 => ?_
        have hs := em_step (x := x) (a := at0) (n := n) (m := lim - i) (by omega) hx0 hx1 h0 h1 (by omega)
        by_cases hx : x = at0
        · rw [if_pos hx, Bool.true_or, decide_eq_true (hs.2 (.inl hx)), Bool.or_true]
        · rw [if_neg hx]
          congr 1
          apply decide_eq_decide.2
          rw [hs]
          constructor
          · intro h; exact .inr (by omega)
          · rintro (h | h)
            · exact absurd h hx
            · omega
      rw [e] at ih
      refine Ev.step (fun k => ?_) ih
      simp only [residue_marks_put.l0]
      rw [if_pos hi, if_pos h0, if_pos (by rw [tab_len]; exact h1), tab_set p true h0, Option.bind_some, wrap_ok (by omega) (by omega), wrap_ok (by omega) (by omega)]
      by_cases he : at0 + 1 = n
      · rw [if_pos he, he, Int.emod_self]
      · rw [if_neg he, em_lo (by omega) (by omega)]
    · refine Ev.step (f := fun _ => some (tab n p)) (fun k => ?_) ?_
      · simp only [residue_marks_put.l0]
        rw [if_neg hi]
      · have e : (tab n fun x => p x || decide ((x - at0) % n < lim - i)) = tab n p := by
          refine tab_congr fun x hx0 hx1 => ?_
          have := em_bound (x - at0) (show (0 : Int) < n by omega)
          rw [decide_eq_false (by omega), Bool.or_false]
        rw [e]; exact Ev.now _
theorem put_ev (n : Nat) (hn : 1 ≤ n) (hn2 : n ≤ 7200) (p : Int → Bool) (a m : Int) :
    Ev (fun k => residue_marks_put.f k (tab n p) a m) (tab n fun x => p x || decide ((x - a) % n < m)) := by
  simp only [residue_marks_put.f, tab_len, Mod_eq (show (1 : Int) ≤ n by omega) (show (n : Int) ≤ 9223372036854775807 by omega), Option.bind_some]
  have hb := em_bound a (show (0 : Int) < n by omega)
  have hm : mn m n ≤ n := by unfold mn; split <;> omega
  have h := put_loop n hn hn2 (mn m n) hm n p (a % n) 0 hb.1 hb.2 (Int.le_refl _) (by omega)
  have e : (tab n fun x => p x || decide ((x - a % n) % n < mn m n - 0)) = tab n fun x => p x || decide ((x - a) % n < m) := by
    refine tab_congr fun x hx0 hx1 => ?_
    congr 1
    apply decide_eq_decide.2
    rw [em_sub]
    have := em_bound (x - a) (show (0 : Int) < n by omega)
    unfold mn; split <;> omega
  rwa [e] at h

theorem rev_set (u v : S41) (l : List S41) : ((u :: l).reverse).set (((u :: l).reverse.length : Int) - 1).toNat v = (v :: l).reverse := by
  simp only [List.reverse_cons]
  have : ((((l.reverse ++ [u]).length : Nat) : Int) - 1).toNat = l.reverse.length := by simp
  rw [this]; simp
theorem rev_rd (u : S41) (l : List S41) : rd_T41 ((u :: l).reverse) (((u :: l).reverse.length : Int) - 1) = u := by
  have : ((((u :: l).reverse.length : Nat) : Int) - 1) = (l.reverse.length : Int) := by simp
  rw [this, List.reverse_cons]; exact rd_pre _ _ _
theorem list_loop (n : Nat) (hn2 : n ≤ 7200) (p : Int → Bool) : ∀ (d i : Nat), i + d = n →
    Ev (fun k => residue_marks_list.l0 k (tab n p) (rr p i).reverse (tab n p) n i) (can n p)
  | 0, i, hd => by
    obtain rfl : i = n := by omega
    refine Ev.step (f := fun _ => some (can i p)) (fun k => ?_) (Ev.now _)
    simp only [residue_marks_list.l0]
    rw [if_neg (by omega)]; rfl
  | d + 1, i, hd => by
    have ih := list_loop n hn2 p d (i + 1) (by omega)
    have hl := rr_last p i
    have hlen := can_len p i
    refine Ev.step (fun k => ?_) ih
    simp only [residue_marks_list.l0]
    rw [if_pos (by omega), if_pos (by omega), tab_len, if_pos (by omega), tab_rd p (by omega) (by omega), wrap_ok (a := (i : Int) + 1) (by omega) (by omega), wrap_ok (a := (i : Int) - 1) (by omega) (by omega)]
    simp only [rr]
    by_cases hp : p i = true
    · rw [if_pos hp, if_pos hp]
      by_cases h0 : 0 < i
      · rw [if_pos (by omega), if_pos (by omega), if_pos (by omega), tab_rd p (by omega) (by omega)]
        by_cases hq : p ((i : Int) - 1) = true
        · obtain ⟨u, l, e, h1⟩ := hl.2 ⟨h0, hq⟩
          rw [e] at hlen ⊢
          have hle : ((u :: l).reverse.length : Int) ≤ 7200 := by rw [List.length_reverse]; omega
          have hge : 1 ≤ ((u :: l).reverse.length : Int) := by simp; omega
          rw [if_pos hq, wrap_ok (a := ((u :: l).reverse.length : Int) - 1) (by omega) (by omega), if_pos (by omega), if_pos (by omega), rev_set, rev_rd]
          simp only [h1, if_true]; rfl
        · have hlt : ((rr p i).reverse).length < 8796093022208 := by rw [List.length_reverse]; omega
          rw [if_neg hq, if_pos hlt]
          have hno : ∀ u l, rr p i = u :: l → u.f1 ≠ i := fun u l e h1 => hq (hl.1 ⟨u, l, e, h1⟩).2
          cases e : rr p i with
          | nil => simp
          | cons u l => simp only [if_neg (hno u l e)]; simp
      · have hlt : ((rr p i).reverse).length < 8796093022208 := by rw [List.length_reverse]; omega
        rw [if_neg (by omega), if_pos hlt]
        obtain rfl : i = 0 := by omega
        rfl
    · rw [if_neg hp, if_neg hp]; rfl
theorem list_ev (n : Nat) (hn2 : n ≤ 7200) (p : Int → Bool) : Ev (fun k => residue_marks_list.f k (tab n p)) (can n p) := by
  simp only [residue_marks_list.f, tab_len]
  exact list_loop n hn2 p n 0 (by omega)

theorem Make_ev (n : Nat) (hn : 1 ≤ n) (hn2 : n ≤ 7200) (a m : Int) : Ev (fun k => residue_Make.f k n a m) (can n fun x => decide ((x - a) % n < m), 0) := by
  simp only [residue_Make.f]
  refine Ev.bind (check_ev n [] fit_nil (by simp)) ?_
  rw [if_pos ((per_iff _).2 (by omega))]
  refine Ev.ite_pos (by simp) (Ev.ite_pos (by omega) (Ev.ite_pos (by omega) ?_))
  simp only [Int.toNat_natCast, tab_rep]
  refine Ev.bind (put_ev n hn hn2 _ a m) (Ev.bind (list_ev n hn2 _) ?_)
  simp only [Bool.false_or]
  exact Ev.now _
theorem Make_bad (t a m : Int) (h : per t = false) : Ev (fun k => residue_Make.f k t a m) ([], 4) := by
  simp only [residue_Make.f]
  refine Ev.bind (check_ev t [] fit_nil (by simp)) ?_
  rw [if_neg (by simp [h])]
  exact Ev.ite_neg (by simp) (Ev.now _)

theorem Same_loop (n : Int) : ∀ (suf pre : List S41), Fit (pre ++ suf) → n = ((pre ++ suf).length : Int) →
    Ev (fun k => api_Span.l0 k (pre ++ suf) (pre ++ suf) n (pre.length : Int)) true
  | [], pre, hb, hn => by
    subst hn
    refine Ev.step (f := fun _ => some true) (fun k => ?_) (Ev.now _)
    simp only [api_Span.l0]
    rw [if_neg (nlt_pre pre)]
  | u :: suf, pre, hb, hn => by
    have ih := Same_loop n suf (pre ++ [u]) (by rwa [← List.append_cons]) (by rwa [← List.append_cons])
    rw [← List.append_cons, len1] at ih
    have hlt0 := lt_pre pre u suf
    have hlt : (pre.length : Int) < n := by rw [hn]; exact hlt0
    have hb' : (pre.length : Int) < 140737488355328 := by unfold Fit at hb; simp at hb; omega
    refine Ev.step (fun k => ?_) ih
    simp only [api_Span.l0]
    rw [if_pos hlt, if_pos (by omega), if_pos hlt0, if_pos hlt0, rd_pre, if_neg (by simp), wrap_ok (by omega) (by omega)]
theorem Same_ev (s : List S41) (hs : Fit s) : Ev (fun k => api_Span.f k s s) true := by
  simp only [api_Span.f]
  exact Ev.ite_pos trivial (Same_loop _ s [] hs rfl)
end Go.Proofs.Ytkbcgahpekmlbaa.PPg

namespace Go.Proofs.Ytkbcgahpekmlbaa.PPg
open Go.RowKit Go.Proofs.YtkbcgahpekmlbaaW.PrintWords Go.Proofs.YtkbcgahpekmlbaaW.PrintLast Go.Proofs.YtkbcgahpekmlbaaW.PrintMore
set_option linter.unusedVariables false
set_option linter.unusedSimpArgs false

def b2i : Bool → Int
  | true => 1
  | false => 0
/-- The number of x below n with p x. -/
def cnt (p : Int → Bool) : Nat → Int
  | 0 => 0
  | i + 1 => cnt p i + b2i (p i)
def sizes : List S41 → Int
  | [] => 0
  | u :: s => u.f1 - u.f0 + sizes s
theorem b2i_b (b : Bool) : 0 ≤ b2i b ∧ b2i b ≤ 1 := by cases b <;> decide
theorem cnt_congr {p q : Int → Bool} : ∀ {n : Nat}, (∀ x : Int, 0 ≤ x → x < n → p x = q x) → cnt p n = cnt q n
  | 0, _ => rfl
  | n + 1, h => by
    simp only [cnt]
    rw [cnt_congr (n := n) (fun x h0 h1 => h x h0 (by omega)), h n (by omega) (by omega)]
theorem cnt_not (p : Int → Bool) : ∀ n : Nat, cnt p n + cnt (fun x => !p x) n = n
  | 0 => rfl
  | n + 1 => by
    have := cnt_not p n
    simp only [cnt]
    cases p n <;> simp [b2i] <;> omega
theorem cnt_bounds (p : Int → Bool) : ∀ n : Nat, 0 ≤ cnt p n ∧ cnt p n ≤ n
  | 0 => by simp [cnt]
  | n + 1 => by have := cnt_bounds p n; have := b2i_b (p n); simp only [cnt]; omega
theorem cnt_all (p : Int → Bool) : ∀ n : Nat, cnt p n = n → ∀ x : Int, 0 ≤ x → x < n → p x = true
  | 0, _, x, h0, h1 => by omega
  | n + 1, h, x, h0, h1 => by
    have := cnt_bounds p n
    have hb := b2i_b (p n)
    simp only [cnt] at h
    by_cases hx : x = n
    · subst hx
      cases hp : p n with
      | true => rfl
      | false => rw [hp] at h; simp only [b2i] at h; omega
    · exact cnt_all p n (by omega) x h0 (by omega)
theorem cnt_span (a b : Int) (p : Int → Bool) (h0 : 0 ≤ a) (hab : a ≤ b) (hp : ∀ x : Int, a ≤ x → x < b → p x = false) : ∀ n : Nat,
    cnt (fun x => (decide (a ≤ x) && decide (x < b)) || p x) n = (if (n : Int) ≤ a then 0 else if (n : Int) ≤ b then (n : Int) - a else b - a) + cnt p n
  | 0 => by simp only [cnt]; rw [if_pos (by omega)]; rfl
  | n + 1 => by
    have ih := cnt_span a b p h0 hab hp n
    simp only [cnt]
    rw [ih]
    by_cases h1 : a ≤ (n : Int)
    · by_cases h2 : (n : Int) < b
      · rw [decide_eq_true h1, decide_eq_true h2, hp n h1 h2]
        simp only [Bool.and_self, Bool.true_or, b2i]
        split <;> split <;> (try split) <;> omega
      · rw [decide_eq_false h2, Bool.and_false, Bool.false_or]
        have : ¬ ((n + 1 : Nat) : Int) ≤ b := by omega
        rw [if_neg this, if_neg (by omega : ¬ ((n + 1 : Nat) : Int) ≤ a)]
        split <;> (try split) <;> omega
    · rw [decide_eq_false h1, Bool.false_and, Bool.false_or, if_pos (by omega), if_pos (by omega)]; omega
theorem sizes_cnt (n : Nat) : ∀ (s : List S41) (a : Int), vldF n a s = true → sizes s = cnt (mem s) n
  | [], a, _ => by
    have : ∀ n : Nat, cnt (mem []) n = 0 := by
      intro n; induction n with
      | zero => rfl
      | succ n ih => simp only [cnt, ih, mem_nil]; rfl
    rw [this]; rfl
  | u :: s, a, h => by
    rw [vldF_cons] at h
    obtain ⟨h1, h2, h3, h4, h5⟩ := h
    have ih := sizes_cnt n s u.f1 h5
    have e := cnt_span u.f0 u.f1 (mem s) h2 (by omega) (fun x _ hx => vldF_out h5 (by omega)) n
    have e' : cnt (mem (u :: s)) n = cnt (fun x => (decide (u.f0 ≤ x) && decide (x < u.f1)) || mem s x) n := rfl
    rw [e', e, ← ih]
    simp only [sizes]
    split
    · omega
    · split <;> omega
theorem sizes_bd {n : Nat} {s : List S41} {a : Int} (h : vldF n a s = true) : 0 ≤ sizes s ∧ sizes s ≤ n := by
  rw [sizes_cnt n s a h]; exact cnt_bounds _ _
end Go.Proofs.Ytkbcgahpekmlbaa.PPg

namespace Go.Proofs.Ytkbcgahpekmlbaa.PPg
open Go.RowKit Go.Proofs.YtkbcgahpekmlbaaW.PrintWords Go.Proofs.YtkbcgahpekmlbaaW.PrintLast Go.Proofs.YtkbcgahpekmlbaaW.PrintMore
set_option linter.unusedVariables false
set_option linter.unusedSimpArgs false

theorem Count_loop (n : Nat) (hn2 : n ≤ 7200) (m : Int) : ∀ (suf pre : List S41) (last c : Int), Fit (pre ++ suf) → m = ((pre ++ suf).length : Int) → vldF n last suf = true → 0 ≤ c → c ≤ last + 1 →
    Ev (fun k => residue_Count.l0 k c (pre ++ suf) m (pre.length : Int)) (c + sizes suf)
  | [], pre, last, c, hb, hm, hv, hc0, hc1 => by
    have e : c + sizes [] = c := by simp [sizes]
    rw [e]
    refine Ev.step (f := fun _ => some c) (fun k => ?_) (Ev.now _)
    simp only [residue_Count.l0]
    rw [if_neg (by rw [hm]; exact nlt_pre pre)]
  | u :: suf, pre, last, c, hb, hm, hv, hc0, hc1 => by
    rw [vldF_cons] at hv
    obtain ⟨h1, h2, h3, h4, h5⟩ := hv
    have hlt0 := lt_pre pre u suf
    have hb' : (pre.length : Int) < 140737488355328 := by unfold Fit at hb; simp at hb; omega
    have ih := Count_loop n hn2 m suf (pre ++ [u]) u.f1 (c + (u.f1 - u.f0)) (by rwa [← List.append_cons]) (by rwa [← List.append_cons]) h5 (by omega) (by omega)
    rw [← List.append_cons, len1] at ih
    have e : c + sizes (u :: suf) = c + (u.f1 - u.f0) + sizes suf := by simp only [sizes]; omega
    rw [e]
    refine Ev.step (fun k => ?_) ih
    simp only [residue_Count.l0]
    rw [if_pos (by rw [hm]; exact hlt0), if_pos (by omega), if_pos hlt0, rd_pre, wrap_ok (a := u.f1 - u.f0) (by omega) (by omega), wrap_ok (a := c + (u.f1 - u.f0)) (by omega) (by omega), wrap_ok (by omega) (by omega)]
theorem Count_ev (n : Nat) (hn : 1 ≤ n) (hn2 : n ≤ 7200) (s : List S41) (hs : Fit s) : Ev (fun k => residue_Count.f k n s) (if vld n s = true then cnt (mem s) n else 0) := by
  simp only [residue_Count.f]
  refine Ev.bind (Valid_ev n s hs) ?_
  by_cases h : vld n s = true
  · rw [if_pos h]
    rw [vld_iff] at h
    refine Ev.ite_pos ((vld_iff _ _).2 h) ?_
    have := Count_loop n hn2 s.length s [] (-1) 0 hs rfl h.2 (Int.le_refl _) (by omega)
    rw [Int.zero_add, sizes_cnt n s _ h.2] at this
    exact this
  · rw [if_neg h]
    exact Ev.ite_neg h (Ev.now _)
end Go.Proofs.Ytkbcgahpekmlbaa.PPg

namespace Go.Proofs.Ytkbcgahpekmlbaa.PPg
open Go.RowKit Go.Proofs.YtkbcgahpekmlbaaW.PrintWords Go.Proofs.YtkbcgahpekmlbaaW.PrintLast Go.Proofs.YtkbcgahpekmlbaaW.PrintMore
set_option linter.unusedVariables false
set_option linter.unusedSimpArgs false

theorem vldF_lower {t a c : Int} {r : List S41} (h : vldF t a r = true) (hm : ∀ x, mem r x = true → c < x) : vldF t c r = true := by
  cases r with
  | nil => rfl
  | cons u r =>
    rw [vldF_cons] at h ⊢
    exact ⟨hm u.f0 (by rw [mem_cons, (inS_iff u u.f0).2 ⟨by omega, by omega⟩]; rfl), h.2⟩
theorem Intersect_loop (n : Nat) (hn2 : n ≤ 7200) : ∀ (d : Nat) (sa pa sb pb out : List S41) (la lb : Int), sa.length + sb.length ≤ d → out.length + d ≤ 14400 → Fit (pa ++ sa) → Fit (pb ++ sb) → vldF n la sa = true → vldF n lb sb = true →
    ∃ r, Ev (fun k => residue_Intersect.l0 k (pa ++ sa) (pb ++ sb) out (pa.length : Int) (pb.length : Int)) (out ++ r, 0) ∧ vldF n (-1) r = true ∧ ∀ x, mem r x = (mem sa x && mem sb x)
  | d, [], pa, sb, pb, out, la, lb, hd, ho, ha, hb, va, vb => by
    refine ⟨[], ?_, rfl, fun x => by rw [mem_nil, Bool.false_and]⟩
    rw [List.append_nil out]
    refine Ev.step (f := fun k => residue_Intersect.j1 k (pa ++ []) (pb ++ sb) out (pa.length : Int) (pb.length : Int) false) (fun k => ?_) ?_
    · simp only [residue_Intersect.l0]
      rw [if_neg (nlt_pre pa)]
    · refine Ev.step (f := fun _ => some (out, 0)) (fun k => ?_) (Ev.now _)
      simp only [residue_Intersect.j1]; rfl
  | d, u :: sa, pa, [], pb, out, la, lb, hd, ho, ha, hb, va, vb => by
    refine ⟨[], ?_, rfl, fun x => by rw [mem_nil, Bool.and_false]⟩
    rw [List.append_nil out]
    refine Ev.step (f := fun k => residue_Intersect.j1 k (pa ++ u :: sa) (pb ++ []) out (pa.length : Int) (pb.length : Int) false) (fun k => ?_) ?_
    · simp only [residue_Intersect.l0]
      rw [if_pos (lt_pre pa u sa), decide_eq_false (nlt_pre pb)]
    · refine Ev.step (f := fun _ => some (out, 0)) (fun k => ?_) (Ev.now _)
      simp only [residue_Intersect.j1]; rfl
  | 0, u :: sa, pa, v :: sb, pb, out, la, lb, hd, ho, ha, hb, va, vb => by simp only [List.length_cons] at hd; omega
  | d + 1, u :: sa, pa, v :: sb, pb, out, la, lb, hd, ho, ha, hb, va, vb => by
    have hla := lt_pre pa u sa
    have hlb := lt_pre pb v sb
    have ha' : (pa.length : Int) < 140737488355328 := by unfold Fit at ha; simp at ha; omega
    have hb' : (pb.length : Int) < 140737488355328 := by unfold Fit at hb; simp at hb; omega
    have hlen : out.length < 8796093022208 := by omega
    have va' := va
    have vb' := vb
    rw [vldF_cons] at va vb
    obtain ⟨a1, a2, a3, a4, a5⟩ := va
    obtain ⟨b1, b2, b3, b4, b5⟩ := vb
    simp only [List.length_cons] at hd
    have hmx : mx u.f0 v.f0 = if u.f0 < v.f0 then v.f0 else u.f0 := rfl
    have hmn : mn u.f1 v.f1 = if v.f1 < u.f1 then v.f1 else u.f1 := rfl
    have inI : ∀ x, (inS u x && inS v x) = (decide (mx u.f0 v.f0 ≤ x) && decide (x < mn u.f1 v.f1)) := by
      intro x
      rw [Bool.eq_iff_iff, Bool.and_eq_true, inS_iff, inS_iff, Bool.and_eq_true, decide_eq_true_eq, decide_eq_true_eq]
      unfold mx mn; split <;> split <;> omega
    -- what is appended in this round
    have rounds : ∀ (add : List S41), add = (if mx u.f0 v.f0 < mn u.f1 v.f1 then [⟨mx u.f0 v.f0, mn u.f1 v.f1⟩] else []) →
        ∃ r, Ev (fun k => if u.f1 < v.f1 then residue_Intersect.l0 k (pa ++ u :: sa) (pb ++ v :: sb) (out ++ add) ((pa.length : Int) + 1) (pb.length : Int) else residue_Intersect.l0 k (pa ++ u :: sa) (pb ++ v :: sb) (out ++ add) (pa.length : Int) ((pb.length : Int) + 1)) (out ++ r, 0) ∧ vldF n (-1) r = true ∧ ∀ x, mem r x = (mem (u :: sa) x && mem (v :: sb) x) := by
      intro add hadd
      have hal : add.length ≤ 1 := by rw [hadd]; split <;> simp
      have hmem : ∀ x, mem add x = (inS u x && inS v x) := by
        intro x
        rw [inI, hadd]
        split
        · rw [mem_cons, mem_nil, Bool.or_false]; rfl
        · next hn =>
          rw [mem_nil]; symm; rw [Bool.eq_false_iff]; intro hc
          rw [Bool.and_eq_true, decide_eq_true_eq, decide_eq_true_eq] at hc; omega
      by_cases hc : u.f1 < v.f1
      · obtain ⟨r, e1, e2, e3⟩ := Intersect_loop n hn2 d sa (pa ++ [u]) (v :: sb) pb (out ++ add) u.f1 lb (by simp only [List.length_cons]; omega) (by rw [List.length_append]; omega) (by rwa [← List.append_cons]) hb a5 vb'
        rw [← List.append_cons, len1, List.append_assoc] at e1
        refine ⟨add ++ r, Ev.ite_pos hc e1, ?_, fun x => ?_⟩
        · rw [hadd]; split
          · rw [List.cons_append, List.nil_append, vldF_cons]
            refine ⟨by show -1 < mx u.f0 v.f0; rw [hmx]; split <;> omega, by show 0 ≤ mx u.f0 v.f0; rw [hmx]; split <;> omega, by assumption, by show mn u.f1 v.f1 ≤ n; rw [hmn]; split <;> omega, vldF_lower e2 fun x hx => ?_⟩
            rw [e3, Bool.and_eq_true] at hx
            have := vldF_in a5 hx.1
            show mn u.f1 v.f1 < x; rw [hmn]; split <;> omega
          · exact e2
        · rw [mem_append, hmem, e3, mem_cons, mem_cons]
          by_cases hx : x < u.f1
          · rw [vldF_out a5 (show x ≤ u.f1 by omega), vldF_out b5 (show x ≤ v.f1 by omega)]; simp
          · have hf : inS u x = false := by rw [Bool.eq_false_iff]; intro hc; rw [inS_iff] at hc; omega
            rw [hf]; simp
      · obtain ⟨r, e1, e2, e3⟩ := Intersect_loop n hn2 d (u :: sa) pa sb (pb ++ [v]) (out ++ add) la v.f1 (by simp only [List.length_cons]; omega) (by rw [List.length_append]; omega) ha (by rwa [← List.append_cons]) va' b5
        rw [← List.append_cons, len1, List.append_assoc] at e1
        refine ⟨add ++ r, Ev.ite_neg hc e1, ?_, fun x => ?_⟩
        · rw [hadd]; split
          · rw [List.cons_append, List.nil_append, vldF_cons]
            refine ⟨by show -1 < mx u.f0 v.f0; rw [hmx]; split <;> omega, by show 0 ≤ mx u.f0 v.f0; rw [hmx]; split <;> omega, by assumption, by show mn u.f1 v.f1 ≤ n; rw [hmn]; split <;> omega, vldF_lower e2 fun x hx => ?_⟩
            rw [e3, Bool.and_eq_true] at hx
            have := vldF_in b5 hx.2
            show mn u.f1 v.f1 < x; rw [hmn]; split <;> omega
          · exact e2
        · rw [mem_append, hmem, e3, mem_cons, mem_cons]
          by_cases hx : x < v.f1
          · rw [vldF_out b5 (show x ≤ v.f1 by omega)]
            by_cases hy : x < u.f1
            · rw [vldF_out a5 (show x ≤ u.f1 by omega)]; simp
            · exfalso; omega
          · have hf : inS v x = false := by rw [Bool.eq_false_iff]; intro hc; rw [inS_iff] at hc; omega
            rw [hf]; simp
    refine (rounds _ rfl).imp fun r hr => ⟨?_, hr.2⟩
    refine Ev.step (f := fun k => residue_Intersect.j1 k (pa ++ u :: sa) (pb ++ v :: sb) out (pa.length : Int) (pb.length : Int) true) (fun k => ?_) ?_
    · simp only [residue_Intersect.l0]
      rw [if_pos hla, decide_eq_true hlb]
    · refine Ev.step (fun k => ?_) hr.1
      simp only [residue_Intersect.j1]
      rw [if_pos trivial, if_pos (by omega), if_pos hla, if_pos (by omega), if_pos hlb, rd_pre, rd_pre, wrap_ok (a := (pa.length : Int) + 1) (by omega) (by omega), wrap_ok (a := (pb.length : Int) + 1) (by omega) (by omega)]
      by_cases hc : mx u.f0 v.f0 < mn u.f1 v.f1
      · rw [if_pos hc, if_pos hlen, if_pos hc]; rfl
      · rw [if_neg hc, if_neg hc, List.append_nil]
theorem Intersect_ev (n : Nat) (hn : 1 ≤ n) (hn2 : n ≤ 7200) (a b : List S41) (ha : Fit a) (hb : Fit b) :
    Ev (fun k => residue_Intersect.f k n a b) (if vld n a = true ∧ vld n b = true then (can n fun x => mem a x && mem b x, 0) else ([], 1)) := by
  simp only [residue_Intersect.f]
  refine Ev.bind (check_ev n [a, b] (fit_le (by simp)) (by simp; exact ⟨ha, hb⟩)) ?_
  rw [if_pos ((per_iff _).2 (by omega))]
  by_cases h : vld n a = true ∧ vld n b = true
  · rw [if_pos (by simp [h]), if_pos h]
    obtain ⟨h, h'⟩ := h
    have la := vld_fit h
    have lb := vld_fit h'
    rw [vld_iff] at h h'
    refine Ev.ite_pos (by simp) ?_
    obtain ⟨r, e1, e2, e3⟩ := Intersect_loop n hn2 14400 a [] b [] [] (-1) (-1) (by omega) (by simp) ha hb h.2 h'.2
    rw [List.nil_append, List.nil_append, List.nil_append, eq_can (p := fun x => mem a x && mem b x) e2 (fun x _ _ => e3 x)] at e1
    exact e1
  · rw [if_neg (by simpa using h), if_neg h]
    exact Ev.ite_neg (by simp) (Ev.now _)
theorem Intersect_bad (t : Int) (a b : List S41) (ha : Fit a) (hb : Fit b) (h : per t = false) : Ev (fun k => residue_Intersect.f k t a b) ([], 4) := by
  simp only [residue_Intersect.f]
  refine Ev.bind (check_ev t [a, b] (fit_le (by simp)) (by simp; exact ⟨ha, hb⟩)) ?_
  rw [if_neg (by simp [h])]
  exact Ev.ite_neg (by simp) (Ev.now _)
end Go.Proofs.Ytkbcgahpekmlbaa.PPg

namespace Go.Proofs.Ytkbcgahpekmlbaa.PPg
open Go.RowKit Go.Proofs.YtkbcgahpekmlbaaW.PrintWords Go.Proofs.YtkbcgahpekmlbaaW.PrintLast Go.Proofs.YtkbcgahpekmlbaaW.PrintMore
set_option linter.unusedVariables false
set_option linter.unusedSimpArgs false

def sm1 (n : Int) (u : S41) (b : List S41) (x : Int) : Bool := b.any fun v => decide ((x - (u.f0 + v.f0)) % n < u.f1 - u.f0 + v.f1 - v.f0 - 1)
def sm (n : Int) (a b : List S41) (x : Int) : Bool := a.any fun u => sm1 n u b x
theorem sm1_cons (n : Int) (u v : S41) (b : List S41) (x : Int) : sm1 n u (v :: b) x = (decide ((x - (u.f0 + v.f0)) % n < u.f1 - u.f0 + v.f1 - v.f0 - 1) || sm1 n u b x) := rfl
theorem sm_cons (n : Int) (u : S41) (a b : List S41) (x : Int) : sm n (u :: a) b x = (sm1 n u b x || sm n a b x) := rfl
theorem sm1_iff (n : Int) (u : S41) (b : List S41) (x : Int) : sm1 n u b x = true ↔ ∃ v, v ∈ b ∧ (x - (u.f0 + v.f0)) % n < u.f1 - u.f0 + v.f1 - v.f0 - 1 := by
  simp [sm1, List.any_eq_true]
theorem sm_iff (n : Int) (a b : List S41) (x : Int) : sm n a b x = true ↔ ∃ u, u ∈ a ∧ ∃ v, v ∈ b ∧ (x - (u.f0 + v.f0)) % n < u.f1 - u.f0 + v.f1 - v.f0 - 1 := by
  simp [sm, List.any_eq_true, sm1_iff]
/-- A residue is in a sum exactly if it is the sum of a member of the one set and a member of the other one. -/
theorem sm_mem {n : Nat} (hn : 1 ≤ n) {a b : List S41} (ha : vldF n (-1) a = true) (hb : vldF n (-1) b = true) (x : Int) :
    sm n a b x = true ↔ ∃ d : Int, 0 ≤ d ∧ d < n ∧ mem a d = true ∧ mem b ((x - d) % n) = true := by
  rw [sm_iff]
  constructor
  · rintro ⟨u, hu, v, hv, h⟩
    have gu := vldF_mem a ha u hu
    have gv := vldF_mem b hb v hv
    have hz := em_bound (x - (u.f0 + v.f0)) (show (0 : Int) < n by omega)
    have key : ∃ d : Int, u.f0 ≤ d ∧ d < u.f1 ∧ (x - (v.f0 + d)) % n < v.f1 - v.f0 := by
      by_cases hc : (x - (u.f0 + v.f0)) % n < u.f1 - u.f0
      · refine ⟨u.f0 + (x - (u.f0 + v.f0)) % n, by omega, by omega, ?_⟩
        have e : x - (v.f0 + (u.f0 + (x - (u.f0 + v.f0)) % n)) = (x - (u.f0 + v.f0)) - (x - (u.f0 + v.f0)) % n := by omega
        rw [e, em_sub, Int.sub_self, Int.zero_emod]; omega
      · refine ⟨u.f1 - 1, by omega, by omega, ?_⟩
        have e : x - (v.f0 + (u.f1 - 1)) = (x - (u.f0 + v.f0)) - (u.f1 - 1 - u.f0) := by omega
        rw [e, ← em_sub_left, em_lo (by omega) (by omega)]; omega
    obtain ⟨d, d0, d1, hd⟩ := key
    have hr := (em_run (x := x) (b := d) (n := n) (by omega) gv.2.1 gv.2.2.1 gv.2.2.2).1 hd
    exact ⟨d, by omega, by omega, (mem_iff _ _).2 ⟨u, hu, d0, d1⟩, (mem_iff _ _).2 ⟨v, hv, hr⟩⟩
  · rintro ⟨d, d0, d1, hm, hm'⟩
    obtain ⟨u, hu, u0, u1⟩ := (mem_iff _ _).1 hm
    obtain ⟨v, hv, v0, v1⟩ := (mem_iff _ _).1 hm'
    have gu := vldF_mem a ha u hu
    have gv := vldF_mem b hb v hv
    refine ⟨u, hu, v, hv, ?_⟩
    have e : (x - (u.f0 + v.f0)) % n = ((x - d) % n - v.f0 + (d - u.f0)) % n := by
      rw [show (x - d) % n - v.f0 + (d - u.f0) = (x - d) % n + (d - u.f0 - v.f0) by omega, em_add_left]; congr 1; omega
    rw [e]
    have hz := em_bound (x - d) (show (0 : Int) < n by omega)
    generalize (x - d) % n = z at *
    by_cases hc : z - v.f0 + (d - u.f0) < n
    · rw [em_lo (by omega) hc]; omega
    · rw [em_hi (by omega) (by omega)]; omega
end Go.Proofs.Ytkbcgahpekmlbaa.PPg

namespace Go.Proofs.Ytkbcgahpekmlbaa.PPg
open Go.RowKit Go.Proofs.YtkbcgahpekmlbaaW.PrintWords Go.Proofs.YtkbcgahpekmlbaaW.PrintLast Go.Proofs.YtkbcgahpekmlbaaW.PrintMore
set_option linter.unusedVariables false
set_option linter.unusedSimpArgs false

theorem Sum_inner (n : Nat) (hn : 1 ≤ n) (hn2 : n ≤ 7200) (bb aa : List S41) (m i : Int) (u : S41) (R : List S41 × Int) (m' : Int) (hu0 : 0 ≤ u.f0) (hu1 : u.f0 < u.f1) (hu2 : u.f1 ≤ n) : ∀ (suf pre : List S41) (p : Int → Bool) (last : Int), Fit (pre ++ suf) → m' = ((pre ++ suf).length : Int) → vldF n last suf = true →
    (∀ q : Int → Bool, (∀ x, q x = (p x || sm1 n u suf x)) → Ev (fun k => residue_Sum.l0 k bb (tab n q) aa m (wrap64 (i + 1))) R) →
    Ev (fun k => residue_Sum.l1 k bb (tab n p) aa m i (pre ++ suf) m' (pre.length : Int) u.f0 u.f1) R
  | [], pre, p, last, hb, hm, hv, hk => by
    refine Ev.step (fun k => ?_) (hk p (fun x => by simp [sm1]))
    simp only [residue_Sum.l1]
    rw [if_neg (by rw [hm]; exact nlt_pre pre)]
  | v :: suf, pre, p, last, hb, hm, hv, hk => by
    rw [vldF_cons] at hv
    obtain ⟨h1, h2, h3, h4, h5⟩ := hv
    have hlt0 := lt_pre pre v suf
    have hb' : (pre.length : Int) < 140737488355328 := by unfold Fit at hb; simp at hb; omega
    have ih := Sum_inner n hn hn2 bb aa m i u R m' hu0 hu1 hu2 suf (pre ++ [v]) (fun x => p x || decide ((x - (u.f0 + v.f0)) % n < u.f1 - u.f0 + v.f1 - v.f0 - 1)) v.f1 (by rwa [← List.append_cons]) (by rwa [← List.append_cons]) h5
      (fun q hq => hk q fun x => by rw [hq x, sm1_cons, Bool.or_assoc])
    rw [← List.append_cons, len1] at ih
    refine Ev.step (f := fun k => (residue_marks_put.f k (tab n p) (u.f0 + v.f0) (u.f1 - u.f0 + v.f1 - v.f0 - 1)).bind fun t => residue_Sum.l1 k bb t aa m i (pre ++ v :: suf) m' ((pre.length : Int) + 1) u.f0 u.f1) (fun k => ?_) (Ev.bind (put_ev n hn hn2 p (u.f0 + v.f0) (u.f1 - u.f0 + v.f1 - v.f0 - 1)) ih)
    simp only [residue_Sum.l1]
    rw [if_pos (by rw [hm]; exact hlt0), if_pos (by omega), if_pos hlt0, rd_pre, wrap_ok (a := u.f0 + v.f0) (by omega) (by omega), wrap_ok (a := u.f1 - u.f0) (by omega) (by omega), wrap_ok (a := u.f1 - u.f0 + v.f1) (by omega) (by omega), wrap_ok (a := u.f1 - u.f0 + v.f1 - v.f0) (by omega) (by omega), wrap_ok (a := u.f1 - u.f0 + v.f1 - v.f0 - 1) (by omega) (by omega), wrap_ok (by omega) (by omega)]
theorem Sum_loop (n : Nat) (hn : 1 ≤ n) (hn2 : n ≤ 7200) (b : List S41) (hfb : Fit b) (hvb : vldF n (-1) b = true) (m : Int) : ∀ (suf pre : List S41) (p : Int → Bool) (last : Int), Fit (pre ++ suf) → m = ((pre ++ suf).length : Int) → vldF n last suf = true →
    Ev (fun k => residue_Sum.l0 k b (tab n p) (pre ++ suf) m (pre.length : Int)) (can n fun x => p x || sm n suf b x, 0)
  | [], pre, p, last, hb, hm, hv => by
    have e : (can n fun x => p x || sm n [] b x) = can n p := can_congr fun x _ _ => by simp [sm]
    rw [e]
    refine Ev.step (f := fun k => (residue_marks_list.f k (tab n p)).bind fun t => some (t, 0)) (fun k => ?_) (Ev.bind (list_ev n hn2 p) (Ev.now _))
    simp only [residue_Sum.l0]
    rw [if_neg (by rw [hm]; exact nlt_pre pre)]
  | u :: suf, pre, p, last, hb, hm, hv => by
    rw [vldF_cons] at hv
    obtain ⟨h1, h2, h3, h4, h5⟩ := hv
    have hlt0 := lt_pre pre u suf
    have hb' : (pre.length : Int) < 140737488355328 := by unfold Fit at hb; simp at hb; omega
    have := Sum_inner n hn hn2 b (pre ++ u :: suf) m (pre.length : Int) u (can n fun x => p x || sm n (u :: suf) b x, 0) b.length h2 h3 h4 b [] p (-1) hfb rfl hvb (fun q hq => by
      have ih := Sum_loop n hn hn2 b hfb hvb m suf (pre ++ [u]) q u.f1 (by rwa [← List.append_cons]) (by rwa [← List.append_cons]) h5
      rw [← List.append_cons, len1] at ih
      have e : (can n fun x => q x || sm n suf b x) = can n fun x => p x || sm n (u :: suf) b x := can_congr fun x hx0 hx1 => by rw [hq x, sm_cons, Bool.or_assoc]
      rw [e] at ih
      rw [wrap_ok (by omega) (by omega)]; exact ih)
    refine Ev.step (fun k => ?_) this
    simp only [residue_Sum.l0]
    rw [if_pos (by rw [hm]; exact hlt0), if_pos (by omega), if_pos hlt0, rd_pre]; rfl
theorem Sum_ev (n : Nat) (hn : 1 ≤ n) (hn2 : n ≤ 7200) (a b : List S41) (ha : Fit a) (hb : Fit b) :
    Ev (fun k => residue_Sum.f k n a b) (if vld n a = true ∧ vld n b = true then (can n fun x => sm n a b x, 0) else ([], 1)) := by
  simp only [residue_Sum.f]
  refine Ev.bind (check_ev n [a, b] (fit_le (by simp)) (by simp; exact ⟨ha, hb⟩)) ?_
  rw [if_pos ((per_iff _).2 (by omega))]
  by_cases h : vld n a = true ∧ vld n b = true
  · rw [if_pos (by simp [h]), if_pos h]
    obtain ⟨h, h'⟩ := h
    rw [vld_iff] at h h'
    refine Ev.ite_pos (by simp) (Ev.ite_pos (by omega) (Ev.ite_pos (by omega) ?_))
    simp only [Int.toNat_natCast, tab_rep]
    have := Sum_loop n hn hn2 b hb h'.2 a.length a [] (fun _ => false) (-1) ha rfl h.2
    simp only [Bool.false_or] at this
    exact this
  · rw [if_neg (by simpa using h), if_neg h]
    exact Ev.ite_neg (by simp) (Ev.now _)
theorem Sum_bad (t : Int) (a b : List S41) (ha : Fit a) (hb : Fit b) (h : per t = false) : Ev (fun k => residue_Sum.f k t a b) ([], 4) := by
  simp only [residue_Sum.f]
  refine Ev.bind (check_ev t [a, b] (fit_le (by simp)) (by simp; exact ⟨ha, hb⟩)) ?_
  rw [if_neg (by simp [h])]
  exact Ev.ite_neg (by simp) (Ev.now _)
end Go.Proofs.Ytkbcgahpekmlbaa.PPg

namespace Go.Proofs.Ytkbcgahpekmlbaa.PPg
open Go.RowKit Go.Proofs.YtkbcgahpekmlbaaW.PrintWords Go.Proofs.YtkbcgahpekmlbaaW.PrintLast Go.Proofs.YtkbcgahpekmlbaaW.PrintMore
set_option linter.unusedVariables false
set_option linter.unusedSimpArgs false

theorem Pick_some (a n : Int) (h1 : 1 ≤ n) (h2 : n ≤ 9223372036854775807) : ∃ r, railplankeep_Pick.f a n = some r ∧ 0 ≤ r ∧ r < n := by
  have hu : IntKind.u64.wrap n = n := by simp only [IntKind.wrap_u64]; exact em_lo (by omega) (by omega)
  have hb := em_bound (IntKind.u64.wrap a) (show 0 < n by omega)
  have h0 : 0 ≤ IntKind.u64.wrap a := by simp only [IntKind.wrap_u64]; exact Int.emod_nonneg _ (by omega)
  refine ⟨IntKind.u64.wrap a % n, ?_, hb⟩
  unfold railplankeep_Pick.f
  rw [hu, if_neg (by omega), tmod_pos h0, wrap_ok (by omega) (by omega)]
end Go.Proofs.Ytkbcgahpekmlbaa.PPg

namespace Go.Proofs.Ytkbcgahpekmlbaa.PPg
open Go.RowKit Go.Proofs.YtkbcgahpekmlbaaW.PrintWords Go.Proofs.YtkbcgahpekmlbaaW.PrintLast Go.Proofs.YtkbcgahpekmlbaaW.PrintMore
set_option linter.unusedVariables false
set_option linter.unusedSimpArgs false

theorem Next_some (l : List Int) (hl : Fit l) (i n : Int) (h0 : 0 ≤ i) (hi : i ≤ l.length) (h1 : 1 ≤ n) (h2 : n ≤ 9223372036854775807) :
    ∃ r j, railplankeep_Source_Next.f l i n = some (r, j) ∧ 0 ≤ r ∧ r < n ∧ 0 ≤ j ∧ j ≤ l.length := by
  unfold Fit at hl
  unfold railplankeep_Source_Next.f
  by_cases h : i ≥ (l.length : Int)
  · rw [if_pos h]; exact ⟨0, i, rfl, by omega, by omega, h0, hi⟩
  · rw [if_neg h, wrap_ok (a := i + 1) (by omega) (by omega), wrap_ok (by omega) (by omega), if_pos (by omega), if_pos (by omega)]
    obtain ⟨r, hr, r0, r1⟩ := Pick_some (rd l (i + 1 - 1)) n h1 h2
    rw [hr]
    exact ⟨r, i + 1, rfl, r0, r1, by omega, by omega⟩
end Go.Proofs.Ytkbcgahpekmlbaa.PPg

namespace Go.Proofs.Ytkbcgahpekmlbaa.PPg
open Go.RowKit Go.Proofs.YtkbcgahpekmlbaaW.PrintWords Go.Proofs.YtkbcgahpekmlbaaW.PrintLast Go.Proofs.YtkbcgahpekmlbaaW.PrintMore
set_option linter.unusedVariables false
set_option linter.unusedSimpArgs false

theorem rMod_eq {a n : Int} (hn : 1 ≤ n) (h1 : n ≤ 9223372036854775807) : railplanref1_Mod.f a n = some (a % n) := Mod_eq hn h1

end Go.Proofs.Ytkbcgahpekmlbaa.PPg

namespace Go.Proofs.Ytkbcgahpekmlbaa.PPg
open Go.RowKit Go.Proofs.YtkbcgahpekmlbaaW.PrintWords Go.Proofs.YtkbcgahpekmlbaaW.PrintLast Go.Proofs.YtkbcgahpekmlbaaW.PrintMore
set_option linter.unusedVariables false
set_option linter.unusedSimpArgs false

theorem Has_loop (r : Int) (m : Int) : ∀ (suf pre : List S41), Fit (pre ++ suf) → m = ((pre ++ suf).length : Int) →
    Ev (fun k => residue_Has.l0 k r (pre ++ suf) m (pre.length : Int)) (mem suf r)
  | [], pre, hb, hm => by
    refine Ev.step (f := fun _ => some false) (fun k => ?_) (Ev.now _)
    simp only [residue_Has.l0]
    rw [if_neg (by rw [hm]; exact nlt_pre pre)]
  | u :: suf, pre, hb, hm => by
    have hlt0 := lt_pre pre u suf
    have hb' : (pre.length : Int) < 140737488355328 := by unfold Fit at hb; simp at hb; omega
    have ih := Has_loop r m suf (pre ++ [u]) (by rwa [← List.append_cons]) (by rwa [← List.append_cons])
    rw [← List.append_cons, len1] at ih
    rw [mem_cons]
    by_cases h : u.f0 ≤ r ∧ r < u.f1
    · rw [(inS_iff u r).2 h, Bool.true_or]
      refine Ev.step (f := fun _ => some true) (fun k => ?_) (Ev.now _)
      simp only [residue_Has.l0]
      rw [if_pos (by rw [hm]; exact hlt0), if_pos (by omega), if_pos hlt0, rd_pre, if_pos h.1, if_pos h.2]
    · have hf : inS u r = false := by rw [Bool.eq_false_iff]; exact fun hc => h ((inS_iff u r).1 hc)
      rw [hf, Bool.false_or]
      refine Ev.step (fun k => ?_) ih
      simp only [residue_Has.l0]
      rw [if_pos (by rw [hm]; exact hlt0), if_pos (by omega), if_pos hlt0, rd_pre, wrap_ok (by omega) (by omega)]
      by_cases h0 : r ≥ u.f0
      · rw [if_pos h0, if_neg (by omega)]
      · rw [if_neg h0]
theorem Has_ev (n : Nat) (hn : 1 ≤ n) (hn2 : n ≤ 7200) (s : List S41) (hs : Fit s) (x : Int) : Ev (fun k => residue_Has.f k n s x) (vld n s && mem s (x % n)) := by
  simp only [residue_Has.f]
  refine Ev.bind (Valid_ev n s hs) ?_
  cases vld n s
  · exact Ev.ite_neg (by simp) (Ev.now _)
  · refine Ev.ite_pos rfl ?_
    simp only [Mod_eq (show (1 : Int) ≤ n by omega) (show (n : Int) ≤ 9223372036854775807 by omega), Option.bind_some, Bool.true_and]
    exact Has_loop (x % n) s.length s [] hs rfl
end Go.Proofs.Ytkbcgahpekmlbaa.PPg
