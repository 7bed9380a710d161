/- Plain facts about lists of spans: membership, validity, the canonical list of a predicate, uniqueness. -/
import Derived.Test.YtdnileakboefgaaPResidueKeepsArgumentsx0
namespace Go.Proofs.Ytdnileakboefgaa.PResidueKeepsArguments
open Go.RowKit Go.Proofs.YtdnileakboefgaaW.PrintWords Go.Proofs.YtdnileakboefgaaW.PrintLast Go.Proofs.YtdnileakboefgaaW.PrintMore
set_option linter.unusedVariables false
set_option linter.unusedSimpArgs false

def inS (u : S35) (x : Int) : Bool := decide (u.f0 ≤ x) && decide (x < u.f1)
def mem (s : List S35) (x : Int) : Bool := s.any fun u => inS u x
def vldF (t : Int) : Int → List S35 → Bool
  | _, [] => true
  | last, u :: s => decide (last < u.f0) && decide (0 ≤ u.f0) && decide (u.f0 < u.f1) && decide (u.f1 ≤ t) && vldF t u.f1 s
def per (t : Int) : Bool := decide (1 ≤ t) && decide (t ≤ 7200)
def vld (t : Int) (s : List S35) : Bool := per t && vldF t (-1) s

theorem inS_iff (u : S35) (x : Int) : inS u x = true ↔ u.f0 ≤ x ∧ x < u.f1 := by simp [inS]
theorem mem_nil (x : Int) : mem [] x = false := rfl
theorem mem_cons (u : S35) (s : List S35) (x : Int) : mem (u :: s) x = (inS u x || mem s x) := rfl
theorem mem_append (a b : List S35) (x : Int) : mem (a ++ b) x = (mem a x || mem b x) := by simp [mem, List.any_append]
theorem mem_reverse (a : List S35) (x : Int) : mem a.reverse x = mem a x := by simp [mem, List.any_reverse]
theorem mem_iff (s : List S35) (x : Int) : mem s x = true ↔ ∃ u, u ∈ s ∧ u.f0 ≤ x ∧ x < u.f1 := by
  simp [mem, List.any_eq_true, inS_iff]
theorem vldF_cons (t a : Int) (u : S35) (s : List S35) : vldF t a (u :: s) = true ↔ a < u.f0 ∧ 0 ≤ u.f0 ∧ u.f0 < u.f1 ∧ u.f1 ≤ t ∧ vldF t u.f1 s = true := by
  simp only [vldF, Bool.and_eq_true, decide_eq_true_eq]
  constructor
  · rintro ⟨⟨⟨⟨h1, h2⟩, h3⟩, h4⟩, h5⟩; exact ⟨h1, h2, h3, h4, h5⟩
  · rintro ⟨h1, h2, h3, h4, h5⟩; exact ⟨⟨⟨⟨h1, h2⟩, h3⟩, h4⟩, h5⟩
theorem per_iff (t : Int) : per t = true ↔ 1 ≤ t ∧ t ≤ 7200 := by simp [per]
theorem vld_iff (t : Int) (s : List S35) : vld t s = true ↔ (1 ≤ t ∧ t ≤ 7200) ∧ vldF t (-1) s = true := by simp [vld, per_iff]
theorem vldF_mono {t a b : Int} {s : List S35} (h : vldF t a s = true) (hb : b ≤ a) : vldF t b s = true := by
  cases s with
  | nil => rfl
  | cons u s => rw [vldF_cons] at h ⊢; obtain ⟨h1, h2⟩ := h; exact ⟨by omega, h2⟩
theorem vldF_mem {t : Int} (s : List S35) : ∀ {a : Int}, vldF t a s = true → ∀ u ∈ s, a < u.f0 ∧ 0 ≤ u.f0 ∧ u.f0 < u.f1 ∧ u.f1 ≤ t := by
  induction s with
  | nil => intro a _ u hu; cases hu
  | cons v s ih =>
    intro a h u hu
    rw [vldF_cons] at h
    obtain ⟨h1, h2, h3, h4, h5⟩ := h
    rcases List.mem_cons.1 hu with rfl | hu
    · exact ⟨h1, h2, h3, h4⟩
    · have := ih h5 u hu; omega
theorem vldF_in {t a : Int} {s : List S35} (h : vldF t a s = true) {x : Int} (hx : mem s x = true) : a < x ∧ 0 ≤ x ∧ x < t := by
  obtain ⟨u, hu, h1, h2⟩ := (mem_iff s x).1 hx
  have := vldF_mem s h u hu
  omega
theorem vldF_out {t a : Int} {s : List S35} (h : vldF t a s = true) {x : Int} (hx : x ≤ a) : mem s x = false := by
  rw [Bool.eq_false_iff]; intro hm; have := vldF_in h hm; omega

/-- A valid list is known by its members. -/
theorem uniq {t : Int} : ∀ (s s' : List S35) {a a' : Int}, vldF t a s = true → vldF t a' s' = true → (∀ x, mem s x = mem s' x) → s = s'
  | [], [], _, _, _, _, _ => rfl
  | [], v :: s', a, a', h, h', hm => by
    exfalso; rw [vldF_cons] at h'; have := hm v.f0; rw [mem_nil, mem_cons, (inS_iff v v.f0).2 ⟨by omega, by omega⟩] at this; simp at this
  | u :: s, [], a, a', h, h', hm => by
    exfalso; rw [vldF_cons] at h; have := hm u.f0; rw [mem_nil, mem_cons, (inS_iff u u.f0).2 ⟨by omega, by omega⟩] at this; simp at this
  | u :: s, v :: s', a, a', h, h', hm => by
    have hh := h; have hh' := h'
    rw [vldF_cons] at h h'
    obtain ⟨h1, h2, h3, h4, h5⟩ := h
    obtain ⟨g1, g2, g3, g4, g5⟩ := h'
    have e0 : u.f0 = v.f0 := by
      have lo : ∀ {w : S35} {r : List S35} {b : Int}, vldF t w.f1 r = true → w.f0 < w.f1 → mem (w :: r) b = true → w.f0 ≤ b := by
        intro w r b hr hw hb
        rw [mem_cons, Bool.or_eq_true, inS_iff] at hb
        rcases hb with hb | hb
        · omega
        · have := vldF_in hr hb; omega
      have m1 : mem (v :: s') u.f0 = true := by rw [← hm, mem_cons, (inS_iff u u.f0).2 ⟨by omega, by omega⟩]; rfl
      have m2 : mem (u :: s) v.f0 = true := by rw [hm, mem_cons, (inS_iff v v.f0).2 ⟨by omega, by omega⟩]; rfl
      have := lo g5 g3 m1; have := lo h5 h3 m2; omega
    have e1 : u.f1 = v.f1 := by
      have no : ∀ {w : S35} {r : List S35}, vldF t w.f1 r = true → mem (w :: r) w.f1 = false := by
        intro w r hr
        rw [mem_cons, vldF_out hr (Int.le_refl _), Bool.or_false, Bool.eq_false_iff]
        intro hc; rw [inS_iff] at hc; omega
      rcases Int.lt_trichotomy u.f1 v.f1 with hl | hl | hl
      · exfalso; have q := no h5; rw [hm, mem_cons, (inS_iff v u.f1).2 ⟨by omega, by omega⟩] at q; simp at q
      · exact hl
      · exfalso; have q := no g5; rw [← hm, mem_cons, (inS_iff u v.f1).2 ⟨by omega, by omega⟩] at q; simp at q
    have euv : u = v := by cases u; cases v; simp_all
    subst euv
    have : s = s' := by
      refine uniq s s' h5 g5 fun x => ?_
      by_cases hx : x ≤ u.f1
      · rw [vldF_out h5 hx, vldF_out g5 hx]
      · have := hm x
        have hn : inS u x = false := by rw [Bool.eq_false_iff]; intro hc; rw [inS_iff] at hc; omega
        rwa [mem_cons, mem_cons, hn, Bool.false_or, Bool.false_or] at this
    rw [this]

/-- The runs of a predicate below i, the last one first. -/
def rr (p : Int → Bool) : Nat → List S35
  | 0 => []
  | i + 1 => if p i = true then (match rr p i with
      | [] => [⟨i, i + 1⟩]
      | u :: l => if u.f1 = i then ⟨u.f0, i + 1⟩ :: l else ⟨i, i + 1⟩ :: u :: l) else rr p i
def can (n : Nat) (p : Int → Bool) : List S35 := (rr p n).reverse
def dn : Int → List S35 → Prop
  | _, [] => True
  | b, u :: l => u.f1 ≤ b ∧ u.f0 < u.f1 ∧ 0 ≤ u.f0 ∧ dn (u.f0 - 1) l
theorem dn_mono {a b : Int} {l : List S35} (h : dn a l) (hb : a ≤ b) : dn b l := by
  cases l with
  | nil => trivial
  | cons u l => exact ⟨by have := h.1; omega, h.2⟩
theorem rr_dn (p : Int → Bool) : ∀ i : Nat, dn i (rr p i)
  | 0 => trivial
  | i + 1 => by
    have ih := rr_dn p i
    simp only [rr]
    split
    · split
      · exact ⟨by simp, by simp; omega, by simp, trivial⟩
      · next u l e =>
        rw [e] at ih
        obtain ⟨h1, h2, h3, h4⟩ := ih
        split
        · exact ⟨by simp, by simp; omega, h3, h4⟩
        · exact ⟨by simp, by simp; omega, by simp, by show u.f1 ≤ (i : Int) - 1; omega, h2, h3, h4⟩
    · exact dn_mono ih (by simp; omega)
theorem rr_mem (p : Int → Bool) (x : Int) : ∀ i : Nat, mem (rr p i) x = (decide (0 ≤ x ∧ x < i) && p x)
  | 0 => by simp only [rr, mem_nil]; rw [decide_eq_false (by omega)]; rfl
  | i + 1 => by
    have ih := rr_mem p x i
    have hd := rr_dn p i
    by_cases hx : x = i
    · subst hx
      have h0 : mem (rr p i) (i : Int) = false := by rw [ih, decide_eq_false (by omega)]; rfl
      rw [decide_eq_true (show (0 : Int) ≤ i ∧ (i : Int) < ((i + 1 : Nat) : Int) by omega), Bool.true_and]
      simp only [rr]
      split
      · next hp =>
        rw [hp]
        split
        · rw [mem_cons, (inS_iff _ _).2 ⟨by simp, by show (i : Int) < (i : Int) + 1; omega⟩]; rfl
        · next u l e =>
          rw [e] at hd
          obtain ⟨h1, h2, h3, h4⟩ := hd
          split
          · rw [mem_cons, (inS_iff _ _).2 ⟨by show u.f0 ≤ (i : Int); omega, by show (i : Int) < (i : Int) + 1; omega⟩]; rfl
          · rw [mem_cons, (inS_iff _ _).2 ⟨by simp, by show (i : Int) < (i : Int) + 1; omega⟩]; rfl
      · next hp => rw [h0]; simpa using hp
    · have hdec : decide (0 ≤ x ∧ x < ((i + 1 : Nat) : Int)) = decide (0 ≤ x ∧ x < (i : Int)) := by
        apply decide_eq_decide.2; omega
      rw [hdec, ← ih]
      have hn : ∀ a : Int, a ≤ i → (inS ⟨a, (i : Int) + 1⟩ x = inS ⟨a, i⟩ x) := by
        intro a ha; rw [Bool.eq_iff_iff, inS_iff, inS_iff]; show a ≤ x ∧ x < (i : Int) + 1 ↔ a ≤ x ∧ x < (i : Int); omega
      have hz : inS ⟨i, (i : Int)⟩ x = false := by rw [Bool.eq_false_iff]; intro hc; rw [inS_iff] at hc; simp at hc; omega
      simp only [rr]
      split
      · split
        · next e => rw [e, mem_cons, hn _ (Int.le_refl _), hz]; rfl
        · next u l e =>
          rw [e] at hd ⊢
          obtain ⟨h1, h2, h3, h4⟩ := hd
          split
          · next he =>
            rw [mem_cons, mem_cons, hn _ (by omega)]
            have : (⟨u.f0, (i : Int)⟩ : S35) = u := by cases u; simp_all
            rw [this]
          · rw [mem_cons, hn _ (Int.le_refl _), hz]; rfl
      · rfl
theorem rr_last (p : Int → Bool) (i : Nat) : (∃ u l, rr p i = u :: l ∧ u.f1 = i) ↔ (0 < i ∧ p ((i : Int) - 1) = true) := by
  have hm := rr_mem p ((i : Int) - 1) i
  have hd := rr_dn p i
  constructor
  · rintro ⟨u, l, e, h1⟩
    rw [e] at hd hm
    obtain ⟨g1, g2, g3, g4⟩ := hd
    rw [mem_cons, (inS_iff _ _).2 ⟨by omega, by omega⟩, Bool.true_or] at hm
    have := hm.symm
    rw [Bool.and_eq_true, decide_eq_true_eq] at this
    exact ⟨by omega, this.2⟩
  · rintro ⟨h0, hp⟩
    rw [hp, decide_eq_true (by omega)] at hm
    cases e : rr p i with
    | nil => rw [e, mem_nil] at hm; cases hm
    | cons u l =>
      refine ⟨u, l, rfl, ?_⟩
      rw [e] at hd hm
      obtain ⟨g1, g2, g3, g4⟩ := hd
      rw [mem_cons, Bool.and_self, Bool.or_eq_true, inS_iff] at hm
      rcases hm with hm | hm
      · omega
      · exfalso
        have lo : ∀ (l : List S35) (b x : Int), dn b l → mem l x = true → x < b := by
          intro l
          induction l with
          | nil => intro b x _ h; cases h
          | cons v l ih =>
            intro b x hv h
            rw [mem_cons, Bool.or_eq_true, inS_iff] at h
            rcases h with h | h
            · have := hv.1; omega
            · have := ih _ _ hv.2.2.2 h; have := hv.1; have := hv.2.1; omega
        have := lo _ _ _ g4 hm; omega
theorem dn_vldF {t : Int} (l : List S35) : ∀ (b : Int) (s : List S35), dn b l → b ≤ t → -1 ≤ b → vldF t b s = true → vldF t (-1) (l.reverse ++ s) = true := by
  induction l with
  | nil => intro b s _ _ hb h; exact vldF_mono h hb
  | cons u l ih =>
    intro b s hd hb h1 hs
    obtain ⟨g1, g2, g3, g4⟩ := hd
    rw [List.reverse_cons, List.append_assoc]
    refine ih (u.f0 - 1) (u :: s) g4 (by omega) (by omega) ?_
    rw [vldF_cons]
    exact ⟨by omega, g3, g2, by omega, vldF_mono hs g1⟩
theorem can_vldF (n : Nat) (p : Int → Bool) : vldF n (-1) (can n p) = true := by
  have := dn_vldF (t := n) (rr p n) n [] (rr_dn p n) (Int.le_refl _) (by omega) rfl
  rwa [List.append_nil] at this
theorem can_vld {n : Nat} (p : Int → Bool) (h1 : 1 ≤ n) (h2 : n ≤ 7200) : vld n (can n p) = true := by
  rw [vld_iff]; exact ⟨by omega, can_vldF n p⟩
theorem can_mem (n : Nat) (p : Int → Bool) (x : Int) : mem (can n p) x = (decide (0 ≤ x ∧ x < n) && p x) := by rw [can, mem_reverse, rr_mem]
theorem can_in {n : Nat} (p : Int → Bool) {x : Int} (h0 : 0 ≤ x) (h1 : x < n) : mem (can n p) x = p x := by rw [can_mem, decide_eq_true ⟨h0, h1⟩, Bool.true_and]
theorem eq_can {n : Nat} {s : List S35} {p : Int → Bool} {a : Int} (h : vldF n a s = true) (hm : ∀ x : Int, 0 ≤ x → x < n → mem s x = p x) : s = can n p := by
  refine uniq s (can n p) h (can_vldF n p) fun x => ?_
  rw [can_mem]
  by_cases hx : 0 ≤ x ∧ x < n
  · rw [decide_eq_true hx, Bool.true_and, hm x hx.1 hx.2]
  · rw [decide_eq_false hx, Bool.false_and, Bool.eq_false_iff]; intro hc; have := vldF_in h hc; omega
theorem can_congr {n : Nat} {p q : Int → Bool} (h : ∀ x : Int, 0 ≤ x → x < n → p x = q x) : can n p = can n q :=
  eq_can (can_vldF n p) fun x h0 h1 => by rw [can_in p h0 h1, h x h0 h1]
theorem can_self {n : Nat} {s : List S35} (h : vldF n (-1) s = true) : can n (mem s) = s := (eq_can h fun _ _ _ => rfl).symm
theorem can_len (p : Int → Bool) (i : Nat) : (rr p i).length ≤ i := by
  induction i with
  | zero => simp [rr]
  | succ i ih =>
    simp only [rr]
    split
    · split
      · simp
      · next u l e => rw [e] at ih; simp only [List.length_cons] at ih; split <;> simp only [List.length_cons] <;> omega
    · omega

theorem vld_fit {t : Int} {s : List S35} (h : vld t s = true) : s.length ≤ 7200 := by
  rw [vld_iff] at h
  have : ∀ (s : List S35) (a : Int), vldF t a s = true → a ≤ t → (s.length : Int) ≤ t - a := by
    intro s
    induction s with
    | nil => intro a _ ha; simp; omega
    | cons u s ih =>
      intro a hv ha
      rw [vldF_cons] at hv
      have := ih u.f1 hv.2.2.2.2 (by omega)
      simp only [List.length_cons, Int.natCast_add]; omega
  have e : s = [] ∨ ∃ u r, s = u :: r := by cases s with | nil => exact .inl rfl | cons u r => exact .inr ⟨u, r, rfl⟩
  rcases e with rfl | ⟨u, r, rfl⟩
  · simp
  · have hv := h.2
    rw [vldF_cons] at hv
    have := this r u.f1 hv.2.2.2.2 (by omega)
    simp only [List.length_cons]; omega

/-! marks -/
def tab (n : Nat) (p : Int → Bool) : List Bool := (List.range n).map fun i : Nat => p (i : Int)
theorem tab_len (n : Nat) (p : Int → Bool) : (tab n p).length = n := by simp [tab]
theorem tab_get (n : Nat) (p : Int → Bool) (i : Nat) (h : i < n) : (tab n p)[i]? = some (p i) := by
  simp [tab, h]
theorem tab_rd {n : Nat} (p : Int → Bool) {i : Int} (h0 : 0 ≤ i) (h1 : i < n) : rdOf false (tab n p) i = p i := by
  unfold rdOf
  rw [List.getD_eq_getElem?_getD, tab_get n p i.toNat (by omega)]
  show p (i.toNat : Int) = p i
  rw [Int.toNat_of_nonneg h0]
theorem tab_congr {n : Nat} {p q : Int → Bool} (h : ∀ x : Int, 0 ≤ x → x < n → p x = q x) : tab n p = tab n q := by
  unfold tab
  refine List.map_congr_left fun i hi => ?_
  rw [List.mem_range] at hi
  exact h i (by omega) (by omega)
theorem tab_set {n : Nat} (p : Int → Bool) (b : Bool) {i : Int} (h0 : 0 ≤ i) : (tab n p).set i.toNat b = tab n (fun x => if x = i then b else p x) := by
  apply List.ext_getElem?
  intro j
  by_cases hj : j < n
  · rw [tab_get _ _ _ hj, List.getElem?_set]
    by_cases he : i.toNat = j
    · rw [if_pos he, if_pos (by simpa [tab_len] using he ▸ hj), if_pos (by omega)]
    · rw [if_neg he, tab_get _ _ _ hj, if_neg (by omega)]
  · rw [List.getElem?_eq_none (by simp [tab_len]; omega), List.getElem?_eq_none (by simp [tab_len]; omega)]
theorem tab_rep (n : Nat) : List.replicate n false = tab n (fun _ => false) := by
  apply List.ext_getElem?
  intro j
  by_cases hj : j < n
  · rw [tab_get _ _ _ hj]; simp [hj]
  · rw [List.getElem?_eq_none (by simp; omega), List.getElem?_eq_none (by simp [tab_len]; omega)]

/-! remainders -/
theorem em_lo {a n : Int} (h0 : 0 ≤ a) (h1 : a < n) : a % n = a := Int.emod_eq_of_lt h0 h1
theorem em_neg {a n : Int} (h0 : -n ≤ a) (h1 : a < 0) : a % n = a + n := by
  rw [← Int.add_emod_right]; exact em_lo (by omega) (by omega)
theorem em_hi {a n : Int} (h0 : n ≤ a) (h1 : a < 2 * n) : a % n = a - n := by
  rw [← Int.sub_emod_right]; exact em_lo (by omega) (by omega)
theorem em_sub (x a n : Int) : (x - a % n) % n = (x - a) % n := by rw [Int.sub_emod, Int.emod_emod, ← Int.sub_emod]
theorem em_sub_left (x a n : Int) : (x % n - a) % n = (x - a) % n := by rw [Int.sub_emod, Int.emod_emod, ← Int.sub_emod]
theorem em_add_left (x a n : Int) : (x % n + a) % n = (x + a) % n := by rw [Int.add_emod, Int.emod_emod, ← Int.add_emod]
theorem em_add (x a n : Int) : (x + a % n) % n = (x + a) % n := by rw [Int.add_emod, Int.emod_emod, ← Int.add_emod]
/-- A run that begins at c, moved by b. -/
theorem em_run {x b c d n : Int} (hn : 0 < n) (hc : 0 ≤ c) (hcd : c < d) (hd : d ≤ n) : (x - (c + b)) % n < d - c ↔ c ≤ (x - b) % n ∧ (x - b) % n < d := by
  have e : (x - (c + b)) % n = ((x - b) % n - c) % n := by rw [em_sub_left]; congr 1; omega
  rw [e]
  have h0 := Int.emod_nonneg (x - b) (show n ≠ 0 by omega)
  have h1 := Int.emod_lt_of_pos (x - b) hn
  generalize (x - b) % n = z at *
  by_cases hz : c ≤ z
  · rw [em_lo (by omega) (by omega)]; omega
  · rw [em_neg (by omega) (by omega)]; omega
theorem em_step {x a n m : Int} (hn : 0 < n) (hx0 : 0 ≤ x) (hx : x < n) (ha0 : 0 ≤ a) (ha : a < n) (hm : 0 < m) : (x - a) % n < m ↔ x = a ∨ (x - (a + 1) % n) % n < m - 1 := by
  rw [em_sub]
  by_cases h : a ≤ x
  · rw [em_lo (show 0 ≤ x - a by omega) (by omega)]
    by_cases h' : x = a
    · subst h'; simp; omega
    · rw [em_lo (show 0 ≤ x - (a + 1) by omega) (by omega)]; omega
  · rw [em_neg (show -n ≤ x - a by omega) (by omega), em_neg (show -n ≤ x - (a + 1) by omega) (by omega)]; omega
theorem em_bound (a : Int) {n : Int} (hn : 0 < n) : 0 ≤ a % n ∧ a % n < n := ⟨Int.emod_nonneg _ (by omega), Int.emod_lt_of_pos _ hn⟩
theorem tmod_pos {a n : Int} (h0 : 0 ≤ a) : Int.tmod a n = a % n := by rw [Int.tmod_eq_emod_of_nonneg h0]
theorem tmod_fix {a n : Int} (hn : 1 ≤ n) : (if Int.tmod a n < 0 then Int.tmod a n + n else Int.tmod a n) = a % n := by
  by_cases h0 : 0 ≤ a
  · have := em_bound a (show 0 < n by omega)
    rw [tmod_pos h0, if_neg (by omega)]
  · have h1 : Int.tmod a n = -(Int.tmod (-a) n) := by rw [Int.neg_tmod, Int.neg_neg]
    have h2 := em_bound (-a) (show 0 < n by omega)
    rw [h1, tmod_pos (by omega)]
    have h3 : a % n = (0 - (-a) % n) % n := by rw [em_sub]; congr 1; omega
    rw [h3]
    by_cases hz : (-a) % n = 0
    · rw [hz]; simp
    · have h4 : (0 - (-a) % n) % n = 0 - (-a) % n + n := em_neg (by omega) (by omega)
      rw [h4, if_pos (by omega)]; omega
theorem wrap_ok {a : Int} (h0 : -9223372036854775808 ≤ a) (h1 : a ≤ 9223372036854775807) : wrap64 a = a := by unfold wrap64; omega
end Go.Proofs.Ytdnileakboefgaa.PResidueKeepsArguments
