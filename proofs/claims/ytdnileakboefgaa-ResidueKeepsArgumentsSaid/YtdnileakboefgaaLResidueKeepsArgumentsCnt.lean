/- How many residues a predicate and a list have. -/
import Derived.Test.YtdnileakboefgaaLResidueKeepsArgumentsB
namespace Go.Proofs.Ytdnileakboefgaa.PResidueKeepsArguments
open Go.RowKit Go.Proofs.YtdnileakboefgaaW.PrintWords Go.Proofs.YtdnileakboefgaaW.PrintLast Go.Proofs.YtdnileakboefgaaW.PrintMore
set_option linter.unusedVariables false
set_option linter.unusedSimpArgs false

def b2i : Bool → Int
  | true => 1
  | false => 0
/-- The number of x below n with p x. -/
def cnt (p : Int → Bool) : Nat → Int
  | 0 => 0
  | i + 1 => cnt p i + b2i (p i)
def sizes : List S35 → Int
  | [] => 0
  | u :: s => u.f1 - u.f0 + sizes s
theorem b2i_b (b : Bool) : 0 ≤ b2i b ∧ b2i b ≤ 1 := by cases b <;> decide
theorem cnt_congr {p q : Int → Bool} : ∀ {n : Nat}, (∀ x : Int, 0 ≤ x → x < n → p x = q x) → cnt p n = cnt q n
  | 0, _ => rfl
  | n + 1, h => by
    simp only [cnt]
    rw [cnt_congr (n := n) (fun x h0 h1 => h x h0 (by omega)), h n (by omega) (by omega)]
theorem cnt_not (p : Int → Bool) : ∀ n : Nat, cnt p n + cnt (fun x => !p x) n = n
  | 0 => rfl
  | n + 1 => by
    have := cnt_not p n
    simp only [cnt]
    cases p n <;> simp [b2i] <;> omega
theorem cnt_bounds (p : Int → Bool) : ∀ n : Nat, 0 ≤ cnt p n ∧ cnt p n ≤ n
  | 0 => by simp [cnt]
  | n + 1 => by have := cnt_bounds p n; have := b2i_b (p n); simp only [cnt]; omega
theorem cnt_all (p : Int → Bool) : ∀ n : Nat, cnt p n = n → ∀ x : Int, 0 ≤ x → x < n → p x = true
  | 0, _, x, h0, h1 => by omega
  | n + 1, h, x, h0, h1 => by
    have := cnt_bounds p n
    have hb := b2i_b (p n)
    simp only [cnt] at h
    by_cases hx : x = n
    · subst hx
      cases hp : p n with
      | true => rfl
      | false => rw [hp] at h; simp only [b2i] at h; omega
    · exact cnt_all p n (by omega) x h0 (by omega)
theorem cnt_span (a b : Int) (p : Int → Bool) (h0 : 0 ≤ a) (hab : a ≤ b) (hp : ∀ x : Int, a ≤ x → x < b → p x = false) : ∀ n : Nat,
    cnt (fun x => (decide (a ≤ x) && decide (x < b)) || p x) n = (if (n : Int) ≤ a then 0 else if (n : Int) ≤ b then (n : Int) - a else b - a) + cnt p n
  | 0 => by simp only [cnt]; rw [if_pos (by omega)]; rfl
  | n + 1 => by
    have ih := cnt_span a b p h0 hab hp n
    simp only [cnt]
    rw [ih]
    by_cases h1 : a ≤ (n : Int)
    · by_cases h2 : (n : Int) < b
      · rw [decide_eq_true h1, decide_eq_true h2, hp n h1 h2]
        simp only [Bool.and_self, Bool.true_or, b2i]
        split <;> split <;> (try split) <;> omega
      · rw [decide_eq_false h2, Bool.and_false, Bool.false_or]
        have : ¬ ((n + 1 : Nat) : Int) ≤ b := by omega
        rw [if_neg this, if_neg (by omega : ¬ ((n + 1 : Nat) : Int) ≤ a)]
        split <;> (try split) <;> omega
    · rw [decide_eq_false h1, Bool.false_and, Bool.false_or, if_pos (by omega), if_pos (by omega)]; omega
theorem sizes_cnt (n : Nat) : ∀ (s : List S35) (a : Int), vldF n a s = true → sizes s = cnt (mem s) n
  | [], a, _ => by
    have : ∀ n : Nat, cnt (mem []) n = 0 := by
      intro n; induction n with
      | zero => rfl
      | succ n ih => simp only [cnt, ih, mem_nil]; rfl
    rw [this]; rfl
  | u :: s, a, h => by
    rw [vldF_cons] at h
    obtain ⟨h1, h2, h3, h4, h5⟩ := h
    have ih := sizes_cnt n s u.f1 h5
    have e := cnt_span u.f0 u.f1 (mem s) h2 (by omega) (fun x _ hx => vldF_out h5 (by omega)) n
    have e' : cnt (mem (u :: s)) n = cnt (fun x => (decide (u.f0 ≤ x) && decide (x < u.f1)) || mem s x) n := rfl
    rw [e', e, ← ih]
    simp only [sizes]
    split
    · omega
    · split <;> omega
theorem sizes_bd {n : Nat} {s : List S35} {a : Int} (h : vldF n a s = true) : 0 ≤ sizes s ∧ sizes s ≤ n := by
  rw [sizes_cnt n s a h]; exact cnt_bounds _ _
end Go.Proofs.Ytdnileakboefgaa.PResidueKeepsArguments
