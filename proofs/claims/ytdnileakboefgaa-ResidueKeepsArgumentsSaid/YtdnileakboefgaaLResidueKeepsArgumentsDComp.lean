/- What the program's Complement comes to. -/
import Derived.Test.YtdnileakboefgaaLResidueKeepsArgumentsCnt
namespace Go.Proofs.Ytdnileakboefgaa.PResidueKeepsArguments
open Go.RowKit Go.Proofs.YtdnileakboefgaaW.PrintWords Go.Proofs.YtdnileakboefgaaW.PrintLast Go.Proofs.YtdnileakboefgaaW.PrintMore
set_option linter.unusedVariables false
set_option linter.unusedSimpArgs false

def gaps (t : Int) : Int → List S35 → List S35
  | c, [] => if c < t then [⟨c, t⟩] else []
  | c, u :: s => if c < u.f0 then ⟨c, u.f0⟩ :: gaps t u.f1 s else gaps t u.f1 s
theorem gaps_vld (t : Int) : ∀ (s : List S35) (a last c : Int), vldF t last s = true → last ≤ c → c ≤ last + 1 → 0 ≤ c → c ≤ t → a < c → vldF t a (gaps t c s) = true
  | [], a, last, c, h, h1, h2, h3, h4, h5 => by
    simp only [gaps]; split
    · rw [vldF_cons]; exact ⟨h5, h3, by assumption, Int.le_refl _, rfl⟩
    · rfl
  | u :: s, a, last, c, h, h1, h2, h3, h4, h5 => by
    rw [vldF_cons] at h
    obtain ⟨g1, g2, g3, g4, g5⟩ := h
    simp only [gaps]; split
    · rw [vldF_cons]
      exact ⟨h5, h3, by assumption, by show u.f0 ≤ t; omega, gaps_vld t s u.f0 u.f1 u.f1 g5 (Int.le_refl _) (by omega) (by omega) g4 g3⟩
    · exact gaps_vld t s a u.f1 u.f1 g5 (Int.le_refl _) (by omega) (by omega) g4 (by omega)
theorem gaps_mem (t : Int) (x : Int) : ∀ (s : List S35) (last c : Int), vldF t last s = true → last ≤ c → c ≤ last + 1 → 0 ≤ c → c ≤ t → mem (gaps t c s) x = (decide (c ≤ x ∧ x < t) && !mem s x)
  | [], last, c, h, h1, h2, h3, h4 => by
    simp only [gaps, mem_nil]; split
    · rw [mem_cons, mem_nil]; unfold inS; simp
    · rw [mem_nil, decide_eq_false (by omega)]; rfl
  | u :: s, last, c, h, h1, h2, h3, h4 => by
    rw [vldF_cons] at h
    obtain ⟨g1, g2, g3, g4, g5⟩ := h
    have ih := gaps_mem t x s u.f1 u.f1 g5 (Int.le_refl _) (by omega) (by omega) g4
    have e : mem (gaps t c (u :: s)) x = (decide (c ≤ x ∧ x < u.f0) || mem (gaps t u.f1 s) x) := by
      simp only [gaps]; split
      · rw [mem_cons]; unfold inS; congr 1; simp
      · rw [decide_eq_false (by omega), Bool.false_or]
    rw [e, ih, mem_cons]
    by_cases hx : x < u.f1
    · rw [decide_eq_false (show ¬ (u.f1 ≤ x ∧ x < t) by omega), Bool.false_and, Bool.or_false, vldF_out g5 (by omega), Bool.or_false]
      unfold inS
      by_cases h' : x < u.f0
      · rw [decide_eq_false (show ¬ u.f0 ≤ x by omega), Bool.false_and]
        simp only [Bool.not_false, Bool.and_true]
        apply decide_eq_decide.2; omega
      · rw [decide_eq_true (show u.f0 ≤ x by omega), decide_eq_true hx, decide_eq_false (by omega)]; simp
    · have hf : inS u x = false := by rw [Bool.eq_false_iff]; intro hc; rw [inS_iff] at hc; omega
      rw [hf, Bool.false_or, decide_eq_false (show ¬ (c ≤ x ∧ x < u.f0) by omega), Bool.false_or]
      congr 1; apply decide_eq_decide.2; omega
theorem gaps_can {n : Nat} {s : List S35} (h : vldF n (-1) s = true) : gaps n 0 s = can n fun x => !mem s x :=
  eq_can (gaps_vld n s (-1) (-1) 0 h (by omega) (by omega) (Int.le_refl _) (by omega) (by omega)) fun x h0 h1 => by
    rw [gaps_mem n x s (-1) 0 h (by omega) (by omega) (Int.le_refl _) (by omega), decide_eq_true ⟨h0, h1⟩, Bool.true_and]
theorem Complement_loop (n : Nat) (hn2 : n ≤ 7200) (m : Int) : ∀ (suf pre out : List S35) (c : Int), Fit (pre ++ suf) → out.length + suf.length ≤ 7200 → m = ((pre ++ suf).length : Int) →
    Ev (fun k => residue_Complement.l0 k n out c (pre ++ suf) m (pre.length : Int)) (out ++ gaps n c suf, 0)
  | [], pre, out, c, hb, ho, hm => by
    have hlen : out.length < 8796093022208 := by simp at ho; omega
    simp only [gaps]
    by_cases h : c < (n : Int)
    · rw [if_pos h]
      refine Ev.step (f := fun _ => some (out ++ [⟨c, n⟩], 0)) (fun k => ?_) (Ev.now _)
      simp only [residue_Complement.l0]
      rw [if_neg (by rw [hm]; exact nlt_pre pre), if_pos h, if_pos hlen]
    · rw [if_neg h, List.append_nil out]
      refine Ev.step (f := fun _ => some (out, 0)) (fun k => ?_) (Ev.now _)
      simp only [residue_Complement.l0]
      rw [if_neg (by rw [hm]; exact nlt_pre pre), if_neg h]
  | u :: suf, pre, out, c, hb, ho, hm => by
    have hlt0 := lt_pre pre u suf
    have hlen : out.length < 8796093022208 := by omega
    simp only [List.length_cons] at ho
    have hb' : (pre.length : Int) < 140737488355328 := by unfold Fit at hb; simp at hb; omega
    simp only [gaps]
    by_cases h : c < u.f0
    · have ih := Complement_loop n hn2 m suf (pre ++ [u]) (out ++ [⟨c, u.f0⟩]) u.f1 (by rwa [← List.append_cons]) (by simp; omega) (by rwa [← List.append_cons])
      rw [← List.append_cons, len1, List.append_assoc] at ih
      rw [if_pos h]
      refine Ev.step (fun k => ?_) ih
      simp only [residue_Complement.l0]
      rw [if_pos (by rw [hm]; exact hlt0), if_pos (by omega), if_pos hlt0, rd_pre, if_pos h, if_pos hlen, wrap_ok (by omega) (by omega)]
    · have ih := Complement_loop n hn2 m suf (pre ++ [u]) out u.f1 (by rwa [← List.append_cons]) (by omega) (by rwa [← List.append_cons])
      rw [← List.append_cons, len1] at ih
      rw [if_neg h]
      refine Ev.step (fun k => ?_) ih
      simp only [residue_Complement.l0]
      rw [if_pos (by rw [hm]; exact hlt0), if_pos (by omega), if_pos hlt0, rd_pre, if_neg h, wrap_ok (by omega) (by omega)]
theorem Complement_ev (n : Nat) (hn : 1 ≤ n) (hn2 : n ≤ 7200) (s : List S35) (hs : Fit s) :
    Ev (fun k => residue_Complement.f k n s) (if vld n s = true then (can n fun x => !mem s x, 0) else ([], 1)) := by
  simp only [residue_Complement.f]
  refine Ev.bind (check_ev n [s] (fit_le (by simp)) (by simpa using hs)) ?_
  rw [if_pos ((per_iff _).2 (by omega))]
  by_cases h : vld n s = true
  · have hl := vld_fit h
    rw [if_pos (by simpa using h), if_pos h]
    rw [vld_iff] at h
    refine Ev.ite_pos (by simp) ?_
    have := Complement_loop n hn2 s.length s [] [] 0 hs (by simpa using hl) rfl
    rw [List.nil_append, List.nil_append, gaps_can h.2] at this
    exact this
  · rw [if_neg (by simpa using h), if_neg h]
    exact Ev.ite_neg (by simp) (Ev.now _)
theorem Complement_bad (t : Int) (s : List S35) (hs : Fit s) (h : per t = false) : Ev (fun k => residue_Complement.f k t s) ([], 4) := by
  simp only [residue_Complement.f]
  refine Ev.bind (check_ev t [s] (fit_le (by simp)) (by simpa using hs)) ?_
  rw [if_neg (by simp [h])]
  exact Ev.ite_neg (by simp) (Ev.now _)
end Go.Proofs.Ytdnileakboefgaa.PResidueKeepsArguments
