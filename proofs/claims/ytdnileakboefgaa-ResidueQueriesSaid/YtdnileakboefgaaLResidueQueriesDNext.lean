/- What the program's Next comes to. -/
import Derived.Test.YtdnileakboefgaaLResidueQueriesNextP
import Derived.Test.YtdnileakboefgaaLResidueQueriesCnt
namespace Go.Proofs.Ytdnileakboefgaa.PResidueQueries
open Go.RowKit Go.Proofs.YtdnileakboefgaaW.PrintWords Go.Proofs.YtdnileakboefgaaW.PrintLast Go.Proofs.YtdnileakboefgaaW.PrintMore
set_option linter.unusedVariables false
set_option linter.unusedSimpArgs false

theorem Next_loop (n : Nat) (hn : 1 ≤ n) (hn2 : n ≤ 7200) (s : List S35) (hs : vldF n (-1) s = true) (r : Int) (r0 : 0 ≤ r) (r1 : r < n) (m : Int) : ∀ (suf pre : List S35) (last : Int), s = pre ++ suf → s ≠ [] → Fit s → m = (s.length : Int) → vldF n last suf = true → (∀ x, r ≤ x → mem pre x = false) → last ≤ r →
    ∃ d, Ev (fun k => residue_Next.l0 k n s r s m (pre.length : Int)) (d, true) ∧ first n s r d
  | [], pre, last, he, hne, hb, hm, hv, hp, hl => by
    rw [List.append_nil] at he
    subst he
    cases s with
    | nil => exact absurd rfl hne
    | cons v s =>
      have hv' := hs
      rw [vldF_cons] at hv'
      obtain ⟨h1, h2, h3, h4, h5⟩ := hv'
      have hv0 : v.f0 < r := by
        have hx : ¬ r ≤ v.f0 := fun hc => by
          have := hp v.f0 hc
          rw [mem_cons, (inS_iff v v.f0).2 ⟨by omega, by omega⟩] at this; simp at this
        omega
      refine ⟨v.f0 + n - r, Ev.step (f := fun _ => some (v.f0 + n - r, true)) (fun k => ?_) (Ev.now _), by omega, by omega, ?_, fun k k0 k1 => ?_⟩
      · simp only [residue_Next.l0]
        rw [if_neg (by rw [hm]; omega), if_pos (by simp only [List.length_cons]; omega)]
        have e : rd_T35 (v :: s) 0 = v := rfl
        rw [e, wrap_ok (a := v.f0 + n) (by omega) (by omega), wrap_ok (by omega) (by omega)]
      · rw [show r + (v.f0 + n - r) = v.f0 + n by omega, Int.add_emod_right, em_lo h2 (by omega), mem_cons, (inS_iff v v.f0).2 ⟨by omega, by omega⟩]; rfl
      · by_cases hc : r + k < n
        · rw [em_lo (by omega) hc]; exact hp _ (by omega)
        · rw [em_hi (by omega) (by omega), mem_cons, vldF_out h5 (by omega), Bool.or_false, Bool.eq_false_iff]
          intro hc; rw [inS_iff] at hc; omega
  | u :: suf, pre, last, he, hne, hb, hm, hv, hp, hl => by
    rw [vldF_cons] at hv
    obtain ⟨h1, h2, h3, h4, h5⟩ := hv
    have hlt0 := lt_pre pre u suf
    rw [← he] at hlt0
    have hb' : (pre.length : Int) < 140737488355328 := by unfold Fit at hb; omega
    have hrd : rd_T35 s (pre.length : Int) = u := by rw [he]; exact rd_pre pre u suf
    have hms : ∀ x, mem s x = (mem pre x || (inS u x || mem suf x)) := fun x => by rw [he, mem_append, mem_cons]
    by_cases hc : r < u.f1
    · refine ⟨mx 0 (u.f0 - r), Ev.step (f := fun _ => some (mx 0 (u.f0 - r), true)) (fun k => ?_) (Ev.now _), ?_⟩
      · simp only [residue_Next.l0]
        rw [if_pos (by omega), if_pos (by omega), if_pos (by omega), hrd, if_pos hc, wrap_ok (by omega) (by omega)]
      · unfold mx
        by_cases h' : 0 < u.f0 - r
        · rw [if_pos h']
          refine ⟨by omega, by omega, ?_, fun k k0 k1 => ?_⟩
          · rw [em_lo (by omega) (by omega), hms, (inS_iff u _).2 ⟨by omega, by omega⟩]; simp
          · rw [em_lo (by omega) (by omega), hms, hp _ (by omega), vldF_out h5 (by omega), Bool.or_false, Bool.false_or, Bool.eq_false_iff]
            intro hc; rw [inS_iff] at hc; omega
        · rw [if_neg h']
          refine ⟨by omega, by omega, ?_, fun k k0 k1 => by omega⟩
          rw [em_lo (by omega) (by omega), hms, (inS_iff u _).2 ⟨by omega, by omega⟩]; simp
    · obtain ⟨d, e1, e2⟩ := Next_loop n hn hn2 s hs r r0 r1 m suf (pre ++ [u]) u.f1 (by rw [he, List.append_cons]) hne hb hm h5 (fun x hx => by
        rw [mem_append, hp x hx, mem_cons, mem_nil, Bool.or_false, Bool.false_or, Bool.eq_false_iff]
        intro hc; rw [inS_iff] at hc; omega) (by omega)
      rw [len1] at e1
      refine ⟨d, Ev.step (fun k => ?_) e1, e2⟩
      simp only [residue_Next.l0]
      rw [if_pos (by omega), if_pos (by omega), if_pos (by omega), hrd, if_neg hc, wrap_ok (by omega) (by omega)]
theorem Next_ev (n : Nat) (hn : 1 ≤ n) (hn2 : n ≤ 7200) (s : List S35) (hs : Fit s) (x : Int) : ∃ d b, Ev (fun k => residue_Next.f k n s x) (d, b) ∧ (b = true → vld n s = true ∧ first n s (x % n) d) ∧ (b = false → d = 0 ∧ (vld n s = false ∨ s = [])) := by
  by_cases h : vld n s = true ∧ s ≠ []
  · have hv := (vld_iff _ _).1 h.1
    have hb := em_bound x (show (0 : Int) < n by omega)
    obtain ⟨d, e1, e2⟩ := Next_loop n hn hn2 s hv.2 (x % n) hb.1 hb.2 s.length s [] (-1) rfl h.2 hs rfl hv.2 (fun x _ => mem_nil x) (by omega)
    refine ⟨d, true, ?_, (fun _ => ⟨h.1, e2⟩), (fun h => by cases h)⟩
    simp only [residue_Next.f]
    refine Ev.bind (Valid_ev n s hs) (Ev.ite_pos h.1 ?_)
    have hl : ((s.length : Int) == 0) = false := by
      cases s with
      | nil => exact absurd rfl h.2
      | cons u s => rw [beq_eq_false_iff_ne]; simp only [List.length_cons]; omega
    rw [hl]
    refine Ev.step (fun k => ?_) e1
    simp only [residue_Next.j0]
    rw [if_neg (by simp), Mod_eq (show (1 : Int) ≤ n by omega) (show (n : Int) ≤ 9223372036854775807 by omega), Option.bind_some]; rfl
  · refine ⟨0, false, ?_, (fun h => by cases h), fun _ => ⟨rfl, ?_⟩⟩
    · simp only [residue_Next.f]
      refine Ev.bind (Valid_ev n s hs) ?_
      by_cases hv : vld n s = true
      · obtain rfl : s = [] := Classical.byContradiction fun hc => h ⟨hv, hc⟩
        refine Ev.ite_pos hv (Ev.step (f := fun _ => some (0, false)) (fun k => ?_) (Ev.now _))
        simp only [residue_Next.j0]; rfl
      · refine Ev.ite_neg hv (Ev.step (f := fun _ => some (0, false)) (fun k => ?_) (Ev.now _))
        simp only [residue_Next.j0]; rfl
    · cases hv : vld n s with
      | false => exact .inl rfl
      | true => exact .inr (Classical.byContradiction fun hc => h ⟨hv, hc⟩)
end Go.Proofs.Ytdnileakboefgaa.PResidueQueries
