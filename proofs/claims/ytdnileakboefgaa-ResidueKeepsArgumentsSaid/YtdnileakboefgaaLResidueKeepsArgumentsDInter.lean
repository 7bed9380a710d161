/- What the program's Intersect comes to. -/
import Derived.Test.YtdnileakboefgaaLResidueKeepsArgumentsCnt
namespace Go.Proofs.Ytdnileakboefgaa.PResidueKeepsArguments
open Go.RowKit Go.Proofs.YtdnileakboefgaaW.PrintWords Go.Proofs.YtdnileakboefgaaW.PrintLast Go.Proofs.YtdnileakboefgaaW.PrintMore
set_option linter.unusedVariables false
set_option linter.unusedSimpArgs false

theorem vldF_lower {t a c : Int} {r : List S35} (h : vldF t a r = true) (hm : ∀ x, mem r x = true → c < x) : vldF t c r = true := by
  cases r with
  | nil => rfl
  | cons u r =>
    rw [vldF_cons] at h ⊢
    exact ⟨hm u.f0 (by rw [mem_cons, (inS_iff u u.f0).2 ⟨by omega, by omega⟩]; rfl), h.2⟩
theorem Intersect_loop (n : Nat) (hn2 : n ≤ 7200) : ∀ (d : Nat) (sa pa sb pb out : List S35) (la lb : Int), sa.length + sb.length ≤ d → out.length + d ≤ 14400 → Fit (pa ++ sa) → Fit (pb ++ sb) → vldF n la sa = true → vldF n lb sb = true →
    ∃ r, Ev (fun k => residue_Intersect.l0 k (pa ++ sa) (pb ++ sb) out (pa.length : Int) (pb.length : Int)) (out ++ r, 0) ∧ vldF n (-1) r = true ∧ ∀ x, mem r x = (mem sa x && mem sb x)
  | d, [], pa, sb, pb, out, la, lb, hd, ho, ha, hb, va, vb => by
    refine ⟨[], ?_, rfl, fun x => by rw [mem_nil, Bool.false_and]⟩
    rw [List.append_nil out]
    refine Ev.step (f := fun k => residue_Intersect.j1 k (pa ++ []) (pb ++ sb) out (pa.length : Int) (pb.length : Int) false) (fun k => ?_) ?_
    · simp only [residue_Intersect.l0]
      rw [if_neg (nlt_pre pa)]
    · refine Ev.step (f := fun _ => some (out, 0)) (fun k => ?_) (Ev.now _)
      simp only [residue_Intersect.j1]; rfl
  | d, u :: sa, pa, [], pb, out, la, lb, hd, ho, ha, hb, va, vb => by
    refine ⟨[], ?_, rfl, fun x => by rw [mem_nil, Bool.and_false]⟩
    rw [List.append_nil out]
    refine Ev.step (f := fun k => residue_Intersect.j1 k (pa ++ u :: sa) (pb ++ []) out (pa.length : Int) (pb.length : Int) false) (fun k => ?_) ?_
    · simp only [residue_Intersect.l0]
      rw [if_pos (lt_pre pa u sa), decide_eq_false (nlt_pre pb)]
    · refine Ev.step (f := fun _ => some (out, 0)) (fun k => ?_) (Ev.now _)
      simp only [residue_Intersect.j1]; rfl
  | 0, u :: sa, pa, v :: sb, pb, out, la, lb, hd, ho, ha, hb, va, vb => by simp only [List.length_cons] at hd; omega
  | d + 1, u :: sa, pa, v :: sb, pb, out, la, lb, hd, ho, ha, hb, va, vb => by
    have hla := lt_pre pa u sa
    have hlb := lt_pre pb v sb
    have ha' : (pa.length : Int) < 140737488355328 := by unfold Fit at ha; simp at ha; omega
    have hb' : (pb.length : Int) < 140737488355328 := by unfold Fit at hb; simp at hb; omega
    have hlen : out.length < 8796093022208 := by omega
    have va' := va
    have vb' := vb
    rw [vldF_cons] at va vb
    obtain ⟨a1, a2, a3, a4, a5⟩ := va
    obtain ⟨b1, b2, b3, b4, b5⟩ := vb
    simp only [List.length_cons] at hd
    have hmx : mx u.f0 v.f0 = if u.f0 < v.f0 then v.f0 else u.f0 := rfl
    have hmn : mn u.f1 v.f1 = if v.f1 < u.f1 then v.f1 else u.f1 := rfl
    have inI : ∀ x, (inS u x && inS v x) = (decide (mx u.f0 v.f0 ≤ x) && decide (x < mn u.f1 v.f1)) := by
      intro x
      rw [Bool.eq_iff_iff, Bool.and_eq_true, inS_iff, inS_iff, Bool.and_eq_true, decide_eq_true_eq, decide_eq_true_eq]
      unfold mx mn; split <;> split <;> omega
    -- what is appended in this round
    have rounds : ∀ (add : List S35), add = (if mx u.f0 v.f0 < mn u.f1 v.f1 then [⟨mx u.f0 v.f0, mn u.f1 v.f1⟩] else []) →
        ∃ r, Ev (fun k => if u.f1 < v.f1 then residue_Intersect.l0 k (pa ++ u :: sa) (pb ++ v :: sb) (out ++ add) ((pa.length : Int) + 1) (pb.length : Int) else residue_Intersect.l0 k (pa ++ u :: sa) (pb ++ v :: sb) (out ++ add) (pa.length : Int) ((pb.length : Int) + 1)) (out ++ r, 0) ∧ vldF n (-1) r = true ∧ ∀ x, mem r x = (mem (u :: sa) x && mem (v :: sb) x) := by
      intro add hadd
      have hal : add.length ≤ 1 := by rw [hadd]; split <;> simp
      have hmem : ∀ x, mem add x = (inS u x && inS v x) := by
        intro x
        rw [inI, hadd]
        split
        · rw [mem_cons, mem_nil, Bool.or_false]; rfl
        · next hn =>
          rw [mem_nil]; symm; rw [Bool.eq_false_iff]; intro hc
          rw [Bool.and_eq_true, decide_eq_true_eq, decide_eq_true_eq] at hc; omega
      by_cases hc : u.f1 < v.f1
      · obtain ⟨r, e1, e2, e3⟩ := Intersect_loop n hn2 d sa (pa ++ [u]) (v :: sb) pb (out ++ add) u.f1 lb (by simp only [List.length_cons]; omega) (by rw [List.length_append]; omega) (by rwa [← List.append_cons]) hb a5 vb'
        rw [← List.append_cons, len1, List.append_assoc] at e1
        refine ⟨add ++ r, Ev.ite_pos hc e1, ?_, fun x => ?_⟩
        · rw [hadd]; split
          · rw [List.cons_append, List.nil_append, vldF_cons]
            refine ⟨by show -1 < mx u.f0 v.f0; rw [hmx]; split <;> omega, by show 0 ≤ mx u.f0 v.f0; rw [hmx]; split <;> omega, by assumption, by show mn u.f1 v.f1 ≤ n; rw [hmn]; split <;> omega, vldF_lower e2 fun x hx => ?_⟩
            rw [e3, Bool.and_eq_true] at hx
            have := vldF_in a5 hx.1
            show mn u.f1 v.f1 < x; rw [hmn]; split <;> omega
          · exact e2
        · rw [mem_append, hmem, e3, mem_cons, mem_cons]
          by_cases hx : x < u.f1
          · rw [vldF_out a5 (show x ≤ u.f1 by omega), vldF_out b5 (show x ≤ v.f1 by omega)]; simp
          · have hf : inS u x = false := by rw [Bool.eq_false_iff]; intro hc; rw [inS_iff] at hc; omega
            rw [hf]; simp
      · obtain ⟨r, e1, e2, e3⟩ := Intersect_loop n hn2 d (u :: sa) pa sb (pb ++ [v]) (out ++ add) la v.f1 (by simp only [List.length_cons]; omega) (by rw [List.length_append]; omega) ha (by rwa [← List.append_cons]) va' b5
        rw [← List.append_cons, len1, List.append_assoc] at e1
        refine ⟨add ++ r, Ev.ite_neg hc e1, ?_, fun x => ?_⟩
        · rw [hadd]; split
          · rw [List.cons_append, List.nil_append, vldF_cons]
            refine ⟨by show -1 < mx u.f0 v.f0; rw [hmx]; split <;> omega, by show 0 ≤ mx u.f0 v.f0; rw [hmx]; split <;> omega, by assumption, by show mn u.f1 v.f1 ≤ n; rw [hmn]; split <;> omega, vldF_lower e2 fun x hx => ?_⟩
            rw [e3, Bool.and_eq_true] at hx
            have := vldF_in b5 hx.2
            show mn u.f1 v.f1 < x; rw [hmn]; split <;> omega
          · exact e2
        · rw [mem_append, hmem, e3, mem_cons, mem_cons]
          by_cases hx : x < v.f1
          · rw [vldF_out b5 (show x ≤ v.f1 by omega)]
            by_cases hy : x < u.f1
            · rw [vldF_out a5 (show x ≤ u.f1 by omega)]; simp
            · exfalso; omega
          · have hf : inS v x = false := by rw [Bool.eq_false_iff]; intro hc; rw [inS_iff] at hc; omega
            rw [hf]; simp
    refine (rounds _ rfl).imp fun r hr => ⟨?_, hr.2⟩
    refine Ev.step (f := fun k => residue_Intersect.j1 k (pa ++ u :: sa) (pb ++ v :: sb) out (pa.length : Int) (pb.length : Int) true) (fun k => ?_) ?_
    · simp only [residue_Intersect.l0]
      rw [if_pos hla, decide_eq_true hlb]
    · refine Ev.step (fun k => ?_) hr.1
      simp only [residue_Intersect.j1]
      rw [if_pos trivial, if_pos (by omega), if_pos hla, if_pos (by omega), if_pos hlb, rd_pre, rd_pre, wrap_ok (a := (pa.length : Int) + 1) (by omega) (by omega), wrap_ok (a := (pb.length : Int) + 1) (by omega) (by omega)]
      by_cases hc : mx u.f0 v.f0 < mn u.f1 v.f1
      · rw [if_pos hc, if_pos hlen, if_pos hc]; rfl
      · rw [if_neg hc, if_neg hc, List.append_nil]
theorem Intersect_ev (n : Nat) (hn : 1 ≤ n) (hn2 : n ≤ 7200) (a b : List S35) (ha : Fit a) (hb : Fit b) :
    Ev (fun k => residue_Intersect.f k n a b) (if vld n a = true ∧ vld n b = true then (can n fun x => mem a x && mem b x, 0) else ([], 1)) := by
  simp only [residue_Intersect.f]
  refine Ev.bind (check_ev n [a, b] (fit_le (by simp)) (by simp; exact ⟨ha, hb⟩)) ?_
  rw [if_pos ((per_iff _).2 (by omega))]
  by_cases h : vld n a = true ∧ vld n b = true
  · rw [if_pos (by simp [h]), if_pos h]
    obtain ⟨h, h'⟩ := h
    have la := vld_fit h
    have lb := vld_fit h'
    rw [vld_iff] at h h'
    refine Ev.ite_pos (by simp) ?_
    obtain ⟨r, e1, e2, e3⟩ := Intersect_loop n hn2 14400 a [] b [] [] (-1) (-1) (by omega) (by simp) ha hb h.2 h'.2
    rw [List.nil_append, List.nil_append, List.nil_append, eq_can (p := fun x => mem a x && mem b x) e2 (fun x _ _ => e3 x)] at e1
    exact e1
  · rw [if_neg (by simpa using h), if_neg h]
    exact Ev.ite_neg (by simp) (Ev.now _)
theorem Intersect_bad (t : Int) (a b : List S35) (ha : Fit a) (hb : Fit b) (h : per t = false) : Ev (fun k => residue_Intersect.f k t a b) ([], 4) := by
  simp only [residue_Intersect.f]
  refine Ev.bind (check_ev t [a, b] (fit_le (by simp)) (by simp; exact ⟨ha, hb⟩)) ?_
  rw [if_neg (by simp [h])]
  exact Ev.ite_neg (by simp) (Ev.now _)
end Go.Proofs.Ytdnileakboefgaa.PResidueKeepsArguments
