/- The complement of a union is the intersection of the complements, complementing twice gives the set back, and a set and its complement have as many residues as the period, for every argument. -/
import Derived.Test.YtdnileakboefgaaPResidueDeMorganx7
import Derived.Test.YtdnileakboefgaaLResidueDeMorganDCount
import Derived.Test.YtdnileakboefgaaLResidueDeMorganDComp
import Derived.Test.YtdnileakboefgaaLResidueDeMorganDUnion
import Derived.Test.YtdnileakboefgaaLResidueDeMorganDInter
namespace Go.Proofs.Ytdnileakboefgaa.Pure
open Go.RowKit Go.Proofs.Ytdnileakboefgaa.PResidueDeMorgan Go.Proofs.YtdnileakboefgaaW.PrintWords Go.Proofs.YtdnileakboefgaaW.PrintLast
theorem ResidueDeMorgan : railplanlaw2_ResidueDeMorgan.Pure := by
  intro a0 l1 l2 w0 h1 _ _ h2 _ _
  obtain ⟨n, hn, n1, n2⟩ := Period_some a0
  have hn2 : n ≤ 7200 := by omega
  obtain ⟨a, ea, va⟩ := Set_ev l1 (by unfold Fit; unfold maxLen at h1; omega) n n1 hn2
  obtain ⟨b, eb, vb⟩ := Set_ev l2 (by unfold Fit; unfold maxLen at h2; omega) n n1 hn2
  have fit : ∀ {s : List S35}, vld n s = true → Fit s := fun h => fit_le (vld_fit h)
  have cv := fun p => can_vld (n := n) p n1 hn2
  have eu := Union_ev n n1 hn2 a b (fit va) (fit vb)
  rw [if_pos ⟨va, vb⟩] at eu
  have ex := Complement_ev n n1 hn2 _ (fit (cv fun x => mem a x || mem b x))
  rw [if_pos (cv _)] at ex
  have ec := Complement_ev n n1 hn2 a (fit va)
  rw [if_pos va] at ec
  have ed := Complement_ev n n1 hn2 b (fit vb)
  rw [if_pos vb] at ed
  have ey := Intersect_ev n n1 hn2 _ _ (fit (cv fun x => !mem a x)) (fit (cv fun x => !mem b x))
  rw [if_pos ⟨cv _, cv _⟩] at ey
  have ez := Complement_ev n n1 hn2 _ (fit (cv fun x => !mem a x))
  rw [if_pos (cv _)] at ez
  have e1 : (can n fun x => !mem (can n fun x => mem a x || mem b x) x) = can n fun x => mem (can n fun x => !mem a x) x && mem (can n fun x => !mem b x) x :=
    can_congr fun x x0 x1 => by rw [can_in _ x0 x1, can_in _ x0 x1, can_in _ x0 x1, Bool.not_or]
  have e2 : (can n fun x => !mem (can n fun x => !mem a x) x) = a := by
    rw [can_congr (q := mem a) fun x x0 x1 => by rw [can_in _ x0 x1, Bool.not_not]]
    exact can_self ((vld_iff _ _).1 va).2
  have k1 := Count_ev n n1 hn2 a (fit va)
  rw [if_pos va] at k1
  have k2 := Count_ev n n1 hn2 _ (fit (cv fun x => !mem a x))
  rw [if_pos (cv _), cnt_congr (q := fun x => !mem a x) fun x x0 x1 => can_in _ x0 x1] at k2
  have hk := cnt_not (mem a) n
  apply Ev.rounds
  simp only [railplanlaw2_ResidueDeMorgan.f, hn, Option.bind_some]
  refine Ev.bind ea (Ev.bind eb (Ev.bind eu (Ev.bind ex (Ev.bind ec (Ev.bind ed (Ev.bind ey (Ev.bind ez (Ev.bind awake_ev ?_))))))))
  simp only [if_true]
  rw [e1, e2]
  refine Ev.bind (Same_ev _ (fit (cv _))) (Ev.ite_pos rfl (Ev.bind (Same_ev _ (fit va)) (Ev.ite_pos rfl (Ev.bind k1 (Ev.bind k2 ?_)))))
  rw [hk, wrap_ok (by omega) (by omega)]
  simp only [BEq.rfl]
  exact Ev.now _
end Go.Proofs.Ytdnileakboefgaa.Pure
