/- An argument that is a slice of occupations: how its reading opens. -/
import Derived.Test.YtcdldldknfpkjaaRows
import Derived.Test.YtcdldldknfpkjaaLHwM2
import Derived.Deep.Slices
import Derived.ChangeSame
import Derived.SizedLaws
import Derived.ChangeArms
namespace Go.Proofs.Ytcdldldknfpkjaa.PHw
open Go.RowKit Go.Deep Go.ChangeShapes Go.WideShapes Go.Proofs.YtcdldldknfpkjaaW.PrintWords Go.Proofs.YtcdldldknfpkjaaW.PrintLast Go.Proofs.YtcdldldknfpkjaaW.PrintMore
set_option linter.unusedVariables false
theorem cellsOcc : Try.prog.cellsOf 41 = 3 := by kernel_rfl
theorem bytesOcc : Try.prog.bytesOf 41 = 24 := by kernel_rfl
theorem occFields : ∃ f0 f1 f2 : Field, Try.prog.underlying 41 = some (.struct #[f0, f1, f2]) ∧ (f0.offset = 0 ∧ f1.offset = 1 ∧ f2.offset = 2) ∧ (Try.prog.cellsOf f0.type = 1 ∧ Try.prog.cellsOf f1.type = 1 ∧ Try.prog.cellsOf f2.type = 1) ∧ Try.prog.underlying f0.type = some (.int .i64) ∧ Try.prog.underlying f1.type = some (.int .i64) ∧ Try.prog.underlying f2.type = some (.int .i64) :=
  ⟨_, _, _, Try.underlying41, ⟨by kernel_rfl, by kernel_rfl, by kernel_rfl⟩, ⟨by kernel_rfl, by kernel_rfl, by kernel_rfl⟩, by kernel_rfl, by kernel_rfl, by kernel_rfl⟩
theorem open_occs {H : Type} {enc : TypeId × Value → H} {W : World} {base : Nat} {spare : Nat → Bool} {held : Bool} {ts : List TypeId} {ds : List (DataW H)} {j : Nat} {a : Option Addr} {len cap : Nat} {d : DataW H} {ps : List MemPlace}
    (hsz : (DataW.weightsEach Try.prog ts ds).all (· ≤ reachBytes) = true) (ht : ts[j]? = some 23) (hd : ds[j]? = some d)
    (h : DataW.Trod enc Try.prog W base spare held 23 (.slice a len cap) d ps) :
    ∃ l : List S41, l.length = len ∧ len ≤ cap ∧ Fit l ∧ Kd.C k41 W a len l ∧ ∀ u ∈ l, (Lit.int .i64 u.f0).wf = true ∧ (Lit.int .i64 u.f1).wf = true ∧ (Lit.int .i64 u.f2).wf = true := by
  obtain ⟨f0, f1, f2, he, ⟨o0, o1, o2⟩, ⟨c0, c1, c2⟩, u0, u1, u2⟩ := occFields
  obtain ⟨fuel, hf⟩ := h
  rcases open_slice Try.underlying23 hf with ⟨hcs, _⟩ | ⟨ad, len', cap', m, n, D, Pl, hcs, hb, hl, hm, hmm, hx, hi⟩
  · simp [Value.cells] at hcs
    obtain ⟨rfl, rfl, rfl⟩ := hcs
    exact ⟨[], rfl, Nat.le_refl _, fit_nil, ⟨rfl, by omega, fun h => absurd h (by omega)⟩, fun u hu => by cases hu⟩
  · simp [Value.cells] at hcs
    obtain ⟨rfl, rfl, rfl⟩ := hcs
    have hlm : len ≤ m := by rw [hmm]; split <;> omega
    obtain ⟨hx1, _⟩ := Prod.mk.inj hx
    rw [hx1] at hd
    have z := sized_slice hsz ht hd Try.underlying23
    rw [bytesOcc] at z
    simp only [List.length_map, List.length_range] at z
    have hz := reachBytes_lt
    obtain ⟨q, hq⟩ := choose_lt (n := len) (α := Int × Int × Int) (p := fun i q => (W.cell? (ad.add (i * 3)) = some (.int .i64 q.1) ∧ W.cell? (ad.add (i * 3 + 1)) = some (.int .i64 q.2.1) ∧ W.cell? (ad.add (i * 3 + 2)) = some (.int .i64 q.2.2)) ∧ (Lit.int .i64 q.1).wf = true ∧ (Lit.int .i64 q.2.1).wf = true ∧ (Lit.int .i64 q.2.2).wf = true) (fun i him => by
      obtain ⟨cs', h1, h2⟩ := hi i (by omega)
      rw [cellsOcc] at h1
      obtain ⟨_, hlen, hcell⟩ := World.cells?_some h1
      obtain ⟨xs, k, hk, hxy, _, hxl, hfs⟩ := DataW.trod_struct he h2
      match xs, hxl, cs', hlen with
      | [y0, y1, y2], _, [v0, v1, v2], _ =>
        have g0 := hfs 0 f0 rfl
        have g1 := hfs 1 f1 rfl
        have g2 := hfs 2 f2 rfl
        simp [o0, o1, o2, c0, c1, c2] at g0 g1 g2
        have e0 := hcell 0 (by omega)
        have e1 := hcell 1 (by omega)
        have e2 := hcell 2 (by omega)
        rw [Go.Deep.add_add] at e0 e1 e2
        obtain ⟨n0, q0, _, w0⟩ := DataW.trod_int u0 g0
        obtain ⟨n1, q1, _, w1⟩ := DataW.trod_int u1 g1
        obtain ⟨n2, q2, _, w2⟩ := DataW.trod_int u2 g2
        simp at q0 q1 q2
        subst q0 q1 q2
        exact ⟨(n0, n1, n2), ⟨by simpa using e0, by simpa using e1, by simpa using e2⟩, w0, w1, w2⟩)
    refine ⟨(List.range len).map fun i => ⟨(q i).1, (q i).2.1, (q i).2.2⟩, by simp, hl, by unfold Fit; simp; omega, ⟨by simp, by omega, fun _ => ⟨ad, rfl, fun j p hj => ?_⟩⟩, ?_⟩
    · by_cases hjl : j < len
      · rw [List.getElem?_map, List.getElem?_range hjl] at hj
        simp only [Option.map_some, Option.some.injEq] at hj
        subst hj
        obtain ⟨⟨hc0, hc1, hc2⟩, _⟩ := hq j hjl
        refine ⟨[.int .i64 (q j).1, .int .i64 (q j).2.1, .int .i64 (q j).2.2], rfl, k41_mk W _, fun i u hu => ?_⟩
        match i, hu with
        | 0, hu => simp only [List.getElem?_cons_zero, Option.some.injEq] at hu; subst hu; exact hc0
        | 1, hu => simp only [List.getElem?_cons_succ, List.getElem?_cons_zero, Option.some.injEq] at hu; subst hu; exact hc1
        | 2, hu => simp only [List.getElem?_cons_succ, List.getElem?_cons_zero, Option.some.injEq] at hu; subst hu; exact hc2
        | i + 3, hu => simp at hu
      · rw [List.getElem?_eq_none (by simp; omega)] at hj; cases hj
    · intro u hu
      rw [List.mem_map] at hu
      obtain ⟨i, hi', rfl⟩ := hu
      rw [List.mem_range] at hi'
      exact (hq i hi').2
end Go.Proofs.Ytcdldldknfpkjaa.PHw
