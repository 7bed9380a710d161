/- An argument that is a slice of spans: how its reading opens. -/
import Derived.Test.YtdnileakboefgaaRows
import Derived.Test.YtdnileakboefgaaLResidueSetOperationsB
import Derived.Deep.SlicePairs
import Derived.SizedLaws
import Derived.ChangeArms
namespace Go.Proofs.Ytdnileakboefgaa.PResidueSetOperations
open Go.RowKit Go.Deep Go.ChangeShapes Go.WideShapes Go.Proofs.YtdnileakboefgaaW.PrintWords Go.Proofs.YtdnileakboefgaaW.PrintLast Go.Proofs.YtdnileakboefgaaW.PrintMore
set_option linter.unusedVariables false

theorem cellsSpan : Try.prog.cellsOf 35 = 2 := by kernel_rfl
theorem bytesSpan : Try.prog.bytesOf 35 = 16 := by kernel_rfl
theorem spanFields : ∃ f0 f1 : Field, Try.prog.underlying 35 = some (.struct #[f0, f1]) ∧ f0.offset = 0 ∧ f1.offset = 1 ∧ Try.prog.cellsOf f0.type = 1 ∧ Try.prog.cellsOf f1.type = 1 ∧ Try.prog.underlying f0.type = some (.int .i64) ∧ Try.prog.underlying f1.type = some (.int .i64) :=
  ⟨_, _, Try.underlying35, by kernel_rfl, by kernel_rfl, by kernel_rfl, by kernel_rfl, by kernel_rfl, by kernel_rfl⟩
theorem open_spans {H : Type} {enc : TypeId × Value → H} {W : World} {base : Nat} {spare : Nat → Bool} {held : Bool} {ts : List TypeId} {ds : List (DataW H)} {j : Nat} {a : Option Addr} {len cap : Nat} {d : DataW H} {ps : List MemPlace}
    (hsz : (DataW.weightsEach Try.prog ts ds).all (· ≤ reachBytes) = true) (ht : ts[j]? = some 22) (hd : ds[j]? = some d)
    (h : DataW.Trod enc Try.prog W base spare held 22 (.slice a len cap) d ps) :
    ∃ l : List S35, l.length = len ∧ len ≤ cap ∧ Fit l ∧ Kd.C k35 W a len l ∧ ∀ u ∈ l, (Lit.int .i64 u.f0).wf = true ∧ (Lit.int .i64 u.f1).wf = true := by
  obtain ⟨f0, f1, he, o0, o1, c0, c1, u0, u1⟩ := spanFields
  obtain ⟨fuel, hf⟩ := h
  rcases open_slice_pairs Try.underlying22 he cellsSpan o0 o1 c0 c1 hf with ⟨hcs, _⟩ | ⟨ad, len', cap', m, n, V0, V1, D0, D1, P0, P1, hcs, hb, hl, hm, hmm, hx, hi⟩
  · simp [Value.cells] at hcs
    obtain ⟨rfl, rfl, rfl⟩ := hcs
    exact ⟨[], rfl, Nat.le_refl _, fit_nil, ⟨rfl, by omega, fun h => absurd h (by omega)⟩, fun u hu => by cases hu⟩
  · simp [Value.cells] at hcs
    obtain ⟨rfl, rfl, rfl⟩ := hcs
    have hlm : len ≤ m := by rw [hmm]; split <;> omega
    obtain ⟨hx1, _⟩ := Prod.mk.inj hx
    rw [hx1] at hd
    have z := sized_slice hsz ht hd Try.underlying22
    rw [bytesSpan] at z
    simp only [List.length_map, List.length_range] at z
    have hz := reachBytes_lt
    obtain ⟨q, hq⟩ := choose_lt (n := len) (α := Int × Int) (p := fun i q => V0 i = .int .i64 q.1 ∧ V1 i = .int .i64 q.2 ∧ (Lit.int .i64 q.1).wf = true ∧ (Lit.int .i64 q.2).wf = true) (fun i him => by
      obtain ⟨_, _, t0, t1⟩ := hi i (by omega)
      obtain ⟨n0, e0, _, w0⟩ := DataW.trod_int u0 t0
      obtain ⟨n1, e1, _, w1⟩ := DataW.trod_int u1 t1
      exact ⟨(n0, n1), by simpa using e0, by simpa using e1, w0, w1⟩)
    refine ⟨(List.range len).map fun i => ⟨(q i).1, (q i).2⟩, by simp, hl, by unfold Fit; simp; omega, ⟨by simp, by omega, fun _ => ⟨ad, rfl, fun j p hj => ?_⟩⟩, ?_⟩
    · by_cases hjl : j < len
      · rw [List.getElem?_map, List.getElem?_range hjl] at hj
        simp only [Option.map_some, Option.some.injEq] at hj
        subst hj
        obtain ⟨hc0, hc1, _, _⟩ := hi j (by omega)
        obtain ⟨e0, e1, _, _⟩ := hq j hjl
        rw [e0] at hc0
        rw [e1] at hc1
        refine ⟨[.int .i64 (q j).1, .int .i64 (q j).2], rfl, k35_mk W _, fun i u hu => ?_⟩
        match i, hu with
        | 0, hu => simp only [List.getElem?_cons_zero, Option.some.injEq] at hu; subst hu; exact hc0
        | 1, hu => simp only [List.getElem?_cons_succ, List.getElem?_cons_zero, Option.some.injEq] at hu; subst hu; exact hc1
        | i + 2, hu => simp at hu
      · rw [List.getElem?_eq_none (by simp; omega)] at hj; cases hj
    · intro u hu
      rw [List.mem_map] at hu
      obtain ⟨i, hi', rfl⟩ := hu
      rw [List.mem_range] at hi'
      exact ⟨(hq i hi').2.2.1, (hq i hi').2.2.2⟩
end Go.Proofs.Ytdnileakboefgaa.PResidueSetOperations
