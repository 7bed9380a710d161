/- An argument that is a network: how its reading opens. -/
import Derived.Test.YtkbcgahpekmlbaaRows
import Derived.Test.YtkbcgahpekmlbaaPPgx0
import Derived.Deep.Slices
import Derived.ChangeSame
import Derived.ChangeArms
import Derived.Lib.SmallJoins
namespace Go.Proofs.Ytkbcgahpekmlbaa.PPg
open Go.RowKit Go.Deep Go.ChangeShapes Go.WideShapes Go.Proofs.YtkbcgahpekmlbaaW.PrintWords Go.Proofs.YtkbcgahpekmlbaaW.PrintLast Go.Proofs.YtkbcgahpekmlbaaW.PrintMore
set_option linter.unusedVariables false
set_option maxRecDepth 100000
theorem cells65 : Try.prog.cellsOf 65 = 3 := by kernel_rfl
theorem fields65 : ∃ f0 f1 f2 : Field, Try.prog.underlying 65 = some (.struct #[f0, f1, f2]) ∧ (f0.offset = 0 ∧ f1.offset = 1 ∧ f2.offset = 2) ∧ (Try.prog.cellsOf f0.type = 1 ∧ Try.prog.cellsOf f1.type = 1 ∧ Try.prog.cellsOf f2.type = 1) ∧ Try.prog.underlying f0.type = some (.int .i64) ∧ Try.prog.underlying f1.type = some (.int .i64) ∧ Try.prog.underlying f2.type = some (.int .i64) :=
  ⟨_, _, _, Try.underlying65, ⟨by kernel_rfl, by kernel_rfl, by kernel_rfl⟩, ⟨by kernel_rfl, by kernel_rfl, by kernel_rfl⟩, by kernel_rfl, by kernel_rfl, by kernel_rfl⟩
theorem open_ev {H : Type} {enc : TypeId × Value → H} {W : World} {base : Nat} {spare : Nat → Bool} {held : Bool} {fuel : Nat} {v : Value} {x : DataW H × List MemPlace}
    (hf : DataW.trod enc Try.prog W base spare held fuel 22 [v] = some x) :
    ∃ (a : Option Addr) (cap : Nat) (l : List S65), v = .slice a l.length cap ∧ l.length ≤ cap ∧ Kd.C k65 W a l.length l := by
  obtain ⟨f0, f1, f2, he, ⟨o0, o1, o2⟩, ⟨c0, c1, c2⟩, u0, u1, u2⟩ := fields65
  rcases open_slice Try.underlying22 hf with ⟨hcs, _⟩ | ⟨ad, len', cap', m, n, D, Pl, hcs, hb, hl, hm, hmm, hx, hi⟩
  · simp at hcs
    subst hcs
    exact ⟨none, 0, [], rfl, Nat.le_refl _, ⟨rfl, by simp, fun h => absurd h (by simp)⟩⟩
  · simp at hcs
    subst hcs
    have hlm : len' ≤ m := by rw [hmm]; split <;> omega
    unfold maxLen at hm
    obtain ⟨q, hq⟩ := choose_lt (n := len') (α := Int × Int × Int) (p := fun i q => W.cell? (ad.add (i * 3)) = some (.int .i64 q.1) ∧ W.cell? (ad.add (i * 3 + 1)) = some (.int .i64 q.2.1) ∧ W.cell? (ad.add (i * 3 + 2)) = some (.int .i64 q.2.2)) (fun i him => by
      obtain ⟨cs', h1, h2⟩ := hi i (by omega)
      rw [cells65] at h1
      obtain ⟨_, hlen, hcell⟩ := World.cells?_some h1
      obtain ⟨xs, k, hk, hxy, _, hxl, hfs⟩ := DataW.trod_struct he h2
      match xs, hxl, cs', hlen with
      | [y0, y1, y2], _, [v0, v1, v2], _ =>
        have g0 := hfs 0 f0 rfl
        have g1 := hfs 1 f1 rfl
        have g2 := hfs 2 f2 rfl
        simp [o0, o1, o2, c0, c1, c2] at g0 g1 g2
        have e0 := hcell 0 (by omega)
        have e1 := hcell 1 (by omega)
        have e2 := hcell 2 (by omega)
        rw [Go.Deep.add_add] at e0 e1 e2
        obtain ⟨n0, q0, _, w0⟩ := DataW.trod_int u0 g0
        obtain ⟨n1, q1, _, w1⟩ := DataW.trod_int u1 g1
        obtain ⟨n2, q2, _, w2⟩ := DataW.trod_int u2 g2
        simp at q0 q1 q2
        subst q0 q1 q2
        exact ⟨(n0, n1, n2), by simpa using e0, by simpa using e1, by simpa using e2⟩)
    refine ⟨some ad, cap', (List.range len').map fun i => ⟨(q i).1, (q i).2.1, (q i).2.2⟩, by simp, by simpa using hl, ⟨by simp, by simp; omega, fun _ => ⟨ad, rfl, fun j p hj => ?_⟩⟩⟩
    by_cases hjl : j < len'
    · rw [List.getElem?_map, List.getElem?_range hjl] at hj
      simp only [Option.map_some, Option.some.injEq] at hj
      subst hj
      obtain ⟨hc0, hc1, hc2⟩ := hq j hjl
      refine ⟨[.int .i64 (q j).1, .int .i64 (q j).2.1, .int .i64 (q j).2.2], rfl, k65_mk W _, fun i u hu => ?_⟩
      match i, hu with
      | 0, hu => simp only [List.getElem?_cons_zero, Option.some.injEq] at hu; subst hu; exact hc0
      | 1, hu => simp only [List.getElem?_cons_succ, List.getElem?_cons_zero, Option.some.injEq] at hu; subst hu; exact hc1
      | 2, hu => simp only [List.getElem?_cons_succ, List.getElem?_cons_zero, Option.some.injEq] at hu; subst hu; exact hc2
      | i + 3, hu => simp at hu
    · rw [List.getElem?_eq_none (by simp; omega)] at hj; cases hj
theorem cells30 : Try.prog.cellsOf 30 = 6 := by kernel_rfl
theorem fields30 : ∃ f0 f1 f2 f3 f4 f5 : Field, Try.prog.underlying 30 = some (.struct #[f0, f1, f2, f3, f4, f5]) ∧ (f0.offset = 0 ∧ f1.offset = 1 ∧ f2.offset = 2 ∧ f3.offset = 3 ∧ f4.offset = 4 ∧ f5.offset = 5) ∧ (Try.prog.cellsOf f0.type = 1 ∧ Try.prog.cellsOf f1.type = 1 ∧ Try.prog.cellsOf f2.type = 1 ∧ Try.prog.cellsOf f3.type = 1 ∧ Try.prog.cellsOf f4.type = 1 ∧ Try.prog.cellsOf f5.type = 1) ∧ Try.prog.underlying f0.type = some (.int .i64) ∧ Try.prog.underlying f1.type = some (.int .i64) ∧ Try.prog.underlying f2.type = some (.int .i64) ∧ Try.prog.underlying f3.type = some (.int .i64) ∧ Try.prog.underlying f4.type = some (.int .i64) ∧ Try.prog.underlying f5.type = some (.int .i64) :=
  ⟨_, _, _, _, _, _, Try.underlying30, ⟨by kernel_rfl, by kernel_rfl, by kernel_rfl, by kernel_rfl, by kernel_rfl, by kernel_rfl⟩, ⟨by kernel_rfl, by kernel_rfl, by kernel_rfl, by kernel_rfl, by kernel_rfl, by kernel_rfl⟩, by kernel_rfl, by kernel_rfl, by kernel_rfl, by kernel_rfl, by kernel_rfl, by kernel_rfl⟩
theorem open_ac {H : Type} {enc : TypeId × Value → H} {W : World} {base : Nat} {spare : Nat → Bool} {held : Bool} {fuel : Nat} {v : Value} {x : DataW H × List MemPlace}
    (hf : DataW.trod enc Try.prog W base spare held fuel 23 [v] = some x) :
    ∃ (a : Option Addr) (cap : Nat) (l : List S30), v = .slice a l.length cap ∧ l.length ≤ cap ∧ Kd.C k30 W a l.length l := by
  obtain ⟨f0, f1, f2, f3, f4, f5, he, ⟨o0, o1, o2, o3, o4, o5⟩, ⟨c0, c1, c2, c3, c4, c5⟩, u0, u1, u2, u3, u4, u5⟩ := fields30
  rcases open_slice Try.underlying23 hf with ⟨hcs, _⟩ | ⟨ad, len', cap', m, n, D, Pl, hcs, hb, hl, hm, hmm, hx, hi⟩
  · simp at hcs
    subst hcs
    exact ⟨none, 0, [], rfl, Nat.le_refl _, ⟨rfl, by simp, fun h => absurd h (by simp)⟩⟩
  · simp at hcs
    subst hcs
    have hlm : len' ≤ m := by rw [hmm]; split <;> omega
    unfold maxLen at hm
    obtain ⟨q, hq⟩ := choose_lt (n := len') (α := Int × Int × Int × Int × Int × Int) (p := fun i q => W.cell? (ad.add (i * 6)) = some (.int .i64 q.1) ∧ W.cell? (ad.add (i * 6 + 1)) = some (.int .i64 q.2.1) ∧ W.cell? (ad.add (i * 6 + 2)) = some (.int .i64 q.2.2.1) ∧ W.cell? (ad.add (i * 6 + 3)) = some (.int .i64 q.2.2.2.1) ∧ W.cell? (ad.add (i * 6 + 4)) = some (.int .i64 q.2.2.2.2.1) ∧ W.cell? (ad.add (i * 6 + 5)) = some (.int .i64 q.2.2.2.2.2)) (fun i him => by
      obtain ⟨cs', h1, h2⟩ := hi i (by omega)
      rw [cells30] at h1
      obtain ⟨_, hlen, hcell⟩ := World.cells?_some h1
      obtain ⟨xs, k, hk, hxy, _, hxl, hfs⟩ := DataW.trod_struct he h2
      match xs, hxl, cs', hlen with
      | [y0, y1, y2, y3, y4, y5], _, [v0, v1, v2, v3, v4, v5], _ =>
        have g0 := hfs 0 f0 rfl
        have g1 := hfs 1 f1 rfl
        have g2 := hfs 2 f2 rfl
        have g3 := hfs 3 f3 rfl
        have g4 := hfs 4 f4 rfl
        have g5 := hfs 5 f5 rfl
        simp [o0, o1, o2, o3, o4, o5, c0, c1, c2, c3, c4, c5] at g0 g1 g2 g3 g4 g5
        have e0 := hcell 0 (by omega)
        have e1 := hcell 1 (by omega)
        have e2 := hcell 2 (by omega)
        have e3 := hcell 3 (by omega)
        have e4 := hcell 4 (by omega)
        have e5 := hcell 5 (by omega)
        rw [Go.Deep.add_add] at e0 e1 e2 e3 e4 e5
        obtain ⟨n0, q0, _, w0⟩ := DataW.trod_int u0 g0
        obtain ⟨n1, q1, _, w1⟩ := DataW.trod_int u1 g1
        obtain ⟨n2, q2, _, w2⟩ := DataW.trod_int u2 g2
        obtain ⟨n3, q3, _, w3⟩ := DataW.trod_int u3 g3
        obtain ⟨n4, q4, _, w4⟩ := DataW.trod_int u4 g4
        obtain ⟨n5, q5, _, w5⟩ := DataW.trod_int u5 g5
        simp at q0 q1 q2 q3 q4 q5
        subst q0 q1 q2 q3 q4 q5
        exact ⟨(n0, n1, n2, n3, n4, n5), by simpa using e0, by simpa using e1, by simpa using e2, by simpa using e3, by simpa using e4, by simpa using e5⟩)
    refine ⟨some ad, cap', (List.range len').map fun i => ⟨(q i).1, (q i).2.1, (q i).2.2.1, (q i).2.2.2.1, (q i).2.2.2.2.1, (q i).2.2.2.2.2⟩, by simp, by simpa using hl, ⟨by simp, by simp; omega, fun _ => ⟨ad, rfl, fun j p hj => ?_⟩⟩⟩
    by_cases hjl : j < len'
    · rw [List.getElem?_map, List.getElem?_range hjl] at hj
      simp only [Option.map_some, Option.some.injEq] at hj
      subst hj
      obtain ⟨hc0, hc1, hc2, hc3, hc4, hc5⟩ := hq j hjl
      refine ⟨[.int .i64 (q j).1, .int .i64 (q j).2.1, .int .i64 (q j).2.2.1, .int .i64 (q j).2.2.2.1, .int .i64 (q j).2.2.2.2.1, .int .i64 (q j).2.2.2.2.2], rfl, k30_mk W _, fun i u hu => ?_⟩
      match i, hu with
      | 0, hu => simp only [List.getElem?_cons_zero, Option.some.injEq] at hu; subst hu; exact hc0
      | 1, hu => simp only [List.getElem?_cons_succ, List.getElem?_cons_zero, Option.some.injEq] at hu; subst hu; exact hc1
      | 2, hu => simp only [List.getElem?_cons_succ, List.getElem?_cons_zero, Option.some.injEq] at hu; subst hu; exact hc2
      | 3, hu => simp only [List.getElem?_cons_succ, List.getElem?_cons_zero, Option.some.injEq] at hu; subst hu; exact hc3
      | 4, hu => simp only [List.getElem?_cons_succ, List.getElem?_cons_zero, Option.some.injEq] at hu; subst hu; exact hc4
      | 5, hu => simp only [List.getElem?_cons_succ, List.getElem?_cons_zero, Option.some.injEq] at hu; subst hu; exact hc5
      | i + 6, hu => simp at hu
    · rw [List.getElem?_eq_none (by simp; omega)] at hj; cases hj
theorem netFields : ∃ f0 f1 f2 : Field, Try.prog.underlying 25 = some (.struct #[f0, f1, f2]) ∧ oneCellFields Try.prog #[f0, f1, f2] = true ∧ Try.prog.underlying f0.type = some (.int .i64) ∧ f1.type = 22 ∧ f2.type = 23 :=
  ⟨_, _, _, Try.underlying25, by kernel_rfl, by kernel_rfl, by kernel_rfl, by kernel_rfl⟩
theorem open_net {H : Type} {enc : TypeId × Value → H} {W : World} {r : Reach} {base b0 : Nat} {spare : Nat → Bool} {held : Bool} {v : Value} {d : DataW H} {ps : List MemPlace}
    (hv : Value.okWide Try.prog W r b0 25 v) (h : DataW.Trod enc Try.prog W base spare held 25 v d ps) :
    ∃ (P : Int) (A1 A2 : Option Addr) (c1 c2 : Nat) (ev : List S65) (ac : List S30), v = .agg #[.int .i64 P, .slice A1 ev.length c1, .slice A2 ac.length c2] ∧ Kd.C k65 W A1 ev.length ev ∧ ev.length ≤ c1 ∧ Kd.C k30 W A2 ac.length ac ∧ ac.length ≤ c2 := by
  obtain ⟨f0, f1, f2, he, ho, u0, e1, e2⟩ := netFields
  obtain ⟨v0, v1, v2, y0, y1, y2, n, rfl, _, _, h0, h1, h2⟩ := Go.Joins.open_agg3 he ho (by kernel_rfl) hv h
  rw [e1] at h1
  rw [e2] at h2
  obtain ⟨P, q, _, _⟩ := DataW.trod_int u0 h0
  simp at q
  subst q
  obtain ⟨A1, c1, ev, rfl, hc1, g1⟩ := open_ev h1
  obtain ⟨A2, c2, ac, rfl, hc2, g2⟩ := open_ac h2
  exact ⟨P, A1, A2, c1, c2, ev, ac, rfl, g1, hc1, g2, hc2⟩
end Go.Proofs.Ytkbcgahpekmlbaa.PPg
