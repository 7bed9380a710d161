/- Spare and Kept. -/
import Derived.Test.YtdnileakboefgaaLResidueKeepsArgumentsVS
import Derived.Test.YtdnileakboefgaaLResidueKeepsArgumentsCnt
import Derived.Deep.LoopGhost
import Derived.Deep.QuietTactic
import Derived.BigQuiet
namespace Go.Proofs.Ytdnileakboefgaa.PResidueKeepsArguments
open Go.RowKit Go.Proofs.YtdnileakboefgaaW.PrintWords Go.Proofs.YtdnileakboefgaaW.PrintLast Go.Proofs.YtdnileakboefgaaW.PrintMore
set_option linter.unusedVariables false
set_option maxRecDepth 100000
attribute [local go_sem high] eqA35
/-- A row of spans that begins as an empty one with a block of its own. -/
theorem R_none (W : World) : Kd.R k35 35 (W.alloc (.cells #[] 35)) W.heap.size (fun _ => True) (.slice (some ⟨W.heap.size, 0, none⟩) 0 0) ([] : List S35) := by
  refine ⟨fun _ _ => trivial, [], ⟨rfl, .inr ⟨W.heap.size, 0, #[], rfl, Nat.le_refl _, heap_alloc_new W _, Nat.le_refl _, by simp [maxLen], rfl, rfl⟩⟩, ?_⟩
  exact ⟨rfl, fun j p hj => by simp at hj⟩
theorem C_three (w : World) (x y z : S35) : Kd.C k35 (w.alloc (.cells #[.int .i64 x.f0, .int .i64 x.f1, .int .i64 y.f0, .int .i64 y.f1, .int .i64 z.f0, .int .i64 z.f1] 35)) (some ⟨w.heap.size, 0, none⟩) ([x, y, z] : List S35).length [x, y, z] := by
  refine ⟨rfl, by simp, fun _ => ⟨_, rfl, fun j p hj => ?_⟩⟩
  match j, hj with
  | 0, hj =>
    simp only [List.getElem?_cons_zero, Option.some.injEq] at hj
    subst hj
    refine ⟨[.int .i64 x.f0, .int .i64 x.f1], rfl, k35_mk _ _, fun i u hu => ?_⟩
    match i, hu with
    | 0, hu => simp only [List.getElem?_cons_zero, Option.some.injEq] at hu; subst hu; exact World.cell?_alloc_at _ _ _ _ rfl
    | 1, hu => simp only [List.getElem?_cons_succ, List.getElem?_cons_zero, Option.some.injEq] at hu; subst hu; exact World.cell?_alloc_at _ _ _ _ rfl
    | i + 2, hu => simp at hu
  | 1, hj =>
    simp only [List.getElem?_cons_succ, List.getElem?_cons_zero, Option.some.injEq] at hj
    subst hj
    refine ⟨[.int .i64 y.f0, .int .i64 y.f1], rfl, k35_mk _ _, fun i u hu => ?_⟩
    match i, hu with
    | 0, hu => simp only [List.getElem?_cons_zero, Option.some.injEq] at hu; subst hu; exact World.cell?_alloc_at _ _ _ _ rfl
    | 1, hu => simp only [List.getElem?_cons_succ, List.getElem?_cons_zero, Option.some.injEq] at hu; subst hu; exact World.cell?_alloc_at _ _ _ _ rfl
    | i + 2, hu => simp at hu
  | 2, hj =>
    simp only [List.getElem?_cons_succ, List.getElem?_cons_zero, Option.some.injEq] at hj
    subst hj
    refine ⟨[.int .i64 z.f0, .int .i64 z.f1], rfl, k35_mk _ _, fun i u hu => ?_⟩
    match i, hu with
    | 0, hu => simp only [List.getElem?_cons_zero, Option.some.injEq] at hu; subst hu; exact World.cell?_alloc_at _ _ _ _ rfl
    | 1, hu => simp only [List.getElem?_cons_succ, List.getElem?_cons_zero, Option.some.injEq] at hu; subst hu; exact World.cell?_alloc_at _ _ _ _ rfl
    | i + 2, hu => simp at hu
  | j + 3, hj => simp at hj
set_option maxHeartbeats 1000000 in
theorem Spare_c (w : World) (A : Option Addr) (c : Nat) (l : List S35) (fl : l.length ≤ 7200) (vl : VS w (.slice A l.length c) l) (f : S35) :
    Calls Try.prog 40 #[.slice A l.length c, .agg #[.int .i64 f.f0, .int .i64 f.f1]] w fun e w' => (∃ g C, e = .returned (.slice (some ⟨g, 0, none⟩) l.length (l.length + 3)) ∧ Kd.R k35 35 w' w.heap.size (fun _ => True) (.slice (some ⟨g, 0, none⟩) (l.length + 3) C) (l ++ [f, f, f])) ∧ Below w.heap.size w w' := by
  have B1 : Below w.heap.size w (w.alloc (.cells #[.int .i64 f.f0, .int .i64 f.f1] 35)) := (Below.refl _ _).alloc (Nat.le_refl _) _
  have B2 := B1.alloc (by simp) (.cells #[] 35)
  have HB := Aside0.mk B2
  have Vl := Aside0.mk (VS_C (VS_below vl B2))
  have hsz : w.heap.size + 1 = (w.alloc (.cells #[.int .i64 f.f0, .int .i64 f.f1] 35)).heap.size := by simp
  have R0 : Kd.R k35 35 ((w.alloc (.cells #[.int .i64 f.f0, .int .i64 f.f1] 35)).alloc (.cells #[] 35)) w.heap.size (fun _ => True) (.slice (some ⟨w.heap.size + 1, 0, none⟩) 0 0) ([] : List S35) := by
    rw [hsz]; exact Kd.R_lower (R_none (w.alloc (.cells #[.int .i64 f.f0, .int .i64 f.f1] 35))) (by simp)
  have HR := Aside0.mk R0
  have FL := Aside0.mk fl
  have hf := Aside0.mk (heap_alloc_new w (.cells #[.int .i64 f.f0, .int .i64 f.f1] 35))
  have hf2 : ((w.alloc (.cells #[.int .i64 f.f0, .int .i64 f.f1] 35)).alloc (.cells #[] 35)).heap[w.heap.size]? = some (.cells #[.int .i64 f.f0, .int .i64 f.f1] 35 (0, 0)) := by
    rw [Below.heap_alloc _ _ _ (by simp)]; exact heap_alloc_new w _
  have HF2 := Aside0.mk hf2
  clear B1 B2 vl R0 fl hsz hf2 hf
  go_enter Try.func40, Try.ntmps40
  go_wp2_with (first | ((with_reducible refine gate_builtin (b := .append) (xs := #[.tmp 6, .tmp 7]) rfl ?_); at_builtin; refine Kd.R_append_rows k35 (w0 := w) w.heap.size rfl (.tmp 6) (.tmp 7) 22 35 (.agg #[(.int .i64 0), (.int .i64 0)]) 16 rfl Try.underlying22 info35 rfl (by decide) (by omega) (.slice (some ⟨w.heap.size + 1, 0, none⟩) 0 0) ([] : List S35) l A l.length c (fun _ => True) (fun _ => False) rfl rfl HR.out Vl.out (fun x cs hk => by rw [k35_open hk]; exact k35_mkM _ _ _ x) (fun _ hk => hk.elim) (fun _ _ => trivial) HB.out (by simp; omega) (by have := FL.out; simp; omega) ?_; intro v1 w1 ho hb hg hat; have HR1 := Aside0.mk ho; have HB1 := Aside0.mk hb; have hbl := (hg.block w.heap.size (by simp; omega) (by simp [Value.ownBlock])).trans HF2.out; have k0 : w1.cell? ⟨w.heap.size, 0, none⟩ = some (.int .i64 f.f0) := by { rw [cell_of_row w1 _ _ _ _ _ hbl]; rfl }; have k1 : w1.cell? ⟨w.heap.size, 1, none⟩ = some (.int .i64 f.f1) := by { rw [cell_of_row w1 _ _ _ _ _ hbl]; rfl }; have BS := lt_of_block hbl; clear ho hb hg hat hbl HR HB Vl HF2) | ((with_reducible refine gate_builtin (b := .append) (xs := #[.tmp 9, .tmp 13]) rfl ?_); at_builtin; refine Kd.R_append_rows k35 (w0 := w) w.heap.size rfl (.tmp 9) (.tmp 13) 22 35 (.agg #[(.int .i64 0), (.int .i64 0)]) 16 rfl Try.underlying22 info35 rfl (by decide) (by omega) v1 ([] ++ l) [f, f, f] (some ⟨w1.heap.size, 0, none⟩) 3 3 (fun _ => True) (fun _ => False) rfl rfl (Kd.R_alloc HR1.out _) (C_three w1 f f f) (fun x cs hk => by rw [k35_open hk]; exact k35_mkM _ _ _ x) (fun _ hk => hk.elim) (fun _ _ => trivial) (HB1.out.alloc (by omega) _) (by simp; omega) (by have := FL.out; simp; omega) ?_; intro v2 w2 ho hb hg hat; obtain ⟨g, C, e2, _⟩ := Kd.R_form ho (by simp); subst e2; rw [show (([] ++ l ++ [f, f, f] : List S35)).length = l.length + 3 by simp] at ho; have hC : l.length + 3 ≤ C := (by have := (Kd.R_reads' ho).2.1; omega); rw [List.nil_append] at ho; have HR2 := Aside0.mk ho; have HB2 := Aside0.mk hb; have hl72 := FL.out; clear ho hb hg hat HR1 HB1 k0 k1))
  go_ret
  exact ⟨⟨g, C, rfl, HR2.out⟩, HB2.out⟩
/-- A row with three spans behind its length, that is only read. -/
def VK (w : World) (g C : Nat) (l : List S35) (f : S35) : Prop := VS w (.slice (some ⟨g, 0, none⟩) (l ++ [f, f, f]).length C) (l ++ [f, f, f])
theorem VK_VS {w : World} {g C : Nat} {l : List S35} {f : S35} (h : VK w g C l f) : VS w (.slice (some ⟨g, 0, none⟩) l.length (l.length + 3)) l := by
  have h1 := Kd.F_take (m := l.length) (Kd.V_F (e := 35) (base := 0) h) (by simp)
  rw [List.take_left] at h1
  exact ⟨_, _, rfl, by omega, h1⟩
theorem VK_below {w w' : World} {g C : Nat} {l : List S35} {f : S35} (h : VK w g C l f) (hb : Below w.heap.size w w') : VK w' g C l f := VS_below h hb
theorem rd_tail (l : List S35) (f : S35) (k : Nat) (hk : k < 3) : rd_T35 (l ++ [f, f, f]) ((l.length : Int) + k) = f := by
  unfold rd_T35
  rw [show ((l.length : Int) + k).toNat = l.length + k by omega, List.getD_eq_getElem?_getD, List.getElem?_append_right (by omega), show l.length + k - l.length = k by omega]
  match k, hk with
  | 0, _ => rfl
  | 1, _ => rfl
  | 2, _ => rfl
theorem addg (g o k : Nat) : (⟨g, o, none⟩ : Addr).add k = ⟨g, o + k, none⟩ := by unfold Addr.add; simp; try omega
theorem tail_cells {w : World} {g C : Nat} {l : List S35} {f : S35} (h : VK w g C l f) (k : Nat) (hk : k < 3) : w.cell? ⟨g, (l.length + k) * 2, none⟩ = some (.int .i64 f.f0) ∧ w.cell? ⟨g, (l.length + k) * 2 + 1, none⟩ = some (.int .i64 f.f1) := by
  obtain ⟨ad, e, h0, h1⟩ := at_T35 (VS_C h) ((l.length : Int) + k) (by omega) (by simp; omega)
  injection e with e
  subst e
  rw [rd_tail l f k hk, addg, show ((l.length : Int) + k).toNat = l.length + k by omega, Nat.zero_add] at h0 h1
  exact ⟨h0, h1⟩
set_option maxHeartbeats 1000000 in
theorem Kept_c (w : World) (g C : Nat) (A : Option Addr) (c : Nat) (l : List S35) (fl : l.length ≤ 7200) (f : S35) (vk : VK w g C l f) (vl : VS w (.slice A l.length c) l) :
    Calls Try.prog 41 #[.slice (some ⟨g, 0, none⟩) l.length (l.length + 3), .slice A l.length c, .agg #[.int .i64 f.f0, .int .i64 f.f1]] w fun e w' => e = .returned (.bool true) ∧ Below w.heap.size w w' := by
  have HK := Aside0.mk vk
  have HL := Aside0.mk vl
  have FL := Aside0.mk fl
  have fl' : (l.length : Int) ≤ 7200 := by omega
  clear vk vl
  go_enter Try.func41, Try.ntmps41
  go_wp2_with fail
  have BA : Below w.heap.size w (w.alloc (.cells #[.int .i64 f.f0, .int .i64 f.f1] 35)) := (Below.refl _ _).alloc (Nat.le_refl _) _
  have HK1 := VK_below HK.out BA
  have HL1 := VS_below HL.out BA
  have HFL : Fit l := fit_le FL.out
  obtain ⟨k, hk⟩ := (Same_ev l HFL).rounds
  have V1 := VK_VS HK1
  refine (api_Span_23.calls k _ (l.length + 3) l A c l true _ (VS_C V1) (VS_le V1) (VS_C HL1) (VS_le HL1) hk).mono ?_
  rintro _ w1 ⟨rfl, hd⟩
  have HK2 := VK_below HK1 hd.below
  have HB := Aside0.mk (below_step BA hd.below)
  obtain ⟨a0, a1⟩ := tail_cells HK2 0 (by omega)
  replace a0 : w1.cell? ⟨g, l.length * 2, none⟩ = some (.int .i64 f.f0) := a0
  replace a1 : w1.cell? ⟨g, l.length * 2 + 1, none⟩ = some (.int .i64 f.f1) := a1
  obtain ⟨b0, b1⟩ := tail_cells HK2 1 (by omega)
  obtain ⟨d0, d1⟩ := tail_cells HK2 2 (by omega)
  have hblk : w1.heap[w.heap.size]? = some (.cells #[.int .i64 f.f0, .int .i64 f.f1] 35 (0, 0)) := (hd.below.block w.heap.size (by simp)).trans (heap_alloc_new w _)
  have k0 : w1.cell? ⟨w.heap.size, 0, none⟩ = some (.int .i64 f.f0) := by rw [cell_of_row w1 _ _ _ _ _ hblk]; rfl
  have k1 : w1.cell? ⟨w.heap.size, 1, none⟩ = some (.int .i64 f.f1) := by rw [cell_of_row w1 _ _ _ _ _ hblk]; rfl
  clear HK HL HK1 HL1 HK2 BA V1 hd hblk hk
  have q1 : IntKind.i64.wrap ((l.length : Int) + 1) = l.length + 1 := (IntWalk.i64_left _).trans (IntWalk.wrap64_in _ (by omega))
  have q2 : IntKind.i64.wrap ((l.length : Int) + 2) = l.length + 2 := (IntWalk.i64_left _).trans (IntWalk.wrap64_in _ (by omega))
  have r0 : (l.length : Int) < l.length + 3 := by omega
  have r1 : (l.length : Int) + 1 < l.length + 3 := by omega
  have r2 : (l.length : Int) + 2 < l.length + 3 := by omega
  go_wp2_with fail
  go_quiet (fail)
  go_wp2_with fail
  go_ret
  exact ⟨rfl, pw_below_drewN HB.out _⟩
end Go.Proofs.Ytdnileakboefgaa.PResidueKeepsArguments
