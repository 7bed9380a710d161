/- The walk of the law. -/
import Derived.Test.YtdnileakboefgaaLResidueKeepsArgumentsK1
import Derived.Test.YtdnileakboefgaaLResidueKeepsArgumentsK3
import Derived.Test.YtdnileakboefgaaLResidueKeepsArgumentsK4
import Derived.Test.YtdnileakboefgaaLResidueKeepsArgumentsCS
import Derived.Deep.RegionWith
import Derived.Test.YtdnileakboefgaaLResidueKeepsArgumentsAW
namespace Go.Proofs.Ytdnileakboefgaa.PResidueKeepsArguments
open Go.RowKit Go.Proofs.YtdnileakboefgaaW.PrintWords Go.Proofs.YtdnileakboefgaaW.PrintLast Go.Proofs.YtdnileakboefgaaW.PrintMore
set_option linter.unusedVariables false
set_option maxRecDepth 100000
set_option maxHeartbeats 1000000 in
theorem keeps (w : World) (t : Int) (A1 A2 : Option Addr) (c1 c2 : Nat) (l1 l2 : List Int) (p : Int) (k : Nat) (x y : List S35)
    (hr1 : Kd.C (Kd.int .i64) w A1 l1.length l1) (hc1 : l1.length ≤ c1) (hr2 : Kd.C (Kd.int .i64) w A2 l2.length l2) (hc2 : l2.length ≤ c2)
    (hp : railplankeep_Period.f t = some p) (hx : railplankeep_Set.f k p l1 = some x) (hy : railplankeep_Set.f k p l2 = some y) (lx : x.length ≤ 7200) (ly : y.length ≤ 7200)
    (rU rI rC rH rS : List S35) (eU eI eC eH eS : Int) (hU : residue_Union.f k p x y = some (rU, eU)) (hI : residue_Intersect.f k p x y = some (rI, eI)) (hC : residue_Complement.f k p x = some (rC, eC)) (hH : residue_Shift.f k p x 0 = some (rH, eH)) (hS : residue_Sum.f k p x y = some (rS, eS))
    (lU : rU.length ≤ 7200) (lI : rI.length ≤ 7200) (lC : rC.length ≤ 7200) (lH : rH.length ≤ 7200) (lS : rS.length ≤ 7200) :
    Calls Try.prog 14 #[.int .i64 t, .slice A1 l1.length c1, .slice A2 l2.length c2] w fun e w' => e = .returned (.bool true) ∧ Below w.heap.size w w' := by
  have HB := Aside0.mk (Below.refl w.heap.size w)
  have HP := Aside0.mk hp
  have HX := Aside0.mk hx
  have HY := Aside0.mk hy
  have LX := Aside0.mk lx
  have LY := Aside0.mk ly
  have HU := Aside0.mk hU
  have HI := Aside0.mk hI
  have HC := Aside0.mk hC
  have HH := Aside0.mk hH
  have HS := Aside0.mk hS
  clear hp hx hy lx ly hU hI hC hH hS
  go_enter Try.func14, Try.ntmps14
  go_wp2_with fail
  refine (railplankeep_Period.calls t p w HP.out).mono ?_
  rintro _ w1 ⟨rfl, hd⟩
  have hb := hd.below
  replace hr1 := Kd.C_below hr1 hb
  replace hr2 := Kd.C_below hr2 hb
  replace HB := Aside0.mk (below_step HB.out hb)
  clear hb hd
  go_wp2_with fail
  refine (railplankeep_Set.calls k p A1 c1 l1 x w1 hr1 hc1 HX.out).mono ?_
  rintro _ w2 ⟨v, rfl, hr, hb⟩
  have hv := VS_R hr
  obtain ⟨Ax, cx, rfl⟩ := VS_slice hv
  have Vx := Aside0.mk hv
  replace hr2 := Kd.C_below hr2 hb
  replace HB := Aside0.mk (below_step HB.out hb)
  clear hb hr hv hr1
  go_wp2_with fail
  refine (railplankeep_Set.calls k p A2 c2 l2 y w2 hr2 hc2 HY.out).mono ?_
  rintro _ w3 ⟨v, rfl, hr, hb⟩
  have hv := VS_R hr
  obtain ⟨Ay, cy, rfl⟩ := VS_slice hv
  have Vy := Aside0.mk hv
  replace Vx := Aside0.mk (VS_below Vx.out hb)
  replace HB := Aside0.mk (below_step HB.out hb)
  clear hb hr hv hr2
  go_wp2_with fail
  have B0 : Aside0 (Below w3.heap.size w3 (w3.alloc (.cells #[.int .i64 (-1), .int .i64 (-1)] 35)).drew) := ⟨((Below.refl _ _).alloc (Nat.le_refl _) _).drew⟩
  go_region_with (first
    | (go_at_call_of 40 (Value.slice Ax x.length cx); go_loud (refine (Spare_c _ Ax cx x LX.out (VS_below Vx.out B0.out) ⟨-1, -1⟩).mono ?_; rintro _ w4 ⟨⟨g1, C1, rfl, hr4⟩, hb4⟩; have hbl := (hb4.block w3.heap.size (by show w3.heap.size < (w3.alloc _).heap.size; simp)).trans (heap_alloc_new w3 (.cells #[.int .i64 (-1), .int .i64 (-1)] 35)); have k0 : w4.cell? ⟨w3.heap.size, 0, none⟩ = some (.int .i64 (-1)) := by { rw [cell_of_row w4 _ _ _ _ _ hbl]; rfl }; have k1 : w4.cell? ⟨w3.heap.size, 1, none⟩ = some (.int .i64 (-1)) := by { rw [cell_of_row w4 _ _ _ _ _ hbl]; rfl }; have HF4 := Aside0.mk hbl; have HR4 := Aside0.mk hr4; have HB4 := Aside0.mk (below_step B0.out hb4); clear hr4 hb4 hbl))
    | (go_at_call_of 40 (Value.slice Ay y.length cy); go_loud (refine (Spare_c w4 Ay cy y LY.out (VS_below Vy.out HB4.out) ⟨-1, -1⟩).mono ?_; rintro _ w5 ⟨⟨g2, C2, rfl, hr5⟩, hb5⟩; have Kx := Aside0.mk (VS_below (VS_R HR4.out) hb5); have Ky := Aside0.mk (VS_R hr5); have HF5 := Aside0.mk ((hb5.block w3.heap.size (blk_lt HF4.out)).trans HF4.out); have HB5 := Aside0.mk (below_step HB4.out hb5); clear hr5 hb5 HR4 HB4 k0 k1 HF4)))
  all_goals (go_wp2_with fail)
  all_goals (
    go_loopw [13, 14] (fun v13 v14 wr => ∃ (i : Int) (rows : List (List S35)), v14 = .int .i64 i ∧ Aside0 (0 ≤ i ∧ i ≤ 5 ∧ rows.length = i) ∧ Aside0 (Kd.R (Kd.slice 35 k35) 22 wr w5.heap.size (fun _ => True) v13 rows) ∧ Aside0 (Below w5.heap.size w5 wr)) (fun _ v14 _ => 5 - (intOf v14).toNat)
    case atStart => exact ⟨0, [], rfl, ⟨by simp⟩, ⟨Kd.R_nil _ _ _ _ _⟩, ⟨Below.refl _ _⟩⟩
    case round =>
      obtain ⟨i, rows, rfl, HI5, HR, HBr⟩ := hrel
      obtain ⟨i0, i1, i2⟩ := HI5.out
      obtain ⟨Ao, co, eo⟩ := Kd.R_slice HR.out
      subst eo
      have Vx := Aside0.mk (VK_VS (f := ⟨-1, -1⟩) (l := x) (g := g1) (C := C1) (w := wr) (by unfold VK; rw [show (x ++ [⟨-1, -1⟩, ⟨-1, -1⟩, ⟨-1, -1⟩] : List S35).length = x.length + 3 by simp]; exact VS_below Kx.out HBr.out))
      have Vy := Aside0.mk (VK_VS (f := ⟨-1, -1⟩) (l := y) (g := g2) (C := C2) (w := wr) (by unfold VK; rw [show (y ++ [⟨-1, -1⟩, ⟨-1, -1⟩, ⟨-1, -1⟩] : List S35).length = y.length + 3 by simp]; exact VS_below Ky.out HBr.out))
      by_cases ci : i < 5
      · rcases (show i = 0 ∨ i = 1 ∨ i = 2 ∨ i = 3 ∨ i = 4 by omega) with rfl | rfl | rfl | rfl | rfl
        · go_wp2_with fail
          refine (own_Union HU.out lU Vx.out Vy.out).mono ?_
          rintro _ w6 ⟨v, r, e, rfl, hr, hl, hb⟩
          obtain ⟨Av, cv, ev⟩ := Kd.R_slice hr
          subst ev
          have HR6 := Aside0.mk (Kd.R_below HR.out hb)
          have HB6 := Aside0.mk (below_step HBr.out hb)
          have HV6 := Aside0.mk (Kd.R_lower (Kd.R_new' hr (Kd.R_lt HR.out)) HBr.out.size)
          have HVl := Aside0.mk hl
          clear hr hl hb HR HBr Vx Vy
          go_wp2_with (first | ((with_reducible refine gate_builtin (b := .append) (xs := #[.tmp 79, .tmp 81]) rfl ?_); at_builtin; go_loud (refine Kd.R_append (Kd.slice 35 k35) (w0 := w5) w5.heap.size rfl (.tmp 79) (.tmp 81) 52 22 (.slice none 0 0) 24 rfl Try.underlying52 info22 rfl (by decide) (by omega) (.slice Ao rows.length co) rows r [.slice Av r.length cv] (fun _ => True) (fun k => True ∧ some k ≠ (Value.slice Ao rows.length co).ownBlock) rfl rfl ⟨_, rfl, HV6.out⟩ (fun _ hk => hk) (fun _ _ => trivial) HR6.out HB6.out HB6.out.size (by omega) ?_; intro v9 w9 ho hb hg hat; have HR9 := Aside0.mk ho; have HB9 := Aside0.mk hb; clear ho hb hg hat)))
          go_roundw
          case rel => exact ⟨_, rows ++ [r], rfl, ⟨by simp; omega⟩, HR9, HB9⟩
          case measure => simp [intOf]
        · go_wp2_with fail
          refine (own_Inter HI.out lI Vx.out Vy.out).mono ?_
          rintro _ w6 ⟨v, r, e, rfl, hr, hl, hb⟩
          obtain ⟨Av, cv, ev⟩ := Kd.R_slice hr
          subst ev
          have HR6 := Aside0.mk (Kd.R_below HR.out hb)
          have HB6 := Aside0.mk (below_step HBr.out hb)
          have HV6 := Aside0.mk (Kd.R_lower (Kd.R_new' hr (Kd.R_lt HR.out)) HBr.out.size)
          have HVl := Aside0.mk hl
          clear hr hl hb HR HBr Vx Vy
          go_wp2_with (first | ((with_reducible refine gate_builtin (b := .append) (xs := #[.tmp 79, .tmp 81]) rfl ?_); at_builtin; go_loud (refine Kd.R_append (Kd.slice 35 k35) (w0 := w5) w5.heap.size rfl (.tmp 79) (.tmp 81) 52 22 (.slice none 0 0) 24 rfl Try.underlying52 info22 rfl (by decide) (by omega) (.slice Ao rows.length co) rows r [.slice Av r.length cv] (fun _ => True) (fun k => True ∧ some k ≠ (Value.slice Ao rows.length co).ownBlock) rfl rfl ⟨_, rfl, HV6.out⟩ (fun _ hk => hk) (fun _ _ => trivial) HR6.out HB6.out HB6.out.size (by omega) ?_; intro v9 w9 ho hb hg hat; have HR9 := Aside0.mk ho; have HB9 := Aside0.mk hb; clear ho hb hg hat)))
          go_roundw
          case rel => exact ⟨_, rows ++ [r], rfl, ⟨by simp; omega⟩, HR9, HB9⟩
          case measure => simp [intOf]
        · go_wp2_with fail
          refine (own_Comp HC.out lC Vx.out).mono ?_
          rintro _ w6 ⟨v, r, e, rfl, hr, hl, hb⟩
          obtain ⟨Av, cv, ev⟩ := Kd.R_slice hr
          subst ev
          have HR6 := Aside0.mk (Kd.R_below HR.out hb)
          have HB6 := Aside0.mk (below_step HBr.out hb)
          have HV6 := Aside0.mk (Kd.R_lower (Kd.R_new' hr (Kd.R_lt HR.out)) HBr.out.size)
          have HVl := Aside0.mk hl
          clear hr hl hb HR HBr Vx Vy
          go_wp2_with (first | ((with_reducible refine gate_builtin (b := .append) (xs := #[.tmp 79, .tmp 81]) rfl ?_); at_builtin; go_loud (refine Kd.R_append (Kd.slice 35 k35) (w0 := w5) w5.heap.size rfl (.tmp 79) (.tmp 81) 52 22 (.slice none 0 0) 24 rfl Try.underlying52 info22 rfl (by decide) (by omega) (.slice Ao rows.length co) rows r [.slice Av r.length cv] (fun _ => True) (fun k => True ∧ some k ≠ (Value.slice Ao rows.length co).ownBlock) rfl rfl ⟨_, rfl, HV6.out⟩ (fun _ hk => hk) (fun _ _ => trivial) HR6.out HB6.out HB6.out.size (by omega) ?_; intro v9 w9 ho hb hg hat; have HR9 := Aside0.mk ho; have HB9 := Aside0.mk hb; clear ho hb hg hat)))
          go_roundw
          case rel => exact ⟨_, rows ++ [r], rfl, ⟨by simp; omega⟩, HR9, HB9⟩
          case measure => simp [intOf]
        · go_wp2_with fail
          refine (own_Shift HH.out lH Vx.out).mono ?_
          rintro _ w6 ⟨v, r, e, rfl, hr, hl, hb⟩
          obtain ⟨Av, cv, ev⟩ := Kd.R_slice hr
          subst ev
          have HR6 := Aside0.mk (Kd.R_below HR.out hb)
          have HB6 := Aside0.mk (below_step HBr.out hb)
          have HV6 := Aside0.mk (Kd.R_lower (Kd.R_new' hr (Kd.R_lt HR.out)) HBr.out.size)
          have HVl := Aside0.mk hl
          clear hr hl hb HR HBr Vx Vy
          go_wp2_with (first | ((with_reducible refine gate_builtin (b := .append) (xs := #[.tmp 79, .tmp 81]) rfl ?_); at_builtin; go_loud (refine Kd.R_append (Kd.slice 35 k35) (w0 := w5) w5.heap.size rfl (.tmp 79) (.tmp 81) 52 22 (.slice none 0 0) 24 rfl Try.underlying52 info22 rfl (by decide) (by omega) (.slice Ao rows.length co) rows r [.slice Av r.length cv] (fun _ => True) (fun k => True ∧ some k ≠ (Value.slice Ao rows.length co).ownBlock) rfl rfl ⟨_, rfl, HV6.out⟩ (fun _ hk => hk) (fun _ _ => trivial) HR6.out HB6.out HB6.out.size (by omega) ?_; intro v9 w9 ho hb hg hat; have HR9 := Aside0.mk ho; have HB9 := Aside0.mk hb; clear ho hb hg hat)))
          go_roundw
          case rel => exact ⟨_, rows ++ [r], rfl, ⟨by simp; omega⟩, HR9, HB9⟩
          case measure => simp [intOf]
        · go_wp2_with fail
          refine (own_Sum HS.out lS Vx.out Vy.out).mono ?_
          rintro _ w6 ⟨v, r, e, rfl, hr, hl, hb⟩
          obtain ⟨Av, cv, ev⟩ := Kd.R_slice hr
          subst ev
          have HR6 := Aside0.mk (Kd.R_below HR.out hb)
          have HB6 := Aside0.mk (below_step HBr.out hb)
          have HV6 := Aside0.mk (Kd.R_lower (Kd.R_new' hr (Kd.R_lt HR.out)) HBr.out.size)
          have HVl := Aside0.mk hl
          clear hr hl hb HR HBr Vx Vy
          go_wp2_with (first | ((with_reducible refine gate_builtin (b := .append) (xs := #[.tmp 79, .tmp 81]) rfl ?_); at_builtin; go_loud (refine Kd.R_append (Kd.slice 35 k35) (w0 := w5) w5.heap.size rfl (.tmp 79) (.tmp 81) 52 22 (.slice none 0 0) 24 rfl Try.underlying52 info22 rfl (by decide) (by omega) (.slice Ao rows.length co) rows r [.slice Av r.length cv] (fun _ => True) (fun k => True ∧ some k ≠ (Value.slice Ao rows.length co).ownBlock) rfl rfl ⟨_, rfl, HV6.out⟩ (fun _ hk => hk) (fun _ _ => trivial) HR6.out HB6.out HB6.out.size (by omega) ?_; intro v9 w9 ho hb hg hat; have HR9 := Aside0.mk ho; have HB9 := Aside0.mk hb; clear ho hb hg hat)))
          go_roundw
          case rel => exact ⟨_, rows ++ [r], rfl, ⟨by simp; omega⟩, HR9, HB9⟩
          case measure => simp [intOf]
      · have e5 : i = 5 := by omega
        subst e5
        obtain ⟨gr, cr, er, hbr, hltr, _⟩ := Kd.R_form HR.out (by omega)
        injection er with er _ er2
        subst er er2
        have hbr' : Aside0 (w5.heap.size ≤ gr) := ⟨hbr⟩
        have l5 : rows.length = 5 := by omega
        clear hbr hltr i0 i1 i2 HI5 Vx Vy ci
        go_wp2_with fail
        go_loopw [85] (fun v85 w1 => ∃ (j : Int) (rs : List (List S35)), v85 = .int .i64 j ∧ Aside0 (0 ≤ j ∧ j ≤ rows.length ∧ rs.length = rows.length) ∧ Aside0 (Kd.R (Kd.slice 35 k35) 22 w1 w5.heap.size (fun _ => True) (.slice (some ⟨gr, 0, none⟩) rows.length co) rs) ∧ Aside0 (Below w5.heap.size w5 w1)) (fun v85 _ => rows.length - (intOf v85).toNat)
        case atStart => exact ⟨0, rows, rfl, ⟨by simp⟩, HR, HBr⟩
        case round =>
          clear HR HBr
          obtain ⟨j, rs, rfl, HJ, HR, HBr⟩ := hrel
          obtain ⟨j0, j1, j2⟩ := HJ.out
          by_cases cj : j < rows.length
          · obtain ⟨g', v, eg, hcell, hRe⟩ := Rows_at HR.out j j0 (by omega)
            injection eg with eg
            injection eg with eg
            subst eg
            obtain ⟨Ae, ce, ev⟩ := Kd.R_slice hRe
            subst ev
            have HRe := Aside0.mk hRe
            clear hRe
            go_wp2_with fail
            go_loopw [93] (fun v93 w1 => ∃ (k : Int) (rs' : List (List S35)), v93 = .int .i64 k ∧ Aside0 (0 ≤ k ∧ k ≤ (rd_L2 rs j).length ∧ rs'.map List.length = rs.map List.length) ∧ Aside0 (Kd.R (Kd.slice 35 k35) 22 w1 w5.heap.size (fun _ => True) (.slice (some ⟨gr, 0, none⟩) rows.length co) rs') ∧ Aside0 (Below w5.heap.size w5 w1)) (fun v93 _ => (rd_L2 rs j).length - (intOf v93).toNat)
            case atStart => exact ⟨0, rs, rfl, ⟨by simp⟩, HR, HBr⟩
            case round =>
              clear HR HBr HRe hcell
              obtain ⟨k, rs', rfl, HK, HR, HBr⟩ := hrel
              obtain ⟨k0, k1, k2⟩ := HK.out
              have hlr : rs'.length = rs.length := by have := congrArg List.length k2; simpa using this
              have hlj : (rd_L2 rs' j).length = (rd_L2 rs j).length := rd_len k2 j
              by_cases ck : k < (rd_L2 rs j).length
              · obtain ⟨g', v, eg, hcell, hRe⟩ := Rows_at HR.out j j0 (by omega)
                injection eg with eg
                injection eg with eg
                subst eg
                obtain ⟨ge, ce, cur, ev, hne, hbe, hce, hsz⟩ := R_cells hRe (by omega)
                subst ev
                have hmx := Kd.C_max (Kd.R_reads' hRe).2.2
                rw [hlj] at hcell hsz hmx
                have NE := Aside0.mk (show some ge ≠ (Value.slice (some ⟨gr, 0, none⟩) rows.length co).ownBlock by intro e; injection e with e; exact hne.2 e)
                have CE := Aside0.mk hce
                have SZ := Aside0.mk hsz
                have BE := Aside0.mk hbe
                have KS := Aside0.mk k2
                have JS := Aside0.mk j2
                clear hne hce hsz hbe hRe k2 HK HJ hlr hlj
                go_wp2_with (first | ((with_reducible refine gate_ (.store 35 (.tmp 102) (.tmp 101)) rfl ?_); go_loud (refine store_zero rfl rfl (.tmp 102) (.tmp 101) rfl (g := ge) (cur := cur) rfl rfl sz35 CE.out (by have := SZ.out; simp; omega) ?_; obtain ⟨r1, h1, HR1⟩ := Rows_set HR.out ge (k.toNat * 2) 0 NE.out; obtain ⟨r2, h2, HR2⟩ := Rows_set HR1 ge (k.toNat * 2 + 1) 0 NE.out; have HR3 := Aside0.mk HR2; have HB3 := Aside0.mk ((HBr.out.setCell (p := ⟨ge, k.toNat * 2, none⟩) BE.out (.int .i64 0)).setCell (p := ⟨ge, k.toNat * 2 + 1, none⟩) BE.out (.int .i64 0)); have K3 := Aside0.mk (h2.trans (h1.trans KS.out)); clear h1 h2 HR1 HR2 HR HBr)))
                go_roundw
                case rel => exact ⟨k + 1, r2, rfl, ⟨by have := K3.out; exact ⟨by omega, by omega, this⟩⟩, HR3, HB3⟩
                case measure => simp [intOf]; omega
              · go_wp2_with fail
                go_roundw
                case rel => exact ⟨j + 1, rs', rfl, ⟨by omega⟩, HR, HBr⟩
                case measure => simp [intOf]; omega
          · have Bf := Aside0.mk (below_step HB.out (below_step HB5.out HBr.out))
            obtain ⟨ka, hka⟩ := awake_ev.rounds
            have HKa := Aside0.mk hka
            have Kx1 := VS_below Kx.out HBr.out
            have Ky1 := VS_below Ky.out HBr.out
            have Hf1 := (HBr.out.block w3.heap.size (blk_lt HF5.out)).trans HF5.out
            have Vx0 := VS_below Vx.out (below_step HB5.out HBr.out)
            have Vy0 := VS_below Vy.out (below_step HB5.out HBr.out)
            have hj5 : ¬ j < 5 := by omega
            clear hka HR HJ j0 j1 j2 HBr
            go_wp2_with fail
            refine (railplanlaw2_awake.calls ka true _ HKa.out).mono ?_
            rintro _ w6 ⟨rfl, hd⟩
            replace Kx1 := Aside0.mk (VS_below Kx1 hd)
            replace Ky1 := Aside0.mk (VS_below Ky1 hd)
            replace Vx0 := Aside0.mk (VS_below Vx0 hd)
            replace Vy0 := Aside0.mk (VS_below Vy0 hd)
            replace Bf := Aside0.mk (below_step Bf.out hd)
            replace Hf1 := (hd.block w3.heap.size (blk_lt Hf1)).trans Hf1
            have k0 : w6.cell? ⟨w3.heap.size, 0, none⟩ = some (.int .i64 (-1)) := by { rw [cell_of_row w6 _ _ _ _ _ Hf1]; rfl }
            have k1 : w6.cell? ⟨w3.heap.size, 1, none⟩ = some (.int .i64 (-1)) := by { rw [cell_of_row w6 _ _ _ _ _ Hf1]; rfl }
            have HF6 := Aside0.mk Hf1
            clear Hf1 hd
            go_wp2_with fail
            refine (Kept_c _ g1 C1 Ax cx x LX.out ⟨-1, -1⟩ (VK_of Kx1.out) Vx0.out).mono ?_
            rintro _ w7 ⟨rfl, hd⟩
            replace Ky1 := Aside0.mk (VS_below Ky1.out hd)
            replace Vy0 := Aside0.mk (VS_below Vy0.out hd)
            replace Bf := Aside0.mk (below_step Bf.out hd)
            have Hf7 := (hd.block w3.heap.size (blk_lt HF6.out)).trans HF6.out
            have m0 : w7.cell? ⟨w3.heap.size, 0, none⟩ = some (.int .i64 (-1)) := by { rw [cell_of_row w7 _ _ _ _ _ Hf7]; rfl }
            have m1 : w7.cell? ⟨w3.heap.size, 1, none⟩ = some (.int .i64 (-1)) := by { rw [cell_of_row w7 _ _ _ _ _ Hf7]; rfl }
            clear Hf7 hd k0 k1
            go_wp2_with fail
            refine (Kept_c _ g2 C2 Ay cy y LY.out ⟨-1, -1⟩ (VK_of Ky1.out) Vy0.out).mono ?_
            rintro _ w8 ⟨rfl, hd⟩
            replace Bf := Aside0.mk (below_step Bf.out hd)
            clear hd m0 m1
            go_wp2_with fail
            go_ret
            exact ⟨rfl, Bf.out⟩)
end Go.Proofs.Ytdnileakboefgaa.PResidueKeepsArguments
