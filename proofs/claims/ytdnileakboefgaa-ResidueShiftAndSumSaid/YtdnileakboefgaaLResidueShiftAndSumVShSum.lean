/- The contracts of Shift and Sum, over slices that are only read. -/
import Derived.Test.YtdnileakboefgaaLResidueShiftAndSumVC
namespace Go.Proofs.Ytdnileakboefgaa.PResidueShiftAndSum
open Go.RowKit Go.Proofs.YtdnileakboefgaaW.PrintWords Go.Proofs.YtdnileakboefgaaW.PrintLast Go.Proofs.YtdnileakboefgaaW.PrintMore
set_option linter.unusedVariables false
set_option linter.unusedSimpArgs false

theorem Shift_c {k : Nat} {t e : Int} {A1 : Option Addr} {c1 : Nat} {a r : List S35} {w : World} {b : Int} (h : residue_Shift.f k t a b = some (r, e)) (ha : VS w (.slice A1 a.length c1) a) :
    Calls Try.prog 24 #[.int .i64 t, .slice A1 a.length c1, .int .i64 b] w fun x w' => ∃ A c, x = .returned (.tuple #[.slice A r.length c, .int .i64 e]) ∧ VS w' (.slice A r.length c) r ∧ Below w.heap.size w w' := by
  refine (residue_Shift.calls k t (fun _ => True) A1 c1 a b r e w ha h).mono ?_
  rintro x w' ⟨v, rfl, hr, hb⟩
  have hv := VS_R hr
  obtain ⟨A, c, rfl⟩ := VS_slice hv
  exact ⟨A, c, rfl, hv, hb⟩
theorem rShift_c {k : Nat} {t e : Int} {A1 : Option Addr} {c1 : Nat} {a r : List S35} {w : World} {b : Int} (h : railplanref1_Shift.f k t a b = some (r, e)) (ha : VS w (.slice A1 a.length c1) a) :
    Calls Try.prog 25 #[.int .i64 t, .slice A1 a.length c1, .int .i64 b] w fun x w' => ∃ A c, x = .returned (.tuple #[.slice A r.length c, .int .i64 e]) ∧ VS w' (.slice A r.length c) r ∧ Below w.heap.size w w' := by
  refine (railplanref1_Shift.calls k t A1 c1 a b r e w (VS_C ha) (VS_le ha) h).mono ?_
  rintro x w' ⟨v, rfl, hr, hb⟩
  have hv := VS_R hr
  obtain ⟨A, c, rfl⟩ := VS_slice hv
  exact ⟨A, c, rfl, hv, hb⟩
theorem Sum_c {k : Nat} {t e : Int} {A1 A2 : Option Addr} {c1 c2 : Nat} {a b r : List S35} {w : World} (h : residue_Sum.f k t a b = some (r, e)) (ha : VS w (.slice A1 a.length c1) a) (hb : VS w (.slice A2 b.length c2) b) :
    Calls Try.prog 26 #[.int .i64 t, .slice A1 a.length c1, .slice A2 b.length c2] w fun x w' => ∃ A c, x = .returned (.tuple #[.slice A r.length c, .int .i64 e]) ∧ VS w' (.slice A r.length c) r ∧ Below w.heap.size w w' := by
  refine (residue_Sum.calls k t (fun _ => True) A1 c1 a (fun _ => True) A2 c2 b r e w ha hb h).mono ?_
  rintro x w' ⟨v, rfl, hr, hb⟩
  have hv := VS_R hr
  obtain ⟨A, c, rfl⟩ := VS_slice hv
  exact ⟨A, c, rfl, hv, hb⟩
theorem rSum_c {k : Nat} {t e : Int} {A1 A2 : Option Addr} {c1 c2 : Nat} {a b r : List S35} {w : World} (h : railplanref1_Sum.f k t a b = some (r, e)) (ha : VS w (.slice A1 a.length c1) a) (hb : VS w (.slice A2 b.length c2) b) :
    Calls Try.prog 27 #[.int .i64 t, .slice A1 a.length c1, .slice A2 b.length c2] w fun x w' => ∃ A c, x = .returned (.tuple #[.slice A r.length c, .int .i64 e]) ∧ VS w' (.slice A r.length c) r ∧ Below w.heap.size w w' := by
  refine (railplanref1_Sum.calls k t A1 c1 a A2 c2 b r e w (VS_C ha) (VS_le ha) (VS_C hb) (VS_le hb) h).mono ?_
  rintro x w' ⟨v, rfl, hr, hb⟩
  have hv := VS_R hr
  obtain ⟨A, c, rfl⟩ := VS_slice hv
  exact ⟨A, c, rfl, hv, hb⟩
end Go.Proofs.Ytdnileakboefgaa.PResidueShiftAndSum
