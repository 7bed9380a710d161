/- The contracts of the set operations, over slices that are only read. -/
import Derived.Test.YtdnileakboefgaaLResidueSetOperationsVC
namespace Go.Proofs.Ytdnileakboefgaa.PResidueSetOperations
open Go.RowKit Go.Proofs.YtdnileakboefgaaW.PrintWords Go.Proofs.YtdnileakboefgaaW.PrintLast Go.Proofs.YtdnileakboefgaaW.PrintMore
set_option linter.unusedVariables false

theorem Union_c {k : Nat} {t e : Int} {A1 A2 : Option Addr} {c1 c2 : Nat} {a b r : List S35} {w : World} (h : residue_Union.f k t a b = some (r, e)) (ha : VS w (.slice A1 a.length c1) a) (hb : VS w (.slice A2 b.length c2) b) :
    Calls Try.prog 35 #[.int .i64 t, .slice A1 a.length c1, .slice A2 b.length c2] w fun x w' => ∃ A c, x = .returned (.tuple #[.slice A r.length c, .int .i64 e]) ∧ VS w' (.slice A r.length c) r ∧ Below w.heap.size w w' := by
  refine (residue_Union.calls k t (fun _ => True) A1 c1 a (fun _ => True) A2 c2 b r e w ha hb h).mono ?_
  rintro x w' ⟨v, rfl, hr, hb⟩
  have hv := VS_R hr
  obtain ⟨A, c, rfl⟩ := VS_slice hv
  exact ⟨A, c, rfl, hv, hb⟩
theorem rUnion_c {k : Nat} {t e : Int} {A1 A2 : Option Addr} {c1 c2 : Nat} {a b r : List S35} {w : World} (h : railplanref1_Union.f k t a b = some (r, e)) (ha : VS w (.slice A1 a.length c1) a) (hb : VS w (.slice A2 b.length c2) b) :
    Calls Try.prog 36 #[.int .i64 t, .slice A1 a.length c1, .slice A2 b.length c2] w fun x w' => ∃ A c, x = .returned (.tuple #[.slice A r.length c, .int .i64 e]) ∧ VS w' (.slice A r.length c) r ∧ Below w.heap.size w w' := by
  refine (railplanref1_Union.calls k t A1 c1 a A2 c2 b r e w (VS_C ha) (VS_le ha) (VS_C hb) (VS_le hb) h).mono ?_
  rintro x w' ⟨v, rfl, hr, hb⟩
  have hv := VS_R hr
  obtain ⟨A, c, rfl⟩ := VS_slice hv
  exact ⟨A, c, rfl, hv, hb⟩
theorem Inter_c {k : Nat} {t e : Int} {A1 A2 : Option Addr} {c1 c2 : Nat} {a b r : List S35} {w : World} (h : residue_Intersect.f k t a b = some (r, e)) (ha : VS w (.slice A1 a.length c1) a) (hb : VS w (.slice A2 b.length c2) b) :
    Calls Try.prog 37 #[.int .i64 t, .slice A1 a.length c1, .slice A2 b.length c2] w fun x w' => ∃ A c, x = .returned (.tuple #[.slice A r.length c, .int .i64 e]) ∧ VS w' (.slice A r.length c) r ∧ Below w.heap.size w w' := by
  refine (residue_Intersect.calls k t (fun _ => True) A1 c1 a (fun _ => True) A2 c2 b r e w ha hb h).mono ?_
  rintro x w' ⟨v, rfl, hr, hb⟩
  have hv := VS_R hr
  obtain ⟨A, c, rfl⟩ := VS_slice hv
  exact ⟨A, c, rfl, hv, hb⟩
theorem rInter_c {k : Nat} {t e : Int} {A1 A2 : Option Addr} {c1 c2 : Nat} {a b r : List S35} {w : World} (h : railplanref1_Intersect.f k t a b = some (r, e)) (ha : VS w (.slice A1 a.length c1) a) (hb : VS w (.slice A2 b.length c2) b) :
    Calls Try.prog 38 #[.int .i64 t, .slice A1 a.length c1, .slice A2 b.length c2] w fun x w' => ∃ A c, x = .returned (.tuple #[.slice A r.length c, .int .i64 e]) ∧ VS w' (.slice A r.length c) r ∧ Below w.heap.size w w' := by
  refine (railplanref1_Intersect.calls k t A1 c1 a A2 c2 b r e w (VS_C ha) (VS_le ha) (VS_C hb) (VS_le hb) h).mono ?_
  rintro x w' ⟨v, rfl, hr, hb⟩
  have hv := VS_R hr
  obtain ⟨A, c, rfl⟩ := VS_slice hv
  exact ⟨A, c, rfl, hv, hb⟩
theorem Comp_c {k : Nat} {t e : Int} {A1 : Option Addr} {c1 : Nat} {a r : List S35} {w : World} (h : residue_Complement.f k t a = some (r, e)) (ha : VS w (.slice A1 a.length c1) a) :
    Calls Try.prog 34 #[.int .i64 t, .slice A1 a.length c1] w fun x w' => ∃ A c, x = .returned (.tuple #[.slice A r.length c, .int .i64 e]) ∧ VS w' (.slice A r.length c) r ∧ Below w.heap.size w w' := by
  refine (residue_Complement.calls k t (fun _ => True) A1 c1 a r e w ha h).mono ?_
  rintro x w' ⟨v, rfl, hr, hb⟩
  have hv := VS_R hr
  obtain ⟨A, c, rfl⟩ := VS_slice hv
  exact ⟨A, c, rfl, hv, hb⟩
theorem rComp_c {k : Nat} {t e : Int} {A1 : Option Addr} {c1 : Nat} {a r : List S35} {w : World} (h : railplanref1_Complement.f k t a = some (r, e)) (ha : VS w (.slice A1 a.length c1) a) :
    Calls Try.prog 39 #[.int .i64 t, .slice A1 a.length c1] w fun x w' => ∃ A c, x = .returned (.tuple #[.slice A r.length c, .int .i64 e]) ∧ VS w' (.slice A r.length c) r ∧ Below w.heap.size w w' := by
  refine (railplanref1_Complement.calls k t A1 c1 a r e w (VS_C ha) (VS_le ha) h).mono ?_
  rintro x w' ⟨v, rfl, hr, hb⟩
  have hv := VS_R hr
  obtain ⟨A, c, rfl⟩ := VS_slice hv
  exact ⟨A, c, rfl, hv, hb⟩
end Go.Proofs.Ytdnileakboefgaa.PResidueSetOperations
