/- What the five operations make: rows of their own. -/
import Derived.Test.YtdnileakboefgaaLResidueKeepsArgumentsK1
namespace Go.Proofs.Ytdnileakboefgaa.PResidueKeepsArguments
open Go.RowKit Go.Proofs.YtdnileakboefgaaW.PrintWords Go.Proofs.YtdnileakboefgaaW.PrintLast Go.Proofs.YtdnileakboefgaaW.PrintMore
set_option linter.unusedVariables false
/-- What an operation's call leaves: a row behind the world of the call. -/
def Made (w : World) (x : Ending) (w' : World) : Prop := ∃ v r e, x = .returned (.tuple #[v, .int .i64 e]) ∧ Kd.R k35 35 w' w.heap.size (fun _ => True) v r ∧ List.length r ≤ 7200 ∧ Below w.heap.size w w'
theorem own_Union {k : Nat} {t e : Int} {A1 A2 : Option Addr} {c1 c2 : Nat} {a b r : List S35} {w : World} (h : residue_Union.f k t a b = some (r, e)) (hl : r.length ≤ 7200) (ha : VS w (.slice A1 a.length c1) a) (hb : VS w (.slice A2 b.length c2) b) :
    Calls Try.prog 35 #[.int .i64 t, .slice A1 a.length c1, .slice A2 b.length c2] w (Made w) := by
  refine (residue_Union.calls k t (fun _ => True) A1 c1 a (fun _ => True) A2 c2 b r e w ha hb h).mono ?_
  rintro x w' ⟨v, rfl, hr, hb⟩
  exact ⟨v, r, e, rfl, Kd.R_mono hr (fun _ _ => trivial), hl, hb⟩
theorem own_Inter {k : Nat} {t e : Int} {A1 A2 : Option Addr} {c1 c2 : Nat} {a b r : List S35} {w : World} (h : residue_Intersect.f k t a b = some (r, e)) (hl : r.length ≤ 7200) (ha : VS w (.slice A1 a.length c1) a) (hb : VS w (.slice A2 b.length c2) b) :
    Calls Try.prog 37 #[.int .i64 t, .slice A1 a.length c1, .slice A2 b.length c2] w (Made w) := by
  refine (residue_Intersect.calls k t (fun _ => True) A1 c1 a (fun _ => True) A2 c2 b r e w ha hb h).mono ?_
  rintro x w' ⟨v, rfl, hr, hb⟩
  exact ⟨v, r, e, rfl, Kd.R_mono hr (fun _ _ => trivial), hl, hb⟩
theorem own_Sum {k : Nat} {t e : Int} {A1 A2 : Option Addr} {c1 c2 : Nat} {a b r : List S35} {w : World} (h : residue_Sum.f k t a b = some (r, e)) (hl : r.length ≤ 7200) (ha : VS w (.slice A1 a.length c1) a) (hb : VS w (.slice A2 b.length c2) b) :
    Calls Try.prog 26 #[.int .i64 t, .slice A1 a.length c1, .slice A2 b.length c2] w (Made w) := by
  refine (residue_Sum.calls k t (fun _ => True) A1 c1 a (fun _ => True) A2 c2 b r e w ha hb h).mono ?_
  rintro x w' ⟨v, rfl, hr, hb⟩
  exact ⟨v, r, e, rfl, Kd.R_mono hr (fun _ _ => trivial), hl, hb⟩
theorem own_Comp {k : Nat} {t e : Int} {A1 : Option Addr} {c1 : Nat} {a r : List S35} {w : World} (h : residue_Complement.f k t a = some (r, e)) (hl : r.length ≤ 7200) (ha : VS w (.slice A1 a.length c1) a) :
    Calls Try.prog 34 #[.int .i64 t, .slice A1 a.length c1] w (Made w) := by
  refine (residue_Complement.calls k t (fun _ => True) A1 c1 a r e w ha h).mono ?_
  rintro x w' ⟨v, rfl, hr, hb⟩
  exact ⟨v, r, e, rfl, Kd.R_mono hr (fun _ _ => trivial), hl, hb⟩
theorem own_Shift {k : Nat} {t n e : Int} {A1 : Option Addr} {c1 : Nat} {a r : List S35} {w : World} (h : residue_Shift.f k t a n = some (r, e)) (hl : r.length ≤ 7200) (ha : VS w (.slice A1 a.length c1) a) :
    Calls Try.prog 24 #[.int .i64 t, .slice A1 a.length c1, .int .i64 n] w (Made w) := by
  refine (residue_Shift.calls k t (fun _ => True) A1 c1 a n r e w ha h).mono ?_
  rintro x w' ⟨v, rfl, hr, hb⟩
  exact ⟨v, r, e, rfl, Kd.R_mono hr (fun _ _ => trivial), hl, hb⟩
end Go.Proofs.Ytdnileakboefgaa.PResidueKeepsArguments
