/- The contracts of the queries, over slices that are only read. -/
import Derived.Test.YtdnileakboefgaaLResidueQueriesVC
namespace Go.Proofs.Ytdnileakboefgaa.PResidueQueries
open Go.RowKit Go.Proofs.YtdnileakboefgaaW.PrintWords Go.Proofs.YtdnileakboefgaaW.PrintLast Go.Proofs.YtdnileakboefgaaW.PrintMore
set_option linter.unusedVariables false
set_option linter.unusedSimpArgs false

theorem Next_c {k : Nat} {t : Int} {A1 : Option Addr} {c1 : Nat} {a : List S35} {w : World} {b : Int} {r : Int} {q : Bool} (h : residue_Next.f k t a b = some (r, q)) (ha : VS w (.slice A1 a.length c1) a) :
    Calls Try.prog 29 #[.int .i64 t, .slice A1 a.length c1, .int .i64 b] w fun x w' => x = .returned (.tuple #[.int .i64 r, .bool q]) ∧ Below w.heap.size w w' := by
  refine (residue_Next.calls k t A1 c1 a b r q w (VS_C ha) (VS_le ha) h).mono ?_
  rintro x w' ⟨rfl, hb⟩
  exact ⟨rfl, hb⟩
theorem rNext_c {k : Nat} {t : Int} {A1 : Option Addr} {c1 : Nat} {a : List S35} {w : World} {b : Int} {r : Int} {q : Bool} (h : railplanref1_Next.f k t a b = some (r, q)) (ha : VS w (.slice A1 a.length c1) a) :
    Calls Try.prog 31 #[.int .i64 t, .slice A1 a.length c1, .int .i64 b] w fun x w' => x = .returned (.tuple #[.int .i64 r, .bool q]) ∧ Below w.heap.size w w' := by
  refine (railplanref1_Next.calls k t A1 c1 a b r q w (VS_C ha) (VS_le ha) h).mono ?_
  rintro x w' ⟨rfl, nd, rfl⟩
  exact ⟨rfl, pw_below_drewN (Below.refl _ _) nd⟩
theorem Has_c {k : Nat} {t : Int} {A1 : Option Addr} {c1 : Nat} {a : List S35} {w : World} {b : Int} {r : Bool} (h : residue_Has.f k t a b = some r) (ha : VS w (.slice A1 a.length c1) a) :
    Calls Try.prog 28 #[.int .i64 t, .slice A1 a.length c1, .int .i64 b] w fun x w' => x = .returned (.bool r) ∧ Below w.heap.size w w' := by
  refine (residue_Has.calls k t A1 c1 a b r w (VS_C ha) (VS_le ha) h).mono ?_
  rintro x w' ⟨rfl, hb⟩
  exact ⟨rfl, hb⟩
theorem rHas_c {k : Nat} {t : Int} {A1 : Option Addr} {c1 : Nat} {a : List S35} {w : World} {b : Int} {r : Bool} (h : railplanref1_Has.f k t a b = some r) (ha : VS w (.slice A1 a.length c1) a) :
    Calls Try.prog 32 #[.int .i64 t, .slice A1 a.length c1, .int .i64 b] w fun x w' => x = .returned (.bool r) ∧ Below w.heap.size w w' := by
  refine (railplanref1_Has.calls k t A1 c1 a b r w (VS_C ha) (VS_le ha) h).mono ?_
  rintro x w' ⟨rfl, nd, rfl⟩
  exact ⟨rfl, pw_below_drewN (Below.refl _ _) nd⟩
theorem Count_c {k : Nat} {t : Int} {A1 : Option Addr} {c1 : Nat} {a : List S35} {w : World} {r : Int} (h : residue_Count.f k t a = some r) (ha : VS w (.slice A1 a.length c1) a) :
    Calls Try.prog 30 #[.int .i64 t, .slice A1 a.length c1] w fun x w' => x = .returned (.int .i64 r) ∧ Below w.heap.size w w' := by
  refine (residue_Count.calls k t A1 c1 a r w (VS_C ha) (VS_le ha) h).mono ?_
  rintro x w' ⟨rfl, hb⟩
  exact ⟨rfl, hb⟩
theorem rCount_c {k : Nat} {t : Int} {A1 : Option Addr} {c1 : Nat} {a : List S35} {w : World} {r : Int} (h : railplanref1_Count.f k t a = some r) (ha : VS w (.slice A1 a.length c1) a) :
    Calls Try.prog 33 #[.int .i64 t, .slice A1 a.length c1] w fun x w' => x = .returned (.int .i64 r) ∧ Below w.heap.size w w' := by
  refine (railplanref1_Count.calls k t A1 c1 a r w (VS_C ha) (VS_le ha) h).mono ?_
  rintro x w' ⟨rfl, nd, rfl⟩
  exact ⟨rfl, pw_below_drewN (Below.refl _ _) nd⟩
end Go.Proofs.Ytdnileakboefgaa.PResidueQueries
