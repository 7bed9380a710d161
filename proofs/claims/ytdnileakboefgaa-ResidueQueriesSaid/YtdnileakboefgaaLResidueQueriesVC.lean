/- The contracts of the makers and of Same, over slices that are only read. -/
import Derived.Test.YtdnileakboefgaaLResidueQueriesVS
namespace Go.Proofs.Ytdnileakboefgaa.PResidueQueries
open Go.RowKit Go.Proofs.YtdnileakboefgaaW.PrintWords Go.Proofs.YtdnileakboefgaaW.PrintLast Go.Proofs.YtdnileakboefgaaW.PrintMore
set_option linter.unusedVariables false

theorem Period_c {a p : Int} {w : World} (h : railplankeep_Period.f a = some p) : Calls Try.prog 15 #[.int .i64 a] w fun x w' => x = .returned (.int .i64 p) ∧ Below w.heap.size w w' := by
  refine (railplankeep_Period.calls a p w h).mono ?_
  rintro x w' ⟨rfl, nd, rfl⟩
  exact ⟨rfl, pw_below_drewN (Below.refl _ _) nd⟩
theorem Set_c {k : Nat} {t : Int} {A1 : Option Addr} {c1 : Nat} {l : List Int} {r : List S35} {w : World} (h : railplankeep_Set.f k t l = some r) (hl : Kd.C (Kd.int .i64) w A1 l.length l) (hc : l.length ≤ c1) :
    Calls Try.prog 19 #[.int .i64 t, .slice A1 l.length c1] w fun x w' => ∃ A c, x = .returned (.slice A r.length c) ∧ VS w' (.slice A r.length c) r ∧ Below w.heap.size w w' := by
  refine (railplankeep_Set.calls k t A1 c1 l r w hl hc h).mono ?_
  rintro x w' ⟨v, rfl, hr, hb⟩
  have hv := VS_R hr
  obtain ⟨A, c, rfl⟩ := VS_slice hv
  exact ⟨A, c, rfl, hv, hb⟩
theorem awake_c {k : Nat} {w : World} (h : railplanlaw2_awake.f k = some true) : Calls Try.prog 16 #[] w fun x w' => x = .returned (.bool true) ∧ Below w.heap.size w w' := by
  refine (railplanlaw2_awake.calls k true w h).mono ?_
  rintro x w' ⟨rfl, hb⟩
  exact ⟨rfl, hb⟩
theorem Same_c {k : Nat} {A1 A2 : Option Addr} {c1 c2 : Nat} {a b : List S35} {r : Bool} {w : World} (h : api_Span.f k a b = some r) (ha : VS w (.slice A1 a.length c1) a) (hb : VS w (.slice A2 b.length c2) b) :
    Calls Try.prog 23 #[.slice A1 a.length c1, .slice A2 b.length c2] w fun x w' => x = .returned (.bool r) ∧ Below w.heap.size w w' := by
  refine (api_Span.calls k A1 c1 a A2 c2 b r w (VS_C ha) (VS_le ha) (VS_C hb) (VS_le hb) h).mono ?_
  rintro x w' ⟨rfl, nd, rfl⟩
  exact ⟨rfl, pw_below_drewN (Below.refl _ _) nd⟩
end Go.Proofs.Ytdnileakboefgaa.PResidueQueries
