/- Slices of spans as the walks of the statements' own functions carry them. -/
import Derived.Test.YtdnileakboefgaaPResidueKeepsArgumentsx
namespace Go.Proofs.Ytdnileakboefgaa.PResidueKeepsArguments
open Go.RowKit Go.Proofs.YtdnileakboefgaaW.PrintWords Go.Proofs.YtdnileakboefgaaW.PrintLast Go.Proofs.YtdnileakboefgaaW.PrintMore
set_option linter.unusedVariables false

/-- The value v reads as the spans xs, whatever becomes of the world above its present size. -/
def VS (w : World) (v : Value) (xs : List S35) : Prop := Kd.V k35 35 w 0 (fun _ => True) v xs
theorem VS_below {w w' : World} {v : Value} {xs : List S35} (h : VS w v xs) (hb : Below w.heap.size w w') : VS w' v xs := Kd.V_below h hb
theorem VS_alloc {w : World} {v : Value} {xs : List S35} (h : VS w v xs) (o : Obj) : VS (w.alloc o) v xs := Kd.V_alloc h o
theorem VS_drewN {w : World} {v : Value} {xs : List S35} (h : VS w v xs) (n : Nat) : VS (w.drewN n) v xs := Kd.V_drewN h n
theorem VS_slice {w : World} {v : Value} {xs : List S35} (h : VS w v xs) : ∃ A c, v = .slice A xs.length c := Kd.V_slice h
theorem VS_C {w : World} {A : Option Addr} {c : Nat} {xs : List S35} (h : VS w (.slice A xs.length c) xs) : Kd.C k35 w A xs.length xs := (Kd.V_reads' h).2.2
theorem VS_le {w : World} {A : Option Addr} {c : Nat} {xs : List S35} (h : VS w (.slice A xs.length c) xs) : xs.length ≤ c := (Kd.V_reads' h).2.1
theorem VS_V {w : World} {base : Nat} {v : Value} {xs : List S35} (h : VS w v xs) : Kd.V k35 35 w base (fun _ => True) v xs := h
theorem VS_R {w : World} {base : Nat} {ok : Nat → Prop} {v : Value} {xs : List S35} (h : Kd.R k35 35 w base ok v xs) : VS w v xs := Kd.V_mono (Kd.R_V h) (fun _ _ => trivial)
theorem heap_span : Kd.Heap k35 := Kd.heap_iso _ (Kd.heap_pair (Kd.heap_int _) (Kd.heap_int _))
theorem VS_of {w : World} {A : Option Addr} {c : Nat} {xs : List S35} (h : Kd.C k35 w A xs.length xs) (hc : xs.length ≤ c) : VS w (.slice A xs.length c) xs :=
  Kd.V_mk hc (fun W' hm => heap_span.C (fun k hk => hm k trivial hk) h)
end Go.Proofs.Ytdnileakboefgaa.PResidueKeepsArguments
