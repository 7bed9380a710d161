/- The reference's Mod. -/
import Derived.Test.YtdnileakboefgaaLResidueKeepsArgumentsB
namespace Go.Proofs.Ytdnileakboefgaa.PResidueKeepsArguments
open Go.RowKit Go.Proofs.YtdnileakboefgaaW.PrintWords Go.Proofs.YtdnileakboefgaaW.PrintLast Go.Proofs.YtdnileakboefgaaW.PrintMore
set_option linter.unusedVariables false
set_option linter.unusedSimpArgs false

theorem rMod_eq {a n : Int} (hn : 1 ≤ n) (h1 : n ≤ 9223372036854775807) : railplanref1_Mod.f a n = some (a % n) := Mod_eq hn h1

end Go.Proofs.Ytdnileakboefgaa.PResidueKeepsArguments
