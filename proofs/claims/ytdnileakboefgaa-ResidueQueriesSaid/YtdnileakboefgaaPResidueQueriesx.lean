-- PRINTED BY print.sh 35421559b90ae4d0a3588c463048766b98c2df88dd9212a6774a882060cdf62d: not written by this session
import Derived.Test.YtdnileakboefgaaPResidueQueriesx0
import Derived.Test.YtdnileakboefgaaPResidueQueriesx1
import Derived.Test.YtdnileakboefgaaPResidueQueriesx2
import Derived.Test.YtdnileakboefgaaPResidueQueriesx3
import Derived.Test.YtdnileakboefgaaPResidueQueriesx4
import Derived.Test.YtdnileakboefgaaPResidueQueriesx5
import Derived.Test.YtdnileakboefgaaPResidueQueriesx6
import Derived.Test.YtdnileakboefgaaPResidueQueriesx7
namespace Go.Proofs.Ytdnileakboefgaa.PResidueQueries
open Go.RowKit Go.Proofs.YtdnileakboefgaaW.PrintWords Go.Proofs.YtdnileakboefgaaW.PrintLast Go.Proofs.YtdnileakboefgaaW.PrintMore
attribute [local go_sem] max2_int min2_int max_two min_two max_three min_three max_four min_four   -- for this text's walks alone
set_option linter.unusedVariables false
set_option linter.unusedSimpArgs false

end Go.Proofs.Ytdnileakboefgaa.PResidueQueries
