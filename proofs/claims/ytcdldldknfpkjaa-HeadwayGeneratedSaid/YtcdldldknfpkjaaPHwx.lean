-- (printed by the kit's print.py, called by printmany.sh)
import Derived.Test.YtcdldldknfpkjaaPHwx0
import Derived.Test.YtcdldldknfpkjaaPHwx1
import Derived.Test.YtcdldldknfpkjaaPHwx2
import Derived.Test.YtcdldldknfpkjaaPHwx3
import Derived.Test.YtcdldldknfpkjaaPHwx4
import Derived.Test.YtcdldldknfpkjaaPHwx5
import Derived.Test.YtcdldldknfpkjaaPHwx6
import Derived.Test.YtcdldldknfpkjaaPHwx7
import Derived.Test.YtcdldldknfpkjaaPHwx8
import Derived.Test.YtcdldldknfpkjaaPHwx9
import Derived.Test.YtcdldldknfpkjaaPHwx10
import Derived.Test.YtcdldldknfpkjaaPHwx11
namespace Go.Proofs.Ytcdldldknfpkjaa.PHw
open Go.RowKit Go.Proofs.YtcdldldknfpkjaaW.PrintWords Go.Proofs.YtcdldldknfpkjaaW.PrintLast Go.Proofs.YtcdldldknfpkjaaW.PrintMore
attribute [local go_sem] max2_int min2_int max_two min_two max_three min_three max_four min_four   -- for this text's walks alone
set_option linter.unusedVariables false
set_option linter.unusedSimpArgs false

end Go.Proofs.Ytcdldldknfpkjaa.PHw
