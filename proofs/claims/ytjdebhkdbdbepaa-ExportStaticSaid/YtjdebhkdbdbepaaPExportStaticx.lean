-- Lean text by a program of this repo (wip/tools/printx.py), out of Lean's own print of the translation
import Derived.Test.YtjdebhkdbdbepaaPExportStaticx0
import Derived.Test.YtjdebhkdbdbepaaPExportStaticx1
import Derived.Test.YtjdebhkdbdbepaaPExportStaticx2
import Derived.Test.YtjdebhkdbdbepaaPExportStaticx3
import Derived.Test.YtjdebhkdbdbepaaPExportStaticx4
import Derived.Test.YtjdebhkdbdbepaaPExportStaticx5
import Derived.Test.YtjdebhkdbdbepaaPExportStaticx6
import Derived.Test.YtjdebhkdbdbepaaPExportStaticx7
import Derived.Test.YtjdebhkdbdbepaaPExportStaticx8
import Derived.Test.YtjdebhkdbdbepaaPExportStaticx9
import Derived.Test.YtjdebhkdbdbepaaPExportStaticx10
namespace Go.Proofs.Ytjdebhkdbdbepaa.PExportStatic
open Go.RowKit Go.Proofs.YtjdebhkdbdbepaaW.PrintWords Go.Proofs.YtjdebhkdbdbepaaW.PrintLast Go.Proofs.YtjdebhkdbdbepaaW.PrintMore
attribute [local go_sem] max2_int min2_int max_two min_two max_three min_three max_four min_four   -- for this text's walks alone
set_option linter.unusedVariables false
set_option linter.unusedSimpArgs false

end Go.Proofs.Ytjdebhkdbdbepaa.PExportStatic
