-- Lean text by a program of this repo (wip/tools/printx.py), out of Lean's own print of the translation
import Derived.Test.YtjdebhkdbdbepaaPExportLoopsx0
import Derived.Test.YtjdebhkdbdbepaaPExportLoopsx1
import Derived.Test.YtjdebhkdbdbepaaPExportLoopsx2
import Derived.Test.YtjdebhkdbdbepaaPExportLoopsx3
import Derived.Test.YtjdebhkdbdbepaaPExportLoopsx4
import Derived.Test.YtjdebhkdbdbepaaPExportLoopsx5
import Derived.Test.YtjdebhkdbdbepaaPExportLoopsx6
import Derived.Test.YtjdebhkdbdbepaaPExportLoopsx7
import Derived.Test.YtjdebhkdbdbepaaPExportLoopsx8
import Derived.Test.YtjdebhkdbdbepaaPExportLoopsx9
namespace Go.Proofs.Ytjdebhkdbdbepaa.PExportLoops
open Go.RowKit Go.Proofs.YtjdebhkdbdbepaaW.PrintWords Go.Proofs.YtjdebhkdbdbepaaW.PrintLast Go.Proofs.YtjdebhkdbdbepaaW.PrintMore
attribute [local go_sem] max2_int min2_int max_two min_two max_three min_three max_four min_four   -- for this text's walks alone
set_option linter.unusedVariables false
set_option linter.unusedSimpArgs false

end Go.Proofs.Ytjdebhkdbdbepaa.PExportLoops
