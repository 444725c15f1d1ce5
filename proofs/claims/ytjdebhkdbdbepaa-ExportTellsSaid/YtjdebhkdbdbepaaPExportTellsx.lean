-- Lean text by a program of this repo (wip/tools/printx.py), out of Lean's own print of the translation
import Derived.Test.YtjdebhkdbdbepaaPExportTellsx0
import Derived.Test.YtjdebhkdbdbepaaPExportTellsx1
import Derived.Test.YtjdebhkdbdbepaaPExportTellsx2
import Derived.Test.YtjdebhkdbdbepaaPExportTellsx3
import Derived.Test.YtjdebhkdbdbepaaPExportTellsx4
import Derived.Test.YtjdebhkdbdbepaaPExportTellsx5
import Derived.Test.YtjdebhkdbdbepaaPExportTellsx6
import Derived.Test.YtjdebhkdbdbepaaPExportTellsx7
import Derived.Test.YtjdebhkdbdbepaaPExportTellsx8
import Derived.Test.YtjdebhkdbdbepaaPExportTellsx9
import Derived.Test.YtjdebhkdbdbepaaPExportTellsx10
import Derived.Test.YtjdebhkdbdbepaaPExportTellsx11
import Derived.Test.YtjdebhkdbdbepaaPExportTellsx12
import Derived.Test.YtjdebhkdbdbepaaPExportTellsx13
import Derived.Test.YtjdebhkdbdbepaaPExportTellsx14
namespace Go.Proofs.Ytjdebhkdbdbepaa.PExportTells
open Go.RowKit Go.Proofs.YtjdebhkdbdbepaaW.PrintWords Go.Proofs.YtjdebhkdbdbepaaW.PrintLast Go.Proofs.YtjdebhkdbdbepaaW.PrintMore
attribute [local go_sem] max2_int min2_int max_two min_two max_three min_three max_four min_four   -- for this text's walks alone
set_option linter.unusedVariables false
set_option linter.unusedSimpArgs false

end Go.Proofs.Ytjdebhkdbdbepaa.PExportTells
