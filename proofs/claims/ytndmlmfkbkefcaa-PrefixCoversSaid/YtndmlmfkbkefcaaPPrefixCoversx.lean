-- Lean text by a program of this repo (wip/tools/printx.py), out of Lean's own print of the translation
import Derived.Test.YtndmlmfkbkefcaaPPrefixCoversx0
import Derived.Test.YtndmlmfkbkefcaaPPrefixCoversx1
import Derived.Test.YtndmlmfkbkefcaaPPrefixCoversx2
import Derived.Test.YtndmlmfkbkefcaaPPrefixCoversx3
import Derived.Test.YtndmlmfkbkefcaaPPrefixCoversx4
import Derived.Test.YtndmlmfkbkefcaaPPrefixCoversx5
import Derived.Test.YtndmlmfkbkefcaaPPrefixCoversx6
import Derived.Test.YtndmlmfkbkefcaaPPrefixCoversx7
import Derived.Test.YtndmlmfkbkefcaaPPrefixCoversx8
namespace Go.Proofs.Ytndmlmfkbkefcaa.PPrefixCovers
open Go.RowKit Go.Proofs.YtndmlmfkbkefcaaW.PrintWords Go.Proofs.YtndmlmfkbkefcaaW.PrintLast Go.Proofs.YtndmlmfkbkefcaaW.PrintMore
attribute [local go_sem] max2_int min2_int max_two min_two max_three min_three max_four min_four   -- for this text's walks alone
set_option linter.unusedVariables false
set_option linter.unusedSimpArgs false

end Go.Proofs.Ytndmlmfkbkefcaa.PPrefixCovers
