-- Lean text by a program of this repo (wip/tools/printx.py), out of Lean's own print of the translation
import Derived.Test.YtpkckkmgnlhhcaaPPathLongx0
import Derived.Test.YtpkckkmgnlhhcaaPPathLongx1
import Derived.Test.YtpkckkmgnlhhcaaPPathLongx2
import Derived.Test.YtpkckkmgnlhhcaaPPathLongx3
import Derived.Test.YtpkckkmgnlhhcaaPPathLongx4
import Derived.Test.YtpkckkmgnlhhcaaPPathLongx5
namespace Go.Proofs.Ytpkckkmgnlhhcaa.PPathLong
open Go.RowKit Go.Proofs.YtpkckkmgnlhhcaaW.PrintWords Go.Proofs.YtpkckkmgnlhhcaaW.PrintLast Go.Proofs.YtpkckkmgnlhhcaaW.PrintMore
attribute [local go_sem] max2_int min2_int max_two min_two max_three min_three max_four min_four   -- for this text's walks alone
set_option linter.unusedVariables false
set_option linter.unusedSimpArgs false

end Go.Proofs.Ytpkckkmgnlhhcaa.PPathLong
