-- Lean text by a program of this repo (wip/tools/printx.py), out of Lean's own print of the translation
import Derived.Test.YtpkckkmgnlhhcaaPRouteMarksx0
import Derived.Test.YtpkckkmgnlhhcaaPRouteMarksx1
import Derived.Test.YtpkckkmgnlhhcaaPRouteMarksx2
import Derived.Test.YtpkckkmgnlhhcaaPRouteMarksx3
import Derived.Test.YtpkckkmgnlhhcaaPRouteMarksx4
import Derived.Test.YtpkckkmgnlhhcaaPRouteMarksx5
import Derived.Test.YtpkckkmgnlhhcaaPRouteMarksx6
import Derived.Test.YtpkckkmgnlhhcaaPRouteMarksx7
import Derived.Test.YtpkckkmgnlhhcaaPRouteMarksx8
import Derived.Test.YtpkckkmgnlhhcaaPRouteMarksx9
namespace Go.Proofs.Ytpkckkmgnlhhcaa.PRouteMarks
open Go.RowKit Go.Proofs.YtpkckkmgnlhhcaaW.PrintWords Go.Proofs.YtpkckkmgnlhhcaaW.PrintLast Go.Proofs.YtpkckkmgnlhhcaaW.PrintMore
attribute [local go_sem] max2_int min2_int max_two min_two max_three min_three max_four min_four   -- for this text's walks alone
set_option linter.unusedVariables false
set_option linter.unusedSimpArgs false

end Go.Proofs.Ytpkckkmgnlhhcaa.PRouteMarks
