-- Lean text by a program of this repo (wip/tools/printx.py), out of Lean's own print of the translation
import Derived.Test.YtediicgkcgfghaaPDecideLessx0
import Derived.Test.YtediicgkcgfghaaPDecideLessx1
import Derived.Test.YtediicgkcgfghaaPDecideLessx2
import Derived.Test.YtediicgkcgfghaaPDecideLessx3
import Derived.Test.YtediicgkcgfghaaPDecideLessx4
import Derived.Test.YtediicgkcgfghaaPDecideLessx5
namespace Go.Proofs.Ytediicgkcgfghaa.PDecideLess
open Go.RowKit Go.Proofs.YtediicgkcgfghaaW.PrintWords Go.Proofs.YtediicgkcgfghaaW.PrintLast Go.Proofs.YtediicgkcgfghaaW.PrintMore
attribute [local go_sem] max2_int min2_int max_two min_two max_three min_three max_four min_four   -- for this text's walks alone
set_option linter.unusedVariables false
set_option linter.unusedSimpArgs false

end Go.Proofs.Ytediicgkcgfghaa.PDecideLess
