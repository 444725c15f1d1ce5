-- Lean text by a program of this repo (wip/tools/printx.py), out of Lean's own print of the translation
import Derived.Test.YtediicgkcgfghaaPDecideStepsx0
import Derived.Test.YtediicgkcgfghaaPDecideStepsx1
import Derived.Test.YtediicgkcgfghaaPDecideStepsx2
import Derived.Test.YtediicgkcgfghaaPDecideStepsx3
import Derived.Test.YtediicgkcgfghaaPDecideStepsx4
namespace Go.Proofs.Ytediicgkcgfghaa.PDecideSteps
open Go.RowKit Go.Proofs.YtediicgkcgfghaaW.PrintWords Go.Proofs.YtediicgkcgfghaaW.PrintLast Go.Proofs.YtediicgkcgfghaaW.PrintMore
attribute [local go_sem] max2_int min2_int max_two min_two max_three min_three max_four min_four   -- for this text's walks alone
set_option linter.unusedVariables false
set_option linter.unusedSimpArgs false

end Go.Proofs.Ytediicgkcgfghaa.PDecideSteps
