-- Lean text by a program of this repo (wip/tools/printx.py), out of Lean's own print of the translation
import Derived.Test.YtbnchdfmkmkhnaaPPolicyNonex0
import Derived.Test.YtbnchdfmkmkhnaaPPolicyNonex1
import Derived.Test.YtbnchdfmkmkhnaaPPolicyNonex2
import Derived.Test.YtbnchdfmkmkhnaaPPolicyNonex3
import Derived.Test.YtbnchdfmkmkhnaaPPolicyNonex4
import Derived.Test.YtbnchdfmkmkhnaaPPolicyNonex5
import Derived.Test.YtbnchdfmkmkhnaaPPolicyNonex6
namespace Go.Proofs.Ytbnchdfmkmkhnaa.PPolicyNone
open Go.RowKit Go.Proofs.YtbnchdfmkmkhnaaW.PrintWords Go.Proofs.YtbnchdfmkmkhnaaW.PrintLast Go.Proofs.YtbnchdfmkmkhnaaW.PrintMore
attribute [local go_sem] max2_int min2_int max_two min_two max_three min_three max_four min_four   -- for this text's walks alone
set_option linter.unusedVariables false
set_option linter.unusedSimpArgs false

end Go.Proofs.Ytbnchdfmkmkhnaa.PPolicyNone
