-- Lean text by a program of this repo (wip/tools/printx.py), out of Lean's own print of the translation
import Derived.Test.YtbnchdfmkmkhnaaPTrieManyx0
import Derived.Test.YtbnchdfmkmkhnaaPTrieManyx1
import Derived.Test.YtbnchdfmkmkhnaaPTrieManyx2
import Derived.Test.YtbnchdfmkmkhnaaPTrieManyx3
import Derived.Test.YtbnchdfmkmkhnaaPTrieManyx4
namespace Go.Proofs.Ytbnchdfmkmkhnaa.PTrieMany
open Go.RowKit Go.Proofs.YtbnchdfmkmkhnaaW.PrintWords Go.Proofs.YtbnchdfmkmkhnaaW.PrintLast Go.Proofs.YtbnchdfmkmkhnaaW.PrintMore
attribute [local go_sem] max2_int min2_int max_two min_two max_three min_three max_four min_four   -- for this text's walks alone
set_option linter.unusedVariables false
set_option linter.unusedSimpArgs false

end Go.Proofs.Ytbnchdfmkmkhnaa.PTrieMany
