-- Lean text by a program of this repo (wip/tools/printx.py), out of Lean's own print of the translation
import Derived.Test.YtbnchdfmkmkhnaaPTrieNonex0
import Derived.Test.YtbnchdfmkmkhnaaPTrieNonex1
import Derived.Test.YtbnchdfmkmkhnaaPTrieNonex2
namespace Go.Proofs.Ytbnchdfmkmkhnaa.PTrieNone
open Go.RowKit Go.Proofs.YtbnchdfmkmkhnaaW.PrintWords Go.Proofs.YtbnchdfmkmkhnaaW.PrintLast Go.Proofs.YtbnchdfmkmkhnaaW.PrintMore
attribute [local go_sem] max2_int min2_int max_two min_two max_three min_three max_four min_four   -- for this text's walks alone
set_option linter.unusedVariables false
set_option linter.unusedSimpArgs false

end Go.Proofs.Ytbnchdfmkmkhnaa.PTrieNone
