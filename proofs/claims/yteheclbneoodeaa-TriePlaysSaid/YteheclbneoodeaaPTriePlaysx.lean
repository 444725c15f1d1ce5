-- Lean text by a program of this repo (wip/tools/printx.py), out of Lean's own print of the translation
import Derived.Test.YteheclbneoodeaaPTriePlaysx0
import Derived.Test.YteheclbneoodeaaPTriePlaysx1
import Derived.Test.YteheclbneoodeaaPTriePlaysx2
import Derived.Test.YteheclbneoodeaaPTriePlaysx3
import Derived.Test.YteheclbneoodeaaPTriePlaysx4
import Derived.Test.YteheclbneoodeaaPTriePlaysx5
namespace Go.Proofs.Yteheclbneoodeaa.PTriePlays
open Go.RowKit Go.Proofs.YteheclbneoodeaaW.PrintWords Go.Proofs.YteheclbneoodeaaW.PrintLast Go.Proofs.YteheclbneoodeaaW.PrintMore
attribute [local go_sem] max2_int min2_int max_two min_two max_three min_three max_four min_four   -- for this text's walks alone
set_option linter.unusedVariables false
set_option linter.unusedSimpArgs false

end Go.Proofs.Yteheclbneoodeaa.PTriePlays
