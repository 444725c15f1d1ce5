-- Lean text by a program of this repo (wip/tools/printx.py), out of Lean's own print of the translation
import Derived.Test.YtpojfebecmjloaaPWalSupersx0
import Derived.Test.YtpojfebecmjloaaPWalSupersx1
import Derived.Test.YtpojfebecmjloaaPWalSupersx2
import Derived.Test.YtpojfebecmjloaaPWalSupersx3
import Derived.Test.YtpojfebecmjloaaPWalSupersx4
import Derived.Test.YtpojfebecmjloaaPWalSupersx5
import Derived.Test.YtpojfebecmjloaaPWalSupersx6
import Derived.Test.YtpojfebecmjloaaPWalSupersx7
import Derived.Test.YtpojfebecmjloaaPWalSupersx8
namespace Go.Proofs.Ytpojfebecmjloaa.PWalSupers
open Go.RowKit Go.Proofs.YtpojfebecmjloaaW.PrintWords Go.Proofs.YtpojfebecmjloaaW.PrintLast Go.Proofs.YtpojfebecmjloaaW.PrintMore
attribute [local go_sem] max2_int min2_int max_two min_two max_three min_three max_four min_four   -- for this text's walks alone
set_option linter.unusedVariables false
set_option linter.unusedSimpArgs false

end Go.Proofs.Ytpojfebecmjloaa.PWalSupers
