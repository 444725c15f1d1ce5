-- Lean text by a program of this repo (wip/tools/printx.py), out of Lean's own print of the translation
import Derived.Test.YtndmlmfkbkefcaaPPrefixBackx0
import Derived.Test.YtndmlmfkbkefcaaPPrefixBackx1
import Derived.Test.YtndmlmfkbkefcaaPPrefixBackx2
import Derived.Test.YtndmlmfkbkefcaaPPrefixBackx3
import Derived.Test.YtndmlmfkbkefcaaPPrefixBackx4
import Derived.Test.YtndmlmfkbkefcaaPPrefixBackx5
import Derived.Test.YtndmlmfkbkefcaaPPrefixBackx6
import Derived.Test.YtndmlmfkbkefcaaPPrefixBackx7
namespace Go.Proofs.Ytndmlmfkbkefcaa.PPrefixBack
open Go.RowKit Go.Proofs.YtndmlmfkbkefcaaW.PrintWords Go.Proofs.YtndmlmfkbkefcaaW.PrintLast Go.Proofs.YtndmlmfkbkefcaaW.PrintMore
attribute [local go_sem] max2_int min2_int max_two min_two max_three min_three max_four min_four   -- for this text's walks alone
set_option linter.unusedVariables false
set_option linter.unusedSimpArgs false

end Go.Proofs.Ytndmlmfkbkefcaa.PPrefixBack
