-- Lean text by a program of this repo (wip/tools/printx.py), out of Lean's own print of the translation
import Derived.Test.YtndmlmfkbkefcaaProg
import Derived.Below
import Derived.Deep.Draws
import Derived.Deep.AppendLies
import Derived.Maps.AppendAt
import Derived.OwnWalk
import Derived.Laws.BytesArg
import Derived.Laws.MakeOwn
import Derived.Laws.OwnMore
import Derived.Deep.OwnRows
import Derived.Tactics
import Derived.Lib.ConvBytes
import Derived.Laws.Slices
import Derived.WalkKit
import Derived.KernelRfl
import Derived.RowKit3
import Derived.Deep.LoopGhost
import Derived.Deep.QuietTactic
import Derived.BigQuiet
import Derived.WideLaws
import Derived.Deep.DeepCutAuto
import Derived.Deep.CutBlock
import Derived.Deep.RegionHeld3
import Derived.Laws.Rows
import Derived.Lib.AppendStr
import Derived.ArgAppend
import Derived.Laws.IdiomCopy
import Derived.OrdersHeld
import Derived.Laws.BitsLemmas
import Derived.RowKit
import Derived.Test.YtndmlmfkbkefcaaWWords
import Derived.Test.YtndmlmfkbkefcaaWLast
import Derived.Test.YtndmlmfkbkefcaaWTab
import Derived.Test.YtndmlmfkbkefcaaWFour
import Derived.Test.YtndmlmfkbkefcaaWQPut
import Derived.Test.YtndmlmfkbkefcaaWApart
import Derived.Test.YtndmlmfkbkefcaaWArr
import Derived.Test.YtndmlmfkbkefcaaWZeros
import Derived.Test.YtndmlmfkbkefcaaWFoot
import Derived.Test.YtndmlmfkbkefcaaWKept
import Derived.Test.YtndmlmfkbkefcaaWShare
import Derived.Test.YtndmlmfkbkefcaaWN
import Derived.Test.YtndmlmfkbkefcaaWFootNe
import Derived.Test.YtndmlmfkbkefcaaWAt
import Derived.Test.YtndmlmfkbkefcaaWEqStruct
import Derived.Test.YtndmlmfkbkefcaaWRepsOne
import Derived.Test.YtndmlmfkbkefcaaWInv
import Derived.Test.YtndmlmfkbkefcaaWInvWords
import Derived.Test.YtndmlmfkbkefcaaWGuard
import Derived.Test.YtndmlmfkbkefcaaWNEv
import Derived.Test.YtndmlmfkbkefcaaWMore
namespace Go.Proofs.Ytndmlmfkbkefcaa.PSumOf
open Go.RowKit Go.Proofs.YtndmlmfkbkefcaaW.PrintWords Go.Proofs.YtndmlmfkbkefcaaW.PrintLast Go.Proofs.YtndmlmfkbkefcaaW.PrintMore
attribute [local go_sem] max2_int min2_int max_two min_two max_three min_three max_four min_four   -- for this text's walks alone
set_option linter.unusedVariables false
set_option linter.unusedSimpArgs false



def errW : Option Int → Value
  | none => .nilIface
  | some c => .iface 0 (.int .i64 c)
theorem errW_none : errW none = .nilIface := rfl
theorem errW_some (c : Int) : errW (some c) = .iface 0 (.int .i64 c) := rfl

theorem info5 : (Try.prog.info? 5).map (fun i => (i.zero, i.size, i.bytes)) = some (some (.int .u8 0), 1, 1) := by kernel_rfl
-- the values' own types

end Go.Proofs.Ytndmlmfkbkefcaa.PSumOf
