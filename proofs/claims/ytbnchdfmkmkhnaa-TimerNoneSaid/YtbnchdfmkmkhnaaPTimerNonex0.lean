-- Lean text by a program of this repo (wip/tools/printx.py), out of Lean's own print of the translation
import Derived.Test.YtbnchdfmkmkhnaaProg
import Derived.Below
import Derived.Deep.Draws
import Derived.Deep.AppendLies
import Derived.Maps.AppendAt
import Derived.OwnWalk
import Derived.Laws.BytesArg
import Derived.Laws.MakeOwn
import Derived.Laws.OwnMore
import Derived.Deep.OwnRows
import Derived.Tactics
import Derived.Lib.ConvBytes
import Derived.Laws.Slices
import Derived.WalkKit
import Derived.KernelRfl
import Derived.RowKit3
import Derived.Deep.LoopGhost
import Derived.Deep.QuietTactic
import Derived.BigQuiet
import Derived.WideLaws
import Derived.Deep.DeepCutAuto
import Derived.Deep.CutBlock
import Derived.Deep.RegionHeld3
import Derived.Laws.Rows
import Derived.Lib.AppendStr
import Derived.ArgAppend
import Derived.Laws.IdiomCopy
import Derived.OrdersHeld
import Derived.Laws.BitsLemmas
import Derived.RowKit
import Derived.Test.YtbnchdfmkmkhnaaWWords
import Derived.Test.YtbnchdfmkmkhnaaWLast
import Derived.Test.YtbnchdfmkmkhnaaWTab
import Derived.Test.YtbnchdfmkmkhnaaWFour
import Derived.Test.YtbnchdfmkmkhnaaWQPut
import Derived.Test.YtbnchdfmkmkhnaaWApart
import Derived.Test.YtbnchdfmkmkhnaaWArr
import Derived.Test.YtbnchdfmkmkhnaaWZeros
import Derived.Test.YtbnchdfmkmkhnaaWFoot
import Derived.Test.YtbnchdfmkmkhnaaWKept
import Derived.Test.YtbnchdfmkmkhnaaWShare
import Derived.Test.YtbnchdfmkmkhnaaWN
import Derived.Test.YtbnchdfmkmkhnaaWFootNe
import Derived.Test.YtbnchdfmkmkhnaaWAt
import Derived.Test.YtbnchdfmkmkhnaaWEqStruct
import Derived.Test.YtbnchdfmkmkhnaaWRepsOne
import Derived.Test.YtbnchdfmkmkhnaaWInv
import Derived.Test.YtbnchdfmkmkhnaaWInvWords
import Derived.Test.YtbnchdfmkmkhnaaWGuard
import Derived.Test.YtbnchdfmkmkhnaaWNEv
import Derived.Test.YtbnchdfmkmkhnaaWMore
namespace Go.Proofs.Ytbnchdfmkmkhnaa.PTimerNone
open Go.RowKit Go.Proofs.YtbnchdfmkmkhnaaW.PrintWords Go.Proofs.YtbnchdfmkmkhnaaW.PrintLast Go.Proofs.YtbnchdfmkmkhnaaW.PrintMore
attribute [local go_sem] max2_int min2_int max_two min_two max_three min_three max_four min_four   -- for this text's walks alone
set_option linter.unusedVariables false
set_option linter.unusedSimpArgs false



def errW : Option Int → Value
  | none => .nilIface
  | some c => .iface 0 (.int .i64 c)
theorem errW_none : errW none = .nilIface := rfl
theorem errW_some (c : Int) : errW (some c) = .iface 0 (.int .i64 c) := rfl

-- the values' own types

end Go.Proofs.Ytbnchdfmkmkhnaa.PTimerNone
