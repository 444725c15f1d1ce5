/- Timers that are none; the plain part of the proof. Conditions: none. -/
import Derived.Test.YtbnchdfmkmkhnaaBndTimerNone
namespace Go.Proofs.Ytbnchdfmkmkhnaa.Pure
open Go.RowKit Go.Proofs.Ytbnchdfmkmkhnaa.PTimerNone Go.Proofs.YtbnchdfmkmkhnaaW.PrintWords Go.Proofs.YtbnchdfmkmkhnaaW.PrintLast
theorem TimerNone : BndTimerNone.Pure := by
  intro x0 x1 _ _
  show interregnumlaw17_answers.f = some true
  kernel_rfl
end Go.Proofs.Ytbnchdfmkmkhnaa.Pure
