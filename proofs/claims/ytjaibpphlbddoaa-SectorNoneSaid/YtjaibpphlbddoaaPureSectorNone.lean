/- A disk that is none; the plain part of the proof. Conditions: none. -/
import Derived.Test.YtjaibpphlbddoaaBndSectorNone
namespace Go.Proofs.Ytjaibpphlbddoaa.Pure
open Go.RowKit Go.Proofs.Ytjaibpphlbddoaa.PSectorNone Go.Proofs.YtjaibpphlbddoaaW.PrintWords Go.Proofs.YtjaibpphlbddoaaW.PrintLast
theorem SectorNone : BndSectorNone.Pure := by
  intro x0 x1 _ _
  rfl
end Go.Proofs.Ytjaibpphlbddoaa.Pure
