/- Just those of the loose writes land that are kept, the last of a sector counting: the plain part is already in the supply. -/
import Derived.Test.YtjaibpphlbddoaaBndSectorLands
namespace Go.Proofs.Ytjaibpphlbddoaa.Pure
open Go.RowKit Go.Proofs.Ytjaibpphlbddoaa.PSectorLands Go.Proofs.YtjaibpphlbddoaaW.PrintWords Go.Proofs.YtjaibpphlbddoaaW.PrintLast
theorem SectorLands : BndSectorLands.Pure := by
  intro x0 x1 h0 h1
  unfold interregnumlaw02_SectorLands.f
  rw [if_pos]
  refine ⟨fun y hy => ?_, ?_⟩
  · have h := h0.2 y hy
    simp [Lit.wf, IntKind.min, IntKind.max, IntKind.signed, IntKind.bits] at h
    omega
  · simp [Lit.wf, IntKind.min, IntKind.max, IntKind.signed, IntKind.bits] at h1
    omega
end Go.Proofs.Ytjaibpphlbddoaa.Pure
