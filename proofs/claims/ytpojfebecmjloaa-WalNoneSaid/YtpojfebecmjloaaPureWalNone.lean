/- A log, and a disk, that are none, or too small; the plain part of the proof. Conditions: none. -/
import Derived.Test.YtpojfebecmjloaaBndWalNone
namespace Go.Proofs.Ytpojfebecmjloaa.Pure
open Go.RowKit Go.Proofs.Ytpojfebecmjloaa.PWalNone Go.Proofs.YtpojfebecmjloaaW.PrintWords Go.Proofs.YtpojfebecmjloaaW.PrintLast
theorem WalNone_u8 {x : Int} (h : (Lit.int .u8 x).wf = true) : 0 ≤ x ∧ x < 256 := by
  simp [Lit.wf, IntKind.min, IntKind.max, IntKind.signed, IntKind.bits] at h
  omega
theorem WalNone : BndWalNone.Pure := by
  intro x0 x1 _ h1
  unfold interregnumlaw04_WalNone.f
  exact if_pos (WalNone_u8 h1)
end Go.Proofs.Ytpojfebecmjloaa.Pure
