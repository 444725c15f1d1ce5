/- What the reference's Bit computes; for the statement TriePlays. -/
import Derived.Test.YteheclbneoodeaaPreATriePlays
namespace Go.Proofs.Yteheclbneoodeaa.PreTriePlays
open Go.RowKit Go.Proofs.Yteheclbneoodeaa.PTriePlays Go.Proofs.YteheclbneoodeaaW.PrintWords Go.Proofs.YteheclbneoodeaaW.PrintLast Go.Proofs.YteheclbneoodeaaW.PrintMore Go.Proofs.Yteheclbneoodeaa.Pre
theorem Bit (a i : Int) (ha : U32 a) (h0 : 0 ≤ i) (h : i < 32) : interregnumref05_Bit.f a i = some (bit a i) := by
  unfold interregnumref05_Bit.f
  rw [bit_prog a i ha h0 h, w64 _ (by omega) (by omega), u64 _ (by omega) (by omega), if_pos (by omega)]
end Go.Proofs.Yteheclbneoodeaa.PreTriePlays
