/- What the reference's Bit computes; for the statement ExportTells. -/
import Derived.Test.YtjdebhkdbdbepaaPreAExportTells
namespace Go.Proofs.Ytjdebhkdbdbepaa.PreExportTells
open Go.RowKit Go.Proofs.Ytjdebhkdbdbepaa.PExportTells Go.Proofs.YtjdebhkdbdbepaaW.PrintWords Go.Proofs.YtjdebhkdbdbepaaW.PrintLast Go.Proofs.YtjdebhkdbdbepaaW.PrintMore Go.Proofs.Ytjdebhkdbdbepaa.Pre
theorem Bit (a i : Int) (ha : U32 a) (h0 : 0 ≤ i) (h : i < 32) : interregnumref05_Bit.f a i = some (bit a i) := by
  unfold interregnumref05_Bit.f
  rw [bit_prog a i ha h0 h, w64 _ (by omega) (by omega), u64 _ (by omega) (by omega), if_pos (by omega)]
end Go.Proofs.Ytjdebhkdbdbepaa.PreExportTells
