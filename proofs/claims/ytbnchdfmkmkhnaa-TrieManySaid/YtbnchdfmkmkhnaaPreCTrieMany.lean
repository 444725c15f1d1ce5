/- What the reference's Bit computes; for the statement TrieMany. -/
import Derived.Test.YtbnchdfmkmkhnaaPreATrieMany
namespace Go.Proofs.Ytbnchdfmkmkhnaa.PreTrieMany
open Go.RowKit Go.Proofs.Ytbnchdfmkmkhnaa.PTrieMany Go.Proofs.YtbnchdfmkmkhnaaW.PrintWords Go.Proofs.YtbnchdfmkmkhnaaW.PrintLast Go.Proofs.YtbnchdfmkmkhnaaW.PrintMore Go.Proofs.Ytbnchdfmkmkhnaa.Pre
theorem Bit (a i : Int) (ha : U32 a) (h0 : 0 ≤ i) (h : i < 32) : interregnumref05_Bit.f a i = some (bit a i) := by
  unfold interregnumref05_Bit.f
  rw [bit_prog a i ha h0 h, w64 _ (by omega) (by omega), u64 _ (by omega) (by omega), if_pos (by omega)]
end Go.Proofs.Ytbnchdfmkmkhnaa.PreTrieMany
