/- What the reference's Bit computes; for the statement PrefixBack. -/
import Derived.Test.YtndmlmfkbkefcaaPreAPrefixBack
namespace Go.Proofs.Ytndmlmfkbkefcaa.PrePrefixBack
open Go.RowKit Go.Proofs.Ytndmlmfkbkefcaa.PPrefixBack Go.Proofs.YtndmlmfkbkefcaaW.PrintWords Go.Proofs.YtndmlmfkbkefcaaW.PrintLast Go.Proofs.YtndmlmfkbkefcaaW.PrintMore Go.Proofs.Ytndmlmfkbkefcaa.Pre
theorem Bit (a i : Int) (ha : U32 a) (h0 : 0 ≤ i) (h : i < 32) : interregnumref05_Bit.f a i = some (bit a i) := by
  unfold interregnumref05_Bit.f
  rw [bit_prog a i ha h0 h, w64 _ (by omega) (by omega), u64 _ (by omega) (by omega), if_pos (by omega)]
end Go.Proofs.Ytndmlmfkbkefcaa.PrePrefixBack
