/- The sum of any bytes, up to 3000 of them, is the reference's; the plain part of the proof. Conditions: none. -/
import Derived.Test.YtndmlmfkbkefcaaPSumOfx1
import Derived.Test.YtndmlmfkbkefcaaCrc
namespace Go.Proofs.Ytndmlmfkbkefcaa.Pure
open Go.RowKit Go.Proofs.Ytndmlmfkbkefcaa.PSumOf Go.Proofs.YtndmlmfkbkefcaaW.PrintWords Go.Proofs.YtndmlmfkbkefcaaW.PrintLast Go.Proofs.Ytndmlmfkbkefcaa

theorem SumOf_answers : interregnumlaw01_answers.f 100 = some true := by
  unfold interregnumlaw01_answers.f
  decide +kernel
theorem SumOf_sum (l : List Int) (hb : Crc.Bytes l) (hl : l.length < 4611686018427387904) (k : Nat) (hk : 10 * l.length < k) : sum_Of.f k l = some (Crc.crc l) :=
  Crc.sumOf_tells sum_Of.l0 sum_Of.l1 (fun _ _ _ _ _ => rfl) (fun _ _ _ _ _ _ => rfl) l hb hl k hk
theorem SumOf_ref (l : List Int) (hb : Crc.Bytes l) (hl : l.length < 4611686018427387904) (k : Nat) (hk : 10 * l.length < k) : interregnumref01_Crc.f k l = some (Crc.crc l) :=
  Crc.crc_tells interregnumref01_Crc.l0 interregnumref01_Crc.l1 (fun _ _ _ _ => rfl) (fun _ _ _ _ _ => rfl) l hb hl k hk

theorem SumOf : interregnumlaw01_SumOf.Pure := by
  intro l hm hl hw
  have hb := Crc.Bytes.wf hw
  have hl' : l.length < 4611686018427387904 := by omega
  refine ⟨10 * l.length + 100, ?_⟩
  have ha := at_rounds interregnumlaw01_answers.mono (k' := 10 * l.length + 100) (by omega) SumOf_answers
  unfold interregnumlaw01_SumOf.f
  rw [ha, SumOf_sum l hb hl' _ (by omega), SumOf_ref l hb hl' _ (by omega)]
  simp

end Go.Proofs.Ytndmlmfkbkefcaa.Pure
