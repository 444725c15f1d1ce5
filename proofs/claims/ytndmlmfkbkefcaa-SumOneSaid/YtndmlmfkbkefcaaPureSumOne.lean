/- Bytes of which one is another one have another sum; the plain part of the proof. Conditions: none. -/
import Derived.Test.YtndmlmfkbkefcaaPSumOnex1
import Derived.Test.YtndmlmfkbkefcaaCrc
namespace Go.Proofs.Ytndmlmfkbkefcaa.Pure
open Go.RowKit Go.Proofs.Ytndmlmfkbkefcaa.PSumOne Go.Proofs.YtndmlmfkbkefcaaW.PrintWords Go.Proofs.YtndmlmfkbkefcaaW.PrintLast Go.Proofs.Ytndmlmfkbkefcaa

theorem SumOne_answers : interregnumlaw01_answers.f 100 = some true := by
  unfold interregnumlaw01_answers.f
  decide +kernel
theorem SumOne_sum (l : List Int) (hb : Crc.Bytes l) (hl : l.length < 4611686018427387904) (k : Nat) (hk : 10 * l.length < k) : sum_Of.f k l = some (Crc.crc l) :=
  Crc.sumOf_tells sum_Of.l0 sum_Of.l1 (fun _ _ _ _ _ => rfl) (fun _ _ _ _ _ _ => rfl) l hb hl k hk

theorem SumOne : interregnumlaw01_SumOne.Pure := by
  intro l a1 a2 hm hl hw h1 h2
  have hb := Crc.Bytes.wf hw
  have hl' : l.length < 4611686018427387904 := by omega
  have h2 := Crc.wf_u8 h2
  refine ⟨10 * l.length + 101, ?_⟩
  have ha := at_rounds interregnumlaw01_answers.mono (k' := 10 * l.length + 100) (by omega) SumOne_answers
  unfold interregnumlaw01_SumOne.f
  simp only [interregnumlaw01_SumOne.j0]
  split
  · rw [ha]; simp
  · split
    · rw [ha]; simp
    · rename_i hn hgt
      by_cases hz : a2 = 0
      · rw [if_pos (by simpa using hz), ha]; simp
      · rw [if_neg (by simpa using hz)]
        simp only [Option.bind_some, List.nil_append, List.length_nil]
        rw [if_pos (by omega), if_neg hn]
        have hu := Crc.wf_u16 h1
        rw [Crc.w64 a1 (by omega) (by omega), Int.tmod_eq_emod_of_nonneg (by omega)]
        have hp : 0 < (l.length : Int) := by omega
        have hi0 : 0 ≤ a1 % (l.length : Int) := Int.emod_nonneg _ (by omega)
        have hi1 : a1 % (l.length : Int) < (l.length : Int) := Int.emod_lt_of_pos _ hp
        generalize a1 % (l.length : Int) = i at hi0 hi1
        obtain ⟨i, rfl⟩ := Int.eq_ofNat_of_zero_le hi0
        have hlt : i < l.length := by omega
        rw [if_pos hi0, if_pos hi1, ha, Int.toNat_natCast]
        have hr := hb.rd i hlt
        have hd := Crc.drop_rd l i hlt
        have el : l = l.take i ++ [rd l (i : Int)] ++ l.drop (i + 1) := by
          rw [List.append_assoc, List.singleton_append, ← hd, List.take_append_drop]
        have es : l.set i (Go.bits .xor .u8 (rd l (i : Int)) a2) = l.take i ++ [Go.bits .xor .u8 (rd l (i : Int)) a2] ++ l.drop (i + 1) := by
          rw [List.set_eq_take_append_cons_drop, if_pos hlt, List.append_assoc, List.singleton_append]
        have hb2 : Crc.Bytes (l.set i (Go.bits .xor .u8 (rd l (i : Int)) a2)) := fun x hx => by
          rcases List.mem_or_eq_of_mem_set hx with hx | rfl
          · exact hb x hx
          · exact Crc.xor8_byte _ _ hr h2
        have hne : Crc.crc l ≠ Crc.crc (l.set i (Go.bits .xor .u8 (rd l (i : Int)) a2)) := by
          have h3 := Crc.crc_one (l.take i) (l.drop (i + 1)) (rd l (i : Int)) a2 hr h2 hz
          rw [← es, ← el] at h3
          exact h3
        rw [SumOne_sum l hb hl' _ (by omega), SumOne_sum _ hb2 (by rw [List.length_set]; omega) _ (by rw [List.length_set]; omega)]
        simpa using hne

end Go.Proofs.Ytndmlmfkbkefcaa.Pure
