/- Bytes of which up to 32 bits side by side are turned have another sum; the plain part of the proof. Conditions: none. -/
import Derived.Test.YtndmlmfkbkefcaaPSumBurstx1
import Derived.Test.YtndmlmfkbkefcaaCrc
namespace Go.Proofs.Ytndmlmfkbkefcaa.Pure
open Go.RowKit Go.Proofs.Ytndmlmfkbkefcaa.PSumBurst Go.Proofs.YtndmlmfkbkefcaaW.PrintWords Go.Proofs.YtndmlmfkbkefcaaW.PrintLast Go.Proofs.YtndmlmfkbkefcaaW.PrintMore Go.Proofs.Ytndmlmfkbkefcaa

theorem SumBurst_answers : interregnumlaw01_answers.f 100 = some true := by
  unfold interregnumlaw01_answers.f
  decide +kernel
theorem SumBurst_sum (l : List Int) (hb : Crc.Bytes l) (hl : l.length < 4611686018427387904) (k : Nat) (hk : 10 * l.length < k) : sum_Of.f k l = some (Crc.crc l) :=
  Crc.sumOf_tells sum_Of.l0 sum_Of.l1 (fun _ _ _ _ _ => rfl) (fun _ _ _ _ _ _ => rfl) l hb hl k hk
/-- byte i of the number that is turned -/
def tb (a2 : Int) (i : Nat) : Int := a2 / 2 ^ (8 * i) % 256
theorem tb_byte (a2 : Int) (i : Nat) : 0 ≤ tb a2 i ∧ tb a2 i < 256 := by
  unfold tb; omega
theorem shr_tb (a2 : Int) (i : Nat) (hi : i < 4) : (shr .u32 a2 (IntKind.u64.wrap (wrap64 (8 * (i : Int))))) % 256 = tb a2 i := by
  have e : IntKind.u64.wrap (wrap64 (8 * (i : Int))) = ((8 * i : Nat) : Int) := by
    rw [Crc.w64 _ (by omega) (by omega)]
    simp [IntKind.wrap, IntKind.bits, IntKind.signed]
    omega
  rw [e]
  unfold shr tb
  rw [Int.toNat_natCast, Nat.min_eq_left (by simp [IntKind.bits]; omega)]
theorem wrap_count (i : Nat) (hi : i < 4) : 0 ≤ IntKind.u64.wrap (wrap64 (8 * (i : Int))) := by
  rw [Crc.w64 _ (by omega) (by omega)]
  simp [IntKind.wrap, IntKind.bits, IntKind.signed]
  omega
theorem l0_step (k : Nat) (x0 : List Int) (x2 : Int) (x7 : List Int) (at_ i : Nat) (hi : i < 4) (h : at_ + i < x7.length) (hl : x7.length < 4611686018427387904) :
    interregnumlaw01_SumBurst.l0 (k + 1) x0 x2 x7 (at_ : Int) (i : Int) = interregnumlaw01_SumBurst.l0 k x0 x2 (x7.set (at_ + i) (Go.bits .xor .u8 (rd x7 ((at_ + i : Nat) : Int)) (tb x2 i))) (at_ : Int) ((i + 1 : Nat) : Int) := by
  have e : wrap64 ((at_ : Int) + (i : Int)) = ((at_ + i : Nat) : Int) := by rw [Crc.w64 _ (by omega) (by omega)]; omega
  have e2 : wrap64 ((i : Int) + 1) = ((i + 1 : Nat) : Int) := by rw [Crc.w64 _ (by omega) (by omega)]; omega
  conv => lhs; unfold interregnumlaw01_SumBurst.l0
  rw [if_pos (by omega), e, if_pos (by omega), if_pos (by omega), if_pos (wrap_count i hi), shr_tb x2 i hi, e2, Int.toNat_natCast]
theorem rd_at (p q : List Int) (c : Int) (n : Nat) (h : n = p.length) : rd (p ++ c :: q) (n : Int) = c := by
  subst h
  unfold Go.Proofs.YtndmlmfkbkefcaaW.PrintWords.rd
  simp [List.getD_eq_getElem?_getD]
theorem set_at (p q : List Int) (c d : Int) (n : Nat) (h : n = p.length) : (p ++ c :: q).set n d = p ++ d :: q := by
  subst h
  simp

theorem SumBurst : interregnumlaw01_SumBurst.Pure := by
  intro l a1 a2 hm hl hw h1 h2
  have hb := Crc.Bytes.wf hw
  have hl' : l.length < 4611686018427387904 := by omega
  have h2 := Crc.wf_u32 h2
  have hu := Crc.wf_u16 h1
  refine ⟨10 * l.length + 106, ?_⟩
  have ha := at_rounds interregnumlaw01_answers.mono (k' := 10 * l.length + 105) (by omega) SumBurst_answers
  have ha1 := at_rounds interregnumlaw01_answers.mono (k' := 10 * l.length + 100) (by omega) SumBurst_answers
  unfold interregnumlaw01_SumBurst.f
  simp only [interregnumlaw01_SumBurst.j0]
  split
  · rw [ha]; simp
  · split
    · rw [ha]; simp
    · rename_i hn hgt
      by_cases hz : a2 = 0
      · rw [if_pos (by simpa using hz), ha]; simp
      · rw [if_neg (by simpa using hz)]
        simp only [Option.bind_some, List.nil_append, List.length_nil]
        rw [if_pos (by omega), Crc.w64 ((l.length : Int) - 4) (by omega) (by omega), if_neg (by omega), Crc.w64 a1 (by omega) (by omega), Int.tmod_eq_emod_of_nonneg (by omega)]
        have hi0 : 0 ≤ a1 % ((l.length : Int) - 4) := Int.emod_nonneg _ (by omega)
        have hi1 : a1 % ((l.length : Int) - 4) < (l.length : Int) - 4 := Int.emod_lt_of_pos _ (by omega)
        generalize a1 % ((l.length : Int) - 4) = i at hi0 hi1
        obtain ⟨i, rfl⟩ := Int.eq_ofNat_of_zero_le hi0
        -- the list in parts
        obtain ⟨p, c0, c1, c2, c3, q, hp, el⟩ : ∃ (p : List Int) (c0 c1 c2 c3 : Int) (q : List Int), p.length = i ∧ l = p ++ [c0, c1, c2, c3] ++ q := by
          refine ⟨l.take i, rd l (i : Int), rd l ((i + 1 : Nat) : Int), rd l ((i + 2 : Nat) : Int), rd l ((i + 3 : Nat) : Int), l.drop (i + 4), by rw [List.length_take]; omega, ?_⟩
          have d0 := Crc.drop_rd l i (by omega)
          have d1 := Crc.drop_rd l (i + 1) (by omega)
          have d2 := Crc.drop_rd l (i + 2) (by omega)
          have d3 := Crc.drop_rd l (i + 3) (by omega)
          conv => lhs; rw [← List.take_append_drop i l, d0, d1, d2, d3]
          simp
        have hc (c : Int) (h : c ∈ [c0, c1, c2, c3]) : 0 ≤ c ∧ c < 256 := hb c (by rw [el]; simp only [List.mem_append]; exact .inl (.inr h))
        have hc0 := hc c0 (by simp)
        have hc1 := hc c1 (by simp)
        have hc2 := hc c2 (by simp)
        have hc3 := hc c3 (by simp)
        have hlen : l.length = i + 4 + q.length := by rw [el]; simp; omega
        have hbp : Crc.Bytes p := fun x hx => hb x (by rw [el]; simp [hx])
        have hbq : Crc.Bytes q := fun x hx => hb x (by rw [el]; simp [hx])
        have e0 : interregnumlaw01_SumBurst.l0 (10 * l.length + 105) l a2 l (i : Int) 0 = interregnumlaw01_SumBurst.l0 (10 * l.length + 101) l a2 (p ++ [Go.bits .xor .u8 c0 (tb a2 0), Go.bits .xor .u8 c1 (tb a2 1), Go.bits .xor .u8 c2 (tb a2 2), Go.bits .xor .u8 c3 (tb a2 3)] ++ q) (i : Int) 4 := by
          have s0 := l0_step (10 * l.length + 104) l a2 l i 0 (by omega) (by omega) hl'
          have r0 : rd l ((i + 0 : Nat) : Int) = c0 := by rw [el]; simpa using rd_at p (c1 :: c2 :: c3 :: q) c0 (i + 0) (by omega)
          have t0 : l.set (i + 0) (Go.bits .xor .u8 c0 (tb a2 0)) = p ++ (Go.bits .xor .u8 c0 (tb a2 0)) :: c1 :: c2 :: c3 :: q := by rw [el]; simpa using set_at p (c1 :: c2 :: c3 :: q) c0 (Go.bits .xor .u8 c0 (tb a2 0)) (i + 0) (by omega)
          rw [r0, t0] at s0
          refine s0.trans ?_
          generalize Go.bits .xor .u8 c0 (tb a2 0) = b0
          have s1 := l0_step (10 * l.length + 103) l a2 (p ++ b0 :: c1 :: c2 :: c3 :: q) i 1 (by omega) (by simp; omega) (by simp; omega)
          have r1 : rd (p ++ b0 :: c1 :: c2 :: c3 :: q) ((i + 1 : Nat) : Int) = c1 := by simpa using rd_at (p ++ [b0]) (c2 :: c3 :: q) c1 (i + 1) (by simp; omega)
          have t1 : (p ++ b0 :: c1 :: c2 :: c3 :: q).set (i + 1) (Go.bits .xor .u8 c1 (tb a2 1)) = p ++ b0 :: (Go.bits .xor .u8 c1 (tb a2 1)) :: c2 :: c3 :: q := by simpa using set_at (p ++ [b0]) (c2 :: c3 :: q) c1 (Go.bits .xor .u8 c1 (tb a2 1)) (i + 1) (by simp; omega)
          rw [r1, t1] at s1
          refine s1.trans ?_
          generalize Go.bits .xor .u8 c1 (tb a2 1) = b1
          have s2 := l0_step (10 * l.length + 102) l a2 (p ++ b0 :: b1 :: c2 :: c3 :: q) i 2 (by omega) (by simp; omega) (by simp; omega)
          have r2 : rd (p ++ b0 :: b1 :: c2 :: c3 :: q) ((i + 2 : Nat) : Int) = c2 := by simpa using rd_at (p ++ [b0, b1]) (c3 :: q) c2 (i + 2) (by simp; omega)
          have t2 : (p ++ b0 :: b1 :: c2 :: c3 :: q).set (i + 2) (Go.bits .xor .u8 c2 (tb a2 2)) = p ++ b0 :: b1 :: (Go.bits .xor .u8 c2 (tb a2 2)) :: c3 :: q := by simpa using set_at (p ++ [b0, b1]) (c3 :: q) c2 (Go.bits .xor .u8 c2 (tb a2 2)) (i + 2) (by simp; omega)
          rw [r2, t2] at s2
          refine s2.trans ?_
          generalize Go.bits .xor .u8 c2 (tb a2 2) = b2
          have s3 := l0_step (10 * l.length + 101) l a2 (p ++ b0 :: b1 :: b2 :: c3 :: q) i 3 (by omega) (by simp; omega) (by simp; omega)
          have r3 : rd (p ++ b0 :: b1 :: b2 :: c3 :: q) ((i + 3 : Nat) : Int) = c3 := by simpa using rd_at (p ++ [b0, b1, b2]) q c3 (i + 3) (by simp; omega)
          have t3 : (p ++ b0 :: b1 :: b2 :: c3 :: q).set (i + 3) (Go.bits .xor .u8 c3 (tb a2 3)) = p ++ b0 :: b1 :: b2 :: (Go.bits .xor .u8 c3 (tb a2 3)) :: q := by simpa using set_at (p ++ [b0, b1, b2]) q c3 (Go.bits .xor .u8 c3 (tb a2 3)) (i + 3) (by simp; omega)
          rw [r3, t3] at s3
          refine s3.trans ?_
          simp
        rw [e0]
        have x0 := Crc.xor8_byte c0 _ hc0 (tb_byte a2 0)
        have x1 := Crc.xor8_byte c1 _ hc1 (tb_byte a2 1)
        have x2 := Crc.xor8_byte c2 _ hc2 (tb_byte a2 2)
        have x3 := Crc.xor8_byte c3 _ hc3 (tb_byte a2 3)
        have hb2 : Crc.Bytes (p ++ [Go.bits .xor .u8 c0 (tb a2 0), Go.bits .xor .u8 c1 (tb a2 1), Go.bits .xor .u8 c2 (tb a2 2), Go.bits .xor .u8 c3 (tb a2 3)] ++ q) := by
          refine (hbp.append ?_).append hbq
          intro x hx
          simp at hx
          rcases hx with rfl | rfl | rfl | rfl <;> assumption
        have hne : Crc.crc l ≠ Crc.crc (p ++ [Go.bits .xor .u8 c0 (tb a2 0), Go.bits .xor .u8 c1 (tb a2 1), Go.bits .xor .u8 c2 (tb a2 2), Go.bits .xor .u8 c3 (tb a2 3)] ++ q) := by
          intro h
          rw [el] at h
          obtain ⟨z0, z1, z2, z3⟩ := Crc.crc_four p q c0 c1 c2 c3 _ _ _ _ hc0 hc1 hc2 hc3 (tb_byte a2 0) (tb_byte a2 1) (tb_byte a2 2) (tb_byte a2 3) h
          unfold tb at z0 z1 z2 z3
          simp at z0 z1 z2 z3
          apply hz
          omega
        have hlen2 : (p ++ [Go.bits .xor .u8 c0 (tb a2 0), Go.bits .xor .u8 c1 (tb a2 1), Go.bits .xor .u8 c2 (tb a2 2), Go.bits .xor .u8 c3 (tb a2 3)] ++ q).length = l.length := by simp; omega
        conv => lhs; unfold interregnumlaw01_SumBurst.l0
        rw [if_neg (by omega), ha1, Option.bind_some, if_pos rfl, SumBurst_sum l hb hl' _ (by omega), SumBurst_sum _ hb2 (by rw [hlen2]; omega) _ (by rw [hlen2]; omega)]
        simpa using hne

end Go.Proofs.Ytndmlmfkbkefcaa.Pure
