/- What any bytes are the prefixes of, or of none; the plain part of the proof. Conditions: none. -/
import Derived.Test.YtndmlmfkbkefcaaPreBPrefixReads
import Derived.Test.YtndmlmfkbkefcaaPreDPrefixReads
namespace Go.Proofs.Ytndmlmfkbkefcaa.Pure
open Go.RowKit Go.Proofs.Ytndmlmfkbkefcaa.PPrefixReads Go.Proofs.YtndmlmfkbkefcaaW.PrintWords Go.Proofs.YtndmlmfkbkefcaaW.PrintLast Go.Proofs.YtndmlmfkbkefcaaW.PrintMore Go.Proofs.Ytndmlmfkbkefcaa.Pre Go.Proofs.Ytndmlmfkbkefcaa Go.Proofs.Ytndmlmfkbkefcaa.PrePrefixReads

theorem PrefixReads_answers : interregnumlaw05_answers.f 40 = some true := by decide +kernel
theorem Num_four (r : List Int) (hr : Bytes r) (s : Int) (hs : 0 ≤ s ∧ s ≤ 4) (hl : s ≤ r.length) : interregnumref01_Num.f (r.take s.toNat ++ [0, 0, 0, 0]) = some (A r s) := by
  have h0 := hr.rd 0
  have h1 := hr.rd 1
  have h2 := hr.rd 2
  have h3 := hr.rd 3
  have get (i : Int) (hi : 0 ≤ i) (h4 : i < 4) : rd (r.take s.toNat ++ [0, 0, 0, 0]) i = if i < s then rd r i else 0 := by
    unfold Go.Proofs.YtndmlmfkbkefcaaW.PrintWords.rd
    have hlen : (r.take s.toNat).length = s.toNat := by rw [List.length_take]; omega
    rw [List.getD_eq_getElem?_getD, List.getElem?_append, hlen]
    split
    · rw [if_pos (by omega), List.getElem?_take, if_pos (by omega), List.getD_eq_getElem?_getD]
    · rw [if_neg (by omega)]
      have : ∀ j : Nat, ([0, 0, 0, 0] : List Int)[j]?.getD 0 = 0 := by
        intro j
        rcases j with _ | _ | _ | _ | j <;> simp
      exact this _
  unfold interregnumref01_Num.f
  have hlen : (r.take s.toNat ++ [0, 0, 0, 0]).length = s.toNat + 4 := by rw [List.length_append, List.length_take]; simp; omega
  rw [if_pos (by rw [hlen]; omega), if_pos (by rw [hlen]; omega), if_pos (by rw [hlen]; omega), if_pos (by rw [hlen]; omega), get 0 (by omega) (by omega), get 1 (by omega) (by omega), get 2 (by omega) (by omega), get 3 (by omega) (by omega)]
  unfold A
  have g (i b : Int) (hb : 0 ≤ b ∧ b < 256) : 0 ≤ (if i < s then b else 0) ∧ (if i < s then b else 0) < 256 := by split <;> omega
  have m (i b c : Int) : (if i < s then b * c else 0) = (if i < s then b else 0) * c := by split <;> simp
  rw [m, m, m]
  have g0 := g 0 _ h0
  have g1 := g 1 _ h1
  have g2 := g 2 _ h2
  have g3 := g 3 _ h3
  generalize (if 0 < s then rd r 0 else 0) = b0 at *
  generalize (if 1 < s then rd r 1 else 0) = b1 at *
  generalize (if 2 < s then rd r 2 else 0) = b2 at *
  generalize (if 3 < s then rd r 3 else 0) = b3 at *
  congr 1
  unfold wrap64
  omega
theorem Read_l0 (b : List Int) (hb : Bytes b) (hl : b.length < 8796093022208) (f : Nat) : ∀ (k i : Nat) (acc : List S32), i ≤ b.length → b.length - i ≤ f → acc.length ≤ i →
    interregnumref05_ReadPrefixes.l0 (k + 42 + 2 * f) b acc (i : Int) = some (told acc (spec f (b.drop i))) := by
  induction f with
  | zero =>
    intro k i acc hi hf ha
    rw [List.drop_of_length_le (by omega), show k + 42 + 2 * 0 = (k + 41) + 1 by omega]
    conv => lhs; unfold interregnumref05_ReadPrefixes.l0
    rw [if_neg (by omega)]
    simp [spec, told]
  | succ f ih =>
    intro k i acc hi hf ha
    rw [show k + 42 + 2 * (f + 1) = (k + 42 + 2 * f + 1) + 1 by omega]
    conv => lhs; unfold interregnumref05_ReadPrefixes.l0
    by_cases hlt : i < b.length
    · have hd : b.drop i = rd b (i : Int) :: b.drop (i + 1) := by
        rw [List.drop_eq_getElem_cons hlt]
        unfold Go.Proofs.YtndmlmfkbkefcaaW.PrintWords.rd
        rw [List.getD_eq_getElem?_getD, Int.toNat_natCast, List.getElem?_eq_getElem hlt]
        rfl
      have hn := hb.rd (i : Int)
      rw [if_pos (by omega), if_pos (by omega), w64 (rd b (i : Int)) (by omega) (by omega)]
      generalize rd b (i : Int) = n at hn hd
      have hs : wrap64 (Int.tdiv (wrap64 (n + 7)) 8) = sz n := by
        rw [w64 (n + 7) (by omega) (by omega), Int.tdiv_eq_ediv_of_nonneg (by omega), w64 _ (by omega) (by omega)]; rfl
      have hsz : 0 ≤ sz n ∧ sz n ≤ 33 := by unfold sz; omega
      rw [hs, w64 ((i : Int) + 1) (by omega) (by omega), w64 (((i : Int) + 1) + sz n) (by omega) (by omega), hd]
      simp only [spec, List.length_drop]
      by_cases h32 : n > 32
      · rw [if_pos h32, if_pos (.inl h32)]
        simp only [interregnumref05_ReadPrefixes.j1]
        rw [if_pos trivial]; rfl
      · rw [if_neg h32]
        simp only [interregnumref05_ReadPrefixes.j1]
        by_cases hlong : ((i : Int) + 1) + sz n > (b.length : Int)
        · rw [if_pos (by simpa using hlong), if_pos (.inr (by omega))]; rfl
        · have hs4 : sz n ≤ 4 := by unfold sz; omega
          rw [if_neg (by simpa using hlong), if_neg (by omega)]
          rw [Option.bind_some, w64 ((i : Int) + 1) (by omega) (by omega), w64 (((i : Int) + 1) + sz n) (by omega) (by omega), if_pos (by omega), if_pos (by omega), if_pos (by omega)]
          have ht : ((b.take (((i : Int) + 1) + sz n).toNat).drop ((i : Int) + 1).toNat) = (b.drop (i + 1)).take (sz n).toNat := by
            rw [show (((i : Int) + 1) + sz n).toNat = (i + 1) + (sz n).toNat by omega, show ((i : Int) + 1).toNat = i + 1 by omega, List.drop_take]
            congr 1
            omega
          have hlt4 : ((b.drop (i + 1)).take (sz n).toNat).length ≤ 4 := by rw [List.length_take]; omega
          have hN := Num_four (b.drop (i + 1)) (hb.drop _) (sz n) ⟨hsz.1, hs4⟩ (by rw [List.length_drop]; omega)
          rw [ht]
          generalize (b.drop (i + 1)).take (sz n).toNat = four at hN hlt4
          have h0 : ([] : List Int).length = 0 := rfl
          have h4 : ([0, 0, 0, 0] : List Int).length = 4 := rfl
          rw [if_pos (by omega), Option.bind_some, Option.bind_some, List.nil_append, if_pos (by omega), hN, Option.bind_some]
          have hu := A_U32 (b.drop (i + 1)) (hb.drop _) (sz n)
          rw [show A (b.drop (i + 1)) (sz n) % 4294967296 = A (b.drop (i + 1)) (sz n) from Int.emod_eq_of_lt hu.1 hu.2, refMake _ n hu _ (by omega), if_pos (by omega), Option.bind_some, if_pos (by omega), show ((i : Int) + 1) + sz n = ((i + 1 + (sz n).toNat : Nat) : Int) by omega,
            ih k (i + 1 + (sz n).toNat) _ (by omega) (by omega) (by simp; omega), told_map, List.drop_drop]
    · rw [if_neg (by omega), List.drop_of_length_le (by omega)]
      simp [spec, told]
theorem Same_l0 (l : List S32) (hl : l.length < 4611686018427387904) (d : Nat) : ∀ (k i : Nat), i + d = l.length → interregnumref05_SamePrefixes.l0 (k + d + 1) l l (i : Int) = some true := by
  induction d with
  | zero =>
    intro k i hi
    conv => lhs; unfold interregnumref05_SamePrefixes.l0
    rw [if_neg (by omega)]
  | succ d ih =>
    intro k i hi
    rw [show k + (d + 1) + 1 = (k + d + 1) + 1 by omega]
    conv => lhs; unfold interregnumref05_SamePrefixes.l0
    rw [if_pos (by omega), if_pos (by omega), if_pos (by omega), if_neg (by simp), w64 _ (by omega) (by omega), show (i : Int) + 1 = ((i + 1 : Nat) : Int) by omega]
    exact ih k (i + 1) (by omega)
theorem spec_len (f : Nat) : ∀ (b : List Int) (l : List S32), spec f b = some l → l.length ≤ f := by
  induction f with
  | zero => intro b l h; simp [spec] at h; subst h; simp
  | succ f ih =>
    intro b l h
    cases b with
    | nil => simp [spec] at h; subst h; simp
    | cons n r =>
      simp only [spec] at h
      split at h
      · exact absurd h (by simp)
      · obtain ⟨l', h', rfl⟩ := Option.map_eq_some_iff.1 h
        have := ih _ _ h'
        simp; omega
theorem PrefixReads : interregnumlaw05_PrefixReads.Pure := by
  intro b hm hl hw
  have hb := Bytes.wf hw
  have ha := at_rounds interregnumlaw05_answers.mono (k' := 2 * b.length + 42) (by omega) PrefixReads_answers
  refine ⟨2 * b.length + 42, ?_⟩
  unfold interregnumlaw05_PrefixReads.f
  split
  · rw [ha]; rfl
  · have hr := Read_l0 b hb (by omega) b.length 0 0 [] (by omega) (by omega) (by simp)
    have hr2 : interregnumref05_ReadPrefixes.f (2 * b.length + 42) b = some (told [] (spec b.length b)) := by
      rw [show 2 * b.length + 42 = 0 + 42 + 2 * b.length by omega]; exact hr
    rw [Decode b hb (by omega) _ (by omega), hr2, ha]
    have hlen : (told [] (spec b.length b)).1.length ≤ b.length := by
      cases h : spec b.length b with
      | none => simp [told]
      | some l => simpa [told] using spec_len _ _ _ h
    generalize (told [] (spec b.length b)) = x at hlen ⊢
    simp only [Option.bind_some, if_true, beq_self_eq_true]
    unfold interregnumref05_SamePrefixes.f
    rw [if_pos rfl]
    have := Same_l0 x.1 (by omega) x.1.length (2 * b.length + 41 - x.1.length) 0 (by omega)
    rw [show 2 * b.length + 41 - x.1.length + x.1.length + 1 = 2 * b.length + 42 by omega] at this
    rw [show ((0 : Nat) : Int) = 0 from rfl] at this
    rw [this]
    rfl
end Go.Proofs.Ytndmlmfkbkefcaa.Pure
