/- The bytes of any prefixes are the reference's, and those that are right are read again; the plain part of the proof. Conditions: none. -/
import Derived.Test.YtndmlmfkbkefcaaBndPrefixBack
import Derived.Test.YtndmlmfkbkefcaaPreRPrefixBack
import Derived.Test.YtndmlmfkbkefcaaPreDPrefixBack
namespace Go.Proofs.Ytndmlmfkbkefcaa.Pure
open Go.RowKit Go.Proofs.Ytndmlmfkbkefcaa.PPrefixBack Go.Proofs.YtndmlmfkbkefcaaW.PrintWords Go.Proofs.YtndmlmfkbkefcaaW.PrintLast Go.Proofs.YtndmlmfkbkefcaaW.PrintMore Go.Proofs.Ytndmlmfkbkefcaa.Pre Go.Proofs.Ytndmlmfkbkefcaa Go.Proofs.Ytndmlmfkbkefcaa.PrePrefixBack
set_option linter.unusedVariables false

theorem PrefixBack_answers : interregnumlaw05_answers.f 40 = some true := by decide +kernel
def four (a : Int) : List Int := [a / 16777216 % 256, a / 65536 % 256, a / 256 % 256, a % 256]
def enc (p : S32) : List Int := p.f1 :: (four p.f0).take (sz p.f1).toNat
def good (l : List S32) : List S32 := l.filter fun p => decide (Ok p.f0 p.f1)
def encs (l : List S32) : List Int := (good l).flatMap enc
def U (l : List S32) : Prop := ∀ p ∈ l, U32 p.f0
theorem rd_at (l : List S32) (i : Nat) (hi : i < l.length) : rd_T32 l (i : Int) = l[i] := by
  unfold rd_T32
  rw [List.getD_eq_getElem?_getD, Int.toNat_natCast, List.getElem?_eq_getElem hi]
  rfl
theorem four_len (a : Int) : (four a).length = 4 := rfl
theorem enc_len (p : S32) : (enc p).length ≤ 5 := by
  unfold enc
  rw [List.length_cons, List.length_take, four_len]
  omega
theorem encs_cons (p : S32) (l : List S32) : encs (p :: l) = (if Ok p.f0 p.f1 then enc p else []) ++ encs l := by
  unfold encs good
  by_cases h : Ok p.f0 p.f1
  · simp [h]
  · simp [h]
theorem encs_len (l : List S32) : (encs l).length ≤ 5 * l.length := by
  induction l with
  | nil => simp [encs, good]
  | cons p l ih =>
    rw [encs_cons, List.length_append, List.length_cons]
    have := enc_len p
    split
    · omega
    · simp; omega
theorem drop_cons (l : List S32) (i : Nat) (hi : i < l.length) : l.drop i = l[i] :: l.drop (i + 1) := List.drop_eq_getElem_cons hi
theorem shr_four (a : Int) (ha : U32 a) (j : Nat) (hj : j < 4) : (shr .u32 a (wrap64 (24 - 8 * (j : Int)))) % 256 = (four a)[j]'(by rw [four_len]; omega) := by
  rw [w64 _ (by omega) (by omega)]
  unfold shr
  rw [Nat.min_eq_left (by simp [IntKind.bits]; omega)]
  have : j = 0 ∨ j = 1 ∨ j = 2 ∨ j = 3 := by omega
  rcases this with rfl | rfl | rfl | rfl
  · show a / 2 ^ 24 % 256 = a / 16777216 % 256; rfl
  · show a / 2 ^ 16 % 256 = a / 65536 % 256; rfl
  · show a / 2 ^ 8 % 256 = a / 256 % 256; rfl
  · show a / 2 ^ 0 % 256 = a % 256; omega
theorem enc_l1 (l : List S32) (i : Int) (hi : 0 ≤ i ∧ i < 1000) (a n : Int) (ha : U32 a) (hn : 0 ≤ n ∧ n ≤ 32) (d : Nat) : ∀ (k j : Nat) (acc : List Int), (j : Int) + d = sz n → acc.length + d < 100000 →
    prefix_Encode.l1 (k + d + 1) acc (8 * (j : Int)) l (l.length : Int) i a n = prefix_Encode.l0 k (acc ++ ((four a).take (sz n).toNat).drop j) l (l.length : Int) (i + 1) := by
  induction d with
  | zero =>
    intro k j acc hj _
    conv => lhs; unfold prefix_Encode.l1
    rw [if_neg (by unfold sz at hj; omega), w64 (i + 1) (by omega) (by omega), List.drop_of_length_le (by rw [List.length_take, four_len]; omega), List.append_nil]
  | succ d ih =>
    intro k j acc hj hacc
    have hj4 : j < 4 := by unfold sz at hj; omega
    rw [show k + (d + 1) + 1 = (k + d + 1) + 1 by omega]
    conv => lhs; unfold prefix_Encode.l1
    have hlt8 : 8 * (j : Int) < n := by unfold sz at hj; omega
    rw [if_pos hlt8, shr_four a ha j hj4, w64 (24 - 8 * (j : Int)) (by omega) (by omega), if_pos (by omega), if_pos (by omega), w64 (8 * (j : Int) + 8) (by omega) (by omega),
      show 8 * (j : Int) + 8 = 8 * ((j + 1 : Nat) : Int) by omega, ih k (j + 1) _ (by omega) (by rw [List.length_append]; simp; omega)]
    congr 1
    have hlt : j < ((four a).take (sz n).toNat).length := by rw [List.length_take, four_len]; omega
    rw [List.drop_eq_getElem_cons hlt, List.append_assoc, List.singleton_append, List.getElem_take]
theorem Encode_l0 (l : List S32) (hu : U l) (hl : l.length ≤ 200) (d : Nat) : ∀ (k i : Nat) (acc : List Int), i + d = l.length → acc.length ≤ 5 * i →
    prefix_Encode.l0 (k + 6 * d + 1) acc l (l.length : Int) (i : Int) = some (acc ++ encs (l.drop i)) := by
  induction d with
  | zero =>
    intro k i acc hi hacc
    conv => lhs; unfold prefix_Encode.l0
    rw [if_neg (by omega), List.drop_of_length_le (by omega)]
    simp [encs, good]
  | succ d ih =>
    intro k i acc hi hacc
    have hlt : i < l.length := by omega
    have ha := hu l[i] (List.getElem_mem hlt)
    rw [show k + 6 * (d + 1) + 1 = (k + 6 * d + 6) + 1 by omega]
    conv => lhs; unfold prefix_Encode.l0
    rw [if_pos (by omega), if_pos (by omega), if_pos (by omega), rd_at l i hlt, right _ _ ha, Option.bind_some, drop_cons l i hlt, encs_cons]
    by_cases h : Ok l[i].f0 l[i].f1
    · rw [if_pos (by simpa using h), if_pos (by omega), if_pos h]
      have h0 := h.1
      have h1 := h.2.1
      have hs : 0 ≤ sz l[i].f1 ∧ sz l[i].f1 ≤ 4 := by unfold sz; omega
      have he := enc_l1 l (i : Int) (by omega) l[i].f0 l[i].f1 ha ⟨h0, h1⟩ (sz l[i].f1).toNat (k + 6 * d + 6 - ((sz l[i].f1).toNat + 1)) 0 (acc ++ [l[i].f1 % 256]) (by omega) (by rw [List.length_append]; simp; omega)
      rw [show k + 6 * d + 6 - ((sz l[i].f1).toNat + 1) + (sz l[i].f1).toNat + 1 = k + 6 * d + 6 by omega] at he
      refine he.trans ?_
      rw [show (i : Int) + 1 = ((i + 1 : Nat) : Int) by omega, show k + 6 * d + 6 - ((sz l[i].f1).toNat + 1) = (k + 5 - (sz l[i].f1).toNat - 1 + 0) + 6 * d + 1 by omega,
        ih _ (i + 1) _ (by omega) (by rw [List.length_append, List.length_append, List.drop_zero, List.length_take, four_len]; simp; omega)]
      rw [show l[i].f1 % 256 = l[i].f1 by omega, List.drop_zero]
      unfold enc
      simp
    · rw [if_neg (by simpa using h), if_neg h, w64 _ (by omega) (by omega), show (i : Int) + 1 = ((i + 1 : Nat) : Int) by omega, show k + 6 * d + 6 = (k + 5) + 6 * d + 1 by omega, ih _ (i + 1) acc (by omega) (by omega), List.nil_append]
theorem Encode (l : List S32) (hu : U l) (hl : l.length ≤ 200) (k : Nat) (hk : 2000 ≤ k) : prefix_Encode.f k l = some (encs l) := by
  have := Encode_l0 l hu hl l.length (k - (6 * l.length + 1)) 0 [] (by omega) (by simp)
  rw [show k - (6 * l.length + 1) + 6 * l.length + 1 = k by omega] at this
  simpa [prefix_Encode.f] using this
theorem Prefixes_l0 (l : List S32) (hu : U l) (hl : l.length ≤ 200) (d : Nat) : ∀ (k i : Nat) (acc : List Int), i + d = l.length → acc.length ≤ 5 * i →
    interregnumref05_Prefixes.l0 (k + 50 + d) l acc (i : Int) = some (acc ++ encs (l.drop i)) := by
  induction d with
  | zero =>
    intro k i acc hi hacc
    rw [show k + 50 + 0 = (k + 49) + 1 by omega]
    conv => lhs; unfold interregnumref05_Prefixes.l0
    rw [if_neg (by omega), List.drop_of_length_le (by omega)]
    simp [encs, good]
  | succ d ih =>
    intro k i acc hi hacc
    have hlt : i < l.length := by omega
    have ha := hu l[i] (List.getElem_mem hlt)
    rw [show k + 50 + (d + 1) = (k + 50 + d) + 1 by omega]
    conv => lhs; unfold interregnumref05_Prefixes.l0
    rw [if_pos (by omega), if_pos (by omega), rd_at l i hlt, refRight _ _ ha _ (by omega), Option.bind_some, drop_cons l i hlt, encs_cons]
    have e1 : wrap64 ((i : Int) + 1) = ((i + 1 : Nat) : Int) := by rw [w64 _ (by omega) (by omega)]; omega
    by_cases h : Ok l[i].f0 l[i].f1
    · rw [if_pos (by simpa using h), if_pos (by omega), if_pos h]
      have h0 := h.1
      have h1 := h.2.1
      have hs : 0 ≤ sz l[i].f1 ∧ sz l[i].f1 ≤ 4 := by unfold sz; omega
      have hsz : wrap64 (Int.tdiv (wrap64 (l[i].f1 + 7)) 8) = sz l[i].f1 := by
        rw [w64 (l[i].f1 + 7) (by omega) (by omega), Int.tdiv_eq_ediv_of_nonneg (by omega), w64 _ (by omega) (by omega)]; rfl
      have hf : interregnumref01_Four.f (wrap64 l[i].f0) = some (four l[i].f0) := by rw [w64 _ (by have := ha.1; omega) (by have := ha.2; omega)]; rfl
      rw [Option.bind_some, hf, Option.bind_some, hsz, if_pos hs.1, if_pos (by rw [four_len]; omega), Option.bind_some, if_pos (by rw [List.length_append, List.length_take, four_len]; simp; omega), e1,
        ih k (i + 1) _ (by omega) (by rw [List.length_append, List.length_append, List.length_take, four_len]; simp; omega), show l[i].f1 % 256 = l[i].f1 by omega]
      unfold enc
      simp
    · rw [if_neg (by simpa using h), if_neg h, e1, ih k (i + 1) acc (by omega) (by omega), List.nil_append]
theorem Prefixes (l : List S32) (hu : U l) (hl : l.length ≤ 200) (k : Nat) (hk : 2000 ≤ k) : interregnumref05_Prefixes.f k l = some (encs l) := by
  have := Prefixes_l0 l hu hl l.length (k - (50 + l.length)) 0 [] (by omega) (by simp)
  rw [show k - (50 + l.length) + 50 + l.length = k by omega] at this
  simpa [interregnumref05_Prefixes.f] using this
theorem Same_l0 (l : List Int) (hl : l.length < 4611686018427387904) (d : Nat) : ∀ (k i : Nat), i + d = l.length → interregnumref01_Same.l0 (k + d + 1) l l (i : Int) = some true := by
  induction d with
  | zero =>
    intro k i hi
    conv => lhs; unfold interregnumref01_Same.l0
    rw [if_neg (by omega)]
  | succ d ih =>
    intro k i hi
    rw [show k + (d + 1) + 1 = (k + d + 1) + 1 by omega]
    conv => lhs; unfold interregnumref01_Same.l0
    rw [if_pos (by omega), if_pos (by omega), if_pos (by omega), if_pos rfl, w64 _ (by omega) (by omega), show (i : Int) + 1 = ((i + 1 : Nat) : Int) by omega]
    exact ih k (i + 1) (by omega)
theorem Same (l : List Int) (k : Nat) (hk : l.length < k) (hl : l.length < 4611686018427387904) : interregnumref01_Same.f k l l = some true := by
  unfold interregnumref01_Same.f
  rw [if_pos rfl]
  have := Same_l0 l hl l.length (k - (l.length + 1)) 0 (by omega)
  rw [show k - (l.length + 1) + l.length + 1 = k by omega] at this
  exact this
theorem SameP_l0 (l : List S32) (hl : l.length < 4611686018427387904) (d : Nat) : ∀ (k i : Nat), i + d = l.length → interregnumref05_SamePrefixes.l0 (k + d + 1) l l (i : Int) = some true := by
  induction d with
  | zero =>
    intro k i hi
    conv => lhs; unfold interregnumref05_SamePrefixes.l0
    rw [if_neg (by omega)]
  | succ d ih =>
    intro k i hi
    rw [show k + (d + 1) + 1 = (k + d + 1) + 1 by omega]
    conv => lhs; unfold interregnumref05_SamePrefixes.l0
    rw [if_pos (by omega), if_pos (by omega), if_pos (by omega), if_neg (by simp), w64 _ (by omega) (by omega), show (i : Int) + 1 = ((i + 1 : Nat) : Int) by omega]
    exact ih k (i + 1) (by omega)
theorem SameP (l : List S32) (k : Nat) (hk : l.length < k) (hl : l.length < 4611686018427387904) : interregnumref05_SamePrefixes.f k l l = some true := by
  unfold interregnumref05_SamePrefixes.f
  rw [if_pos rfl]
  have := SameP_l0 l hl l.length (k - (l.length + 1)) 0 (by omega)
  rw [show k - (l.length + 1) + l.length + 1 = k by omega] at this
  exact this
/-- the address of what was written -/
theorem A_four (a : Int) (ha : U32 a) (s : Int) (hs : 0 ≤ s ∧ s ≤ 4) (rest : List Int) : A ((four a).take s.toNat ++ rest) s = top a (8 * s) := by
  have ha0 := ha.1
  have ha1 := ha.2
  have : s = 0 ∨ s = 1 ∨ s = 2 ∨ s = 3 ∨ s = 4 := by omega
  unfold top D
  rcases this with rfl | rfl | rfl | rfl | rfl
  · show A rest 0 = a / 4294967296 * 4294967296
    have : A rest 0 = 0 := by simp [A]
    omega
  · show A (a / 16777216 % 256 :: rest) 1 = a / 16777216 * 16777216
    have : A (a / 16777216 % 256 :: rest) 1 = a / 16777216 % 256 * 16777216 := by simp [A, rd]
    omega
  · show A (a / 16777216 % 256 :: a / 65536 % 256 :: rest) 2 = a / 65536 * 65536
    have : A (a / 16777216 % 256 :: a / 65536 % 256 :: rest) 2 = a / 16777216 % 256 * 16777216 + a / 65536 % 256 * 65536 := by simp [A, rd]
    omega
  · show A (a / 16777216 % 256 :: a / 65536 % 256 :: a / 256 % 256 :: rest) 3 = a / 256 * 256
    have : A (a / 16777216 % 256 :: a / 65536 % 256 :: a / 256 % 256 :: rest) 3 = a / 16777216 % 256 * 16777216 + a / 65536 % 256 * 65536 + a / 256 % 256 * 256 := by simp [A, rd]
    omega
  · show A (a / 16777216 % 256 :: a / 65536 % 256 :: a / 256 % 256 :: a % 256 :: rest) 4 = a / 1 * 1
    have : A (a / 16777216 % 256 :: a / 65536 % 256 :: a / 256 % 256 :: a % 256 :: rest) 4 = a / 16777216 % 256 * 16777216 + a / 65536 % 256 * 65536 + a / 256 % 256 * 256 + a % 256 := by simp [A, rd]
    omega
theorem spec_encs (l : List S32) (hu : U l) : ∀ f, (encs l).length ≤ f → spec f (encs l) = some (good l) := by
  induction l with
  | nil =>
    intro f _
    cases f <;> simp [encs, good, spec]
  | cons p l ih =>
    intro f hf
    have hl : U l := fun q hq => hu q (List.mem_cons_of_mem _ hq)
    have ha := hu p (List.mem_cons_self ..)
    rw [encs_cons] at hf ⊢
    by_cases h : Ok p.f0 p.f1
    · rw [if_pos h] at hf ⊢
      have h0 := h.1
      have h1 := h.2.1
      have hs : 0 ≤ sz p.f1 ∧ sz p.f1 ≤ 4 := by unfold sz; omega
      have h8 : p.f1 ≤ 8 * sz p.f1 ∧ 8 * sz p.f1 ≤ 32 := by unfold sz; omega
      unfold enc at hf ⊢
      rw [List.cons_append] at hf ⊢
      rw [List.length_cons, List.length_append, List.length_take, four_len] at hf
      obtain ⟨f, rfl⟩ : ∃ m, f = m + 1 := ⟨f - 1, by omega⟩
      simp only [spec]
      rw [if_neg (by rw [List.length_append, List.length_take, four_len]; omega), A_four p.f0 ha _ hs, top_top p.f0 _ _ h0 h8.1 h8.2, Ok_eq h]
      have hd : (((four p.f0).take (sz p.f1).toNat) ++ encs l).drop (sz p.f1).toNat = encs l := by
        rw [List.drop_append_of_le_length (by rw [List.length_take, four_len]; omega), List.drop_of_length_le (by rw [List.length_take, four_len]; omega), List.nil_append]
      rw [hd, ih hl f (by omega)]
      unfold good
      simp [h]
    · rw [if_neg h, List.nil_append] at hf ⊢
      rw [ih hl f hf]
      unfold good
      simp [h]
theorem enc_bytes (l : List S32) (hu : U l) : Bytes (encs l) := by
  induction l with
  | nil => intro x hx; simp [encs, good] at hx
  | cons p l ih =>
    rw [encs_cons]
    intro x hx
    rcases List.mem_append.1 hx with hx | hx
    · split at hx
      · rename_i h
        unfold enc at hx
        rcases List.mem_cons.1 hx with rfl | hx
        · have h0 := h.1; have h1 := h.2.1; omega
        · have := List.mem_of_mem_take hx
          unfold four at this
          simp only [List.mem_cons, List.not_mem_nil, or_false] at this
          rcases this with rfl | rfl | rfl | rfl <;> omega
      · simp at hx
    · exact ih (fun q hq => hu q (List.mem_cons_of_mem _ hq)) x hx
theorem Back_l0 (l : List S32) (hu : U l) (hl : l.length ≤ 200) (d : Nat) : ∀ (i : Nat) (acc : List S32), i + d = l.length → acc = good (l.take i) →
    interregnumlaw05_PrefixBack.l0 (5000 + d) l acc (i : Int) = some true := by
  have hlen := encs_len l
  have hg : (good l).length ≤ 200 := by unfold good; have := List.length_filter_le (fun p : S32 => decide (Ok p.f0 p.f1)) l; omega
  have ha := at_rounds interregnumlaw05_answers.mono (k' := 4999) (by omega) PrefixBack_answers
  induction d with
  | zero =>
    intro i acc hi hacc
    rw [show 5000 + 0 = 4999 + 1 by omega]
    conv => lhs; unfold interregnumlaw05_PrefixBack.l0
    rw [List.take_of_length_le (by omega)] at hacc
    subst hacc
    rw [if_neg (by omega), Encode l hu hl 4999 (by decide), Option.bind_some, Decode _ (enc_bytes l hu) (by omega) 4999 (by omega), Option.bind_some, ha, Option.bind_some, if_pos rfl, Prefixes l hu hl 4999 (by decide), Option.bind_some,
      Same _ 4999 (by omega) (by omega), Option.bind_some, if_pos rfl, spec_encs l hu _ (Nat.le_refl _)]
    simp only [told, List.nil_append, if_true]
    rw [SameP _ 4999 (by omega) (by omega)]
    rfl
  | succ d ih =>
    intro i acc hi hacc
    have hlt : i < l.length := by omega
    have hai := hu l[i] (List.getElem_mem hlt)
    rw [show 5000 + (d + 1) = (5000 + d) + 1 by omega]
    conv => lhs; unfold interregnumlaw05_PrefixBack.l0
    have e1 : wrap64 ((i : Int) + 1) = ((i + 1 : Nat) : Int) := by rw [w64 _ (by omega) (by omega)]; omega
    have ht : l.take (i + 1) = l.take i ++ [l[i]] := by rw [List.take_succ_eq_append_getElem hlt]
    rw [if_pos (by omega), if_pos (by omega), rd_at l i hlt, refRight _ _ hai _ (by omega), Option.bind_some, e1]
    by_cases h : Ok l[i].f0 l[i].f1
    · have hacc2 : acc.length ≤ 200 := by rw [hacc]; unfold good; have := List.length_filter_le (fun p : S32 => decide (Ok p.f0 p.f1)) (l.take i); rw [List.length_take] at this; omega
      rw [if_pos (by simpa using h), if_pos (by omega)]
      refine ih (i + 1) _ (by omega) ?_
      rw [hacc, ht]
      unfold good
      rw [List.filter_append]
      simp [h]
    · rw [if_neg (by simpa using h)]
      refine ih (i + 1) _ (by omega) ?_
      rw [hacc, ht]
      unfold good
      rw [List.filter_append]
      simp [h]
theorem PrefixBack : BndPrefixBack.Pure := by
  intro l hx
  have hu : U l := fun p hp => wf_u32 (hx.2 p hp).1
  refine ⟨5000 + l.length, ?_⟩
  unfold interregnumlaw05_PrefixBack.f
  split
  · rw [at_rounds interregnumlaw05_answers.mono (k' := 5000 + l.length) (by omega) PrefixBack_answers]; rfl
  · exact Back_l0 l hu (by omega) l.length 0 [] (by omega) rfl
end Go.Proofs.Ytndmlmfkbkefcaa.Pure
