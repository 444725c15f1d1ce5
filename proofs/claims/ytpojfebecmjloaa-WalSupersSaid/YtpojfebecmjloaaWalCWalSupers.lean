/- A superblock of which one byte is another one counts no more; for the statement WalSupers. -/
import Derived.Test.YtpojfebecmjloaaWalBWalSupers
import Derived.Lib.Bytes
namespace Go.Proofs.Ytpojfebecmjloaa.RegWalSupers
open Go.RowKit Go.Proofs.Ytpojfebecmjloaa.PWalSupers Go.Proofs.YtpojfebecmjloaaW.PrintWords Go.Proofs.YtpojfebecmjloaaW.PrintLast Go.Proofs.YtpojfebecmjloaaW.PrintMore Go.Proofs.Ytpojfebecmjloaa.Disk Go.Proofs.Ytpojfebecmjloaa
set_option linter.unusedVariables false
set_option linter.unusedSimpArgs false
theorem str_inj (a : List Int) : ∀ (b : List Int), Crc.Bytes a → Crc.Bytes b → (strOfNums a).toList = (strOfNums b).toList → a = b := by
  intro b ha hb h
  rw [Go.Lib.strOfNums_toList, Go.Lib.strOfNums_toList] at h
  unfold Go.Lib.bytesOf at h
  have hl : a.length = b.length := by simpa using congrArg List.length h
  apply List.ext_getElem hl
  intro i h1 h2
  have h3 := congrArg (fun l : List UInt8 => l[i]?) h
  simp only [List.getElem?_map, List.getElem?_eq_getElem h1, List.getElem?_eq_getElem h2, Option.map_some, Option.some.injEq] at h3
  have h4 := congrArg UInt8.toNat h3
  obtain ⟨p0, p1⟩ := ha _ (List.getElem_mem h1)
  obtain ⟨q0, q1⟩ := hb _ (List.getElem_mem h2)
  rw [show (UInt8.ofNat (a[i]).toNat).toNat = (a[i]).toNat % 256 from rfl, show (UInt8.ofNat (b[i]).toNat).toNat = (b[i]).toNat % 256 from rfl] at h4
  omega
theorem plain_any_l0 (l : List Int) (hm : l.length < 1000000) (d : Nat) : ∀ (k i : Nat), i + d = l.length → ∃ b, wal_plain.l0 (k + d + 1) l (l.length : Int) (i : Int) = some b ∧ (b = true → ∀ j (h : j < l.length), i ≤ j → l[j] = 0) := by
  induction d with
  | zero =>
    intro k i hi
    refine ⟨true, ?_, fun _ j h h2 => by omega⟩
    unfold wal_plain.l0
    rw [if_neg (by omega)]
  | succ d ih =>
    intro k i hi
    have hil : i < l.length := by omega
    have hr : rd l (i : Int) = l[i] := by
      unfold rd
      rw [List.getD_eq_getElem?_getD, Int.toNat_natCast, List.getElem?_eq_getElem hil]
      rfl
    rw [show k + (d + 1) + 1 = (k + d + 1) + 1 by omega]
    conv => enter [1, b, 1, 1]; unfold wal_plain.l0
    rw [if_pos (by omega), if_pos (by omega), if_pos (by omega), hr]
    by_cases h0 : l[i] = 0
    · rw [if_pos h0, show (i : Int) + 1 = ((i + 1 : Nat) : Int) by omega, w64n (i + 1) (by omega)]
      obtain ⟨b, h1, h2⟩ := ih k (i + 1) (by omega)
      refine ⟨b, h1, fun hb j hj hij => ?_⟩
      rcases Nat.lt_or_ge i j with h | h
      · exact h2 hb j hj h
      · obtain rfl : j = i := by omega
        exact h0
    · rw [if_neg h0]
      exact ⟨false, rfl, fun h => by cases h⟩
theorem plain_any (l : List Int) (hm : l.length < 1000000) (k : Nat) (hk : l.length < k) : ∃ b, wal_plain.f k l = some b ∧ (b = true → ∀ x ∈ l, x = 0) := by
  obtain ⟨b, h1, h2⟩ := plain_any_l0 l hm l.length (k - l.length - 1) 0 (by omega)
  rw [show k - l.length - 1 + l.length + 1 = k by omega] at h1
  refine ⟨b, h1, fun hb x hx => ?_⟩
  obtain ⟨j, hj, rfl⟩ := List.mem_iff_getElem.1 hx
  exact h2 hb j hj (Nat.zero_le _)
theorem xor_ne (c t : Int) (hc : 0 ≤ c ∧ c < 256) (ht : 0 ≤ t ∧ t < 256) (h0 : t ≠ 0) : Go.bits .xor .u8 c t ≠ c := fun h => by
  have h1 := Crc.byteOf_xor8 c t hc ht
  rw [h] at h1
  have h2 := congrArg (Crc.byteOf c ^^^ ·) h1
  simp only [BitVec.xor_self, ← BitVec.xor_assoc, BitVec.zero_xor] at h2
  exact h0 (Crc.byteOf_zero t ht h2.symm)
theorem be4_of (c0 c1 c2 c3 : Int) (h0 : 0 ≤ c0 ∧ c0 < 256) (h1 : 0 ≤ c1 ∧ c1 < 256) (h2 : 0 ≤ c2 ∧ c2 < 256) (h3 : 0 ≤ c3 ∧ c3 < 256) : ∃ v : Int, 0 ≤ v ∧ v < 4294967296 ∧ be4 v = [c0, c1, c2, c3] := by
  refine ⟨c0 * 16777216 + c1 * 65536 + c2 * 256 + c3, by omega, by omega, ?_⟩
  unfold be4
  rw [show (c0 * 16777216 + c1 * 65536 + c2 * 256 + c3) / 16777216 % 256 = c0 by omega, show (c0 * 16777216 + c1 * 65536 + c2 * 256 + c3) / 65536 % 256 = c1 by omega, show (c0 * 16777216 + c1 * 65536 + c2 * 256 + c3) / 256 % 256 = c2 by omega, show (c0 * 16777216 + c1 * 65536 + c2 * 256 + c3) % 256 = c3 by omega]
theorem be4_inj {v u : Int} (hv : 0 ≤ v ∧ v < 4294967296) (hu : 0 ≤ u ∧ u < 4294967296) (h : be4 v = be4 u) : v = u := by
  unfold be4 at h
  simp only [List.cons.injEq, and_true] at h
  omega
theorem set_byte (l : List Int) (j : Nat) (x : Int) (hj : j < l.length) : (l.set j x)[j]? = some x := by
  rw [List.getElem?_set_self hj]
/-- One byte of a superblock is another one: it is no superblock. -/
theorem no_super (g v t : Int) (j : Nat) (hg : 0 ≤ g ∧ g < 4294967296) (hv : 0 ≤ v ∧ v < 4294967296) (ht : 0 ≤ t ∧ t < 256) (h0 : t ≠ 0) (hj : j < 64) : (fill (sb g)).set j (Go.bits .xor .u8 ((fill (sb g)).getD j 0) t) ≠ fill (sb v) := by
  intro h
  have hlen : (fill (sb g)).length = 64 := fill_length (by rw [sb_length]; decide)
  have hby : ∀ i (h : i < (fill (sb g)).length), 0 ≤ (fill (sb g))[i] ∧ (fill (sb g))[i] < 256 := fun i h => fill_bytes (sb_bytes g) _ (List.getElem_mem h)
  have hjl : j < (fill (sb g)).length := by omega
  have hold : (fill (sb g)).getD j 0 = (fill (sb g))[j] := by rw [List.getD_eq_getElem?_getD, List.getElem?_eq_getElem hjl]; rfl
  rw [hold] at h
  have hne := xor_ne _ t (hby j hjl) ht h0
  have hat : ∀ i, i ≠ j → (fill (sb v))[i]? = (fill (sb g))[i]? := fun i hi => by rw [← h, List.getElem?_set_ne (Ne.symm hi)]
  have hatj : (fill (sb v))[j]? = some (Go.bits .xor .u8 (fill (sb g))[j] t) := by rw [← h, set_byte _ _ _ hjl]
  by_cases hvg : v = g
  · subst hvg
    rw [List.getElem?_eq_getElem hjl] at hatj
    exact hne (Option.some.inj hatj).symm
  have hcrc : ∀ i, i < 4 → i + 4 ≠ j → (be4 (Crc.crc (be4 v)))[i]? = (be4 (Crc.crc (be4 g)))[i]? := fun i hi hij => by
    have := hat (i + 4) hij
    match i, hi with
    | 0, _ => exact this
    | 1, _ => exact this
    | 2, _ => exact this
    | 3, _ => exact this
  have hgen : ∀ i, i < 4 → i ≠ j → (be4 v)[i]? = (be4 g)[i]? := fun i hi hij => by
    have := hat i hij
    match i, hi with
    | 0, _ => exact this
    | 1, _ => exact this
    | 2, _ => exact this
    | 3, _ => exact this
  by_cases hj4 : j < 4
  · have hc : Crc.crc (be4 v) = Crc.crc (be4 g) := by
      refine be4_inj ⟨Crc.crc_nonneg _, Crc.crc_lt _⟩ ⟨Crc.crc_nonneg _, Crc.crc_lt _⟩ (List.ext_getElem? fun i => ?_)
      rcases Nat.lt_or_ge i 4 with hi | hi
      · exact hcrc i hi (by omega)
      · rw [List.getElem?_eq_none (by exact hi), List.getElem?_eq_none (by exact hi)]
    obtain ⟨c0, c1, c2, c3, hb⟩ : ∃ c0 c1 c2 c3, be4 g = [c0, c1, c2, c3] := ⟨_, _, _, _, rfl⟩
    obtain ⟨e0, e1, e2, e3, hd⟩ : ∃ e0 e1 e2 e3, be4 v = [e0, e1, e2, e3] := ⟨_, _, _, _, rfl⟩
    have hf : fill (sb g) = be4 g ++ (be4 (Crc.crc (be4 g)) ++ List.replicate 56 0) := rfl
    have hfv : fill (sb v) = be4 v ++ (be4 (Crc.crc (be4 v)) ++ List.replicate 56 0) := rfl
    have hbb := be4_bytes g
    rw [hb] at hf hbb hgen hc
    rw [hd] at hfv hgen hc
    have b0 := hbb c0 (by simp)
    have b1 := hbb c1 (by simp)
    have b2 := hbb c2 (by simp)
    have b3 := hbb c3 (by simp)
    have hx : ∀ q, (fill (sb g))[j]? = some q → (fill (sb v))[j]? = some (Go.bits .xor .u8 q t) := fun q hq => by
      rw [List.getElem?_eq_getElem hjl] at hq
      rw [hatj, ← Option.some.inj hq]
    rw [hf, hfv] at hx
    match j, hj4 with
    | 0, _ =>
      have w := hx c0 rfl
      have g1 := hgen 1 (by decide) (by decide)
      have g2 := hgen 2 (by decide) (by decide)
      have g3 := hgen 3 (by decide) (by decide)
      simp at w g1 g2 g3
      subst w g1 g2 g3
      exact Crc.crc_one [] [e1, e2, e3] c0 t b0 ht h0 hc.symm
    | 1, _ =>
      have w := hx c1 rfl
      have g1 := hgen 0 (by decide) (by decide)
      have g2 := hgen 2 (by decide) (by decide)
      have g3 := hgen 3 (by decide) (by decide)
      simp at w g1 g2 g3
      subst w g1 g2 g3
      exact Crc.crc_one [e0] [e2, e3] c1 t b1 ht h0 hc.symm
    | 2, _ =>
      have w := hx c2 rfl
      have g1 := hgen 0 (by decide) (by decide)
      have g2 := hgen 1 (by decide) (by decide)
      have g3 := hgen 3 (by decide) (by decide)
      simp at w g1 g2 g3
      subst w g1 g2 g3
      exact Crc.crc_one [e0, e1] [e3] c2 t b2 ht h0 hc.symm
    | 3, _ =>
      have w := hx c3 rfl
      have g1 := hgen 0 (by decide) (by decide)
      have g2 := hgen 1 (by decide) (by decide)
      have g3 := hgen 2 (by decide) (by decide)
      simp at w g1 g2 g3
      subst w g1 g2 g3
      exact Crc.crc_one [e0, e1, e2] [] c3 t b3 ht h0 hc.symm
  · refine hvg (be4_inj hv hg (List.ext_getElem? fun i => ?_))
    rcases Nat.lt_or_ge i 4 with hi | hi
    · exact hgen i hi (by omega)
    · rw [List.getElem?_eq_none (by exact hi), List.getElem?_eq_none (by exact hi)]
/-- Such a sector is passed by. -/
theorem newest_spoilt {N n : Nat} {D : List Int} (hD : Fit N D []) (hDb : Crc.Bytes D) (hn : n < 2) (hnN : n < N) (g t : Int) (j : Nat) (hg : 0 ≤ g ∧ g < 4294967296) (ht : 0 ≤ t ∧ t < 256) (h0 : t ≠ 0) (hj : j < 64) (hs : sector D (n : Int) = (fill (sb g)).set j (Go.bits .xor .u8 ((fill (sb g)).getD j 0) t)) (k : Nat) (x3 : Int) (hk : 100 < k) :
    wal_newestGen.l0 (k + 2) x3 (n : Int) (Up N D []) = wal_newestGen.l0 k x3 ((n + 1 : Nat) : Int) (Up N D []) := by
  have hl : (sector D (n : Int)).length = 64 := sector_length (by have := hD.lasts; have : (n + 1) * 64 ≤ N * 64 := Nat.mul_le_mul_right _ (by omega); rw [Int.toNat_natCast]; omega)
  have hSb := sector_bytes hDb (n : Int)
  have hnos : ∀ v, 0 ≤ v ∧ v < 4294967296 → sector D (n : Int) ≠ fill (sb v) := fun v hv => by rw [hs]; exact no_super g v t j hg hv ht h0 hj
  obtain ⟨v, hv0, hv1, hg2⟩ : ∃ v : Int, 0 ≤ v ∧ v < 4294967296 ∧ region_Get.f (sector D (n : Int)) = some v := by
    match hS : sector D (n : Int), hl with
    | c0 :: c1 :: c2 :: c3 :: R, _ =>
      rw [hS] at hSb
      obtain ⟨v, v0, v1, hv⟩ := be4_of c0 c1 c2 c3 (hSb c0 (by simp)) (hSb c1 (by simp)) (hSb c2 (by simp)) (hSb c3 (by simp))
      refine ⟨v, v0, v1, ?_⟩
      rw [show c0 :: c1 :: c2 :: c3 :: R = [c0, c1, c2, c3] ++ R from rfl, ← hv]
      exact get_be4 v v0 v1 R
  by_cases hbad : v < 1 ∨ v > 2147483647 ∨ Int.tmod v 2 ≠ (n : Int)
  · exact newest_skip hD hn hnN v hv0 hv1 hg2 hbad k x3
  · have h1 : 1 ≤ v := by
      rcases Int.lt_or_le v 1 with h | h
      · exact absurd (.inl h) hbad
      · exact h
    have h2 : v ≤ 2147483647 := by
      rcases Int.lt_or_le 2147483647 v with h | h
      · exact absurd (.inr (.inl h)) hbad
      · exact h
    have h3 : Int.tmod v 2 = (n : Int) := Decidable.of_not_not fun h => hbad (.inr (.inr h))
    rw [newest_go hD hn hnN v h1 h2 hg2 h3 k x3 (by omega)]
    by_cases hq : (strOfNums (sb v)).toList = (strOfNums ((sector D (n : Int)).take 8)).toList
    · rw [if_pos hq]
      have h8 := str_inj _ _ (sb_bytes v) (fun x hx => hSb x (List.mem_of_mem_take hx)) hq
      obtain ⟨b, hb1, hb2⟩ := plain_any ((sector D (n : Int)).drop 8) (by rw [List.length_drop, hl]; decide) k (by rw [List.length_drop, hl]; omega)
      rw [hb1, Option.bind_some]
      cases b with
      | false => rw [if_neg (by decide)]
      | true =>
        exfalso
        refine hnos v ⟨hv0, hv1⟩ ?_
        have h9 := zeros_eq (hb2 rfl) 56 (by rw [List.length_drop, hl])
        rw [← List.take_append_drop 8 (sector D (n : Int)), ← h8, h9]
        rfl
    · rw [if_neg hq]
end Go.Proofs.Ytpojfebecmjloaa.RegWalSupers
