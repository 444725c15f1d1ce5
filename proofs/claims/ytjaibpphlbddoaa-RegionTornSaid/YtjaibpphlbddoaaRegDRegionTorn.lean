/- What Lay leaves where the power goes, and what one makes of a head of which a part landed; for the statement RegionTorn. -/
import Derived.Test.YtjaibpphlbddoaaRegCRegionTorn
namespace Go.Proofs.Ytjaibpphlbddoaa.RegRegionTorn
open Go.RowKit Go.Proofs.Ytjaibpphlbddoaa.PRegionTorn Go.Proofs.YtjaibpphlbddoaaW.PrintWords Go.Proofs.YtjaibpphlbddoaaW.PrintLast Go.Proofs.YtjaibpphlbddoaaW.PrintMore Go.Proofs.Ytjaibpphlbddoaa.Disk Go.Proofs.Ytjaibpphlbddoaa
set_option linter.unusedVariables false
set_option linter.unusedSimpArgs false
/-- A disk with a fuse. -/
def Ar (l : List Int) (r : List (Int × List Int)) (F : Nat) : DiskM := ⟨l, r, F, false⟩
def Dead (l : List Int) (r : List (Int × List Int)) : DiskM := ⟨l, r, 0, true⟩
theorem burn_zero (l : List Int) (r : List (Int × List Int)) : burn (Ar l r 0) = Dead l r := rfl
theorem burn_succ (l : List Int) (r : List (Int × List Int)) (F : Nat) (hF : F < 1000) : burn (Ar l r (F + 1)) = Ar l r F := by
  unfold burn Ar
  dsimp only
  rw [if_pos (by omega), decide_eq_false (by omega), w64 _ (by omega) (by omega), show ((F + 1 : Nat) : Int) - 1 = (F : Int) by omega]
  rfl
theorem write_zero {n : Nat} {l : List Int} {r : List (Int × List Int)} (h : Fit n l r) {a : Int} {b : List Int} (h0 : 0 ≤ a) (h1 : a < n) (hb : b.length ≤ 64) : write (Ar l r 0) a b = (4, Dead l r) := by
  rw [write_here (s := Ar l r 0) h h0 h1 hb, burn_zero]
  rfl
theorem write_succ {n : Nat} {l : List Int} {r : List (Int × List Int)} (h : Fit n l r) {a : Int} {b : List Int} (h0 : 0 ≤ a) (h1 : a < n) (hb : b.length ≤ 64) (F : Nat) (hF : F < 1000) : write (Ar l r (F + 1)) a b = (0, Ar l (r ++ [(a, fill b)]) F) := by
  rw [write_here (s := Ar l r (F + 1)) h h0 h1 hb, burn_succ l r F hF]
  rfl
theorem flush_zero (l : List Int) (r : List (Int × List Int)) : flush (Ar l r 0) = (4, Dead l r) := by
  unfold flush
  rw [burn_zero]
  rfl
theorem flush_succ (l : List Int) (r : List (Int × List Int)) (F : Nat) (hF : F < 1000) : flush (Ar l r (F + 1)) = (0, Ar (Disk.settle r l) [] F) := by
  unfold flush
  rw [burn_succ l r F hF]
  rfl
/-- one round of the writing -/
theorem lay_step {s : DiskM} {N p : Nat} (g : Int) (a : List Int) (hN : p + 1 + cnt a ≤ N) (hN2 : N ≤ 1024) (ha : a.length ≤ 8192) (hs : s.loose.length < 1000000) (k i : Nat) (hi : i < cnt a) :
    region_Lay.l0 (k + 1) (p : Int) g a ((cnt a + 1 : Nat) : Int) ((i + 1 : Nat) : Int) s =
      (some (write s ((p + 1 + i : Nat) : Int) ((a.take (min (64 * (i + 1)) a.length)).drop (64 * i)))).bind fun bt129 => (if bt129.1 = 0 then (region_Lay.l0 k (p : Int) g a ((cnt a + 1 : Nat) : Int) ((i + 1 + 1 : Nat) : Int) bt129.2) else (some (0, bt129.1, bt129.2))) := by
  have hc : cnt a ≤ 200 := by unfold cnt; omega
  have h1 : 64 * i < a.length := by unfold cnt at hi; omega
  have c1 : ((i + 1 : Nat) : Int) < ((cnt a + 1 : Nat) : Int) := by omega
  have c2 : (0 : Int) ≤ ((64 * i : Nat) : Int) := by omega
  have c3 : ((64 * i : Nat) : Int) ≤ ((min (64 * (i + 1)) a.length : Nat) : Int) := by omega
  have c4 : ((min (64 * (i + 1)) a.length : Nat) : Int) ≤ (a.length : Int) := by omega
  conv => lhs; unfold region_Lay.l0
  rw [if_pos c1]
  have e1 : wrap64 (((i + 1 : Nat) : Int) - 1) = (i : Int) := by rw [w64 _ (by omega) (by omega)]; omega
  have e2 : wrap64 ((i : Int) * 64) = ((64 * i : Nat) : Int) := by rw [w64 _ (by omega) (by omega)]; omega
  have e3 : mn (wrap64 (((i + 1 : Nat) : Int) * 64)) (a.length : Int) = ((min (64 * (i + 1)) a.length : Nat) : Int) := by
    rw [w64 _ (by omega) (by omega)]
    unfold mn
    split <;> omega
  have e4 : wrap64 ((p : Int) + ((i + 1 : Nat) : Int)) = ((p + 1 + i : Nat) : Int) := by rw [w64 _ (by omega) (by omega)]; omega
  have e5 : wrap64 (((i + 1 : Nat) : Int) + 1) = ((i + 1 + 1 : Nat) : Int) := by rw [w64 _ (by omega) (by omega)]; omega
  rw [e1, e2, e3, e4, e5, if_pos c2, if_pos c3, if_pos c4, Int.toNat_natCast, Int.toNat_natCast]
  unfold sector_Disk_Write.f
  rw [if_pos hs]
theorem part_le (a : List Int) (i : Nat) : ((a.take (min (64 * (i + 1)) a.length)).drop (64 * i)).length ≤ 64 := by
  rw [List.length_drop, List.length_take]
  omega
theorem lay_fail {N p : Nat} {l : List Int} (g : Int) (a : List Int) (hl : Fit N l []) (hN : p + 1 + cnt a ≤ N) (hN2 : N ≤ 1024) (ha : a.length ≤ 8192) (F : Nat) (hF : F < 100) : ∀ (k i : Nat), i + F < cnt a →
    region_Lay.l0 (k + F + 1) (p : Int) g a ((cnt a + 1 : Nat) : Int) ((i + 1 : Nat) : Int) (Ar l (W p a i) F) = some (0, 4, Dead l (W p a (i + F))) := by
  have hc : cnt a ≤ 200 := by unfold cnt; omega
  induction F with
  | zero =>
    intro k i hi
    rw [Nat.add_zero, lay_step g a hN hN2 ha (by show (W p a i).length < _; rw [W_length]; omega) k i (by omega), write_zero (fit_W a hl (by omega) (by omega)) (by omega) (by omega) (part_le a i), Option.bind_some]
    rfl
  | succ F ih =>
    intro k i hi
    rw [show k + (F + 1) + 1 = (k + F + 1) + 1 by omega, lay_step g a hN hN2 ha (by show (W p a i).length < _; rw [W_length]; omega) _ i (by omega), write_succ (fit_W a hl (by omega) (by omega)) (by omega) (by omega) (part_le a i) F (by omega), Option.bind_some]
    dsimp only
    rw [if_pos rfl, part_fill a i (by omega), ← W_succ, ih (by omega) k (i + 1) (by omega), show i + 1 + F = i + (F + 1) by omega]
theorem lay_goes {N p : Nat} {l : List Int} (g : Int) (a : List Int) (hl : Fit N l []) (hN : p + 1 + cnt a ≤ N) (hN2 : N ≤ 1024) (ha : a.length ≤ 8192) (d : Nat) : ∀ (k i F : Nat), i + d = cnt a → F + d < 1000 →
    region_Lay.l0 (k + d + 1) (p : Int) g a ((cnt a + 1 : Nat) : Int) ((i + 1 : Nat) : Int) (Ar l (W p a i) (F + d)) = region_Lay.l0 (k + 1) (p : Int) g a ((cnt a + 1 : Nat) : Int) ((cnt a + 1 : Nat) : Int) (Ar l (W p a (cnt a)) F) := by
  have hc : cnt a ≤ 200 := by unfold cnt; omega
  induction d with
  | zero =>
    intro k i F hi hF
    obtain rfl : i = cnt a := by omega
    rw [Nat.add_zero k, Nat.add_zero F]
  | succ d ih =>
    intro k i F hi hF
    rw [show k + (d + 1) + 1 = (k + d + 1) + 1 by omega, show F + (d + 1) = (F + d) + 1 by omega, lay_step g a hN hN2 ha (by show (W p a i).length < _; rw [W_length]; omega) _ i (by omega), write_succ (fit_W a hl (by omega) (by omega)) (by omega) (by omega) (part_le a i) (F + d) (by omega), Option.bind_some]
    dsimp only
    rw [if_pos rfl, part_fill a i (by omega), ← W_succ, ih k (i + 1) F (by omega) (by omega)]
/-- the last of it -/
theorem lay_end {p : Nat} (g : Int) (a : List Int) (s : DiskM) (hs : s.loose.length < 1000000) (hb : Crc.Bytes a) (hg : 0 ≤ g) (hg2 : g < 4294967296) (ha : a.length ≤ 8192) (hp : p ≤ 1000) (K : Nat) (hK : 10 * a.length + 130 < K) :
    region_Lay.l0 (K + 1) (p : Int) g a ((cnt a + 1 : Nat) : Int) ((cnt a + 1 : Nat) : Int) s =
      (some (flush s)).bind fun bt131 => (if bt131.1 = 0 then ((sector_Disk_Write.f bt131.2 (p : Int) (hd g a)).bind fun bt136 => (if bt136.1 = 0 then ((sector_Disk_Flush.f bt136.2).bind fun bt138 => (if bt138.1 = 0 then (some (((p + cnt a + 1 : Nat) : Int), 0, bt138.2)) else (some (0, bt138.1, bt138.2)))) else (some (0, bt136.1, bt136.2)))) else (some (0, bt131.1, bt131.2))) := by
  have hc : cnt a ≤ 200 := by unfold cnt; omega
  unfold region_Lay.l0
  rw [if_neg (by omega), first g a K hg hg2 hb (by omega) hK]
  simp only [Option.bind_some]
  rw [w64 _ (by omega) (by omega), show (p : Int) + ((cnt a + 1 : Nat) : Int) = ((p + cnt a + 1 : Nat) : Int) by omega]
  have e : sector_Disk_Flush.f s = some (flush s) := by unfold sector_Disk_Flush.f; rw [if_pos hs]
  rw [e, Option.bind_some]
theorem write_f (s : DiskM) (x : Int) (b : List Int) (h : s.loose.length < 1000000) : sector_Disk_Write.f s x b = some (write s x b) := by
  unfold sector_Disk_Write.f
  rw [if_pos h]
theorem flush_f (s : DiskM) (h : s.loose.length < 1000000) : sector_Disk_Flush.f s = some (flush s) := by
  unfold sector_Disk_Flush.f
  rw [if_pos h]
/-- Lay where a fuse burns. -/
theorem lay_fuse {N p e : Nat} {l : List Int} (g : Int) (a : List Int) (hl : Fit N l []) (hN2 : N ≤ 1000) (hg : 0 ≤ g) (hg2 : g ≤ 2147483647) (hb : Crc.Bytes a) (ha : a.length ≤ 8192) (he : p + cnt a + 1 ≤ e) (he2 : e ≤ 100000) (hN : p + cnt a + 1 ≤ N) (F : Nat) (hF : F < 100) (K : Nat) (hK : 10 * a.length + 130 < K) :
    region_Lay.f (K + 200 + 1 + cnt a + 1) (Ar l [] F) (p : Int) (e : Int) g a =
      if F ≤ cnt a then some (0, 4, Dead l (W p a F)) else if F = cnt a + 1 then some (0, 4, Dead (Disk.settle (W p a (cnt a)) l) []) else if F = cnt a + 2 then some (0, 4, Dead (Disk.settle (W p a (cnt a)) l) [((p : Int), fill (hd g a))]) else some (((p + cnt a + 1 : Nat) : Int), 0, Ar (laid p g a l) [] (F - cnt a - 3)) := by
  have hc : cnt a ≤ 200 := by unfold cnt; omega
  unfold region_Lay.f
  rw [if_neg (by omega), if_neg (by omega), if_neg (by omega), decide_eq_false (by omega)]
  unfold region_Lay.j0
  show (if false = true then _ else _) = _
  rw [if_neg (by decide), size _ (by omega), Option.bind_some]
  unfold sector_Disk_Len.f
  rw [Option.bind_some, show Disk.len (Ar l [] F) = (N : Int) from Fit.len (s := Ar l [] F) hl]
  dsimp only
  have hm : wrap64 (mn (e : Int) (N : Int) - (p : Int)) = mn (e : Int) (N : Int) - (p : Int) := by
    rw [w64] <;> (unfold mn; split <;> omega)
  have hno : ¬ ((((a.length + 63) / 64 + 1 : Nat) : Int) > wrap64 (mn (e : Int) (N : Int) - (p : Int))) := by
    rw [hm]
    unfold mn
    unfold cnt at he hN
    split <;> omega
  rw [if_neg hno]
  clear hno hm
  show region_Lay.l0 (K + 200 + 1 + cnt a) (p : Int) g a ((cnt a + 1 : Nat) : Int) ((0 + 1 : Nat) : Int) (Ar l (W p a 0) F) = _
  by_cases h1 : F < cnt a
  · rw [show K + 200 + 1 + cnt a = (K + 200 + cnt a - F) + F + 1 by omega, lay_fail g a hl (by omega) (by omega) ha F hF _ 0 (by omega), if_pos (by omega), Nat.zero_add]
  · obtain ⟨G, rfl⟩ : ∃ G, F = G + cnt a := ⟨F - cnt a, by omega⟩
    rw [show K + 200 + 1 + cnt a = (K + 200) + cnt a + 1 by omega, lay_goes g a hl (by omega) (by omega) ha (cnt a) (K + 200) 0 G (by omega) (by omega), lay_end g a _ (by show (W p a (cnt a)).length < _; rw [W_length]; omega) hb hg (by omega) ha (by omega) (K + 200) (by omega)]
    have hf := (fit_W a hl (Nat.le_refl _) (by omega : p + 1 + cnt a ≤ N)).settled
    cases G with
    | zero =>
      rw [if_pos (show 0 + cnt a ≤ cnt a by omega), Nat.zero_add, flush_zero, Option.bind_some]
      dsimp only
      rw [if_neg (by decide)]
    | succ G =>
      rw [if_neg (show ¬ G + 1 + cnt a ≤ cnt a by omega), flush_succ _ _ _ (by omega), Option.bind_some]
      dsimp only
      rw [if_pos rfl, write_f _ _ _ (by show 0 < 1000000; decide), Option.bind_some]
      cases G with
      | zero =>
        rw [if_pos (show 0 + 1 + cnt a = cnt a + 1 by omega), write_zero hf (by omega) (by omega) (by rw [hd_length]; decide)]
        dsimp only
        rw [if_neg (by decide)]
      | succ G =>
        rw [if_neg (show ¬ G + 1 + 1 + cnt a = cnt a + 1 by omega), write_succ hf (by omega) (by omega) (by rw [hd_length]; decide) _ (by omega)]
        dsimp only
        rw [if_pos rfl, flush_f _ (by show 1 < 1000000; decide), Option.bind_some]
        cases G with
        | zero =>
          rw [if_pos (show 0 + 1 + 1 + cnt a = cnt a + 2 by omega), flush_zero]
          dsimp only
          rw [if_neg (by decide)]
          rfl
        | succ G =>
          rw [if_neg (show ¬ G + 1 + 1 + 1 + cnt a = cnt a + 2 by omega), flush_succ _ _ _ (by omega)]
          dsimp only
          rw [if_pos rfl, show G + 1 + 1 + 1 + cnt a - cnt a - 3 = G by omega]
          rfl
/-- A head of which only what is behind 8 bytes is not as it was written: what is read is what was written, or nothing. -/
theorem one_rest {N p e : Nat} {D : List Int} (hD : Fit N D []) (hN2 : N ≤ 1024) (g : Int) (a r : List Int) (hr : r.length = 8) (hrb : Crc.Bytes r) (hg : 0 ≤ g) (hg2 : g ≤ 2147483647) (hb : Crc.Bytes a) (ha : a.length ≤ 8192) (h0 : sector D (p : Int) = be4 g ++ (be4 (a.length : Int) ++ (r ++ List.replicate 48 0))) (h1 : ∀ j, j < cnt a → sector D ((p + 1 + j : Nat) : Int) = chunk (pad a) j) (hN : p + cnt a + 1 ≤ N) (he : p + cnt a + 1 ≤ e) (he2 : e ≤ 100000) (K : Nat) (hK : 10 * a.length + 130 < K) :
    ∃ (x : List Int) (bb : Bool), region_one.f (K + 1 + cnt a + 2) (Up N D []) (p : Int) (e : Int) g = some (x, bb, Up N D []) ∧ (bb = true → x = a) := by
  have hc : cnt a ≤ 200 := by unfold cnt; omega
  match r, hr, hrb with
  | [r0, r1, r2, r3, r4, r5, r6, r7], _, hrb =>
  have hb12 : Crc.Bytes (be4 g ++ (be4 (a.length : Int) ++ [r0, r1, r2, r3])) := fun x hx => by
    rcases List.mem_append.1 hx with hx | hx
    · exact be4_bytes _ x hx
    · rcases List.mem_append.1 hx with hx | hx
      · exact be4_bytes _ x hx
      · exact hrb x (by simp only [List.mem_cons, List.mem_nil_iff, or_false] at hx ⊢; rcases hx with rfl | rfl | rfl | rfl <;> simp)
  generalize hR : [r0, r1, r2, r3, r4, r5, r6, r7] = R at h0
  unfold region_one.f
  rw [read_up hD (by omega), Option.bind_some]
  dsimp only
  rw [if_pos rfl, if_neg (by omega), h0, get_be4 g hg (by omega), Option.bind_some, show g % 4294967296 = g by omega, if_pos rfl]
  subst hR
  rw [if_pos (by simp [be4])]
  have t12 : (be4 g ++ (be4 (a.length : Int) ++ ([r0, r1, r2, r3, r4, r5, r6, r7] ++ List.replicate 48 0))).take 12 = be4 g ++ (be4 (a.length : Int) ++ [r0, r1, r2, r3]) := rfl
  have hget : ∀ l, ∃ v, region_Get.f l = some v := fun l => ⟨_, rfl⟩
  obtain ⟨v, hv⟩ := hget ((be4 g ++ (be4 (a.length : Int) ++ ([r0, r1, r2, r3, r4, r5, r6, r7] ++ List.replicate 48 0))).drop 12)
  rw [t12, sum _ hb12 (by show 12 < _; decide) _ (by show 10 * 12 < _; omega), Option.bind_some, hv, Option.bind_some]
  cases hbb : (Crc.crc (be4 g ++ (be4 (a.length : Int) ++ [r0, r1, r2, r3])) != v) with
  | true => exact ⟨[], false, j0_true _ _ _ _ _ _, fun h => by cases h⟩
  | false =>
  rw [show K + 1 + cnt a + 2 = (K + 1 + cnt a + 1) + 1 from rfl]
  unfold region_one.j0
  show ∃ x bb, (if false = true then _ else _) = some (x, bb, Up N D []) ∧ _
  have d4 : (be4 g ++ (be4 (a.length : Int) ++ ([r0, r1, r2, r3, r4, r5, r6, r7] ++ List.replicate 48 0))).drop 4 = be4 (a.length : Int) ++ ([r0, r1, r2, r3, r4, r5, r6, r7] ++ List.replicate 48 0) := rfl
  rw [if_neg (by decide), if_pos (by simp [be4]), d4, get_be4 _ (by omega) (by omega), Option.bind_some, w64 (a.length : Int) (by omega) (by omega), if_neg (by omega), size _ (by omega), Option.bind_some]
  unfold sector_Disk_Len.f
  rw [Option.bind_some, show Disk.len (Up N D []) = (N : Int) from Fit.len (s := Up N D []) hD]
  dsimp only
  have hm : wrap64 (mn (e : Int) (N : Int) - (p : Int)) = mn (e : Int) (N : Int) - (p : Int) := by
    rw [w64] <;> (unfold mn; split <;> omega)
  have hno : ¬ ((((a.length + 63) / 64 + 1 : Nat) : Int) > wrap64 (mn (e : Int) (N : Int) - (p : Int))) := by
    rw [hm]
    unfold mn
    unfold cnt at he hN
    split <;> omega
  rw [decide_eq_false hno]
  clear hno hm
  unfold region_one.j1
  show ∃ x bb, (if false = true then _ else _) = some (x, bb, Up N D []) ∧ _
  rw [if_neg (by decide)]
  have h := one_l0 (e := e) hD hN2 g a (be4 g ++ (be4 (a.length : Int) ++ ([r0, r1, r2, r3, r4, r5, r6, r7] ++ List.replicate 48 0))) ha h1 hN (cnt a) K 0 (by omega)
  rw [show (pad a).take (64 * 0) = [] from rfl, show ((0 + 1 : Nat) : Int) = 1 from rfl] at h
  rw [show K + 1 + cnt a = K + cnt a + 1 by omega, h]
  unfold region_one.l0
  have hpl := pad_length a
  rw [size _ (by omega), Option.bind_some, if_neg (by unfold cnt; omega), if_pos (by omega), if_pos (by rw [hpl]; unfold cnt; omega), Option.bind_some, Int.toNat_natCast, pad_take, first g a K hg (by omega) hb (by omega) hK, Option.bind_some, if_pos (by simp [be4])]
  have heq : ∀ l m, ∃ v, bytes_Equal.f l m = some v := fun l m => ⟨_, rfl⟩
  obtain ⟨q, hq⟩ := heq (hd g a) ((be4 g ++ (be4 (a.length : Int) ++ ([r0, r1, r2, r3, r4, r5, r6, r7] ++ List.replicate 48 0))).take 16)
  have d16 : (be4 g ++ (be4 (a.length : Int) ++ ([r0, r1, r2, r3, r4, r5, r6, r7] ++ List.replicate 48 0))).drop 16 = List.replicate 48 0 := rfl
  rw [hq, Option.bind_some, d16]
  cases q with
  | false => exact ⟨a, false, rfl, fun _ => rfl⟩
  | true =>
    rw [if_pos rfl, zero_replicate, Option.bind_some, if_pos rfl, pad_drop, zero_replicate, Option.bind_some]
    exact ⟨a, true, rfl, fun _ => rfl⟩
theorem crc_short0 : Crc.crc [0, 0, 0, 5, 0, 0, 0, 0, 0, 0, 0, 0] ≠ 0 := by decide +kernel
theorem crc_short1 : Crc.crc [0, 0, 0, 5, 0, 0, 1, 0, 0, 0, 0, 0] ≠ 0 := by decide +kernel
/-- A head of which not even its length landed. -/
theorem one_short {N p e : Nat} {D : List Int} (hD : Fit N D []) (hp : p < N) (hpe : p < e) (c : Int) (hc : c = 0 ∨ c = 1) (h0 : sector D (p : Int) = [0, 0, 0, 5, 0, 0, c, 0, 0, 0, 0, 0] ++ (0 :: 0 :: 0 :: 0 :: List.replicate 48 0)) (k : Nat) (hk : 130 < k) :
    region_one.f (k + 1) (Up N D []) (p : Int) (e : Int) 5 = some ([], false, Up N D []) := by
  unfold region_one.f
  rw [read_up hD hp, Option.bind_some]
  dsimp only
  have h5 : region_Get.f ([0, 0, 0, 5, 0, 0, c, 0, 0, 0, 0, 0] ++ (0 :: 0 :: 0 :: 0 :: List.replicate 48 0)) = some 5 := get_be4 5 (by decide) (by decide) ([0, 0, c, 0, 0, 0, 0, 0] ++ (0 :: 0 :: 0 :: 0 :: List.replicate 48 0))
  rw [if_pos rfl, if_neg (by omega), h0, h5, Option.bind_some, if_pos (by decide), if_pos (by simp)]
  rw [show ([0, 0, 0, 5, 0, 0, c, 0, 0, 0, 0, 0] ++ (0 :: 0 :: 0 :: 0 :: List.replicate 48 (0 : Int))).take 12 = [0, 0, 0, 5, 0, 0, c, 0, 0, 0, 0, 0] from rfl, show ([0, 0, 0, 5, 0, 0, c, 0, 0, 0, 0, 0] ++ (0 :: 0 :: 0 :: 0 :: List.replicate 48 (0 : Int))).drop 12 = 0 :: 0 :: 0 :: 0 :: List.replicate 48 0 from rfl]
  have hb : Crc.Bytes [0, 0, 0, 5, 0, 0, c, 0, 0, 0, 0, 0] := fun x hx => by
    simp only [List.mem_cons, List.mem_nil_iff, or_false] at hx
    omega
  have hne : Crc.crc [0, 0, 0, 5, 0, 0, c, 0, 0, 0, 0, 0] ≠ 0 := by
    rcases hc with rfl | rfl
    · exact crc_short0
    · exact crc_short1
  rw [sum _ hb (by show 12 < _; decide) (k + 1) (by show 10 * 12 < _; omega), Option.bind_some, zeros_get, Option.bind_some, show (Crc.crc [0, 0, 0, 5, 0, 0, c, 0, 0, 0, 0, 0] != 0) = true from bne_iff_ne.2 hne]
  exact j0_true k _ _ _ _ _
end Go.Proofs.Ytjaibpphlbddoaa.RegRegionTorn
