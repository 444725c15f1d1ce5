/- What one and Scan make of sectors; for the statement WalSupers. -/
import Derived.Test.YtpojfebecmjloaaRegBWalSupers
namespace Go.Proofs.Ytpojfebecmjloaa.RegWalSupers
open Go.RowKit Go.Proofs.Ytpojfebecmjloaa.PWalSupers Go.Proofs.YtpojfebecmjloaaW.PrintWords Go.Proofs.YtpojfebecmjloaaW.PrintLast Go.Proofs.YtpojfebecmjloaaW.PrintMore Go.Proofs.Ytpojfebecmjloaa.Disk Go.Proofs.Ytpojfebecmjloaa
set_option linter.unusedVariables false
set_option linter.unusedSimpArgs false
theorem j0_true (k : Nat) (x1 x2 x3 : Int) (x10 : List Int) (s : Disk.DiskM) : region_one.j0 (k + 1) x1 x2 x3 x10 true s = some ([], false, s) := by
  unfold region_one.j0
  rfl
/-- No entry: another generation. -/
theorem one_other {N p e : Nat} {D : List Int} (hD : Fit N D []) (hp : p < N) (hpe : p < e) (g v : Int) (r : List Int) (hv : 0 ≤ v) (hv2 : v < 4294967296) (hg : 0 ≤ g) (hg2 : g < 4294967296) (hne : v ≠ g) (h0 : sector D (p : Int) = be4 v ++ r) (k : Nat) :
    region_one.f (k + 1) (Up N D []) (p : Int) (e : Int) g = some ([], false, Up N D []) := by
  unfold region_one.f
  rw [read_up hD hp, Option.bind_some]
  dsimp only
  rw [if_pos rfl, if_neg (by omega), h0, get_be4 v hv hv2, Option.bind_some, show g % 4294967296 = g by omega, if_neg hne]
  exact j0_true k _ _ _ _ _
theorem crc_zeros : Crc.crc (List.replicate 12 0) ≠ 0 := by decide +kernel
theorem zeros_get (r : List Int) : region_Get.f (0 :: 0 :: 0 :: 0 :: r) = some 0 := get_be4 0 (by decide) (by decide) r
/-- No entry: nothing but 0. -/
theorem one_zero {N p e : Nat} {D : List Int} (hD : Fit N D []) (hp : p < N) (hpe : p < e) (g : Int) (hg : 0 ≤ g) (hg2 : g < 4294967296) (h0 : sector D (p : Int) = List.replicate 64 0) (k : Nat) (hk : 130 < k) :
    region_one.f (k + 1) (Up N D []) (p : Int) (e : Int) g = some ([], false, Up N D []) := by
  by_cases hne : (0 : Int) = g
  · unfold region_one.f
    rw [read_up hD hp, Option.bind_some]
    dsimp only
    rw [if_pos rfl, if_neg (by omega), h0, show (List.replicate 64 (0 : Int)) = 0 :: 0 :: 0 :: 0 :: List.replicate 60 0 from rfl, zeros_get, Option.bind_some, show g % 4294967296 = g by omega, if_pos hne, if_pos (by simp)]
    rw [show (0 :: 0 :: 0 :: 0 :: List.replicate 60 (0 : Int)).take 12 = List.replicate 12 0 from rfl, show (0 :: 0 :: 0 :: 0 :: List.replicate 60 (0 : Int)).drop 12 = 0 :: 0 :: 0 :: 0 :: List.replicate 48 0 from rfl]
    rw [sum (List.replicate 12 0) (fun x hx => by rw [(List.mem_replicate.1 hx).2]; omega) (by simp) (k + 1) (by simp; omega), Option.bind_some, zeros_get, Option.bind_some, show (Crc.crc (List.replicate 12 0) != 0) = true from bne_iff_ne.2 crc_zeros]
    exact j0_true k _ _ _ _ _
  · exact one_other hD hp hpe g 0 (List.replicate 60 0) (by decide) (by decide) hg hg2 hne (by rw [h0]; rfl) k
theorem pad_take (a : List Int) : (pad a).take a.length = a := by
  unfold pad
  rw [List.take_left']
  rfl
theorem pad_drop (a : List Int) : (pad a).drop a.length = List.replicate (64 * cnt a - a.length) 0 := by
  unfold pad
  rw [List.drop_left']
  rfl
theorem zero_replicate (n : Nat) : region_zero.f (List.replicate n 0) = some true := by
  unfold region_zero.f
  rw [List.all_eq_true.2 (fun x hx => by rw [(List.mem_replicate.1 hx).2]; rfl)]
theorem equal_self (l : List Int) : bytes_Equal.f l l = some true := by
  unfold bytes_Equal.f
  rw [beq_self_eq_true]
theorem one_l0 {N p e : Nat} {D : List Int} (hD : Fit N D []) (hN2 : N ≤ 1024) (g : Int) (a : List Int) (x10 : List Int) (ha : a.length ≤ 8192) (h1 : ∀ j, j < cnt a → sector D ((p + 1 + j : Nat) : Int) = chunk (pad a) j) (hN : p + cnt a + 1 ≤ N) (d : Nat) : ∀ (k i : Nat), i + d = cnt a →
    region_one.l0 (k + d + 1) (p : Int) g x10 (a.length : Int) ((pad a).take (64 * i)) ((i + 1 : Nat) : Int) (Up N D []) = region_one.l0 (k + 1) (p : Int) g x10 (a.length : Int) (pad a) ((cnt a + 1 : Nat) : Int) (Up N D []) := by
  induction d with
  | zero =>
    intro k i hi
    obtain rfl : i = cnt a := by omega
    rw [Nat.add_zero, List.take_of_length_le (by rw [pad_length]; exact Nat.le_refl _)]
  | succ d ih =>
    intro k i hi
    have hc : cnt a ≤ 200 := by unfold cnt; omega
    rw [show k + (d + 1) + 1 = (k + d + 1) + 1 by omega]
    conv => lhs; unfold region_one.l0
    have e4 : wrap64 ((p : Int) + ((i + 1 : Nat) : Int)) = ((p + 1 + i : Nat) : Int) := by rw [w64 _ (by omega) (by omega)]; omega
    have e5 : wrap64 (((i + 1 : Nat) : Int) + 1) = ((i + 1 + 1 : Nat) : Int) := by rw [w64 _ (by omega) (by omega)]; omega
    rw [size _ (by omega), Option.bind_some, e4, e5]
    clear e4 e5
    have hlt : ((i + 1 : Nat) : Int) < (((a.length + 63) / 64 + 1 : Nat) : Int) := by unfold cnt at hi; omega
    rw [if_pos hlt, read_up hD (by omega), Option.bind_some]
    dsimp only
    have hlen : ((pad a).take (64 * i)).length + (sector D ((p + 1 + i : Nat) : Int)).length < 140737488355328 := by
      rw [h1 i (by omega), chunk_length (by omega), List.length_take]
      omega
    rw [if_pos hlen, h1 i (by omega), chunk_next]
    exact ih k (i + 1) (by omega)
/-- The entry that was laid is there. -/
theorem one_yes {N p e : Nat} {D : List Int} (hD : Fit N D []) (hN2 : N ≤ 1024) (g : Int) (a : List Int) (hg : 0 ≤ g) (hg2 : g ≤ 2147483647) (hb : Crc.Bytes a) (ha : a.length ≤ 8192) (h0 : sector D (p : Int) = fill (hd g a)) (h1 : ∀ j, j < cnt a → sector D ((p + 1 + j : Nat) : Int) = chunk (pad a) j) (hN : p + cnt a + 1 ≤ N) (he : p + cnt a + 1 ≤ e) (he2 : e ≤ 100000) (K : Nat) (hK : 10 * a.length + 130 < K) :
    region_one.f (K + 1 + cnt a + 2) (Up N D []) (p : Int) (e : Int) g = some (a, true, Up N D []) := by
  have hc : cnt a ≤ 200 := by unfold cnt; omega
  have hcr := Crc.crc_nonneg (h12 g a)
  have hcr2 := Crc.crc_lt (h12 g a)
  unfold region_one.f
  rw [read_up hD (by omega), Option.bind_some]
  dsimp only
  rw [if_pos rfl, if_neg (by omega), h0, fill_hd, get_be4 g hg (by omega), Option.bind_some, show g % 4294967296 = g by omega, if_pos rfl, if_pos (by simp [be4])]
  have t12 : (be4 g ++ (be4 (a.length : Int) ++ (be4 (Crc.crc a) ++ (be4 (Crc.crc (h12 g a)) ++ List.replicate 48 0)))).take 12 = h12 g a := rfl
  have d12 : (be4 g ++ (be4 (a.length : Int) ++ (be4 (Crc.crc a) ++ (be4 (Crc.crc (h12 g a)) ++ List.replicate 48 0)))).drop 12 = be4 (Crc.crc (h12 g a)) ++ List.replicate 48 0 := rfl
  rw [t12, d12, sum _ (h12_bytes g a) (by show 12 < _; decide) _ (by show 10 * 12 < _; omega), Option.bind_some, get_be4 _ hcr hcr2, Option.bind_some, bne_self_eq_false]
  rw [show K + 1 + cnt a + 2 = (K + 1 + cnt a + 1) + 1 from rfl]
  unfold region_one.j0
  show (if false = true then _ else _) = _
  have d4 : (be4 g ++ (be4 (a.length : Int) ++ (be4 (Crc.crc a) ++ (be4 (Crc.crc (h12 g a)) ++ List.replicate 48 0)))).drop 4 = be4 (a.length : Int) ++ (be4 (Crc.crc a) ++ (be4 (Crc.crc (h12 g a)) ++ List.replicate 48 0)) := rfl
  rw [if_neg (by decide), if_pos (by simp [be4]), d4, get_be4 _ (by omega) (by omega), Option.bind_some, w64 (a.length : Int) (by omega) (by omega), if_neg (by omega), size _ (by omega), Option.bind_some]
  unfold sector_Disk_Len.f
  rw [Option.bind_some, show Disk.len (Up N D []) = (N : Int) from Fit.len (s := Up N D []) hD]
  dsimp only
  have hm : wrap64 (mn (e : Int) (N : Int) - (p : Int)) = mn (e : Int) (N : Int) - (p : Int) := by
    rw [w64] <;> (unfold mn; split <;> omega)
  have hno : ¬ ((((a.length + 63) / 64 + 1 : Nat) : Int) > wrap64 (mn (e : Int) (N : Int) - (p : Int))) := by
    rw [hm]
    unfold mn
    unfold cnt at he hN
    split <;> omega
  rw [decide_eq_false hno]
  clear hno hm
  unfold region_one.j1
  show (if false = true then _ else _) = _
  rw [if_neg (by decide)]
  have h := one_l0 (e := e) hD hN2 g a (be4 g ++ (be4 (a.length : Int) ++ (be4 (Crc.crc a) ++ (be4 (Crc.crc (h12 g a)) ++ List.replicate 48 0)))) ha h1 hN (cnt a) K 0 (by omega)
  rw [show (pad a).take (64 * 0) = [] from rfl, show ((0 + 1 : Nat) : Int) = 1 from rfl] at h
  rw [show K + 1 + cnt a = K + cnt a + 1 by omega, h]
  unfold region_one.l0
  have hpl := pad_length a
  rw [size _ (by omega), Option.bind_some, if_neg (by unfold cnt; omega), if_pos (by omega), if_pos (by rw [hpl]; unfold cnt; omega), Option.bind_some, Int.toNat_natCast, pad_take, first g a K hg (by omega) hb (by omega) hK, Option.bind_some, if_pos (by simp [be4])]
  have t16 : (be4 g ++ (be4 (a.length : Int) ++ (be4 (Crc.crc a) ++ (be4 (Crc.crc (h12 g a)) ++ List.replicate 48 0)))).take 16 = hd g a := rfl
  have d16 : (be4 g ++ (be4 (a.length : Int) ++ (be4 (Crc.crc a) ++ (be4 (Crc.crc (h12 g a)) ++ List.replicate 48 0)))).drop 16 = List.replicate 48 0 := rfl
  rw [t16, d16, equal_self, Option.bind_some, if_pos rfl, zero_replicate, Option.bind_some, if_pos rfl, pad_drop, zero_replicate, Option.bind_some]
/-- A scan that finds nothing. -/
theorem scan_none {s : Disk.DiskM} {p e g : Int} {k : Nat} (h : region_one.f k s p e g = some ([], false, s)) (out : List (List Int)) : region_Scan.l0 (k + 1) p e g out s = some (out, p, s) := by
  unfold region_Scan.l0
  rw [h, Option.bind_some]
  dsimp only
  rw [if_neg (by decide)]
theorem scan_more {p : Nat} {e g : Int} {s : Disk.DiskM} {k : Nat} (a : List Int) (hp : p ≤ 100000) (ha : a.length ≤ 8192) (h : region_one.f k s (p : Int) e g = some (a, true, s)) (out : List (List Int)) (ho : out.length < 1000000) : region_Scan.l0 (k + 1) (p : Int) e g out s = region_Scan.l0 k ((p + cnt a + 1 : Nat) : Int) e g (out ++ [a]) s := by
  have hc : cnt a ≤ 200 := by unfold cnt; omega
  conv => lhs; unfold region_Scan.l0
  rw [h, Option.bind_some]
  dsimp only
  rw [if_pos rfl, if_pos (by omega), size _ (by omega), Option.bind_some, w64 _ (by omega) (by omega), show (p : Int) + (((a.length + 63) / 64 + 1 : Nat) : Int) = ((p + cnt a + 1 : Nat) : Int) by unfold cnt; omega]
end Go.Proofs.Ytpojfebecmjloaa.RegWalSupers
