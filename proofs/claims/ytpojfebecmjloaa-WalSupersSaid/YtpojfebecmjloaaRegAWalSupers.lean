/- What entries in sectors are, and what the printed functions of region make of them; for the statement WalSupers. -/
import Derived.Test.YtpojfebecmjloaaDiskLaws
import Derived.Test.YtpojfebecmjloaaCrc
import Derived.Test.YtpojfebecmjloaaPWalSupersx
namespace Go.Proofs.Ytpojfebecmjloaa.RegWalSupers
open Go.RowKit Go.Proofs.Ytpojfebecmjloaa.PWalSupers Go.Proofs.YtpojfebecmjloaaW.PrintWords Go.Proofs.YtpojfebecmjloaaW.PrintLast Go.Proofs.YtpojfebecmjloaaW.PrintMore Go.Proofs.Ytpojfebecmjloaa.Disk Go.Proofs.Ytpojfebecmjloaa
set_option linter.unusedVariables false
set_option linter.unusedSimpArgs false
theorem w64 (i : Int) (h0 : -4611686018427387904 ≤ i) (h : i < 4611686018427387904) : wrap64 i = i := by unfold wrap64; omega
/-- a number in four bytes -/
def be4 (v : Int) : List Int := [(v / 16777216) % 256, (v / 65536) % 256, (v / 256) % 256, v % 256]
theorem be4_bytes (v : Int) : Crc.Bytes (be4 v) := fun x hx => by
  simp only [be4, List.mem_cons, List.mem_nil_iff, or_false] at hx
  rcases hx with rfl | rfl | rfl | rfl <;> omega
theorem or_add8 (x b : Int) (hx0 : 0 ≤ x) (hx : x < 4294967296) (hd : x % 256 = 0) (hb : 0 ≤ b ∧ b < 256) : Go.bits .or .u32 x b = x + b := by
  refine bits_join .u32 32 (by decide) (fun n h0 h1 => by rw [IntKind.wrap_u32]; omega) 8 x b hx0 hd (by omega) hb.1 hb.2 ?_
  omega
theorem get_be4 (v : Int) (h0 : 0 ≤ v) (h : v < 4294967296) (r : List Int) : region_Get.f (be4 v ++ r) = some v := by
  have e : region_Get.f (be4 v ++ r) = some (getS [(v / 16777216) % 256, (v / 65536) % 256, (v / 256) % 256, v % 256] 0) := rfl
  rw [e]
  have ha : 0 ≤ (v / 16777216) % 256 ∧ (v / 16777216) % 256 < 256 := by omega
  have hb : 0 ≤ (v / 65536) % 256 ∧ (v / 65536) % 256 < 256 := by omega
  have hc : 0 ≤ (v / 256) % 256 ∧ (v / 256) % 256 < 256 := by omega
  have hd : 0 ≤ v % 256 ∧ v % 256 < 256 := by omega
  have hv : v = (v / 16777216) % 256 * 16777216 + (v / 65536) % 256 * 65536 + (v / 256) % 256 * 256 + v % 256 := by omega
  generalize (v / 16777216) % 256 = a at *
  generalize (v / 65536) % 256 = b at *
  generalize (v / 256) % 256 = c at *
  generalize v % 256 = d at *
  unfold getS getS getS getS getS
  rw [show a % 4294967296 = a by omega, show b % 4294967296 = b by omega, show c % 4294967296 = c by omega, show d % 4294967296 = d by omega]
  rw [or_add8 _ a (by omega) (by omega) (by omega) ha]
  rw [or_add8 _ b (by omega) (by omega) (by omega) hb]
  rw [or_add8 _ c (by omega) (by omega) (by omega) hc]
  rw [or_add8 _ d (by omega) (by omega) (by omega) hd]
  congr 1
  omega
theorem sum (l : List Int) (hb : Crc.Bytes l) (hl : l.length < 4611686018427387904) (k : Nat) (hk : 10 * l.length < k) : sum_Of.f k l = some (Crc.crc l) :=
  Crc.sumOf_tells sum_Of.l0 sum_Of.l1 (fun _ _ _ _ _ => rfl) (fun _ _ _ _ _ _ => rfl) l hb hl k hk
theorem put (l : List Int) (v : Int) (h : l.length < 1000000) : region_Put.f l v = some (l ++ be4 v) := by
  unfold region_Put.f
  rw [Option.bind_some, if_pos (by simp; omega)]
  rfl
def h12 (g : Int) (a : List Int) : List Int := be4 g ++ be4 (a.length : Int) ++ be4 (Crc.crc a)
def hd (g : Int) (a : List Int) : List Int := h12 g a ++ be4 (Crc.crc (h12 g a))
theorem h12_bytes (g : Int) (a : List Int) : Crc.Bytes (h12 g a) := fun x hx => by
  unfold h12 at hx
  rcases List.mem_append.1 hx with hx | hx
  · rcases List.mem_append.1 hx with hx | hx
    · exact be4_bytes _ x hx
    · exact be4_bytes _ x hx
  · exact be4_bytes _ x hx
theorem first (g : Int) (a : List Int) (k : Nat) (hg : 0 ≤ g) (hg2 : g < 4294967296) (hb : Crc.Bytes a) (hl : a.length < 100000) (hk : 10 * a.length + 130 < k) : region_first.f k g a = some (hd g a) := by
  unfold region_first.f
  rw [show g % 4294967296 = g by omega, show (a.length : Int) % 4294967296 = (a.length : Int) by omega, put [] _ (by simp), Option.bind_some, put _ _ (by simp [be4]), Option.bind_some,
    sum a hb (by omega) k (by omega), Option.bind_some, put _ _ (by simp [be4]), Option.bind_some, List.nil_append]
  show ((sum_Of.f k (h12 g a)).bind fun t => (region_Put.f (h12 g a) t).bind fun t => some t) = _
  rw [sum _ (h12_bytes g a) (by show 12 < _; decide) k (by show 10 * 12 < k; omega), Option.bind_some, put _ _ (by show 12 < _; decide), Option.bind_some]
  rfl
theorem fill_hd (g : Int) (a : List Int) : fill (hd g a) = be4 g ++ (be4 (a.length : Int) ++ (be4 (Crc.crc a) ++ (be4 (Crc.crc (h12 g a)) ++ List.replicate 48 0))) := rfl
/-- the bytes of an entry, filled up to sectors -/
def cnt (a : List Int) : Nat := (a.length + 63) / 64
def pad (a : List Int) : List Int := a ++ List.replicate (64 * cnt a - a.length) 0
theorem pad_length (a : List Int) : (pad a).length = 64 * cnt a := by
  unfold pad cnt
  rw [List.length_append, List.length_replicate]
  omega
def chunk (l : List Int) (i : Nat) : List Int := (l.drop (64 * i)).take 64
theorem chunk_next (l : List Int) (i : Nat) : l.take (64 * i) ++ chunk l i = l.take (64 * (i + 1)) := by
  unfold chunk
  rw [show 64 * (i + 1) = 64 * i + 64 by omega, List.take_add]
theorem chunk_length {a : List Int} {i : Nat} (h : i < cnt a) : (chunk (pad a) i).length = 64 := by
  unfold chunk
  rw [List.length_take, List.length_drop, pad_length]
  omega
theorem part_fill (a : List Int) (i : Nat) (h : i < cnt a) : fill ((a.take (min (64 * (i + 1)) a.length)).drop (64 * i)) = chunk (pad a) i := by
  apply List.ext_getElem?
  intro j
  have h1 : 64 * i < a.length := by unfold cnt at h; omega
  have hl : ((a.take (min (64 * (i + 1)) a.length)).drop (64 * i)).length = min (64 * (i + 1)) a.length - 64 * i := by rw [List.length_drop, List.length_take]; omega
  unfold fill chunk pad
  rw [List.getElem?_append, hl, List.getElem?_take, List.getElem?_drop, List.getElem?_drop, List.getElem?_append]
  by_cases hj : j < min (64 * (i + 1)) a.length - 64 * i
  · rw [if_pos hj, List.getElem?_take, if_pos (by omega), if_pos (by omega), if_pos (by omega)]
  · rw [if_neg hj, List.getElem?_replicate]
    by_cases h64 : j < 64
    · rw [if_pos (by omega), if_pos h64, if_neg (by omega), List.getElem?_replicate, if_pos (by unfold cnt; unfold cnt at h; omega)]
    · rw [if_neg (by omega), if_neg h64]
theorem size (n : Nat) (h : n ≤ 100000) : region_Size.f (n : Int) = some ((((n + 63) / 64 + 1 : Nat)) : Int) := by
  unfold region_Size.f
  have hm : mx (n : Int) 0 = n := by unfold mx; rw [if_neg (by omega)]
  rw [hm, w64 ((n : Int) + 64) (by omega) (by omega), w64 ((n : Int) + 64 - 1) (by omega) (by omega), Int.tdiv_eq_ediv_of_nonneg (by omega), w64 (((n : Int) + 64 - 1) / 64) (by omega) (by omega), w64 _ (by omega) (by omega)]
  congr 1
  omega
end Go.Proofs.Ytpojfebecmjloaa.RegWalSupers
