/- What Lay leaves, and what one and Scan make of it; for the statement WalSupers. -/
import Derived.Test.YtpojfebecmjloaaRegAWalSupers
namespace Go.Proofs.Ytpojfebecmjloaa.RegWalSupers
open Go.RowKit Go.Proofs.Ytpojfebecmjloaa.PWalSupers Go.Proofs.YtpojfebecmjloaaW.PrintWords Go.Proofs.YtpojfebecmjloaaW.PrintLast Go.Proofs.YtpojfebecmjloaaW.PrintMore Go.Proofs.Ytpojfebecmjloaa.Disk Go.Proofs.Ytpojfebecmjloaa
set_option linter.unusedVariables false
set_option linter.unusedSimpArgs false
/-- the loose writes of an entry's bytes -/
def W (p : Nat) (a : List Int) (i : Nat) : List (Int × List Int) := (List.range i).map fun (t : Nat) => (((p + 1 + t : Nat) : Int), chunk (pad a) t)
theorem W_succ (p : Nat) (a : List Int) (i : Nat) : W p a (i + 1) = W p a i ++ [(((p + 1 + i : Nat) : Int), chunk (pad a) i)] := by simp [W, List.range_succ]
theorem W_length (p : Nat) (a : List Int) (i : Nat) : (W p a i).length = i := by simp [W]
theorem fit_W {N p i : Nat} {l : List Int} (a : List Int) (hl : Fit N l []) (hi : i ≤ cnt a) (hN : p + 1 + i ≤ N) : Fit N l (W p a i) := ⟨hl.lasts, fun q hq => by
  obtain ⟨t, ht, rfl⟩ := List.mem_map.1 hq
  have := List.mem_range.1 ht
  exact ⟨by dsimp only; omega, by dsimp only; omega, chunk_length (by omega)⟩⟩
theorem latest_W {p i j : Nat} (a : List Int) (h : j < i) : latest (W p a i) ((p + 1 + j : Nat) : Int) = some (chunk (pad a) j) := by
  have hk : j < (W p a i).length := by rw [W_length]; exact h
  have hg : (W p a i)[j] = (((p + 1 + j : Nat) : Int), chunk (pad a) j) := by simp [W]
  rw [latest_at hk (by rw [hg]) (fun q hq => ?_), hg]
  obtain ⟨t, ht⟩ := List.mem_iff_getElem?.1 hq
  rw [List.getElem?_drop] at ht
  obtain ⟨h3, h4⟩ := List.getElem?_eq_some_iff.1 ht
  rw [← h4]
  simp [W]
  omega
theorem latest_W_none {p i x : Nat} (a : List Int) (h : x ≤ p ∨ p + 1 + i ≤ x) : latest (W p a i) (x : Int) = none := latest_none (fun q hq e => by
  obtain ⟨t, ht, rfl⟩ := List.mem_map.1 hq
  have := List.mem_range.1 ht
  dsimp only at e
  omega)
theorem lay_l0 {N p : Nat} {l : List Int} (g : Int) (a : List Int) (hl : Fit N l []) (hN : p + 1 + cnt a ≤ N) (hN2 : N ≤ 1024) (ha : a.length ≤ 8192) (d : Nat) : ∀ (k i : Nat), i + d = cnt a →
    region_Lay.l0 (k + d + 1) (p : Int) g a ((cnt a + 1 : Nat) : Int) ((i + 1 : Nat) : Int) (Up N l (W p a i)) = region_Lay.l0 (k + 1) (p : Int) g a ((cnt a + 1 : Nat) : Int) ((cnt a + 1 : Nat) : Int) (Up N l (W p a (cnt a))) := by
  induction d with
  | zero =>
    intro k i hi
    obtain rfl : i = cnt a := by omega
    rw [Nat.add_zero]
  | succ d ih =>
    intro k i hi
    have hc : cnt a ≤ 200 := by unfold cnt; omega
    have h1 : 64 * i < a.length := by unfold cnt at hi; omega
    rw [show k + (d + 1) + 1 = (k + d + 1) + 1 by omega]
    conv => lhs; unfold region_Lay.l0
    have e1 : wrap64 (((i + 1 : Nat) : Int) - 1) = (i : Int) := by rw [w64 _ (by omega) (by omega)]; omega
    have e2 : wrap64 ((i : Int) * 64) = ((64 * i : Nat) : Int) := by rw [w64 _ (by omega) (by omega)]; omega
    have e3 : mn (wrap64 (((i + 1 : Nat) : Int) * 64)) (a.length : Int) = ((min (64 * (i + 1)) a.length : Nat) : Int) := by
      rw [w64 _ (by omega) (by omega)]
      unfold mn
      split <;> omega
    have e4 : wrap64 ((p : Int) + ((i + 1 : Nat) : Int)) = ((p + 1 + i : Nat) : Int) := by rw [w64 _ (by omega) (by omega)]; omega
    have e5 : wrap64 (((i + 1 : Nat) : Int) + 1) = ((i + 1 + 1 : Nat) : Int) := by rw [w64 _ (by omega) (by omega)]; omega
    rw [if_pos (by omega), e1, e2, e3, e4, e5]
    clear e1 e2 e3 e4 e5
    rw [if_pos (by omega), if_pos (by omega), if_pos (by omega), Int.toNat_natCast, Int.toNat_natCast]
    unfold sector_Disk_Write.f
    rw [if_pos (by show (W p a i).length < _; rw [W_length]; omega), write_up (fit_W a hl (by omega) (by omega)) (by omega) (by omega) (by rw [List.length_drop, List.length_take]; omega), Option.bind_some]
    dsimp only
    rw [if_pos rfl, part_fill a i (by omega), ← W_succ, ih k (i + 1) (by omega)]
/-- what lasts behind an entry -/
def laid (p : Nat) (g : Int) (a l : List Int) : List Int := Disk.settle [((p : Int), fill (hd g a))] (Disk.settle (W p a (cnt a)) l)
theorem hd_length (g : Int) (a : List Int) : (hd g a).length = 16 := rfl
theorem fit_one {N p : Nat} {l : List Int} (b : List Int) (hb : b.length ≤ 64) (hl : Fit N l []) (hp : p < N) : Fit N l [((p : Int), fill b)] := by
  have := hl.push (a := (p : Int)) (b := fill b) (by omega) (by omega) (fill_length hb)
  rwa [List.nil_append] at this
theorem lay {N p e : Nat} {l : List Int} (g : Int) (a : List Int) (hl : Fit N l []) (hN2 : N ≤ 1024) (hg : 0 ≤ g) (hg2 : g ≤ 2147483647) (hb : Crc.Bytes a) (ha : a.length ≤ 8192) (he : p + cnt a + 1 ≤ e) (he2 : e ≤ 100000) (hN : p + cnt a + 1 ≤ N) (K : Nat) (hK : 10 * a.length + 130 < K) :
    region_Lay.f (K + 1 + cnt a + 1) (Up N l []) (p : Int) (e : Int) g a = some (((p + cnt a + 1 : Nat) : Int), 0, Up N (laid p g a l) []) := by
  unfold region_Lay.f
  rw [if_neg (by omega), if_neg (by omega), if_neg (by omega), decide_eq_false (by omega)]
  unfold region_Lay.j0
  show (if false = true then _ else _) = _
  rw [if_neg (by decide), size _ (by omega), Option.bind_some]
  unfold sector_Disk_Len.f
  rw [Option.bind_some, show Disk.len (Up N l []) = (N : Int) from Fit.len (s := Up N l []) hl]
  dsimp only
  have hm : wrap64 (mn (e : Int) (N : Int) - (p : Int)) = mn (e : Int) (N : Int) - (p : Int) := by
    rw [w64] <;> (unfold mn; split <;> omega)
  have hno : ¬ ((((a.length + 63) / 64 + 1 : Nat) : Int) > wrap64 (mn (e : Int) (N : Int) - (p : Int))) := by
    rw [hm]
    unfold mn
    unfold cnt at he hN
    split <;> omega
  rw [if_neg hno]
  have h := lay_l0 (p := p) g a hl (by omega) hN2 ha (cnt a) K 0 (by omega)
  rw [show W p a 0 = [] from rfl, show ((0 + 1 : Nat) : Int) = 1 from rfl] at h
  rw [show (((a.length + 63) / 64 + 1 : Nat) : Int) = ((cnt a + 1 : Nat) : Int) from rfl, show K + 1 + cnt a = K + cnt a + 1 by omega, h]
  unfold region_Lay.l0
  rw [if_neg (by omega)]
  unfold sector_Disk_Flush.f
  have hc : cnt a ≤ 200 := by unfold cnt; omega
  rw [if_pos (by show (W p a (cnt a)).length < _; rw [W_length]; omega), Option.bind_some, flush_up]
  dsimp only
  rw [if_pos rfl, first g a K hg (by omega) hb (by omega) hK, Option.bind_some]
  unfold sector_Disk_Write.f
  have hf := (fit_W a hl (Nat.le_refl _) (by omega : p + 1 + cnt a ≤ N)).settled
  rw [if_pos (by show 0 < 1000000; decide), write_up hf (by omega) (by omega) (by rw [hd_length]; decide), Option.bind_some]
  dsimp only
  rw [if_pos rfl, if_pos (by show 1 < 1000000; decide), Option.bind_some, flush_up]
  dsimp only
  rw [if_pos rfl, w64 _ (by omega) (by omega), show (p : Int) + ((cnt a + 1 : Nat) : Int) = ((p + cnt a + 1 : Nat) : Int) by omega]
  rfl
theorem fit_laid {N p : Nat} {l : List Int} (g : Int) (a : List Int) (hl : Fit N l []) (hN : p + cnt a + 1 ≤ N) : Fit N (laid p g a l) [] :=
  (fit_one (hd g a) (by rw [hd_length]; decide) (fit_W a hl (Nat.le_refl _) (by omega : p + 1 + cnt a ≤ N)).settled (by omega)).settled
theorem laid_at {N p : Nat} {l : List Int} (g : Int) (a : List Int) (hl : Fit N l []) (hN : p + cnt a + 1 ≤ N) : sector (laid p g a l) (p : Int) = fill (hd g a) := by
  unfold laid
  rw [sector_settle (fit_one (hd g a) (by rw [hd_length]; decide) (fit_W a hl (Nat.le_refl _) (by omega : p + 1 + cnt a ≤ N)).settled (by omega)) (by omega) (by omega)]
  unfold latest latest
  rw [if_pos rfl]
  rfl
theorem laid_else {N p x : Nat} {l : List Int} (g : Int) (a : List Int) (hl : Fit N l []) (hN : p + cnt a + 1 ≤ N) (hx : x < N) (hne : x ≠ p) : sector (laid p g a l) (x : Int) = (latest (W p a (cnt a)) (x : Int)).getD (sector l (x : Int)) := by
  unfold laid
  rw [sector_settle (fit_one (hd g a) (by rw [hd_length]; decide) (fit_W a hl (Nat.le_refl _) (by omega : p + 1 + cnt a ≤ N)).settled (by omega)) (by omega) (by omega)]
  have hn : latest [((p : Int), fill (hd g a))] (x : Int) = none := latest_none (fun q hq e => by
    obtain rfl := List.mem_singleton.1 hq
    dsimp only at e
    omega)
  rw [hn, Option.getD_none, sector_settle (fit_W a hl (Nat.le_refl _) (by omega : p + 1 + cnt a ≤ N)) (by omega) (by omega)]
theorem laid_in {N p j : Nat} {l : List Int} (g : Int) (a : List Int) (hl : Fit N l []) (hN : p + cnt a + 1 ≤ N) (hj : j < cnt a) : sector (laid p g a l) ((p + 1 + j : Nat) : Int) = chunk (pad a) j := by
  rw [laid_else g a hl hN (by omega) (by omega), latest_W a hj]
  rfl
theorem laid_out {N p x : Nat} {l : List Int} (g : Int) (a : List Int) (hl : Fit N l []) (hN : p + cnt a + 1 ≤ N) (hx : x < N) (ho : x < p ∨ p + cnt a + 1 ≤ x) : sector (laid p g a l) (x : Int) = sector l (x : Int) := by
  rw [laid_else g a hl hN hx (by omega), latest_W_none a (by omega)]
  rfl
theorem read_up {N x : Nat} {D : List Int} (hD : Fit N D []) (hx : x < N) : sector_Disk_Read.f (Up N D []) (x : Int) = some (sector D (x : Int), 0, Up N D []) := by
  unfold sector_Disk_Read.f
  rw [if_pos (by show 0 < 1000000; decide), if_pos (Fit.there (s := Up N D []) hD (by omega) (by omega))]
  rfl
end Go.Proofs.Ytpojfebecmjloaa.RegWalSupers
