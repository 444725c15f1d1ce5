/- What opening a new disk, an entry, and a checkpoint leave; for the statement WalSupers. -/
import Derived.Test.YtpojfebecmjloaaWalAWalSupers
namespace Go.Proofs.Ytpojfebecmjloaa.RegWalSupers
open Go.RowKit Go.Proofs.Ytpojfebecmjloaa.PWalSupers Go.Proofs.YtpojfebecmjloaaW.PrintWords Go.Proofs.YtpojfebecmjloaaW.PrintLast Go.Proofs.YtpojfebecmjloaaW.PrintMore Go.Proofs.Ytpojfebecmjloaa.Disk Go.Proofs.Ytpojfebecmjloaa
set_option linter.unusedVariables false
set_option linter.unusedSimpArgs false
def Zero64 : List Int := List.replicate 64 0
theorem newest_skip {N n : Nat} {D : List Int} (hD : Fit N D []) (hn : n < 2) (hnN : n < N) (v : Int) (hv0 : 0 ≤ v) (hv1 : v < 4294967296) (hg : region_Get.f (sector D (n : Int)) = some v) (hbad : v < 1 ∨ v > 2147483647 ∨ Int.tmod v 2 ≠ (n : Int)) (k : Nat) (x3 : Int) :
    wal_newestGen.l0 (k + 2) x3 (n : Int) (Up N D []) = wal_newestGen.l0 k x3 ((n + 1 : Nat) : Int) (Up N D []) := by
  have hw : wrap64 v = v := w64 _ (by omega) (by omega)
  have hj : ∀ x5 x7, wal_newestGen.j1 (k + 1) x3 x5 x7 (n : Int) true (Up N D []) = wal_newestGen.l0 k x3 ((n + 1 : Nat) : Int) (Up N D []) := fun x5 x7 => by
    conv => lhs; unfold wal_newestGen.j1
    rw [if_pos rfl, show (n : Int) + 1 = ((n + 1 : Nat) : Int) by clear hw; omega, w64n (n + 1) (by clear hw; omega)]
  conv => lhs; unfold wal_newestGen.l0
  rw [if_pos (by clear hw; omega), read_up hD hnN, Option.bind_some]
  dsimp only
  rw [hg, Option.bind_some, hw]
  clear hw
  by_cases h1 : v < 1
  · rw [if_pos h1, hj]
  · rw [if_neg h1]
    by_cases h2 : v > 2147483647
    · rw [if_pos h2, hj]
    · rw [if_neg h2, show (Int.tmod v 2 != (n : Int)) = true from bne_iff_ne.2 ((hbad.resolve_left h1).resolve_left h2), hj]
theorem newest_go {N n : Nat} {D : List Int} (hD : Fit N D []) (hn : n < 2) (hnN : n < N) (v : Int) (hv0 : 1 ≤ v) (hv1 : v ≤ 2147483647) (hg : region_Get.f (sector D (n : Int)) = some v) (hp : Int.tmod v 2 = (n : Int)) (k : Nat) (x3 : Int) (hk : 60 < k) :
    wal_newestGen.l0 (k + 2) x3 (n : Int) (Up N D []) = if (strOfNums (sb v)).toList = (strOfNums ((sector D (n : Int)).take 8)).toList then ((wal_plain.f k ((sector D (n : Int)).drop 8)).bind fun t162 => (if t162 = true then (wal_newestGen.l0 k (mx x3 v) ((n + 1 : Nat) : Int) (Up N D [])) else (wal_newestGen.l0 k x3 ((n + 1 : Nat) : Int) (Up N D [])))) else (wal_newestGen.l0 k x3 ((n + 1 : Nat) : Int) (Up N D [])) := by
  have hl : (sector D (n : Int)).length = 64 := sector_length (by have := hD.lasts; have : (n + 1) * 64 ≤ N * 64 := Nat.mul_le_mul_right _ (by omega); rw [Int.toNat_natCast]; omega)
  conv => lhs; unfold wal_newestGen.l0
  rw [if_pos (by omega), read_up hD hnN, Option.bind_some]
  dsimp only
  rw [hg, Option.bind_some, w64 v (by omega) (by omega), if_neg (by omega), if_neg (by omega), show (Int.tmod v 2 != (n : Int)) = false from bne_eq_false_iff_eq.2 hp]
  conv => lhs; unfold wal_newestGen.j1
  rw [if_neg (by decide), super_f v (by omega) (by omega) k (by omega), Option.bind_some, show (n : Int) + 1 = ((n + 1 : Nat) : Int) by omega, w64n (n + 1) (by omega), sb_length, if_pos (by omega), if_pos (by rw [hl]; decide), show ((8 : Nat) : Int).toNat = 8 from rfl]
theorem newest_yes {N n : Nat} {D : List Int} (hD : Fit N D []) (hn : n < 2) (hnN : n < N) (v : Int) (hv0 : 1 ≤ v) (hv1 : v ≤ 2147483647) (hs : sector D (n : Int) = fill (sb v)) (hp : Int.tmod v 2 = (n : Int)) (k : Nat) (x3 : Int) (hk : 60 < k) :
    wal_newestGen.l0 (k + 2) x3 (n : Int) (Up N D []) = wal_newestGen.l0 k (mx x3 v) ((n + 1 : Nat) : Int) (Up N D []) := by
  have hg : region_Get.f (sector D (n : Int)) = some v := by
    rw [hs]
    exact get_be4 v (by omega) (by omega) (be4 (Crc.crc (be4 v)) ++ List.replicate 56 0)
  rw [newest_go hD hn hnN v hv0 hv1 hg hp k x3 hk, hs, show (fill (sb v)).take 8 = sb v from rfl, if_pos rfl, show (fill (sb v)).drop 8 = List.replicate 56 0 from rfl, plain_yes _ (fun x hx => (List.mem_replicate.1 hx).2) (by simp) k (by simp; omega), Option.bind_some, if_pos rfl]
theorem newest_end (k : Nat) (x3 : Int) (s : DiskM) : wal_newestGen.l0 (k + 1) x3 ((1 + 1 : Nat) : Int) s = some (x3, s) := by
  unfold wal_newestGen.l0
  rw [if_neg (by decide)]
theorem newest_zero {N : Nat} {D : List Int} (hD : Fit N D []) (hN : 2 ≤ N) (h0 : sector D ((0 : Nat) : Int) = List.replicate 64 0) (h1 : sector D ((1 : Nat) : Int) = List.replicate 64 0) (K : Nat) (hK : 100 ≤ K) : wal_newestGen.f K (Up N D []) = some (0, Up N D []) := by
  unfold wal_newestGen.f
  have e0 := newest_skip (n := 0) hD (by decide) (by omega) 0 (by decide) (by decide) (by rw [h0]; exact zeros_get _) (.inl (by decide)) (K - 2) 0
  have e1 := newest_skip (n := 1) hD (by decide) (by omega) 0 (by decide) (by decide) (by rw [h1]; exact zeros_get _) (.inl (by decide)) (K - 4) 0
  rw [show K - 2 + 2 = K by omega] at e0
  rw [show K - 4 + 2 = K - 2 by omega] at e1
  have e2 := newest_end (K - 5) 0 (Up N D [])
  rw [show K - 5 + 1 = K - 4 by omega] at e2
  exact e0.trans (e1.trans e2)
/-- where a generation's region begins -/
def start (h p : Nat) : Nat := 2 + p * h
theorem open2_zero {N h p : Nat} {D : List Int} (hD : Fit N D []) (hDb : Crc.Bytes D) (hN : 4 ≤ N) (hN2 : N ≤ 1024) (hh : h = (N - 2) / 2) (g : Int) (hg0 : 0 ≤ g) (hg1 : g ≤ 2147483647) (hp : Int.tmod g 2 = (p : Int)) (hp2 : p ≤ 1) (hz : sector D ((2 + p * h : Nat) : Int) = List.replicate 64 0) (K : Nat) (hK : 20000 ≤ K) :
    ∃ D', Cleaned N (2 + p * h) (2 + p * h + h) D D' ∧ logOpen2.f K (Up N D []) g = some ([], g, ((2 + p * h : Nat) : Int), 0, Up N D' []) := by
  have hb : 2 + p * h < N := by
    have : p * h ≤ 1 * h := Nat.mul_le_mul_right _ hp2
    omega
  obtain ⟨D', hc, he⟩ := clean (a := 2 + p * h) (t := 2 + p * h + h) hD hN2 hDb K (by omega)
  refine ⟨D', hc, ?_⟩
  unfold logOpen2.f
  have hone := one_zero (p := 2 + p * h) (e := 2 + p * h + h) hD hb (by omega) g hg0 (by omega) hz (K - 2) (by omega)
  have hsc := scan_none hone []
  rw [show K - 2 + 1 + 1 = K by omega] at hsc
  have hsc2 : region_Scan.f K (Up N D []) ((2 + p * h : Nat) : Int) ((2 + p * h + h : Nat) : Int) g = _ := hsc
  rw [bounds_f N h (Up N D []) (fit_len hD) (by omega) hN2 hh g p hp hp2, Option.bind_some]
  dsimp only
  rw [hsc2, Option.bind_some]
  dsimp only
  rw [he, Option.bind_some]
  exact if_pos rfl
/-- what is on a disk behind its first opening -/
def Opened (N h : Nat) (D : List Int) : Prop := Fit N D [] ∧ Crc.Bytes D ∧ (∀ x : Nat, x < N → x ≠ 1 → sector D (x : Int) = List.replicate 64 0) ∧ sector D ((1 : Nat) : Int) = fill (sb 1)
theorem open_new {N h : Nat} (hN : 4 ≤ N) (hN2 : N ≤ 1024) (hh : h = (N - 2) / 2) (K : Nat) (hK : 20000 ≤ K) :
    ∃ D, Opened N h D ∧ logOpen.f K (Disk.new (N : Int)) = some ([], 1, ((2 + 1 * h : Nat) : Int), 0, Up N D []) := by
  have hZ : Fit N (new (N : Int)).lasts [] := fit_new (n := N) hN2
  have hZs : ∀ x : Nat, x < N → sector (new (N : Int)).lasts (x : Int) = List.replicate 64 0 := fun x hx => sector_new N hN2 _ (by omega)
  have hZb : Crc.Bytes (new (N : Int)).lasts := by unfold new; exact zero_bytes _
  obtain ⟨D1, ⟨f1, b1, i1, o1⟩, e1⟩ := clean (a := 2 + 1 * h) (t := 2 + 1 * h + h) hZ hN2 hZb K (by omega)
  have hz1 : ∀ x : Nat, x < N → sector D1 (x : Int) = List.replicate 64 0 := fun x hx => by
    by_cases h1 : 2 + 1 * h ≤ x ∧ x < 2 + 1 * h + h
    · exact i1 x hx h1.1 h1.2
    · rw [o1 x hx (by omega), hZs x hx]
  have f2 := sealed_fit f1 (by omega) 1 1 (by decide)
  have b2 := sealed_bytes (b1 hZb) 1 1
  have hz2 : ∀ x : Nat, x < N → x ≠ 1 → sector (sealed 1 1 D1) (x : Int) = List.replicate 64 0 := fun x hx hne => by rw [sealed_out f1 (by omega) 1 1 (by decide) hx hne, hz1 x hx]
  obtain ⟨D3, ⟨f3, b3, i3, o3⟩, e3⟩ := open2_zero (p := 1) f2 b2 hN hN2 hh 1 (by decide) (by decide) (by decide) (by decide) (hz2 _ (by omega) (by omega)) K hK
  refine ⟨D3, ⟨f3, b3 b2, fun x hx hne => ?_, ?_⟩, ?_⟩
  · by_cases h1 : 2 + 1 * h ≤ x ∧ x < 2 + 1 * h + h
    · exact i3 x hx h1.1 h1.2
    · rw [o3 x hx (by omega), hz2 x hx hne]
  · rw [o3 1 (by omega) (by omega), sealed_at f1 (by omega) 1 1 (by decide)]
  · unfold logOpen.f
    have hnew : Disk.new (N : Int) = Up N (new (N : Int)).lasts [] := new_up N
    rw [hnew, fit_len hZ, if_neg (by omega), newest_zero hZ (by omega) (hZs 0 (by omega)) (hZs 1 (by omega)) K (by omega), Option.bind_some]
    dsimp only
    rw [if_pos rfl]
    unfold wal_format.f
    rw [bounds_f N h (Up N _ []) (fit_len hZ) (by omega) hN2 hh 1 1 (by decide) (by decide), Option.bind_some]
    dsimp only
    rw [e1, Option.bind_some]
    dsimp only
    rw [if_pos rfl, install f1 (by omega) 1 1 (by decide) (by decide) (by decide) (by decide) K (by omega), Option.bind_some, Option.bind_some]
    dsimp only
    rw [if_pos rfl]
    exact e3
theorem W_bytes {p : Nat} {a : List Int} (ha : Crc.Bytes a) (i : Nat) : ∀ q ∈ W p a i, Crc.Bytes q.2 := fun q hq => by
  obtain ⟨t, ht, rfl⟩ := List.mem_map.1 hq
  intro y hy
  unfold chunk pad at hy
  have := List.mem_of_mem_drop (List.mem_of_mem_take hy)
  exact (ha.append (zero_bytes _)) y this
theorem laid_bytes {D a : List Int} (hD : Crc.Bytes D) (ha : Crc.Bytes a) (p : Nat) (g : Int) : Crc.Bytes (laid p g a D) :=
  settle_bytes _ _ (settle_bytes _ _ hD (W_bytes ha _)) (fun q hq => by
    obtain rfl := List.mem_singleton.1 hq
    exact fill_bytes ((h12_bytes g a).append (be4_bytes _)))
theorem lay_full {N p e : Nat} {D : List Int} (g : Int) (a : List Int) (hD : Fit N D []) (hN2 : N ≤ 1024) (hg : 0 ≤ g) (hg2 : g ≤ 2147483647) (ha : a.length ≤ 8192) (he : e ≤ N) (hp : p ≤ e) (hf : e < p + cnt a + 1) (K : Nat) :
    region_Lay.f (K + 1) (Up N D []) (p : Int) (e : Int) g a = some (0, 3, Up N D []) := by
  unfold region_Lay.f
  rw [if_neg (by omega), if_neg (by omega), if_neg (by omega), decide_eq_false (by omega)]
  unfold region_Lay.j0
  show (if false = true then _ else _) = _
  rw [if_neg (by decide), size _ (by omega), Option.bind_some]
  unfold sector_Disk_Len.f
  rw [Option.bind_some, fit_len hD]
  dsimp only
  have hm : mn (e : Int) (N : Int) - (p : Int) = ((e - p : Nat) : Int) := by unfold mn; split <;> omega
  rw [hm, w64n _ (by omega), if_pos (by unfold cnt at hf; omega)]
theorem append_ok {N h p at_ : Nat} {D : List Int} (hD : Fit N D []) (hN : 4 ≤ N) (hN2 : N ≤ 1024) (hh : h = (N - 2) / 2) (g : Int) (hg0 : 0 ≤ g) (hg1 : g ≤ 2147483647) (hp : Int.tmod g 2 = (p : Int)) (hp2 : p ≤ 1) (a : List Int) (hb : Crc.Bytes a) (ha : a.length ≤ 300) (hat : at_ + cnt a + 1 ≤ 2 + p * h + h) (K : Nat) (hK : 20000 ≤ K) :
    logAppend.f K (Up N D []) g (at_ : Int) false a = some (0, ((at_ + cnt a + 1 : Nat) : Int), false, Up N (laid at_ g a D) []) := by
  have hb2 : 2 + p * h + h ≤ N := by
    have : p * h ≤ 1 * h := Nat.mul_le_mul_right _ hp2
    omega
  have hc : cnt a ≤ 10 := by unfold cnt; omega
  unfold logAppend.f
  have hl := lay (p := at_) (e := 2 + p * h + h) g a hD hN2 hg0 hg1 hb (by omega) (by omega) (by omega) (by omega) (K - cnt a - 2) (by omega)
  rw [show K - cnt a - 2 + 1 + cnt a + 1 = K by omega] at hl
  rw [if_neg (by decide), bounds_f N h (Up N D []) (fit_len hD) (by omega) hN2 hh g p hp hp2, Option.bind_some]
  dsimp only
  rw [hl, Option.bind_some]
  rfl
theorem append_full {N h p at_ : Nat} {D : List Int} (hD : Fit N D []) (hN : 4 ≤ N) (hN2 : N ≤ 1024) (hh : h = (N - 2) / 2) (g : Int) (hg0 : 0 ≤ g) (hg1 : g ≤ 2147483647) (hp : Int.tmod g 2 = (p : Int)) (hp2 : p ≤ 1) (a : List Int) (ha : a.length ≤ 300) (hle : at_ ≤ 2 + p * h + h) (hat : 2 + p * h + h < at_ + cnt a + 1) (K : Nat) (hK : 20000 ≤ K) :
    logAppend.f K (Up N D []) g (at_ : Int) false a = some (3, (at_ : Int), false, Up N D []) := by
  have hb2 : 2 + p * h + h ≤ N := by
    have : p * h ≤ 1 * h := Nat.mul_le_mul_right _ hp2
    omega
  unfold logAppend.f
  have hl := lay_full (p := at_) (e := 2 + p * h + h) g a hD hN2 hg0 hg1 (by omega) hb2 hle hat (K - 1)
  rw [show K - 1 + 1 = K by omega] at hl
  rw [if_neg (by decide), bounds_f N h (Up N D []) (fit_len hD) (by omega) hN2 hh g p hp hp2, Option.bind_some]
  dsimp only
  rw [hl, Option.bind_some]
  rfl
/-- what a checkpoint leaves -/
theorem checkpoint_ok {N h p : Nat} {D : List Int} (hD : Fit N D []) (hDb : Crc.Bytes D) (hN : 4 ≤ N) (hN2 : N ≤ 1024) (hh : h = (N - 2) / 2) (g at_ : Int) (hg0 : 0 ≤ g) (hg1 : g + 1 ≤ 2147483647) (hp : Int.tmod (g + 1) 2 = (p : Int)) (hp2 : p ≤ 1) (a : List Int) (hb : Crc.Bytes a) (ha : a.length ≤ 300) (hat : cnt a + 1 ≤ h) (K : Nat) (hK : 20000 ≤ K) :
    ∃ D', Cleaned N (2 + p * h) (2 + p * h + h) D D' ∧ logCheck.f K (Up N D []) g at_ false a = some (0, g + 1, ((2 + p * h + cnt a + 1 : Nat) : Int), false, Up N (sealed (g + 1) p (laid (2 + p * h) (g + 1) a D')) []) := by
  have hb2 : 2 + p * h + h ≤ N := by
    have : p * h ≤ 1 * h := Nat.mul_le_mul_right _ hp2
    omega
  have hc : cnt a ≤ 10 := by unfold cnt; omega
  obtain ⟨D', hcl, he⟩ := clean (a := 2 + p * h) (t := 2 + p * h + h) hD hN2 hDb K (by omega)
  refine ⟨D', hcl, ?_⟩
  have f1 := hcl.1
  have hl := lay (p := 2 + p * h) (e := 2 + p * h + h) (g + 1) a f1 hN2 (by omega) hg1 hb (by omega) (by omega) (by omega) (by omega) (K - cnt a - 2) (by omega)
  rw [show K - cnt a - 2 + 1 + cnt a + 1 = K by omega] at hl
  have f2 := fit_laid (p := 2 + p * h) (g + 1) a f1 (by omega)
  have hi := install f2 (by omega) (g + 1) p (by omega) (by omega) hp hp2 K (by omega)
  unfold logCheck.f
  rw [if_neg (by decide), w64 (g + 1) (by omega) (by omega), bounds_f N h (Up N D []) (fit_len hD) (by omega) hN2 hh (g + 1) p hp hp2, Option.bind_some]
  dsimp only
  rw [if_neg (by omega), size _ (by omega), Option.bind_some, show ((2 + p * h + h : Nat) : Int) - ((2 + p * h : Nat) : Int) = (h : Int) by omega, w64n h (by omega), if_neg (by
    rintro (h1 | h1)
    · omega
    · unfold cnt at hat; omega), he, Option.bind_some]
  dsimp only
  rw [if_neg (by simp), hl, Option.bind_some]
  dsimp only
  rw [if_neg (by simp), hi, Option.bind_some]
  rfl
theorem checkpoint_full {N h p : Nat} {D : List Int} (hD : Fit N D []) (hN : 4 ≤ N) (hN2 : N ≤ 1024) (hh : h = (N - 2) / 2) (g at_ : Int) (hg0 : 0 ≤ g) (hg1 : g + 1 ≤ 2147483647) (hp : Int.tmod (g + 1) 2 = (p : Int)) (hp2 : p ≤ 1) (a : List Int) (ha : a.length ≤ 300) (hat : h < cnt a + 1) (K : Nat) :
    logCheck.f K (Up N D []) g at_ false a = some (3, g, at_, false, Up N D []) := by
  unfold logCheck.f
  rw [if_neg (by decide), w64 (g + 1) (by omega) (by omega), bounds_f N h (Up N D []) (fit_len hD) (by omega) hN2 hh (g + 1) p hp hp2, Option.bind_some]
  dsimp only
  rw [if_neg (by omega), size _ (by omega), Option.bind_some, show ((2 + p * h + h : Nat) : Int) - ((2 + p * h : Nat) : Int) = (h : Int) by omega, w64n h (by omega), if_pos (.inr (by unfold cnt at hat; omega))]
end Go.Proofs.Ytpojfebecmjloaa.RegWalSupers
