/- The log's superblocks, its regions, and what opening leaves; for the statement WalSupers. -/
import Derived.Test.YtpojfebecmjloaaRegCWalSupers
namespace Go.Proofs.Ytpojfebecmjloaa.RegWalSupers
open Go.RowKit Go.Proofs.Ytpojfebecmjloaa.PWalSupers Go.Proofs.YtpojfebecmjloaaW.PrintWords Go.Proofs.YtpojfebecmjloaaW.PrintLast Go.Proofs.YtpojfebecmjloaaW.PrintMore Go.Proofs.Ytpojfebecmjloaa.Disk Go.Proofs.Ytpojfebecmjloaa
set_option linter.unusedVariables false
set_option linter.unusedSimpArgs false
/-- a superblock's first bytes -/
def sb (g : Int) : List Int := be4 g ++ be4 (Crc.crc (be4 g))
theorem sb_length (g : Int) : (sb g).length = 8 := rfl
theorem super_f (g : Int) (h0 : 0 ≤ g) (h1 : g < 4294967296) (k : Nat) (hk : 40 < k) : wal_super.f k g = some (sb g) := by
  unfold wal_super.f
  rw [show g % 4294967296 = g by omega, put [] g (by decide), Option.bind_some, List.nil_append, sum (be4 g) (be4_bytes g) (by show 4 < _; decide) k (by show 10 * 4 < k; omega), Option.bind_some, put (be4 g) _ (by show 4 < _; decide), Option.bind_some]
  rfl
theorem plain_l0 (l : List Int) (hl : ∀ x ∈ l, x = 0) (hm : l.length < 1000000) (d : Nat) : ∀ (k i : Nat), i + d = l.length → wal_plain.l0 (k + d + 1) l (l.length : Int) (i : Int) = some true := by
  induction d with
  | zero =>
    intro k i hi
    unfold wal_plain.l0
    rw [if_neg (by omega)]
  | succ d ih =>
    intro k i hi
    have hr : rd l (i : Int) = 0 := by
      unfold rd
      rw [List.getD_eq_getElem?_getD, Int.toNat_natCast, List.getElem?_eq_getElem (by omega)]
      exact hl _ (List.getElem_mem _)
    rw [show k + (d + 1) + 1 = (k + d + 1) + 1 by omega]
    conv => lhs; unfold wal_plain.l0
    rw [if_pos (by omega), if_pos (by omega), if_pos (by omega), if_pos hr, w64 _ (by omega) (by omega), show (i : Int) + 1 = ((i + 1 : Nat) : Int) by omega]
    exact ih k (i + 1) (by omega)
theorem plain_yes (l : List Int) (hl : ∀ x ∈ l, x = 0) (hm : l.length < 1000000) (k : Nat) (hk : l.length < k) : wal_plain.f k l = some true := by
  have := plain_l0 l hl hm l.length (k - l.length - 1) 0 (by omega)
  rw [show k - l.length - 1 + l.length + 1 = k by omega] at this
  exact this
theorem w64n (n : Nat) (h : n < 4000000) : wrap64 (n : Int) = (n : Int) := w64 _ (by omega) (by omega)
theorem bounds_f (N h : Nat) (s : DiskM) (hs : Disk.len s = (N : Int)) (hN : 2 ≤ N) (hN2 : N ≤ 1024) (hh : h = (N - 2) / 2) (g : Int) (p : Nat) (hp : Int.tmod g 2 = (p : Int)) (hp2 : p ≤ 1) :
    wal_bounds.f s g = some (((2 + p * h : Nat) : Int), ((2 + p * h + h : Nat) : Int), s) := by
  unfold wal_bounds.f sector_Disk_Len.f
  rw [Option.bind_some]
  dsimp only
  rw [hs, hp]
  clear hs hp
  have hph : p * h ≤ 1024 := by
    calc p * h ≤ 1 * h := Nat.mul_le_mul_right _ hp2
      _ ≤ 1024 := by omega
  have e2 : Int.tdiv ((N - 2 : Nat) : Int) 2 = (h : Int) := by rw [Int.tdiv_eq_ediv_of_nonneg (by omega)]; omega
  rw [show ((N : Int) - 2) = ((N - 2 : Nat) : Int) by clear e2; omega, w64n _ (by clear e2; omega), e2]
  clear e2
  have hh2 : h < 3000000 := by omega
  clear hh hN hN2
  rw [w64n h (by omega), ← Int.natCast_mul]
  generalize p * h = q at hph
  rw [w64n q (by omega), show (2 : Int) + (q : Int) = ((2 + q : Nat) : Int) by omega, w64n (2 + q) (by omega), show ((2 + q : Nat) : Int) + (h : Int) = ((2 + q + h : Nat) : Int) by omega]
  rw [w64n (2 + q + h) (by omega)]
theorem all_zero {l : List Int} (hb : Crc.Bytes l) (h : region_zero.f l = some true) : ∀ x ∈ l, x = 0 := by
  unfold region_zero.f at h
  intro x hx
  have h1 := List.all_eq_true.1 (Option.some.inj h) x hx
  obtain ⟨b0, b1⟩ := hb x hx
  have h2 : x.toNat.toUInt8 = 0 := by simpa using h1
  have h3 := congrArg UInt8.toNat h2
  rw [show x.toNat.toUInt8.toNat = x.toNat % 256 from rfl] at h3
  have h4 : (0 : UInt8).toNat = 0 := rfl
  omega
theorem zeros_eq {l : List Int} (h : ∀ x ∈ l, x = 0) (n : Nat) (hn : l.length = n) : l = List.replicate n 0 := by
  rw [← hn]
  exact List.eq_replicate_iff.2 ⟨rfl, h⟩
theorem zero_cases (l : List Int) : region_zero.f l = some true ∨ region_zero.f l = some false := by
  unfold region_zero.f
  cases l.all (fun x => (x.toNat.toUInt8 == 0)) <;> simp
theorem fit_len {N : Nat} {l : List Int} {r : List (Int × List Int)} (h : Fit N l r) : Disk.len (Up N l r) = (N : Int) := Fit.len (s := Up N l r) h
/-- what cleaning leaves -/
def Cleaned (N a t : Nat) (D D' : List Int) : Prop := Fit N D' [] ∧ (Crc.Bytes D → Crc.Bytes D') ∧ (∀ x : Nat, x < N → a ≤ x → x < t → sector D' (x : Int) = List.replicate 64 0) ∧ (∀ x : Nat, x < N → (x < a ∨ t ≤ x) → sector D' (x : Int) = sector D (x : Int))
theorem sector_bytes {D : List Int} (hb : Crc.Bytes D) (x : Int) : Crc.Bytes (sector D x) := fun y hy => hb y (List.mem_of_mem_drop (List.mem_of_mem_take hy))
theorem put_bytes {D b : List Int} (hD : Crc.Bytes D) (hb : Crc.Bytes b) (o : Nat) : Crc.Bytes (Disk.put D o b) := fun y hy => by
  unfold Disk.put at hy
  rcases List.mem_append.1 hy with hy | hy
  · rcases List.mem_append.1 hy with hy | hy
    · exact hD y (List.mem_of_mem_take hy)
    · exact hb y hy
  · exact hD y (List.mem_of_mem_drop hy)
theorem settle_bytes (r : List (Int × List Int)) : ∀ (D : List Int), Crc.Bytes D → (∀ p ∈ r, Crc.Bytes p.2) → Crc.Bytes (Disk.settle r D) := by
  induction r with
  | nil => intro D hD _; exact hD
  | cons p r ih =>
    intro D hD hr
    unfold Disk.settle
    exact ih _ (put_bytes hD (hr p List.mem_cons_self) _) (fun q hq => hr q (List.mem_cons_of_mem _ hq))
theorem zero_bytes (n : Nat) : Crc.Bytes (List.replicate n 0) := fun y hy => by rw [(List.mem_replicate.1 hy).2]; omega
theorem latest_snoc (r : List (Int × List Int)) (p : Int × List Int) (x : Int) : latest (r ++ [p]) x = if p.1 = x then some p.2 else latest r x := by
  induction r with
  | nil =>
    show latest [p] x = _
    unfold latest latest
    rfl
  | cons q r ih =>
    show latest (q :: (r ++ [p])) x = _
    unfold latest
    rw [ih]
    by_cases h : p.1 = x
    · rw [if_pos h, if_pos h]
    · rw [if_neg h, if_neg h]
theorem clean_l0 {N a t : Nat} {D : List Int} (hD : Fit N D []) (hN : N ≤ 1024) (hDb : Crc.Bytes D) (d : Nat) : ∀ (k i : Nat) (r : List (Int × List Int)), a ≤ i → i + d = max i (min t N) → Fit N D r → (∀ p ∈ r, (a : Int) ≤ p.1 ∧ p.1 < (i : Int) ∧ p.1 < (t : Int) ∧ p.2 = fill []) → (∀ x : Nat, a ≤ x → x < i → x < N → latest r (x : Int) = some (fill []) ∨ (latest r (x : Int) = none ∧ sector D (x : Int) = List.replicate 64 0)) → r.length ≤ min i N →
    ∃ D', Cleaned N a t D D' ∧ region_Clean.l0 (k + d + 1) (t : Int) (!r.isEmpty) (i : Int) (Up N D r) = some (0, Up N D' []) := by
  induction d with
  | zero =>
    intro k i r hai hi hf hr hx hlen
    refine ⟨Disk.settle r D, ⟨hf.settled, fun _ => settle_bytes r D hDb (fun p hp => by rw [(hr p hp).2.2.2]; exact zero_bytes 64), fun x h1 h2 h3 => ?_, fun x h1 h2 => ?_⟩, ?_⟩
    · rw [sector_settle hf (by omega) (by omega)]
      rcases hx x h2 (by omega) h1 with h | ⟨h, h5⟩
      · rw [h]; rfl
      · rw [h, Option.getD_none, h5]
    · rw [sector_settle hf (by omega) (by omega), latest_none (fun p hp e => by
        obtain ⟨q1, q2, q3, _⟩ := hr p hp
        omega), Option.getD_none]
    · unfold region_Clean.l0 sector_Disk_Len.f
      rw [Option.bind_some, fit_len hf]
      dsimp only
      rw [if_neg (by unfold mn; split <;> omega)]
      cases r with
      | nil => rfl
      | cons p r =>
        rw [if_pos (show (!(p :: r).isEmpty) = true from rfl)]
        unfold sector_Disk_Flush.f
        rw [if_pos (show (Up N D (p :: r)).loose.length < 1000000 by show (p :: r).length < 1000000; omega), Option.bind_some, flush_up]
  | succ d ih =>
    intro k i r hai hi hf hr hx hlen
    have hiN : i < N ∧ i < t := by omega
    have hrn : latest r (i : Int) = none := latest_none (fun p hp e => by have := (hr p hp).2.1; omega)
    rw [show k + (d + 1) + 1 = (k + d + 1) + 1 by omega]
    conv => enter [1, D', 2, 1]; unfold region_Clean.l0
    unfold sector_Disk_Len.f sector_Disk_Read.f
    rw [Option.bind_some, fit_len hf]
    dsimp only
    rw [if_pos (by unfold mn; split <;> omega), if_pos (by show r.length < 1000000; omega), if_pos (Fit.there (s := Up N D r) hf (by omega) (by omega)), Option.bind_some]
    dsimp only
    rw [show Disk.read (Up N D r) (i : Int) = sector D (i : Int) by
      unfold Disk.read
      show (latest r (i : Int)).getD (sector D (i : Int)) = _
      rw [hrn]
      rfl, show wrap64 ((i : Int) + 1) = ((i + 1 : Nat) : Int) by rw [w64 _ (by omega) (by omega)]; omega]
    rcases zero_cases (sector D (i : Int)) with hz | hz
    · rw [hz, Option.bind_some, if_pos rfl]
      have hz0 : sector D (i : Int) = List.replicate 64 0 := zeros_eq (all_zero (sector_bytes hDb _) hz) 64 (sector_length (by have := hD.lasts; have : (i + 1) * 64 ≤ N * 64 := Nat.mul_le_mul_right _ (by omega); rw [Int.toNat_natCast]; omega))
      exact ih k (i + 1) r (by omega) (by omega) hf (fun p hp => by obtain ⟨q1, q2, q3, q4⟩ := hr p hp; exact ⟨q1, by omega, q3, q4⟩) (fun x h1 h2 h3 => by
        rcases Nat.lt_or_ge x i with h | h
        · exact hx x h1 h h3
        · obtain rfl : x = i := by omega
          exact .inr ⟨hrn, hz0⟩) (by omega)
    · rw [hz, Option.bind_some, if_neg (by decide)]
      unfold sector_Disk_Write.f
      rw [if_pos (by show r.length < 1000000; omega), write_up hf (by omega) (by omega) (by simp), Option.bind_some]
      dsimp only
      rw [if_pos rfl]
      have hpush := hf.push (a := (i : Int)) (b := fill []) (by omega) (by omega) rfl
      have := ih k (i + 1) (r ++ [((i : Int), fill [])]) (by omega) (by omega) hpush (fun p hp => by
        rcases List.mem_append.1 hp with hp | hp
        · obtain ⟨q1, q2, q3, q4⟩ := hr p hp; exact ⟨q1, by omega, q3, q4⟩
        · obtain rfl := List.mem_singleton.1 hp
          exact ⟨by dsimp only; omega, by dsimp only; omega, by dsimp only; omega, rfl⟩) (fun x h1 h2 h3 => by
        rcases Nat.lt_or_ge x i with h | h
        · rcases hx x h1 h h3 with h5 | ⟨h5, h6⟩
          · refine .inl ?_
            rw [latest_snoc, if_neg (by dsimp only; omega)]
            exact h5
          · refine .inr ⟨?_, h6⟩
            rw [latest_snoc, if_neg (by dsimp only; omega)]
            exact h5
        · obtain rfl : x = i := by omega
          refine .inl ?_
          rw [latest_snoc, if_pos rfl]) (by simp; omega)
      rw [show (!(r ++ [((i : Int), fill [])]).isEmpty) = true by simp] at this
      exact this
theorem clean {N a t : Nat} {D : List Int} (hD : Fit N D []) (hN : N ≤ 1024) (hDb : Crc.Bytes D) (K : Nat) (hK : 2000 ≤ K) : ∃ D', Cleaned N a t D D' ∧ region_Clean.f K (Up N D []) (a : Int) (t : Int) = some (0, Up N D' []) := by
  obtain ⟨D', h1, h2⟩ := clean_l0 (a := a) (t := t) hD hN hDb (max a (min t N) - a) (K - (max a (min t N) - a) - 1) a [] (Nat.le_refl _) (by omega) hD (fun p hp => by cases hp) (fun x h1 h2 => by omega) (by simp)
  refine ⟨D', h1, ?_⟩
  unfold region_Clean.f
  rw [show mx (a : Int) 0 = (a : Int) by unfold mx; split <;> omega]
  rw [show K - (max a (min t N) - a) - 1 + (max a (min t N) - a) + 1 = K by omega] at h2
  exact h2
/-- what a superblock's write leaves -/
def sealed (g : Int) (p : Nat) (D : List Int) : List Int := Disk.settle [((p : Int), fill (sb g))] D
theorem install {N : Nat} {D : List Int} (hD : Fit N D []) (hN : 2 ≤ N) (g : Int) (p : Nat) (h0 : 0 ≤ g) (h1 : g < 4294967296) (hp : Int.tmod g 2 = (p : Int)) (hp2 : p ≤ 1) (K : Nat) (hK : 40 < K) :
    wal_install.f K (Up N D []) g = some (0, Up N (sealed g p D) []) := by
  unfold wal_install.f
  rw [super_f g h0 h1 K hK, Option.bind_some, hp]
  unfold sector_Disk_Write.f
  rw [if_pos (by show 0 < 1000000; decide), write_up hD (by omega) (by omega) (by rw [sb_length]; decide), Option.bind_some]
  dsimp only
  rw [if_pos rfl]
  unfold sector_Disk_Flush.f
  rw [if_pos (by show 1 < 1000000; decide), Option.bind_some, flush_up]
  rfl
theorem sealed_fit {N : Nat} {D : List Int} (hD : Fit N D []) (hN : 2 ≤ N) (g : Int) (p : Nat) (hp2 : p ≤ 1) : Fit N (sealed g p D) [] :=
  (fit_one (sb g) (by rw [sb_length]; decide) hD (by omega)).settled
theorem sealed_at {N : Nat} {D : List Int} (hD : Fit N D []) (hN : 2 ≤ N) (g : Int) (p : Nat) (hp2 : p ≤ 1) : sector (sealed g p D) (p : Int) = fill (sb g) := by
  unfold sealed
  rw [sector_settle (fit_one (sb g) (by rw [sb_length]; decide) hD (by omega)) (by omega) (by omega)]
  unfold latest latest
  rw [if_pos rfl]
  rfl
theorem sealed_out {N x : Nat} {D : List Int} (hD : Fit N D []) (hN : 2 ≤ N) (g : Int) (p : Nat) (hp2 : p ≤ 1) (hx : x < N) (hne : x ≠ p) : sector (sealed g p D) (x : Int) = sector D (x : Int) := by
  unfold sealed
  rw [sector_settle (fit_one (sb g) (by rw [sb_length]; decide) hD (by omega)) (by omega) (by omega), latest_none (fun q hq e => by
    obtain rfl := List.mem_singleton.1 hq
    dsimp only at e
    omega), Option.getD_none]
theorem sb_bytes (g : Int) : Crc.Bytes (sb g) := (be4_bytes _).append (be4_bytes _)
theorem fill_bytes {b : List Int} (h : Crc.Bytes b) : Crc.Bytes (fill b) := by
  unfold fill
  exact h.append (zero_bytes _)
theorem sealed_bytes {D : List Int} (hD : Crc.Bytes D) (g : Int) (p : Nat) : Crc.Bytes (sealed g p D) := settle_bytes _ _ hD (fun q hq => by
  obtain rfl := List.mem_singleton.1 hq
  exact fill_bytes (sb_bytes g))
theorem be4_zero {v : Int} (h0 : 0 ≤ v) (h1 : v < 4294967296) (h : be4 v = be4 0) : v = 0 := by
  unfold be4 at h
  simp only [List.cons.injEq] at h
  omega
end Go.Proofs.Ytpojfebecmjloaa.RegWalSupers
