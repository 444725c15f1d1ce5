/- Of two superblocks that are right the one of the greater generation counts, of one that is spoilt the other one does; the plain part of the proof. Conditions: none. -/
import Derived.Test.YtpojfebecmjloaaWalCWalSupers
import Derived.Test.YtpojfebecmjloaaBndWalSupers
namespace Go.Proofs.Ytpojfebecmjloaa.Pure
open Go.RowKit Go.Proofs.Ytpojfebecmjloaa.PWalSupers Go.Proofs.YtpojfebecmjloaaW.PrintWords Go.Proofs.YtpojfebecmjloaaW.PrintLast Go.Proofs.Ytpojfebecmjloaa.Disk Go.Proofs.Ytpojfebecmjloaa Go.Proofs.Ytpojfebecmjloaa.RegWalSupers
set_option linter.unusedVariables false
set_option linter.unusedSimpArgs false
namespace WalSupers_
theorem wf_u8 {x : Int} (h : (Lit.int .u8 x).wf = true) : 0 ≤ x ∧ x < 256 := by
  simp [Lit.wf, IntKind.min, IntKind.max, IntKind.signed, IntKind.bits] at h
  omega
theorem Same_l0 (l : List Int) (hl : l.length < 4611686018427387904) (d : Nat) : ∀ (k i : Nat), i + d = l.length → interregnumref01_Same.l0 (k + d + 1) l l (i : Int) = some true := by
  induction d with
  | zero =>
    intro k i hi
    conv => lhs; unfold interregnumref01_Same.l0
    rw [if_neg (by omega)]
  | succ d ih =>
    intro k i hi
    rw [show k + (d + 1) + 1 = (k + d + 1) + 1 by omega]
    conv => lhs; unfold interregnumref01_Same.l0
    rw [if_pos (by omega), if_pos (by omega), if_pos (by omega), if_pos rfl, w64 _ (by omega) (by omega), show (i : Int) + 1 = ((i + 1 : Nat) : Int) by omega]
    exact ih k (i + 1) (by omega)
theorem Same (l : List Int) (k : Nat) (hk : l.length < k) (hl : l.length < 4611686018427387904) : interregnumref01_Same.f k l l = some true := by
  unfold interregnumref01_Same.f
  rw [if_pos rfl]
  have := Same_l0 l hl l.length (k - (l.length + 1)) 0 (by omega)
  rw [show k - (l.length + 1) + l.length + 1 = k by omega] at this
  exact this
theorem rows_one (l : List Int) (k : Nat) (hk : l.length < k) (hl : l.length < 4611686018427387904) : interregnumref01_Rows.f (k + 2) [l] [l] = some true := by
  unfold interregnumref01_Rows.f
  rw [if_pos rfl]
  unfold interregnumref01_Rows.l0
  rw [if_pos (show (0 : Int) < (([l].length : Nat) : Int) by show (0 : Int) < ((1 : Nat) : Int); decide), if_pos (by decide), if_pos (show (0 : Int) < (([l].length : Nat) : Int) by show (0 : Int) < ((1 : Nat) : Int); decide)]
  show ((interregnumref01_Same.f (k + 1) l l).bind fun t => if t = true then interregnumref01_Rows.l0 (k + 1) [l] [l] (wrap64 (0 + 1)) else some false) = some true
  rw [Same l (k + 1) (by omega) hl, Option.bind_some, if_pos rfl]
  unfold interregnumref01_Rows.l0
  rw [if_neg (show ¬ wrap64 (0 + 1) < (([l].length : Nat) : Int) by rw [w64 (0 + 1) (by decide) (by decide)]; show ¬ (0 + 1 : Int) < ((1 : Nat) : Int); decide)]
theorem rows_nil (k : Nat) : interregnumref01_Rows.f (k + 1) [] [] = some true := by
  unfold interregnumref01_Rows.f
  rw [if_pos rfl]
  unfold interregnumref01_Rows.l0
  rw [if_neg (show ¬ (0 : Int) < (([] : List (List Int)).length : Int) by decide)]
/-- the entry of a generation -/
def E (g : Nat) : List Int := [((g : Int) - 2)]
theorem E_cnt (g : Nat) : cnt (E g) = 1 := by
  unfold cnt E
  rw [List.length_singleton]
/-- what a generation's region has -/
def Reg (g : Nat) (D : List Int) : Prop := if g = 1 then sector D ((2 + g % 2 * 39 : Nat) : Int) = List.replicate 64 0 else
  sector D ((2 + g % 2 * 39 : Nat) : Int) = fill (hd (g : Int) (E g)) ∧ sector D ((2 + g % 2 * 39 + 1 : Nat) : Int) = chunk (pad (E g)) 0 ∧ sector D ((2 + g % 2 * 39 + 2 : Nat) : Int) = List.replicate 64 0
theorem Reg.same {g : Nat} {D D' : List Int} (h : Reg g D) (hs : ∀ x : Nat, 2 + g % 2 * 39 ≤ x → x < 2 + g % 2 * 39 + 3 → sector D' (x : Int) = sector D (x : Int)) : Reg g D' := by
  unfold Reg at h ⊢
  by_cases h1 : g = 1
  · rw [if_pos h1] at h ⊢
    rw [hs _ (by omega) (by omega), h]
  · rw [if_neg h1] at h ⊢
    rw [hs _ (by omega) (by omega), hs _ (by omega) (by omega), hs _ (by omega) (by omega)]
    exact h
/-- what is on the disk at a generation -/
structure Inv (g : Nat) (D : List Int) : Prop where
  fit : Fit 80 D []
  bytes : Crc.Bytes D
  top : sector D ((g % 2 : Nat) : Int) = fill (sb (g : Int))
  low : 2 ≤ g → sector D (((g + 1) % 2 : Nat) : Int) = fill (sb ((g - 1 : Nat) : Int))
  reg : Reg g D
  reg1 : 2 ≤ g → Reg (g - 1) D
theorem inv_one {D : List Int} (h : Opened 80 39 D) : Inv 1 D := by
  obtain ⟨f, b, z, s⟩ := h
  refine ⟨f, b, s, fun h => by omega, ?_, fun h => by omega⟩
  unfold Reg
  rw [if_pos rfl]
  exact z _ (by decide) (by decide)
theorem tmod_par (g : Nat) : Int.tmod (g : Int) 2 = ((g % 2 : Nat) : Int) := by
  rw [Int.tmod_eq_emod_of_nonneg (by omega)]
  omega
theorem step {g : Nat} {D : List Int} (h : Inv g D) (h1 : 1 ≤ g) (h2 : g ≤ 10) (at_ : Int) (K : Nat) (hK : 20000 ≤ K) :
    ∃ D' at2, Inv (g + 1) D' ∧ logCheck.f K (Up 80 D []) (g : Int) at_ false [((g : Int) - 1)] = some (0, ((g + 1 : Nat) : Int), at2, false, Up 80 D' []) := by
  have he : [((g : Int) - 1)] = E (g + 1) := by unfold E; rw [show (((g + 1 : Nat) : Int) - 2) = (g : Int) - 1 by omega]
  have hEb : Crc.Bytes (E (g + 1)) := fun x hx => by
    unfold E at hx
    rw [List.mem_singleton.1 hx]
    omega
  have hpar : (g + 1) % 2 ≤ 1 := by omega
  have htm : Int.tmod ((g : Int) + 1) 2 = (((g + 1) % 2 : Nat) : Int) := tmod_par (g + 1)
  obtain ⟨D1, ⟨f1, b1, i1, o1⟩, hck⟩ := checkpoint_ok (N := 80) (h := 39) (p := (g + 1) % 2) h.fit h.bytes (by decide) (by decide) (by decide) (g : Int) at_ (by omega) (by omega) htm hpar (E (g + 1)) hEb (by show 1 ≤ 300; decide) (by rw [E_cnt]; decide) K hK
  have hlo : (g + 1) % 2 = 0 ∨ (g + 1) % 2 = 1 := by omega
  have f2 : Fit 80 (laid (2 + (g + 1) % 2 * 39) ((g : Int) + 1) (E (g + 1)) D1) [] := fit_laid _ _ f1 (by rw [E_cnt]; omega)
  have hout : ∀ x : Nat, x < 80 → x ≠ (g + 1) % 2 → (x < 2 + (g + 1) % 2 * 39 ∨ 2 + (g + 1) % 2 * 39 + 2 ≤ x) → sector (sealed ((g : Int) + 1) ((g + 1) % 2) (laid (2 + (g + 1) % 2 * 39) ((g : Int) + 1) (E (g + 1)) D1)) (x : Int) = sector D1 (x : Int) := fun x hx hne ho => by
    rw [sealed_out f2 (by decide) _ _ hpar hx hne, laid_out _ _ f1 (by rw [E_cnt]; omega) hx (by rw [E_cnt]; omega)]
  have hcast : ((g : Int) + 1) = ((g + 1 : Nat) : Int) := by omega
  refine ⟨sealed ((g : Int) + 1) ((g + 1) % 2) (laid (2 + (g + 1) % 2 * 39) ((g : Int) + 1) (E (g + 1)) D1), ((2 + (g + 1) % 2 * 39 + cnt (E (g + 1)) + 1 : Nat) : Int), ⟨sealed_fit f2 (by decide) _ _ hpar, sealed_bytes (laid_bytes (b1 h.bytes) hEb _ _) _ _, ?_, fun _ => ?_, ?_, fun _ => ?_⟩, ?_⟩
  rotate_right
  · rw [he, hck, ← hcast]
  · rw [sealed_at f2 (by decide) _ _ hpar, hcast]
  · rw [show (g + 1 + 1) % 2 = g % 2 by omega, show g + 1 - 1 = g by omega, hout _ (by omega) (by omega) (by omega), o1 _ (by omega) (by omega), h.top]
  · unfold Reg
    rw [if_neg (by omega)]
    refine ⟨?_, ?_, ?_⟩
    · rw [sealed_out f2 (by decide) _ _ hpar (by omega) (by omega), laid_at _ _ f1 (by rw [E_cnt]; omega), hcast]
    · rw [sealed_out f2 (by decide) _ _ hpar (by omega) (by omega)]
      exact laid_in (j := 0) _ _ f1 (by rw [E_cnt]; omega) (by rw [E_cnt]; decide)
    · rw [hout _ (by omega) (by omega) (by omega), i1 _ (by omega) (by omega) (by omega)]
  · rw [show g + 1 - 1 = g by omega]
    refine h.reg.same (fun x hx1 hx2 => ?_)
    rw [hout x (by omega) (by omega) (by omega), o1 x (by omega) (by omega)]
theorem run (K : Nat) (hK : 20000 ≤ K) (m : Nat) : ∀ (i : Nat) (at_ : Int) (D : List Int), Inv (i + 1) D → i + m ≤ 6 →
    ∃ D' at2, Inv (i + m + 1) D' ∧ supersRun K m (i : Int) ((i + 1 : Nat) : Int) at_ (Up 80 D []) = some (((i + m + 1 : Nat) : Int), at2, Up 80 D' []) := by
  induction m with
  | zero =>
    intro i at_ D h _
    exact ⟨D, at_, h, rfl⟩
  | succ m ih =>
    intro i at_ D h hle
    obtain ⟨D1, at1, h1, e1⟩ := step h (by omega) (by omega) at_ K hK
    obtain ⟨D2, at2, h2, e2⟩ := ih (i + 1) at1 D1 h1 (by omega)
    refine ⟨D2, at2, by rw [show i + (m + 1) + 1 = i + 1 + m + 1 by omega]; exact h2, ?_⟩
    unfold supersRun
    rw [show [(i : Int)] = [(((i + 1 : Nat) : Int) - 1)] by rw [show (((i + 1 : Nat) : Int) - 1) = (i : Int) by omega], e1, Option.bind_some]
    dsimp only
    rw [if_pos ⟨rfl, rfl⟩, show (i : Int) + 1 = ((i + 1 : Nat) : Int) by omega, e2, show i + 1 + m + 1 = i + (m + 1) + 1 by omega]
theorem reg_scan {g : Nat} {D : List Int} (hD : Fit 80 D []) (h1 : 1 ≤ g) (h2 : g ≤ 10) (h : Reg g D) (K : Nat) (hK : 20000 ≤ K) :
    ∃ y : Nat, region_Scan.f K (Up 80 D []) ((2 + g % 2 * 39 : Nat) : Int) ((2 + g % 2 * 39 + 39 : Nat) : Int) (g : Int) = some (if g = 1 then [] else [E g], (y : Int), Up 80 D []) := by
  unfold Reg at h
  by_cases hg : g = 1
  · rw [if_pos hg] at h
    have hone := one_zero (p := 2 + g % 2 * 39) (e := 2 + g % 2 * 39 + 39) hD (by omega) (by omega) (g : Int) (by omega) (by omega) h (K - 2) (by omega)
    have hsc := scan_none hone []
    rw [show K - 2 + 1 + 1 = K by omega] at hsc
    refine ⟨2 + g % 2 * 39, ?_⟩
    rw [if_pos hg]
    exact hsc
  · rw [if_neg hg] at h
    obtain ⟨s0, s1, s2⟩ := h
    have hEb : Crc.Bytes (E g) := fun x hx => by
      unfold E at hx
      rw [List.mem_singleton.1 hx]
      omega
    have hyes := one_yes (p := 2 + g % 2 * 39) (e := 2 + g % 2 * 39 + 39) hD (by decide) (g : Int) (E g) (by omega) (by omega) hEb (by show 1 ≤ 8192; decide) s0 (fun j hj => by
      rw [E_cnt] at hj
      obtain rfl : j = 0 := by omega
      exact s1) (by rw [E_cnt]; omega) (by rw [E_cnt]; omega) (by omega) 1000 (by show 10 * 1 + 130 < 1000; decide)
    have hyes2 := at_rounds (region_one.mono _ _ _ _) (k' := K - 1) (by rw [E_cnt]; omega) hyes
    have hs1 := scan_more (p := 2 + g % 2 * 39) (E g) (by omega) (by show 1 ≤ 8192; decide) hyes2 [] (by decide)
    have hone := one_zero (p := 2 + g % 2 * 39 + cnt (E g) + 1) (e := 2 + g % 2 * 39 + 39) hD (by rw [E_cnt]; omega) (by rw [E_cnt]; omega) (g : Int) (by omega) (by omega) (by rw [E_cnt]; exact s2) (K - 3) (by omega)
    have hs2 := scan_none hone ([] ++ [E g])
    rw [show K - 3 + 1 + 1 = K - 1 by omega] at hs2
    rw [show K - 1 + 1 = K by omega] at hs1
    refine ⟨2 + g % 2 * 39 + cnt (E g) + 1, ?_⟩
    rw [if_neg hg]
    exact hs1.trans hs2
end WalSupers_
open WalSupers_ in
theorem WalSupers : BndWalSupers.Pure := by
  intro x0 x1 x2 h0 h1 h2
  obtain ⟨a0, a1⟩ := wf_u8 h0
  obtain ⟨b0, b1⟩ := wf_u8 h1
  obtain ⟨c0, c1⟩ := wf_u8 h2
  refine ⟨20000, ?_⟩
  unfold interregnumlaw04_WalSupers.f
  by_cases hz : x2 = 0
  · rw [if_pos hz]
  rw [if_neg hz]
  obtain ⟨D0, hO, ho⟩ := open_new (N := 80) (h := 39) (by decide) (by decide) (by decide) 20000 (Nat.le_refl _)
  have hI := inv_one hO
  obtain ⟨q, hq⟩ : ∃ q : Nat, x0 % 5 = (q : Int) := Int.eq_ofNat_of_zero_le (by omega)
  have hq5 : q < 5 := by omega
  rw [hq, show ((q : Int) + 1).toNat = q + 1 by omega, show Disk.new 80 = Disk.new ((80 : Nat) : Int) from rfl, ho, Option.bind_some]
  obtain ⟨D, at2, hD, hrun⟩ := run 20000 (Nat.le_refl _) (q + 1) 0 ((2 + 1 * 39 : Nat) : Int) D0 hI (by omega)
  rw [show 0 + (q + 1) + 1 = q + 2 by omega] at hD hrun
  dsimp only
  have hrun2 : supersRun 20000 (q + 1) 0 1 ((2 + 1 * 39 : Nat) : Int) (Up 80 D0 []) = _ := hrun
  rw [hrun2, Option.bind_some]
  dsimp only
  rw [tmod_par (q + 2), read_up hD.fit (by omega), Option.bind_some]
  dsimp only
  have hpar : (q + 2) % 2 ≤ 1 := by omega
  obtain ⟨j, hj⟩ : ∃ j : Nat, x1 % 64 = (j : Int) := Int.eq_ofNat_of_zero_le (by omega)
  have hj64 : j < 64 := by omega
  have hlen : (fill (sb ((q + 2 : Nat) : Int))).length = 64 := fill_length (by rw [sb_length]; decide)
  obtain ⟨sp, hsp⟩ : ∃ sp, sp = spoil (sector D (((q + 2) % 2 : Nat) : Int)) (x1 % 64) x2 := ⟨_, rfl⟩
  have hspl : sp.length = 64 := by rw [hsp]; unfold spoil; rw [List.length_set, hD.top, hlen]
  have hsp2 : sp = (fill (sb ((q + 2 : Nat) : Int))).set j (Go.bits .xor .u8 ((fill (sb ((q + 2 : Nat) : Int))).getD j 0) x2) := by
    rw [hsp, hD.top, hj]
    rfl
  have hspb : Crc.Bytes sp := by
    rw [hsp2]
    intro y hy
    rcases List.mem_or_eq_of_mem_set hy with hy | hy
    · exact fill_bytes (sb_bytes _) y hy
    · rw [hy]
      refine Crc.xor8_byte _ _ ?_ ⟨c0, c1⟩
      rw [List.getD_eq_getElem?_getD, List.getElem?_eq_getElem (by rw [hlen]; exact hj64)]
      exact fill_bytes (sb_bytes _) _ (List.getElem_mem _)
  have hfs : fill sp = sp := by unfold fill; rw [hspl]; simp
  rw [← hsp]
  unfold sector_Disk_Write.f
  rw [if_pos (by show 0 < 1000000; decide), write_up hD.fit (by omega) (by omega) (by omega), Option.bind_some]
  dsimp only
  unfold sector_Disk_Flush.f
  rw [if_pos (by show 1 < 1000000; decide), Option.bind_some, flush_up, List.nil_append]
  dsimp only
  have f1 : Fit 80 D [((((q + 2) % 2 : Nat) : Int), fill sp)] := fit_one sp (by omega) hD.fit (by omega)
  obtain ⟨D', hD'⟩ : ∃ D', D' = Disk.settle [((((q + 2) % 2 : Nat) : Int), fill sp)] D := ⟨_, rfl⟩
  have fit' : Fit 80 D' [] := by rw [hD']; exact f1.settled
  have bytes' : Crc.Bytes D' := by
    rw [hD']
    exact settle_bytes _ _ hD.bytes (fun p hp => by
      obtain rfl := List.mem_singleton.1 hp
      show Crc.Bytes (fill sp)
      rw [hfs]
      exact hspb)
  have at' : sector D' (((q + 2) % 2 : Nat) : Int) = sp := by
    rw [hD', sector_settle f1 (by omega) (by omega)]
    unfold latest latest
    rw [if_pos rfl, Option.getD_some, hfs]
  have out' : ∀ x : Nat, x < 80 → x ≠ (q + 2) % 2 → sector D' (x : Int) = sector D (x : Int) := fun x hx hne => by
    rw [hD', sector_settle f1 (by omega) (by omega), latest_none (fun p hp e => by
      obtain rfl := List.mem_singleton.1 hp
      dsimp only at e
      omega), Option.getD_none]
  rw [← hD']
  have hlow := hD.low (by omega)
  have hreg := (hD.reg1 (by omega)).same (fun x hx1 hx2 => out' x (by omega) (by omega))
  rw [show q + 2 - 1 = q + 1 by omega] at hlow hreg
  have hnew : wal_newestGen.f 20000 (Up 80 D' []) = some (((q + 1 : Nat) : Int), Up 80 D' []) := by
    unfold wal_newestGen.f
    have hmx : mx 0 ((q + 1 : Nat) : Int) = ((q + 1 : Nat) : Int) := by unfold mx; rw [if_pos (by omega)]
    have hspoil : ∀ (n : Nat), n = (q + 2) % 2 → ∀ k x3, 100 < k → wal_newestGen.l0 (k + 2) x3 (n : Int) (Up 80 D' []) = wal_newestGen.l0 k x3 ((n + 1 : Nat) : Int) (Up 80 D' []) := fun n hn k x3 hk =>
      newest_spoilt fit' bytes' (by omega) (by omega) ((q + 2 : Nat) : Int) x2 j (by omega) ⟨c0, c1⟩ hz hj64 (by rw [hn, at', hsp2]) k x3 hk
    have hyes : ∀ (n : Nat), n = (q + 2 + 1) % 2 → ∀ k, 100 < k → wal_newestGen.l0 (k + 2) 0 (n : Int) (Up 80 D' []) = wal_newestGen.l0 k ((q + 1 : Nat) : Int) ((n + 1 : Nat) : Int) (Up 80 D' []) := fun n hn k hk => by
      have := newest_yes fit' (n := n) (by omega) (by omega) ((q + 1 : Nat) : Int) (by omega) (by omega) (by rw [out' n (by omega) (by omega), hn, hlow]) (by rw [tmod_par]; omega) k 0 (by omega)
      rw [this, hmx]
    rcases (show (q + 2) % 2 = 0 ∨ (q + 2) % 2 = 1 by omega) with hp | hp
    · have e0 := hspoil 0 (by omega) (20000 - 2) 0 (by decide)
      have e1 := hyes 1 (by omega) (20000 - 4) (by decide)
      exact e0.trans (e1.trans (newest_end (20000 - 5) _ _))
    · have e0 := hyes 0 (by omega) (20000 - 2) (by decide)
      have e1 := hspoil 1 (by omega) (20000 - 4) ((q + 1 : Nat) : Int) (by decide)
      exact e0.trans (e1.trans (newest_end (20000 - 5) _ _))
  obtain ⟨y, hscan⟩ := reg_scan fit' (by omega) (by omega) hreg 20000 (Nat.le_refl _)
  obtain ⟨D3, hcl, hce⟩ := clean (a := y) (t := 2 + (q + 1) % 2 * 39 + 39) fit' (by decide) bytes' 20000 (by decide)
  have hopen : logOpen.f 20000 (Up 80 D' []) = some (if q + 1 = 1 then [] else [E (q + 1)], ((q + 1 : Nat) : Int), (y : Int), 0, Up 80 D3 []) := by
    unfold logOpen.f
    rw [fit_len fit', if_neg (by decide), hnew, Option.bind_some]
    dsimp only
    rw [if_neg (by omega)]
    unfold logOpen2.f
    rw [bounds_f 80 39 (Up 80 D' []) (fit_len fit') (by decide) (by decide) (by decide) ((q + 1 : Nat) : Int) ((q + 1) % 2) (tmod_par (q + 1)) (by omega), Option.bind_some]
    dsimp only
    rw [hscan, Option.bind_some]
    dsimp only
    rw [hce, Option.bind_some]
    exact if_pos rfl
  rw [hopen, Option.bind_some]
  refine if_pos ⟨⟨a0, a1, b0, b1⟩, ⟨rfl, ?_, by omega⟩, ⟨rfl, by dsimp only; omega⟩, ?_⟩
  · rw [hD.top, hlen]
  · by_cases hq0 : q = 0
    · refine .inl ⟨by omega, ?_⟩
      dsimp only
      rw [if_pos (by omega)]
      exact rows_nil 19999
    · refine .inr ⟨by omega, ?_⟩
      dsimp only
      rw [if_neg (by omega)]
      have : [(q : Int) + 1 - 2] = E (q + 1) := by unfold E; rw [show (((q + 1 : Nat) : Int) - 2) = (q : Int) + 1 - 2 by omega]
      rw [this]
      exact rows_one (E (q + 1)) 19998 (by show 1 < 19998; decide) (by show 1 < _; decide)
end Go.Proofs.Ytpojfebecmjloaa.Pure
