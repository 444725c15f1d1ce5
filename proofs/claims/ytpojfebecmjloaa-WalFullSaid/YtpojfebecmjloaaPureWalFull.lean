/- A log that is full says so, changes nothing, and takes a checkpoint; the plain part of the proof. Conditions: none. -/
import Derived.Test.YtpojfebecmjloaaWalBWalFull
import Derived.Test.YtpojfebecmjloaaBndWalFull
namespace Go.Proofs.Ytpojfebecmjloaa.Pure
open Go.RowKit Go.Proofs.Ytpojfebecmjloaa.PWalFull Go.Proofs.YtpojfebecmjloaaW.PrintWords Go.Proofs.YtpojfebecmjloaaW.PrintLast Go.Proofs.Ytpojfebecmjloaa.Disk Go.Proofs.Ytpojfebecmjloaa Go.Proofs.Ytpojfebecmjloaa.RegWalFull
set_option linter.unusedVariables false
set_option linter.unusedSimpArgs false
namespace WalFull_
theorem wf_u8 {x : Int} (h : (Lit.int .u8 x).wf = true) : 0 ≤ x ∧ x < 256 := by
  simp [Lit.wf, IntKind.min, IntKind.max, IntKind.signed, IntKind.bits] at h
  omega
theorem ref_crc (l : List Int) (hb : Crc.Bytes l) (hl : l.length < 4611686018427387904) (k : Nat) (hk : 10 * l.length < k) : interregnumref01_Crc.f k l = some (Crc.crc l) :=
  Crc.crc_tells interregnumref01_Crc.l0 interregnumref01_Crc.l1 (fun _ _ _ _ => rfl) (fun _ _ _ _ _ => rfl) l hb hl k hk
theorem sectors_l0 (b : List Int) (hb : b.length ≤ 300) (d : Nat) : ∀ (k i : Nat) (out : List (List Int)), i + d = cnt b → out.length = i + 1 → ∃ r, r.length = cnt b + 1 ∧ interregnumref01_Sectors.l0 (k + d + 1) b out ((64 * i : Nat) : Int) = some r := by
  induction d with
  | zero =>
    intro k i out hi ho
    refine ⟨out, by omega, ?_⟩
    unfold interregnumref01_Sectors.l0
    rw [if_neg (by unfold cnt at hi; omega)]
  | succ d ih =>
    intro k i out hi ho
    have hlt : 64 * i < b.length := by unfold cnt at hi; omega
    rw [show k + (d + 1) + 1 = (k + d + 1) + 1 by omega]
    conv => enter [1, r, 2, 1]; unfold interregnumref01_Sectors.l0
    rw [if_pos (by omega), show ((64 * i : Nat) : Int) + 64 = ((64 * (i + 1) : Nat) : Int) by omega, w64n _ (by omega)]
    unfold interregnumref01_Fill.f
    by_cases h : ((64 * (i + 1) : Nat) : Int) > (b.length : Int)
    · rw [if_pos h, if_pos (by omega), if_pos (by omega), if_pos (by omega), Option.bind_some, if_pos (by omega)]
      exact ih k (i + 1) _ (by omega) (by simp; omega)
    · rw [if_neg h, if_pos (by omega), if_pos (by omega), if_pos (by omega), Option.bind_some, if_pos (by omega)]
      exact ih k (i + 1) _ (by omega) (by simp; omega)
theorem sectors (b : List Int) (hbb : Crc.Bytes b) (hb : b.length ≤ 300) (K : Nat) (hK : 20000 ≤ K) : ∃ r, r.length = cnt b + 1 ∧ interregnumref01_Sectors.f K 1 b = some r := by
  have hw : ∀ l, wrap64 (Crc.crc l) = Crc.crc l := fun l => w64 _ (by have := Crc.crc_nonneg l; omega) (by have := Crc.crc_lt l; omega)
  have h4 : ∀ v, interregnumref01_Four.f v = some (be4 v) := fun v => rfl
  have hc : cnt b ≤ 10 := by unfold cnt; omega
  obtain ⟨r, h1, h2⟩ := sectors_l0 b hb (cnt b) (K - cnt b - 1) 0 [((be4 1 ++ be4 (b.length : Int) ++ be4 (Crc.crc b)) ++ be4 (Crc.crc (be4 1 ++ be4 (b.length : Int) ++ be4 (Crc.crc b)))).take 64 ++ List.replicate (64 - ((be4 1 ++ be4 (b.length : Int) ++ be4 (Crc.crc b)) ++ be4 (Crc.crc (be4 1 ++ be4 (b.length : Int) ++ be4 (Crc.crc b)))).length) 0] (by omega) rfl
  refine ⟨r, h1, ?_⟩
  rw [show K - cnt b - 1 + cnt b + 1 = K by omega] at h2
  unfold interregnumref01_Sectors.f
  rw [h4, Option.bind_some, h4, Option.bind_some, if_pos (by show 4 + 4 < _; decide), Option.bind_some, ref_crc b hbb (by omega) K (by omega), Option.bind_some, hw, h4, Option.bind_some, if_pos (by show 8 + 4 < _; decide), Option.bind_some, ref_crc _ (((be4_bytes _).append (be4_bytes _)).append (be4_bytes _)) (by show 12 < _; decide) K (by show 10 * 12 < K; omega), Option.bind_some, hw, h4, Option.bind_some, if_pos (by show 12 + 4 < _; decide)]
  unfold interregnumref01_Fill.f
  rw [Option.bind_some]
  exact h2
theorem fill_up {N h : Nat} (hN : 4 ≤ N) (hN2 : N ≤ 1024) (hh : h = (N - 2) / 2) (a : List Int) (hb : Crc.Bytes a) (ha : a.length ≤ 300) (K : Nat) (hK : 20000 ≤ K) (m : Nat) : ∀ (at_ : Nat) (D : List Int), Fit N D [] → Crc.Bytes D → at_ + m * (cnt a + 1) ≤ 2 + 1 * h + h →
    ∃ D', Fit N D' [] ∧ Crc.Bytes D' ∧ walFill K a m (at_ : Int) (Up N D []) = some (((at_ + m * (cnt a + 1) : Nat) : Int), Up N D' []) := by
  induction m with
  | zero =>
    intro at_ D hD hDb _
    exact ⟨D, hD, hDb, by unfold walFill; rw [Nat.zero_mul, Nat.add_zero]⟩
  | succ m ih =>
    intro at_ D hD hDb hle
    have e : at_ + (m + 1) * (cnt a + 1) = (at_ + cnt a + 1) + m * (cnt a + 1) := by rw [Nat.succ_mul]; omega
    rw [e] at hle
    have hal : at_ + cnt a + 1 ≤ 2 + 1 * h + h := Nat.le_trans (Nat.le_add_right _ _) hle
    obtain ⟨D', f, b, h2⟩ := ih (at_ + cnt a + 1) (laid at_ 1 a D) (fit_laid 1 a hD (by omega)) (laid_bytes hDb hb _ _) hle
    refine ⟨D', f, b, ?_⟩
    unfold walFill
    rw [append_ok hD hN hN2 hh 1 (by decide) (by decide) (p := 1) (by decide) (by decide) a hb ha hal K hK, Option.bind_some]
    dsimp only
    rw [if_pos ⟨rfl, rfl⟩, h2, e]
end WalFull_
open WalFull_ in
theorem WalFull : BndWalFull.Pure := by
  intro x0 x1 h0 h1
  obtain ⟨a0, a1⟩ := wf_u8 h0
  obtain ⟨b0, b1⟩ := wf_u8 h1
  refine ⟨20000, ?_⟩
  unfold interregnumlaw04_WalFull.f
  obtain ⟨n, hn⟩ := Int.eq_ofNat_of_zero_le b0
  subst hn
  obtain ⟨N, hN⟩ : ∃ N : Nat, x0 % 60 + 8 = (N : Int) := Int.eq_ofNat_of_zero_le (by omega)
  have hNb : 8 ≤ N ∧ N ≤ 67 := by omega
  obtain ⟨a, ha⟩ : ∃ a, a = List.replicate n (0 : Int) := ⟨_, rfl⟩
  have hal : a.length = n := by rw [ha, List.length_replicate]
  have hab : Crc.Bytes a := by rw [ha]; exact zero_bytes n
  obtain ⟨h, hh⟩ : ∃ h, h = (N - 2) / 2 := ⟨_, rfl⟩
  have hhalf : (x0 % 60 + 8 - 2) / 2 = (h : Int) := by rw [hN]; omega
  have hlen : ((n : Int) + 63) / 64 + 1 = ((cnt a + 1 : Nat) : Int) := by unfold cnt; rw [hal]; omega
  rw [hhalf, hlen, hN, show (h : Int) / ((cnt a + 1 : Nat) : Int) = ((h / (cnt a + 1) : Nat) : Int) from (Int.natCast_ediv _ _).symm]
  obtain ⟨m, hm⟩ : ∃ m, m = h / (cnt a + 1) := ⟨_, rfl⟩
  rw [← hm]
  have hmle : m * (cnt a + 1) ≤ h := by rw [hm]; exact Nat.div_mul_le_self h (cnt a + 1)
  have hmgt : h < m * (cnt a + 1) + (cnt a + 1) := by
    have h5 := Nat.div_add_mod h (cnt a + 1)
    rw [← hm, Nat.mul_comm] at h5
    have := Nat.mod_lt h (show cnt a + 1 > 0 by omega)
    omega
  obtain ⟨D0, ⟨f0, y0, z0, s0⟩, ho⟩ := open_new (N := N) (h := h) (by omega) (by omega) hh 20000 (Nat.le_refl _)
  obtain ⟨rr, hrl, hsec⟩ := sectors a hab (by omega) 20000 (Nat.le_refl _)
  have hmq : 2 + 1 * h + m * (cnt a + 1) ≤ 2 + 1 * h + h := by omega
  obtain ⟨D1, f1, y1, hfill⟩ := fill_up (by omega) (by omega) hh a hab (by omega) 20000 (Nat.le_refl _) m (2 + 1 * h) D0 f0 y0 hmq
  have hfull := append_full (at_ := 2 + 1 * h + m * (cnt a + 1)) f1 (by omega) (by omega) hh 1 (by decide) (by decide) (p := 1) (by decide) (by decide) a (by omega) hmq (by omega) 20000 (Nat.le_refl _)
  unfold walFullF
  rw [ho, Option.bind_some]
  dsimp only
  rw [Int.toNat_natCast, ← ha, hsec, Option.bind_some, Int.toNat_natCast, hfill, Option.bind_some]
  dsimp only
  rw [hfull, Option.bind_some]
  dsimp only
  have hbd := fun D (hD : Fit N D []) => bounds_f N h (Up N D []) (fit_len hD) (by omega) (by omega) hh
  rw [hbd D1 f1 1 1 (by decide) (by decide), Option.bind_some]
  dsimp only
  have huse : wrap64 (((2 + 1 * h + m * (cnt a + 1) : Nat) : Int) - ((2 + 1 * h : Nat) : Int)) = wrap64 ((m : Int) * ((cnt a + 1 : Nat) : Int)) := by
    rw [← Int.natCast_mul]
    congr 1
    omega
  have hm32 : (cnt a + 1) < 1000 := by unfold cnt; omega
  by_cases hm0 : m = 0
  · rw [checkpoint_full f1 (by omega) (by omega) hh 1 _ (by decide) (by decide) (p := 0) (by decide) (by decide) a (by omega) (by rw [hm0] at hmgt; omega) 20000, Option.bind_some]
    dsimp only
    rw [hbd D1 f1 1 1 (by decide) (by decide), Option.bind_some]
    exact if_pos ⟨⟨a0, a1, b0, b1⟩, ⟨hN.symm, by omega, by rw [hrl], by omega, by omega, by rw [hm, Int.natCast_ediv]⟩, ⟨rfl, rfl⟩, ⟨rfl, rfl, huse⟩, .inl ⟨by rw [hm0]; rfl, rfl⟩⟩
  · have hcle : cnt a + 1 ≤ h := by
      have : 1 * (cnt a + 1) ≤ m * (cnt a + 1) := Nat.mul_le_mul_right _ (by omega)
      omega
    obtain ⟨D2, hcl, hck⟩ := checkpoint_ok f1 y1 (by omega) (by omega) hh 1 ((2 + 1 * h + m * (cnt a + 1) : Nat) : Int) (by decide) (by decide) (p := 0) (by decide) (by decide) a hab (by omega) hcle 20000 (Nat.le_refl _)
    rw [hck, Option.bind_some]
    dsimp only
    have f3 := sealed_fit (fit_laid (p := 2 + 0 * h) (1 + 1) a hcl.1 (by omega)) (by omega) (1 + 1) 0 (by decide)
    rw [hbd _ f3 (1 + 1) 0 (by decide) (by decide), Option.bind_some]
    refine if_pos ⟨⟨a0, a1, b0, b1⟩, ⟨hN.symm, by omega, by rw [hrl], by omega, by omega, by rw [hm, Int.natCast_ediv]⟩, ⟨rfl, rfl⟩, ⟨rfl, rfl, huse⟩, .inr ⟨by omega, rfl, rfl, ?_⟩⟩
    rw [show ((2 + 0 * h + cnt a + 1 : Nat) : Int) - ((2 + 0 * h : Nat) : Int) = ((cnt a + 1 : Nat) : Int) by omega]
    exact w64n _ (by omega)
end Go.Proofs.Ytpojfebecmjloaa.Pure
