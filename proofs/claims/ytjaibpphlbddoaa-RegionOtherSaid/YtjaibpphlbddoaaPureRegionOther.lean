/- Entries of another generation are none; the plain part of the proof. Conditions: none. -/
import Derived.Test.YtjaibpphlbddoaaRegCRegionOther
import Derived.Test.YtjaibpphlbddoaaBndRegionOther
namespace Go.Proofs.Ytjaibpphlbddoaa.Pure
open Go.RowKit Go.Proofs.Ytjaibpphlbddoaa.PRegionOther Go.Proofs.YtjaibpphlbddoaaW.PrintWords Go.Proofs.YtjaibpphlbddoaaW.PrintLast Go.Proofs.Ytjaibpphlbddoaa.Disk Go.Proofs.Ytjaibpphlbddoaa Go.Proofs.Ytjaibpphlbddoaa.RegRegionOther
set_option linter.unusedVariables false
set_option linter.unusedSimpArgs false
namespace RegionOther_
theorem wf_u16 {x : Int} (h : (Lit.int .u16 x).wf = true) : 0 ≤ x ∧ x < 65536 := by
  simp [Lit.wf, IntKind.min, IntKind.max, IntKind.signed, IntKind.bits] at h
  omega
theorem Same_l0 (l : List Int) (hl : l.length < 4611686018427387904) (d : Nat) : ∀ (k i : Nat), i + d = l.length → interregnumref01_Same.l0 (k + d + 1) l l (i : Int) = some true := by
  induction d with
  | zero =>
    intro k i hi
    conv => lhs; unfold interregnumref01_Same.l0
    rw [if_neg (by omega)]
  | succ d ih =>
    intro k i hi
    rw [show k + (d + 1) + 1 = (k + d + 1) + 1 by omega]
    conv => lhs; unfold interregnumref01_Same.l0
    rw [if_pos (by omega), if_pos (by omega), if_pos (by omega), if_pos rfl, w64 _ (by omega) (by omega), show (i : Int) + 1 = ((i + 1 : Nat) : Int) by omega]
    exact ih k (i + 1) (by omega)
theorem Same (l : List Int) (k : Nat) (hk : l.length < k) (hl : l.length < 4611686018427387904) : interregnumref01_Same.f k l l = some true := by
  unfold interregnumref01_Same.f
  rw [if_pos rfl]
  have := Same_l0 l hl l.length (k - (l.length + 1)) 0 (by omega)
  rw [show k - (l.length + 1) + l.length + 1 = k by omega] at this
  exact this
theorem rows_one (l : List Int) (k : Nat) (hk : l.length < k) (hl : l.length < 4611686018427387904) : interregnumref01_Rows.f (k + 2) [l] [l] = some true := by
  unfold interregnumref01_Rows.f
  rw [if_pos rfl]
  unfold interregnumref01_Rows.l0
  rw [if_pos (show (0 : Int) < (([l].length : Nat) : Int) by show (0 : Int) < ((1 : Nat) : Int); decide), if_pos (by decide), if_pos (show (0 : Int) < (([l].length : Nat) : Int) by show (0 : Int) < ((1 : Nat) : Int); decide)]
  show ((interregnumref01_Same.f (k + 1) l l).bind fun t => if t = true then interregnumref01_Rows.l0 (k + 1) [l] [l] (wrap64 (0 + 1)) else some false) = some true
  rw [Same l (k + 1) (by omega) hl, Option.bind_some, if_pos rfl]
  unfold interregnumref01_Rows.l0
  rw [if_neg (show ¬ wrap64 (0 + 1) < (([l].length : Nat) : Int) by rw [w64 (0 + 1) (by decide) (by decide)]; show ¬ (0 + 1 : Int) < ((1 : Nat) : Int); decide)]
end RegionOther_
open RegionOther_ in
theorem RegionOther : BndRegionOther.Pure := by
  intro l a1 a2 h0 h1 h2
  obtain ⟨b0, b1⟩ := wf_u16 h1
  obtain ⟨b2, b3⟩ := wf_u16 h2
  have hb := Crc.Bytes.wf h0.2
  obtain ⟨T, hT⟩ : ∃ T : Nat, T = 10 * l.length + 1000 := ⟨_, rfl⟩
  refine ⟨T + 1 + cnt l + 2 + 1, ?_⟩
  unfold interregnumlaw03_RegionOther.f
  by_cases hlong : (l.length : Int) > 400 ∨ a1 = a2
  · rw [if_pos hlong]
  rw [if_neg hlong]
  have hlen : l.length ≤ 400 := by
    rcases Nat.lt_or_ge 400 l.length with h | h
    · exact absurd (.inl (by omega)) hlong
    · exact h
  have hne : a1 ≠ a2 := fun h => hlong (.inr h)
  have hc : cnt l ≤ 7 := by unfold cnt; omega
  have hz : Fit 20 (new ((20 : Nat) : Int)).lasts [] := fit_new (n := 20) (by decide)
  have hlay := lay (N := 20) (p := 0) (e := 20) a1 l hz (by decide) b0 (by omega) hb (by omega) (by omega) (by decide) (by omega) (T + 2) (by omega)
  rw [show T + 2 + 1 + cnt l + 1 = T + 1 + cnt l + 2 + 1 by omega] at hlay
  have hD := fit_laid (p := 0) a1 l hz (by omega)
  have hat := laid_at (p := 0) a1 l hz (by omega)
  have hin : ∀ j, j < cnt l → sector (laid 0 a1 l (new ((20 : Nat) : Int)).lasts) ((0 + 1 + j : Nat) : Int) = chunk (pad l) j := fun j hj => laid_in a1 l hz (by omega) hj
  have hout := laid_out (p := 0) (x := 0 + cnt l + 1) a1 l hz (by omega) (by omega) (.inr (Nat.le_refl _))
  rw [sector_new 20 (by decide) _ (by omega)] at hout
  generalize laid 0 a1 l (new ((20 : Nat) : Int)).lasts = D at hlay hD hat hin hout
  have hoth := one_other (p := 0) (e := 20) hD (by decide) (by decide) a2 a1 _ b0 (by omega) b2 (by omega) hne (by rw [hat, fill_hd]) (T + 1 + cnt l + 1)
  have hyes := one_yes (p := 0) (e := 20) hD (by decide) a1 l b0 (by omega) hb (by omega) hat hin (by omega) (by omega) (by decide) T (by omega)
  have hzer := one_zero (p := 0 + cnt l + 1) (e := 20) hD (by omega) (by omega) a1 b0 (by omega) hout (T + 1 + cnt l) (by omega)
  have hs1 := scan_none hoth []
  have hs2 := scan_more (p := 0) l (by decide) (by omega) hyes [] (by decide)
  have hs3 := scan_none hzer ([] ++ [l])
  have hl1 : region_Lay.f (T + 1 + cnt l + 2 + 1) (Disk.new 20) 0 20 a1 l = some (((0 + cnt l + 1 : Nat) : Int), 0, Up 20 D []) := hlay
  have hq1 : region_Scan.f (T + 1 + cnt l + 2 + 1) (Up 20 D []) 0 20 a2 = some ([], 0, Up 20 D []) := hs1
  have hq2 : region_Scan.f (T + 1 + cnt l + 2 + 1) (Up 20 D []) 0 20 a1 = some ([l], ((0 + cnt l + 1 : Nat) : Int), Up 20 D []) := hs2.trans hs3
  have hrows := rows_one l (T + 1 + cnt l + 1) (by omega) (by omega)
  rw [hl1, Option.bind_some]
  dsimp only
  rw [hq1, Option.bind_some]
  dsimp only
  rw [hq2, Option.bind_some]
  exact if_pos ⟨rfl, rfl, rfl, rfl, rfl, b0, b1, b2, b3, hrows⟩
end Go.Proofs.Ytjaibpphlbddoaa.Pure
