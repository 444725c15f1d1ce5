/- Of a torn sector the first bytes are new ones, the others as they were; the plain part of the proof. Conditions: none. -/
import Derived.Test.YtjaibpphlbddoaaDiskLaws
import Derived.Test.YtjaibpphlbddoaaPSectorTornx3
namespace Go.Proofs.Ytjaibpphlbddoaa.Pure
open Go.RowKit Go.Proofs.Ytjaibpphlbddoaa.PSectorTorn Go.Proofs.YtjaibpphlbddoaaW.PrintWords Go.Proofs.YtjaibpphlbddoaaW.PrintLast Go.Proofs.Ytjaibpphlbddoaa.Disk
set_option linter.unusedVariables false
set_option linter.unusedSimpArgs false
namespace SectorTorn_
theorem w64 (i : Int) (h0 : -4611686018427387904 ≤ i) (h : i < 4611686018427387904) : wrap64 i = i := by unfold wrap64; omega
theorem wf_u8 {x : Int} (h : (Lit.int .u8 x).wf = true) : 0 ≤ x ∧ x < 256 := by
  simp [Lit.wf, IntKind.min, IntKind.max, IntKind.signed, IntKind.bits] at h
  omega
theorem Same_l0 (l : List Int) (hl : l.length < 4611686018427387904) (d : Nat) : ∀ (k i : Nat), i + d = l.length → interregnumref01_Same.l0 (k + d + 1) l l (i : Int) = some true := by
  induction d with
  | zero =>
    intro k i hi
    conv => lhs; unfold interregnumref01_Same.l0
    rw [if_neg (by omega)]
  | succ d ih =>
    intro k i hi
    rw [show k + (d + 1) + 1 = (k + d + 1) + 1 by omega]
    conv => lhs; unfold interregnumref01_Same.l0
    rw [if_pos (by omega), if_pos (by omega), if_pos (by omega), if_pos rfl, w64 _ (by omega) (by omega), show (i : Int) + 1 = ((i + 1 : Nat) : Int) by omega]
    exact ih k (i + 1) (by omega)
theorem Same (l : List Int) (k : Nat) (hk : l.length < k) (hl : l.length < 4611686018427387904) : interregnumref01_Same.f k l l = some true := by
  unfold interregnumref01_Same.f
  rw [if_pos rfl]
  have := Same_l0 l hl l.length (k - (l.length + 1)) 0 (by omega)
  rw [show k - (l.length + 1) + l.length + 1 = k by omega] at this
  exact this
end SectorTorn_
open SectorTorn_ in
theorem SectorTorn : interregnumlaw02_SectorTorn.Pure := by
  intro a b at_ keep _ _ _ _ _ _ hat _
  have hat := wf_u8 hat
  obtain ⟨n, hn⟩ : ∃ n : Nat, n = 100 := ⟨_, rfl⟩
  refine ⟨n + 1, ?_⟩
  unfold interregnumlaw02_SectorTorn.f
  by_cases h1 : (a.length : Int) > 64
  · rw [if_pos h1]
    unfold interregnumlaw02_SectorTorn.j0
    dsimp only
    rw [if_pos rfl]
    rfl
  rw [if_neg h1]
  unfold interregnumlaw02_SectorTorn.j0
  dsimp only
  by_cases h2 : (b.length : Int) > 64
  · rw [if_pos (by rw [decide_eq_true h2])]
    rfl
  rw [if_neg (by rw [decide_eq_false h2]; decide)]
  have ha : a.length ≤ 64 := by omega
  have hb : b.length ≤ 64 := by omega
  obtain ⟨p, hp⟩ := Int.eq_ofNat_of_zero_le (show 0 ≤ at_ % 65 by omega)
  rw [Int.tmod_eq_emod_of_nonneg hat.1, w64 (at_ % 65) (by omega) (by omega), hp]
  have hp64 : p ≤ 64 := by omega
  unfold sector_New.f
  rw [Option.bind_some]
  have f0 : Fit 1 (new ((1 : Nat) : Int)).lasts [] := fit_new (n := 1) (by decide)
  have f1 := f0.push (a := 0) (by decide) (by decide) (fill_length ha)
  have f2 := f1.settled
  have f3 := f2.push (a := 0) (by decide) (by decide) (fill_length hb)
  have e0 : new 1 = Up 1 (new 1).lasts [] := rfl
  unfold sector_Disk_Write.f
  rw [show new (1 : Int) = Up 1 (new ((1 : Nat) : Int)).lasts [] from rfl, if_pos (by show 0 < 1000000; decide), write_up f0 (by decide) (by decide) ha, Option.bind_some]
  dsimp only
  unfold sector_Disk_Flush.f
  rw [if_pos (by show 1 < 1000000; decide), Option.bind_some, flush_up]
  dsimp only
  rw [if_pos (by show 0 < 1000000; decide), write_up f2 (by decide) (by decide) hb, Option.bind_some]
  unfold sector_Disk_Crash.f
  dsimp only
  rw [if_pos (by show 1 < 1000000; decide), Option.bind_some, crash_of_up]
  have f4 := f3.crashed keep 0 (min (max (p : Int) 0) 64) 0
  obtain ⟨C, hC⟩ : ∃ C, C = crashed keep 0 (min (max (p : Int) 0) 64) 0 ([] ++ [((0 : Int), fill b)]) (Disk.settle ([] ++ [((0 : Int), fill a)]) (new ((1 : Nat) : Int)).lasts) := ⟨_, rfl⟩
  rw [← hC] at f4 ⊢
  unfold sector_Disk_Lasts.f
  rw [if_pos (Fit.there (s := Up 1 C []) f4 (by decide) (by decide)), Option.bind_some]
  unfold interregnumlaw02_answers.f
  rw [Option.bind_some, if_pos rfl]
  dsimp only
  rw [if_pos rfl]
  -- what there is in the sector
  have hs : sector (Disk.settle [((0 : Int), fill a)] (new ((1 : Nat) : Int)).lasts) 0 = fill a := sector_put (a := 0) (by rw [f0.lasts]; decide) (fill_length ha)
  have hl1 : (Disk.settle [((0 : Int), fill a)] (new ((1 : Nat) : Int)).lasts).length = 64 := f2.lasts
  have hall : Disk.settle [((0 : Int), fill a)] (new ((1 : Nat) : Int)).lasts = fill a := by
    have h := hs
    unfold sector at h
    rw [show (0 : Int).toNat * 64 = 0 from rfl, List.drop_zero, List.take_of_length_le (by omega)] at h
    exact h
  have hc : sector (Up 1 C []).lasts 0 = (fill b).take p ++ (fill a).drop p := by
    rw [hC]
    show sector (crashOne keep 0 (min (max (p : Int) 0) 64) 0 ((0 : Int), fill b) (Disk.settle [((0 : Int), fill a)] (new ((1 : Nat) : Int)).lasts)) 0 = _
    rw [hall]
    unfold crashOne
    rw [if_pos (show ((0 : Nat) : Int) = 0 from rfl), show (min (max (p : Int) 0) 64).toNat = p by omega]
    have hbl := fill_length hb
    have hal := fill_length ha
    unfold put sector
    rw [show (0 : Int).toNat * 64 = 0 from rfl, List.take_zero, List.nil_append, Nat.zero_add, List.drop_zero, List.length_take, hbl, Nat.min_eq_left hp64]
    exact List.take_of_length_le (by rw [List.length_append, List.length_take, List.length_drop]; omega)
  have hbl := fill_length hb
  have hal := fill_length ha
  have htl : ((fill b).take p).length = p := by rw [List.length_take]; omega
  rw [hc]
  have hlen : ((fill b).take p ++ (fill a).drop p).length = 64 := by rw [List.length_append, htl, List.length_drop]; omega
  rw [hlen, if_pos (by decide), if_pos (by omega), if_pos (by omega)]
  unfold interregnumref01_Fill.f
  rw [Option.bind_some, fill_take b hb, hbl, if_pos (by omega), Int.toNat_natCast, List.take_append_of_le_length (by omega), List.take_take, Nat.min_self, Same _ _ (by rw [htl]; omega) (by rw [htl]; omega), Option.bind_some, if_pos rfl, Option.bind_some, fill_take a ha, hal, if_pos (by omega),
    List.drop_append_of_le_length (by omega), List.drop_of_length_le (by omega), List.nil_append, Same _ _ (by rw [List.length_drop]; omega) (by rw [List.length_drop]; omega), Option.bind_some]
end Go.Proofs.Ytjaibpphlbddoaa.Pure
