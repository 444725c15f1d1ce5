/- What was flushed lasts, whatever comes behind it; the plain part of the proof. Conditions: none. -/
import Derived.Test.YtjaibpphlbddoaaDiskLaws
import Derived.Test.YtjaibpphlbddoaaPSectorFlushx3
namespace Go.Proofs.Ytjaibpphlbddoaa.Pure
open Go.RowKit Go.Proofs.Ytjaibpphlbddoaa.PSectorFlush Go.Proofs.YtjaibpphlbddoaaW.PrintWords Go.Proofs.YtjaibpphlbddoaaW.PrintLast Go.Proofs.Ytjaibpphlbddoaa.Disk
set_option linter.unusedVariables false
set_option linter.unusedSimpArgs false
namespace SectorFlush_
theorem w64 (i : Int) (h0 : -4611686018427387904 ≤ i) (h : i < 4611686018427387904) : wrap64 i = i := by unfold wrap64; omega
theorem Same_l0 (l : List Int) (hl : l.length < 4611686018427387904) (d : Nat) : ∀ (k i : Nat), i + d = l.length → interregnumref01_Same.l0 (k + d + 1) l l (i : Int) = some true := by
  induction d with
  | zero =>
    intro k i hi
    conv => lhs; unfold interregnumref01_Same.l0
    rw [if_neg (by omega)]
  | succ d ih =>
    intro k i hi
    rw [show k + (d + 1) + 1 = (k + d + 1) + 1 by omega]
    conv => lhs; unfold interregnumref01_Same.l0
    rw [if_pos (by omega), if_pos (by omega), if_pos (by omega), if_pos rfl, w64 _ (by omega) (by omega), show (i : Int) + 1 = ((i + 1 : Nat) : Int) by omega]
    exact ih k (i + 1) (by omega)
theorem Same (l : List Int) (k : Nat) (hk : l.length < k) (hl : l.length < 4611686018427387904) : interregnumref01_Same.f k l l = some true := by
  unfold interregnumref01_Same.f
  rw [if_pos rfl]
  have := Same_l0 l hl l.length (k - (l.length + 1)) 0 (by omega)
  rw [show k - (l.length + 1) + l.length + 1 = k by omega] at this
  exact this
end SectorFlush_
open SectorFlush_ in
theorem SectorFlush : interregnumlaw02_SectorFlush.Pure := by
  intro a b keep torn at_ _ _ _ _ _ _ _ _ _
  obtain ⟨n, hn⟩ : ∃ n : Nat, n = 100 := ⟨_, rfl⟩
  refine ⟨n + 1, ?_⟩
  unfold interregnumlaw02_SectorFlush.f
  by_cases h1 : (a.length : Int) > 64
  · rw [if_pos h1]
    unfold interregnumlaw02_SectorFlush.j0
    dsimp only
    rw [if_pos rfl]
    rfl
  rw [if_neg h1]
  unfold interregnumlaw02_SectorFlush.j0
  dsimp only
  by_cases h2 : (b.length : Int) > 64
  · rw [if_pos (by rw [decide_eq_true h2])]
    rfl
  rw [if_neg (by rw [decide_eq_false h2]; decide)]
  have ha : a.length ≤ 64 := by omega
  have hb : b.length ≤ 64 := by omega
  have hal := fill_length ha
  have hbl := fill_length hb
  unfold sector_New.f
  rw [Option.bind_some]
  have f0 : Fit 4 (new ((4 : Nat) : Int)).lasts [] := fit_new (n := 4) (by decide)
  obtain ⟨L, hL⟩ : ∃ L, L = (new ((4 : Nat) : Int)).lasts := ⟨_, rfl⟩
  have f1 := f0.push (a := 0) (by decide) (by decide) hal
  have f2 := f1.push (a := 2) (by decide) (by decide) hal
  have f3 := f2.settled
  have f4 := f3.push (a := 2) (by decide) (by decide) hbl
  have f5 := f4.push (a := 3) (by decide) (by decide) hbl
  unfold sector_Disk_Write.f
  rw [show new (4 : Int) = Up 4 (new ((4 : Nat) : Int)).lasts [] from rfl, if_pos (by show 0 < 1000000; decide), write_up f0 (by decide) (by decide) ha, Option.bind_some]
  dsimp only
  rw [if_pos (by show 1 < 1000000; decide), write_up f1 (by decide) (by decide) ha, Option.bind_some]
  dsimp only
  unfold sector_Disk_Flush.f
  rw [if_pos (by show 2 < 1000000; decide), Option.bind_some, flush_up]
  dsimp only
  rw [if_pos (by show 0 < 1000000; decide), write_up f3 (by decide) (by decide) hb, Option.bind_some]
  dsimp only
  rw [if_pos (by show 1 < 1000000; decide), write_up f4 (by decide) (by decide) hb, Option.bind_some]
  dsimp only
  unfold sector_Disk_Crash.f
  rw [if_pos (by show 2 < 1000000; decide), Option.bind_some, crash_of_up]
  have f6 := f5.crashed keep torn (min (max at_ 0) 64) 0
  obtain ⟨M, hM⟩ : ∃ M, M = Disk.settle ([] ++ [((0 : Int), fill a)] ++ [((2 : Int), fill a)]) (new ((4 : Nat) : Int)).lasts := ⟨_, rfl⟩
  rw [← hM] at f6 ⊢
  obtain ⟨C, hC⟩ : ∃ C, C = crashed keep torn (min (max at_ 0) 64) 0 ([] ++ [((2 : Int), fill b)] ++ [((3 : Int), fill b)]) M := ⟨_, rfl⟩
  rw [← hC] at f6 ⊢
  unfold sector_Disk_Read.f
  rw [if_pos (by show 0 < 1000000; decide), if_pos (Fit.there (s := Up 4 C []) f6 (by decide) (by decide)), Option.bind_some]
  dsimp only
  rw [if_pos (by show 0 < 1000000; decide), if_pos (Fit.there (s := Up 4 C []) f6 (by decide) (by decide)), Option.bind_some]
  unfold interregnumlaw02_answers.f
  rw [Option.bind_some, if_pos rfl]
  dsimp only
  rw [if_pos rfl, if_pos rfl]
  -- what there is in the sectors
  have hMl : M.length = 256 := by rw [hM]; exact f3.lasts
  have hM0 : sector M 0 = fill a := by
    rw [hM]
    show sector (put (put (new ((4 : Nat) : Int)).lasts ((0 : Int).toNat * 64) (fill a)) ((2 : Int).toNat * 64) (fill a)) 0 = _
    have hl0 := Disk.put_length (l := (new ((4 : Nat) : Int)).lasts) (b := fill a) (off := (0 : Int).toNat * 64) (by rw [f0.lasts, hal]; decide)
    rw [sector_far (c := 2) (off := (2 : Int).toNat * 64) rfl (by rw [hl0, f0.lasts, hal]; decide) (by omega) (by decide), sector_put (by rw [f0.lasts]; decide) hal]
  have hM1 : sector M 1 = List.replicate 64 0 := by
    rw [hM]
    show sector (put (put (new ((4 : Nat) : Int)).lasts ((0 : Int).toNat * 64) (fill a)) ((2 : Int).toNat * 64) (fill a)) 1 = _
    have hl0 := Disk.put_length (l := (new ((4 : Nat) : Int)).lasts) (b := fill a) (off := (0 : Int).toNat * 64) (by rw [f0.lasts, hal]; decide)
    rw [sector_far (c := 2) (off := (2 : Int).toNat * 64) rfl (by rw [hl0, f0.lasts, hal]; decide) (by omega) (by decide), sector_far (c := 0) (off := (0 : Int).toNat * 64) rfl (by rw [f0.lasts, hal]; decide) (by omega) (by decide), sector_new 4 (by decide) 1 (by decide)]
  have hr : ∀ x : Int, (x = 0 ∨ x = 1) → read (Up 4 C []) x = sector M x := by
    intro x hx
    unfold Disk.read
    show (none : Option (List Int)).getD (sector C x) = _
    rw [Option.getD_none, hC]
    refine crashed_far (fun p hp => ?_) (fun p hp => ?_)
    · rw [hMl]
      have hp2 : p = ((2 : Int), fill b) ∨ p = ((3 : Int), fill b) := by simpa using hp
      rcases hp2 with rfl | rfl
      · exact ⟨by show 2 * 64 + 64 ≤ 256; decide, hbl⟩
      · exact ⟨by show 3 * 64 + 64 ≤ 256; decide, hbl⟩
    · have hp2 : p = ((2 : Int), fill b) ∨ p = ((3 : Int), fill b) := by simpa using hp
      rcases hp2 with rfl | rfl <;> rcases hx with rfl | rfl <;> (dsimp only; decide)
  have hz : ([] : List Int).take 64 ++ List.replicate (64 - ([] : List Int).length) 0 = List.replicate 64 0 := rfl
  unfold interregnumref01_Fill.f
  rw [Option.bind_some, fill_take a ha, hr 0 (.inl rfl), hM0, Same _ _ (by omega) (by omega), Option.bind_some, if_pos rfl, Option.bind_some, hz, hr 1 (.inr rfl), hM1, Same _ _ (by simp; omega) (by simp), Option.bind_some, if_pos rfl]
  rfl
end Go.Proofs.Ytjaibpphlbddoaa.Pure
