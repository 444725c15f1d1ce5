/- Just as many writes and flushes are done as a fuse allows; the plain part of the proof. Conditions: none. -/
import Derived.Test.YtjaibpphlbddoaaDiskLaws
import Derived.Test.YtjaibpphlbddoaaPSectorFusex2
namespace Go.Proofs.Ytjaibpphlbddoaa.Pure
open Go.RowKit Go.Proofs.Ytjaibpphlbddoaa.PSectorFuse Go.Proofs.YtjaibpphlbddoaaW.PrintWords Go.Proofs.YtjaibpphlbddoaaW.PrintLast Go.Proofs.Ytjaibpphlbddoaa.Disk
set_option linter.unusedVariables false
set_option linter.unusedSimpArgs false
namespace SectorFuse_
theorem w64 (i : Int) (h0 : -4611686018427387904 ≤ i) (h : i < 4611686018427387904) : wrap64 i = i := by unfold wrap64; omega
theorem wf_u8 {x : Int} (h : (Lit.int .u8 x).wf = true) : 0 ≤ x ∧ x < 256 := by
  simp [Lit.wf, IntKind.min, IntKind.max, IntKind.signed, IntKind.bits] at h
  omega
/-- How far the fuse has burnt behind i writes. -/
def Burnt (K i : Int) (s : DiskM) : Prop := (i ≤ K ∧ s.down = false ∧ s.fuse = K - i) ∨ (K < i ∧ s.down = true ∧ s.fuse = 0)
theorem burnt {K i : Int} {s : DiskM} (h : Burnt K i s) (hi : 0 ≤ i) (hK : K < 100) : Burnt K (i + 1) (burn s) ∧ (burn s).down = !decide (i < K) := by
  unfold Burnt burn at *
  dsimp only
  rcases h with ⟨h1, h2, h3⟩ | ⟨h1, h2, h3⟩
  · by_cases e : i = K
    · rw [h2, h3, decide_eq_true (by omega), if_neg (by omega), decide_eq_false (by omega)]
      exact ⟨.inr ⟨by omega, rfl, by omega⟩, rfl⟩
    · rw [h2, h3, decide_eq_false (by omega), if_pos (by omega), decide_eq_true (by omega), w64 _ (by omega) (by omega)]
      exact ⟨.inl ⟨by omega, rfl, by omega⟩, rfl⟩
  · rw [h2, h3, if_neg (by omega), show decide (i < K) = false from decide_eq_false (by omega)]
    exact ⟨.inr ⟨by omega, rfl, rfl⟩, rfl⟩
theorem rounds (K T : Int) (hK0 : 0 ≤ K) (hK : K < 20) (hT : T < 30) (d : Nat) : ∀ (i : Int) (s : DiskM), 0 ≤ i → i + d = T → Fit 40 s.lasts s.loose → s.loose.length ≤ i.toNat → Burnt K i s → interregnumlaw02_SectorFuse.l0 (d + 1) K T i s = some true := by
  induction d with
  | zero =>
    intro i s h0 hi hf hl hb
    obtain ⟨hb1, hb2⟩ := burnt hb h0 (by omega)
    unfold interregnumlaw02_SectorFuse.l0
    rw [if_neg (by omega)]
    unfold sector_Disk_Flush.f
    rw [if_pos (by omega), Option.bind_some]
    obtain ⟨s2, e, hfl, hf2, hl2⟩ : ∃ s2 e, flush s = (e, s2) ∧ Fit 40 s2.lasts s2.loose ∧ s2.loose.length < 1000000 ∧ (e == 0) = decide (i < K) := by
      unfold flush
      rw [hb2]
      by_cases hk : i < K
      · rw [decide_eq_true hk, if_neg (by simp)]
        exact ⟨_, _, rfl, hf.settled, by simp, rfl⟩
      · rw [decide_eq_false hk, if_pos (by simp)]
        exact ⟨_, _, rfl, hf, by show s.loose.length < 1000000; omega, rfl⟩
    rw [hfl]
    dsimp only
    unfold sector_Disk_Crash.f
    rw [if_pos hl2.1, Option.bind_some, crash_up 40]
    unfold interregnumlaw02_answers.f
    rw [Option.bind_some, if_pos rfl, hl2.2, show T = i by omega, if_pos (by simp)]
    unfold sector_Disk_Write.f
    rw [if_pos (by show 0 < 1000000; decide), write_up (hf2.crashed 0 (-1) _ 0) (by decide) (by decide) (by simp)]
    rfl
  | succ d ih =>
    intro i s h0 hi hf hl hb
    obtain ⟨hb1, hb2⟩ := burnt hb h0 (by omega)
    unfold interregnumlaw02_SectorFuse.l0
    rw [if_pos (by omega)]
    unfold sector_Disk_Write.f
    rw [if_pos (by omega), Option.bind_some, write_here hf h0 (by omega) (by simp), hb2, w64 (i + 1) (by omega) (by omega)]
    by_cases hk : i < K
    · rw [decide_eq_true hk, if_neg (show ¬ ((!true) = true) by decide)]
      dsimp only
      rw [if_neg (by decide), if_pos rfl]
      exact ih (i + 1) _ (by omega) (by omega) (hf.push h0 (by omega) (fill_length (by simp))) (by simp; omega) hb1
    · rw [decide_eq_false hk, if_pos (show (!false) = true by decide)]
      dsimp only
      rw [if_neg (by decide), if_neg (by decide), if_pos rfl]
      exact ih (i + 1) _ (by omega) (by omega) hf (by show s.loose.length ≤ _; omega) hb1
end SectorFuse_
open SectorFuse_ in
theorem SectorFuse : interregnumlaw02_SectorFuse.Pure := by
  intro a b ha hb
  have ha := wf_u8 ha
  have hb := wf_u8 hb
  obtain ⟨T, hT⟩ := Int.eq_ofNat_of_zero_le (show 0 ≤ b % 30 by omega)
  refine ⟨T + 1, ?_⟩
  unfold interregnumlaw02_SectorFuse.f sector_New.f
  rw [Option.bind_some]
  unfold sector_Disk_Fuse.f
  rw [Option.bind_some, Int.tmod_eq_emod_of_nonneg ha.1, Int.tmod_eq_emod_of_nonneg hb.1, w64 (a % 20) (by omega) (by omega), w64 (b % 30) (by omega) (by omega), hT]
  refine rounds _ _ (by omega) (by omega) (by omega) T 0 _ (by omega) (by omega) (fit_new (n := 40) (by decide)) (by simp [new]) (.inl ⟨by omega, rfl, ?_⟩)
  show mx (a % 20) 0 = _
  unfold mx
  split <;> omega
end Go.Proofs.Ytjaibpphlbddoaa.Pure
