/- What the printed functions of prefixes compute (mask, Make, right; the reference's Bit, Make, Right); for the statement TriePlays. -/
import Derived.Test.YteheclbneoodeaaPTriePlaysx
import Derived.Test.YteheclbneoodeaaPre
namespace Go.Proofs.Yteheclbneoodeaa.PreTriePlays
open Go.RowKit Go.Proofs.Yteheclbneoodeaa.PTriePlays Go.Proofs.YteheclbneoodeaaW.PrintWords Go.Proofs.YteheclbneoodeaaW.PrintLast Go.Proofs.YteheclbneoodeaaW.PrintMore Go.Proofs.Yteheclbneoodeaa.Pre

theorem mask (n : Int) (h0 : 0 ≤ n) (h : n ≤ 32) : prefix_mask.f n = some (4294967296 - D n) := by
  unfold prefix_mask.f
  rw [if_pos h0, mask_eq n h0 h]
theorem Make (a n : Int) (ha : U32 a) : prefix_Make.f a n = some (if 0 ≤ n ∧ n ≤ 32 then (top a n, n, true) else (0, 0, false)) := by
  unfold prefix_Make.f
  split
  · rw [if_neg (by omega)]
  · split
    · rw [if_neg (by omega)]
    · rw [mask n (by omega) (by omega), if_pos (by omega)]
      simp only [Option.bind_some]
      rw [and_mask a n ha (by omega) (by omega)]
theorem right (a n : Int) (ha : U32 a) : prefix_right.f a n = some (decide (Ok a n)) := by
  unfold prefix_right.f Ok
  split
  · split
    · rw [mask n (by omega) (by omega)]
      simp only [Option.bind_some]
      rw [andNot_mask a n ha (by omega) (by omega)]
      have h1 : 0 ≤ n := by omega
      have h2 : n ≤ 32 := by omega
      simp [h1, h2]
      rfl
    · have h2 : ¬ n ≤ 32 := by omega
      simp [h2]
  · have h2 : ¬ 0 ≤ n := by omega
    simp [h2]
end Go.Proofs.Yteheclbneoodeaa.PreTriePlays
