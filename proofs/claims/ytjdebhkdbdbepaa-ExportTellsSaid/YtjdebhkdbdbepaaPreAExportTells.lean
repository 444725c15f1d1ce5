/- What the printed functions of prefixes compute (mask, Make, right; the reference's Bit, Make, Right); for the statement ExportTells. -/
import Derived.Test.YtjdebhkdbdbepaaPExportTellsx
import Derived.Test.YtjdebhkdbdbepaaPre
namespace Go.Proofs.Ytjdebhkdbdbepaa.PreExportTells
open Go.RowKit Go.Proofs.Ytjdebhkdbdbepaa.PExportTells Go.Proofs.YtjdebhkdbdbepaaW.PrintWords Go.Proofs.YtjdebhkdbdbepaaW.PrintLast Go.Proofs.YtjdebhkdbdbepaaW.PrintMore Go.Proofs.Ytjdebhkdbdbepaa.Pre

theorem mask (n : Int) (h0 : 0 ≤ n) (h : n ≤ 32) : prefix_mask.f n = some (4294967296 - D n) := by
  unfold prefix_mask.f
  rw [if_pos h0, mask_eq n h0 h]
theorem right (a n : Int) (ha : U32 a) : prefix_right.f a n = some (decide (Ok a n)) := by
  unfold prefix_right.f Ok
  split
  · split
    · rw [mask n (by omega) (by omega)]
      simp only [Option.bind_some]
      rw [andNot_mask a n ha (by omega) (by omega)]
      have h1 : 0 ≤ n := by omega
      have h2 : n ≤ 32 := by omega
      simp [h1, h2]
      rfl
    · have h2 : ¬ n ≤ 32 := by omega
      simp [h2]
  · have h2 : ¬ 0 ≤ n := by omega
    simp [h2]
theorem Covers (a n b m : Int) (ha : U32 a) (hb : U32 b) : prefix_Covers.f a n b m = some (decide (Ok a n ∧ Ok b m ∧ n ≤ m ∧ top b n = a)) := by
  unfold prefix_Covers.f
  rw [right a n ha]
  simp only [Option.bind_some, decide_eq_true_eq]
  split
  · rename_i h1
    rw [right b m hb]
    simp only [Option.bind_some, decide_eq_true_eq]
    split
    · rename_i h2
      split
      · rename_i h3
        rw [mask n h1.1 h1.2.1]
        simp only [Option.bind_some]
        rw [and_mask b n hb h1.1 h1.2.1]
        congr 1
        rw [Bool.eq_iff_iff]
        simp [h1, h2, h3]
      · rename_i h3
        simp [h3]
    · rename_i h2
      simp [h2]
  · rename_i h1
    simp [h1]
end Go.Proofs.Ytjdebhkdbdbepaa.PreExportTells
