-- Lean text by a program of this repo (wip/tools/printx.py), out of Lean's own print of the translation
import Derived.Test.YtpojfebecmjloaaHelp
import Derived.Test.YtpojfebecmjloaaPWalFullx0
namespace Go.Proofs.Ytpojfebecmjloaa.PWalFull
open Go.RowKit Go.Proofs.YtpojfebecmjloaaW.PrintWords Go.Proofs.YtpojfebecmjloaaW.PrintLast Go.Proofs.YtpojfebecmjloaaW.PrintMore
attribute [local go_sem] max2_int min2_int max_two min_two max_three min_three max_four min_four   -- for this text's walks alone
set_option linter.unusedVariables false
set_option linter.unusedSimpArgs false

/-! ### region_Get: function 67 -/
-- FN rounds=0 making=0
-- IMPORT Derived.Test.YtpojfebecmjloaaHelp
open Go.Proofs.Ytpojfebecmjloaa.Help
def getS : List Int → Int → Int
  | [], v => v
  | b :: l, v => getS l (Go.bits .or .u32 ((v * 256) % 4294967296) (b % 4294967296))
def region_Get.f (l0 : List Int) : Option Int := some (getS (l0.take 4) 0)
set_option maxHeartbeats 2000000 in
set_option maxRecDepth 100000 in
theorem region_Get.calls (A0 : Option Addr) (c0 : Nat) (l0 : List Int) (r : Int) (w : World) (hr0 : Kd.C (Kd.int .u8) w A0 l0.length l0) (hc0 : l0.length ≤ c0) (h : region_Get.f l0 = some r) :
    Calls Try.prog 67 #[.slice A0 l0.length c0] w fun e w' => e = .returned (.int .u32 r) ∧ Drawn0 w w' := by
  obtain ⟨i0, hi0, _⟩ := info_parts info5
  have HM := Aside0.mk (Kd.C_max hr0)
  have HR := Aside0.mk hr0
  have HG := Aside0.mk (show getS (l0.take 4) 0 = r from Option.some.inj h)
  clear hr0 h
  obtain ⟨m, hm, hm4, hml, hmt, hcut⟩ : ∃ m : Nat, (m : Int) = (if 4 < (l0.length : Int) then 4 else (l0.length : Int)) ∧ m ≤ 4 ∧ m ≤ l0.length ∧ l0.take 4 = l0.take m ∧
      ∀ W : World, (Instr.slice 22 (.slice A0 l0.length c0) none (some (.int .i64 (m : Int))) none).run Try.prog W = .ok (.slice A0 m c0) W := by
    by_cases h4 : 4 < (l0.length : Int)
    · refine ⟨4, by rw [if_pos h4]; rfl, by omega, by omega, rfl, ?_⟩
      have := cut_to 22 5 .i64 (P := Try.prog) Try.underlying22 hi0 A0 l0.length c0 (4 : Int) (by omega) (by omega) hc0
      exact this
    · refine ⟨l0.length, by rw [if_neg h4], by omega, by omega, ?_, ?_⟩
      · rw [List.take_of_length_le (by omega), List.take_of_length_le (by omega)]
      · have := cut_to 22 5 .i64 (P := Try.prog) Try.underlying22 hi0 A0 l0.length c0 (l0.length : Int) (by omega) (by omega) hc0
        rw [Int.toNat_natCast] at this
        exact this
  have HC := Aside0.mk hc0
  have HM4 := Aside0.mk hm4
  have HML := Aside0.mk hml
  rw [hmt] at HG
  have HLEN := Aside0.mk (show (l0.take m).length = m by rw [List.length_take]; omega)
  have hmin : (if 4 < (l0.length : Int) then (4 : Int) else (l0.length : Int)) = (m : Int) := hm.symm
  clear hc0 hm4 hml hmt hm
  go_enter Try.func67, Try.ntmps67
  go_wp2_with fail
  go_loopg [3, 12] (m + 1) (fun kq v3 v12 wr => ∃ (v x : Int), v3 = .int .u32 v ∧ v12 = .int .i64 x ∧ Aside0 (0 ≤ x ∧ x + kq = m + 1 ∧ getS ((l0.take m).drop x.toNat) v = r) ∧ Drawn0 w wr)
  case atStart => exact ⟨0, 0, rfl, rfl, ⟨by simp, by simp, HG.out⟩, Drawn0.refl _⟩
  case round =>
    clear HG
    obtain ⟨v, x, rfl, rfl, HF, ⟨nd, rfl⟩⟩ := hrel
    by_cases hlt : x < (m : Int)
    · have q1 := hlt
      have p1 := HF.out.1
      have c4b0 : decide (x < (m : Int)) = true := decide_eq_true hlt
      have HL := Aside0.mk hlt
      have ql : x < (l0.length : Int) := by have := HML.out; omega
      obtain ⟨ad, e, h0⟩ := Kd.at_int (Kd.C_drewN HR.out nd) x p1 ql
      cases e
      have HD := Aside0.mk (show (l0.take m).drop x.toNat = rd l0 x :: (l0.take m).drop (x + 1).toNat by
        rw [drop_rd _ x p1 (by rw [HLEN.out]; exact q1), rd_take l0 m x p1 q1])
      have HF2 := Aside0.mk (show getS ((l0.take m).drop (x + 1).toNat) (Go.bits .or .u32 ((v * 256) % 4294967296) ((rd l0 x) % 4294967296)) = r by
        rw [← HF.out.2.2, HD.out]; rfl)
      clear hlt ql hcut hmin
      replace p1 := eq_true p1
      replace q1 := eq_true q1
      cases gk with
      | zero => exact absurd HF.out.2.1 (by have := HL.out; omega)
      | succ k1 =>
        go_wp2
        go_roundg k1
        case measure => omega
        case rel =>
          refine ⟨_, x + 1, rfl, (by have hw : wrap64 (x + 1) = x + 1 := (by have := HM4.out; have := HL.out; have := HF.out.1; unfold wrap64; omega); first | rfl | (simp [hw]; done)), ⟨by have := HF.out.1; omega, by have := HF.out.2.1; omega, HF2.out⟩, ⟨nd, rfl⟩⟩
    · have c4b0 : decide (x < (m : Int)) = false := decide_eq_false hlt
      have HE := Aside0.mk (show v = r by
        rw [← HF.out.2.2, List.drop_of_length_le (by rw [HLEN.out]; omega)]; rfl)
      clear hlt hcut hmin
      go_wp2
      go_ret
      exact ⟨by rw [← HE.out]; rfl, ⟨nd, rfl⟩⟩


end Go.Proofs.Ytpojfebecmjloaa.PWalFull
