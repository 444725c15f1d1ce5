/- Prefixes that are not told any more come first, a hundred in one; the plain part of the proof. Conditions: none. -/
import Derived.Test.YtjdebhkdbdbepaaPExportGonex10
namespace Go.Proofs.Ytjdebhkdbdbepaa.Pure
open Go.RowKit Go.Proofs.Ytjdebhkdbdbepaa.PExportGone Go.Proofs.YtjdebhkdbdbepaaW.PrintWords Go.Proofs.YtjdebhkdbdbepaaW.PrintLast
namespace ExportGone_
theorem wf_u16 {x : Int} (h : (Lit.int .u16 x).wf = true) : 0 ≤ x ∧ x < 65536 := by
  simp [Lit.wf, IntKind.min, IntKind.max, IntKind.signed, IntKind.bits] at h
  omega
theorem wn (n : Nat) (h : n < 4000000) : wrap64 (n : Int) = (n : Int) := by unfold wrap64; omega
/-- The address of the i-th prefix. -/
def ad (i : Nat) : Int := ((i : Int) % 4294967296 * 256) % 4294967296
/-- The i-th thing that was told. -/
def it (i : Nat) : S54 := ⟨⟨ad i, 24⟩, ⟨0, [], 0, 0, 0, [], []⟩⟩
def its (n : Nat) : List S54 := (List.range n).map it
theorem its_len (n : Nat) : (its n).length = n := by unfold its; rw [List.length_map, List.length_range]
theorem its_succ (n : Nat) : its n ++ [it n] = its (n + 1) := by unfold its; rw [List.range_succ, List.map_append]; rfl
theorem gone_all (l : List S54) : goneV [] l = l.map fun x => x.f0 := by
  unfold goneV
  rw [List.filter_eq_self.2 (fun x _ => ?_)]
  unfold findV bsHit
  simp
theorem goneN (n : Nat) : goneV [] (its n) = (List.range n).map fun i => (⟨ad i, 24⟩ : S29) := by
  rw [gone_all]
  unfold its
  rw [List.map_map]
  rfl
theorem goneN_len (n : Nat) : (goneV [] (its n)).length = n := by rw [goneN, List.length_map, List.length_range]
/-- All parts of them. -/
def ps (n : Nat) : List S57 := partsV (goneV [] (its n)) (List.finRange _)
theorem ps_len (n : Nat) : (ps n).length = (n + 99) / 100 := by
  unfold ps
  rw [partsV_len, List.length_finRange, goneN_len]
  rfl
theorem ps_at (n j : Nat) (h : j < (n + 99) / 100) : rd_T57 (ps n) (j : Int) = ⟨partV (goneV [] (its n)) j, z34, []⟩ := by
  have hj : j < partsN (goneV [] (its n)).length := by rw [goneN_len]; exact h
  unfold rd_T57 ps partsV
  rw [List.getD_eq_getElem?_getD, Int.toNat_natCast, List.getElem?_map, List.getElem?_eq_getElem (by rw [List.length_finRange]; exact hj), List.getElem_finRange]
  rfl
theorem part_len (n j : Nat) : (partV (goneV [] (its n)) j).length = min 100 (n - 100 * j) := by rw [partV_len, goneN_len]
theorem part_at (n j i : Nat) (h : i < min 100 (n - 100 * j)) : (rd_T29 (partV (goneV [] (its n)) j) (i : Int)).f0 = ad (100 * j + i) := by
  unfold rd_T29 partV
  rw [List.getD_eq_getElem?_getD, Int.toNat_natCast, List.getElem?_drop, List.getElem?_take, if_pos (by rw [goneN_len]; omega), goneN, List.getElem?_map, List.getElem?_range (by omega)]
  rfl
theorem inner (n j : Nat) (hn : n < 450) (hj : j < (n + 99) / 100) (k : Nat) (d : Nat) : ∀ i, i + d = min 100 (n - 100 * j) →
    interregnumlaw16_ExportGone.l2 (k + d + 1) (n : Int) (ps n) ((100 * j + i : Nat) : Int) (j : Int) (i : Int) = interregnumlaw16_ExportGone.l1 k (n : Int) (ps n) ((min (100 * (j + 1)) n : Nat) : Int) ((j + 1 : Nat) : Int) := by
  induction d with
  | zero =>
    intro i hi
    conv => lhs; unfold interregnumlaw16_ExportGone.l2
    rw [if_pos (by omega), if_pos (by rw [ps_len]; omega), ps_at n j hj, if_neg (by rw [part_len]; omega), show (j : Int) + 1 = ((j + 1 : Nat) : Int) by omega, wn _ (by omega), show 100 * j + i = min (100 * (j + 1)) n by omega]
  | succ d ih =>
    intro i hi
    have e := ih (i + 1) (by omega)
    rw [show k + (d + 1) + 1 = (k + d + 1) + 1 by omega]
    conv => lhs; unfold interregnumlaw16_ExportGone.l2
    rw [if_pos (by omega), if_pos (by rw [ps_len]; omega), ps_at n j hj, if_pos (by rw [part_len]; omega), if_pos (by omega), if_pos (by rw [part_at n j i (by omega)]; rfl), show (i : Int) + 1 = ((i + 1 : Nat) : Int) by omega, wn _ (by omega), show ((100 * j + i : Nat) : Int) + 1 = ((100 * j + (i + 1) : Nat) : Int) by omega, wn _ (by omega)]
    exact e
theorem outer (n : Nat) (hn : n < 450) (d : Nat) : ∀ j, j + d = (n + 99) / 100 →
    ∃ k, interregnumlaw16_ExportGone.l1 k (n : Int) (ps n) ((min (100 * j) n : Nat) : Int) (j : Int) = some true := by
  induction d with
  | zero =>
    intro j hj
    refine ⟨1, ?_⟩
    unfold interregnumlaw16_ExportGone.l1
    rw [if_neg (by rw [ps_len]; omega)]
    show (some true).bind _ = _
    rw [Option.bind_some, if_pos rfl, if_pos (by omega), ps_len]
    congr 1
    rw [show (n : Int) + 99 = ((n + 99 : Nat) : Int) by omega, wn _ (by omega), Int.tdiv_eq_ediv_of_nonneg (by omega), show ((n + 99 : Nat) : Int) / 100 = (((n + 99) / 100 : Nat) : Int) by omega, wn _ (by omega)]
    exact beq_self_eq_true _
  | succ d ih =>
    intro j hj
    obtain ⟨k, hk⟩ := ih (j + 1) (by omega)
    refine ⟨k + min 100 (n - 100 * j) + 3, ?_⟩
    have hin := inner n j hn (by omega) k (min 100 (n - 100 * j)) 0 (by omega)
    have hb : interregnumlaw16_ExportGone.j2 (k + min 100 (n - 100 * j) + 2) (n : Int) (ps n) ((min (100 * j) n : Nat) : Int) (j : Int) false = some true := by
      unfold interregnumlaw16_ExportGone.j2
      rw [if_neg (by decide), show min (100 * j) n = 100 * j + 0 by omega]
      exact hin.trans hk
    unfold interregnumlaw16_ExportGone.l1
    rw [if_pos (by rw [ps_len]; omega), if_pos (by omega), ps_at n j (by omega), if_neg (by simp), ps_len]
    dsimp only
    rw [part_len]
    split
    · rename_i h
      rw [show (((n + 99) / 100 : Nat) : Int) - 1 = (((n + 99) / 100 - 1 : Nat) : Int) by omega, wn _ (by omega)] at h
      rw [show min 100 (n - 100 * j) = 100 by omega] at hb ⊢
      exact hb
    · exact hb
theorem first (n : Nat) (hn : n < 450) (d : Nat) : ∀ i, i + d = n → ∃ k, interregnumlaw16_ExportGone.l0 k (n : Int) (its i) (i : Int) = some true := by
  induction d with
  | zero =>
    intro i hi
    obtain rfl : i = n := by omega
    obtain ⟨k, hk⟩ := outer i hn ((i + 99) / 100) 0 (by omega)
    refine ⟨k + 1, ?_⟩
    unfold interregnumlaw16_ExportGone.l0
    rw [if_neg (by omega)]
    have hd : export_Delta.f (its i) [] = some (ps i) := by
      unfold export_Delta.f
      rw [if_pos ⟨by rw [its_len]; omega, by simp, fun x hx => by cases hx⟩]
      unfold deltaV newV ps
      simp
    rw [hd, Option.bind_some]
    rw [show min (100 * 0) i = 0 by omega] at hk
    exact hk
  | succ d ih =>
    intro i hi
    obtain ⟨k, hk⟩ := ih (i + 1) (by omega)
    refine ⟨k + 1, ?_⟩
    unfold interregnumlaw16_ExportGone.l0
    rw [if_pos (by omega), if_pos (by rw [its_len]; omega), show (i : Int) + 1 = ((i + 1 : Nat) : Int) by omega, wn _ (by omega)]
    rw [← its_succ] at hk
    exact hk
end ExportGone_
open ExportGone_ in
theorem ExportGone : interregnumlaw16_ExportGone.Pure := by
  intro a0 h
  have hw := wf_u16 h
  obtain ⟨k, hk⟩ := first (a0.toNat % 450) (by omega) (a0.toNat % 450) 0 (by omega)
  refine ⟨k, ?_⟩
  unfold interregnumlaw16_ExportGone.f
  rw [Int.tmod_eq_emod_of_nonneg hw.1, show a0 % 450 = ((a0.toNat % 450 : Nat) : Int) by omega, wn _ (by omega)]
  exact hk
end Go.Proofs.Ytjdebhkdbdbepaa.Pure
