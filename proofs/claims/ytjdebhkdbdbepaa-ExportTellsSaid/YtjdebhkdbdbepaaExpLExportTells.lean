/- Plain facts of paths and attributes for the laws of export; for the statement ExportTells. -/
import Derived.Test.YtjdebhkdbdbepaaPExportTellsx
import Derived.Test.YtjdebhkdbdbepaaPre
namespace Go.Proofs.Ytjdebhkdbdbepaa.PathExportTells
open Go.RowKit Go.Proofs.Ytjdebhkdbdbepaa.PExportTells Go.Proofs.YtjdebhkdbdbepaaW.PrintWords Go.Proofs.YtjdebhkdbdbepaaW.PrintLast Go.Proofs.YtjdebhkdbdbepaaW.PrintMore Go.Proofs.Ytjdebhkdbdbepaa.Pre
set_option linter.unusedVariables false
abbrev Seg := S69
theorem rd_at (l : List Int) (i : Nat) (h : i < l.length) : rd l (i : Int) = l[i] := by
  unfold Go.Proofs.YtjdebhkdbdbepaaW.PrintWords.rd
  rw [List.getD_eq_getElem?_getD, Int.toNat_natCast, List.getElem?_eq_getElem h]
  rfl
theorem seg_at (l : List Seg) (i : Nat) (h : i < l.length) : rd_T69 l (i : Int) = l[i] := by
  unfold rd_T69
  rw [List.getD_eq_getElem?_getD, Int.toNat_natCast, List.getElem?_eq_getElem h]
  rfl
theorem wn (i : Nat) (h : i < 4611686018427387903) : wrap64 ((i : Int) + 1) = ((i + 1 : Nat) : Int) := by
  rw [w64 ((i : Int) + 1) (by omega) (by omega)]; omega
def tot : List Seg → Nat
  | [] => 0
  | s :: l => s.f1.length + tot l
theorem drop_seg (l : List Seg) (i : Nat) (h : i < l.length) : l.drop i = l[i] :: l.drop (i + 1) := List.drop_eq_getElem_cons h
theorem drop_int (l : List Int) (i : Nat) (h : i < l.length) : l.drop i = l[i] :: l.drop (i + 1) := List.drop_eq_getElem_cons h
theorem tot_drop (l : List Seg) (i : Nat) (h : i < l.length) : tot (l.drop i) = l[i].f1.length + tot (l.drop (i + 1)) := by rw [drop_seg l i h]; rfl
theorem tot_mem (l : List Seg) (s : Seg) (h : s ∈ l) : s.f1.length ≤ tot l := by
  induction l with
  | nil => cases h
  | cons x l ih =>
    rcases List.mem_cons.1 h with rfl | h
    · unfold tot; omega
    · have := ih h; unfold tot; omega
theorem SameP_l0 (l : List Seg) (hl : l.length < 4611686018427387904) (hy : ∀ y ∈ l, y.f1.length < 4611686018427387904) (d : Nat) : ∀ (i k : Nat), i + d = l.length → 3 * d + tot (l.drop i) < k → interregnumref05_SamePath.l0 k l l i = some true := by
  induction d with
  | zero =>
    intro i k hi hk
    obtain ⟨k, rfl⟩ : ∃ m, k = m + 1 := ⟨k - 1, by omega⟩
    conv => lhs; unfold interregnumref05_SamePath.l0
    rw [if_neg (by omega)]
  | succ d ih =>
    intro i k hi hk
    obtain ⟨k, rfl⟩ : ∃ m, k = m + 1 := ⟨k - 1, by omega⟩
    have hlt : i < l.length := by omega
    have hm := hy l[i] (List.getElem_mem hlt)
    rw [tot_drop l i hlt] at hk
    obtain ⟨k, rfl⟩ : ∃ m, k = m + 1 := ⟨k - 1, by omega⟩
    conv => lhs; unfold interregnumref05_SamePath.l0
    have inner : ∀ (e j k : Nat), j + e = l[i].f1.length → 3 * d + tot (l.drop (i + 1)) + e + 1 < k → interregnumref05_SamePath.l1 k l l i j = some true := by
      intro e
      induction e with
      | zero =>
        intro j k hj hk
        obtain ⟨k, rfl⟩ : ∃ m, k = m + 1 := ⟨k - 1, by omega⟩
        conv => lhs; unfold interregnumref05_SamePath.l1
        rw [if_pos (by omega), if_pos (by omega), seg_at l i hlt, if_neg (by omega), wn i (by omega)]
        exact ih (i + 1) k (by omega) (by omega)
      | succ e ihe =>
        intro j k hj hk
        obtain ⟨k, rfl⟩ : ∃ m, k = m + 1 := ⟨k - 1, by omega⟩
        conv => lhs; unfold interregnumref05_SamePath.l1
        rw [if_pos (by omega), if_pos (by omega), seg_at l i hlt, if_pos (by omega), if_pos (by omega), if_pos (by omega), if_pos (by omega), if_pos rfl, wn j (by omega)]
        exact ihe (j + 1) k (by omega) (by omega)
    have hin := inner l[i].f1.length 0 k (by omega) (by omega)
    rw [show ((0 : Nat) : Int) = 0 from rfl] at hin
    rw [if_pos (by omega), if_pos (by omega), if_pos (by omega), if_neg (by simp)]
    unfold interregnumref05_SamePath.j1
    rw [if_neg (by simp)]
    exact hin
theorem SameP (l : List Seg) (hl : l.length < 4611686018427387904) (ht : tot l < 4611686018427387904) (k : Nat) (hk : 3 * l.length + tot l < k) : interregnumref05_SamePath.f k l l = some true := by
  unfold interregnumref05_SamePath.f
  rw [if_pos rfl]
  exact SameP_l0 l hl (fun y h => by have := tot_mem l y h; omega) l.length 0 k (by omega) (by rw [List.drop_zero]; exact hk)
theorem clone_int (l : List Int) (h : l.length < 17592186044416) : slices_Clone_int_int.f l = some l := by
  unfold slices_Clone_int_int.f
  rw [if_pos h]
theorem tot_pre (l : List Seg) (a : Int) : tot (prependV l a) = tot l + 1 := by
  cases l with
  | nil => rfl
  | cons s r =>
    show tot (if s.f0 = true ∨ 255 ≤ s.f1.length then _ else _ : List Seg) = _
    split
    · show 1 + tot (s :: r) = _
      omega
    · unfold tot
      rw [List.length_cons]
      omega
abbrev RawS := S73
theorem raw_at (l : List RawS) (i : Nat) (h : i < l.length) : rd_T73 l (i : Int) = l[i] := by
  unfold rd_T73
  rw [List.getD_eq_getElem?_getD, Int.toNat_natCast, List.getElem?_eq_getElem h]
  rfl
theorem drop_raw (l : List RawS) (i : Nat) (h : i < l.length) : l.drop i = l[i] :: l.drop (i + 1) := List.drop_eq_getElem_cons h
def totR : List RawS → Nat
  | [] => 0
  | s :: l => s.f2.length + totR l
theorem totR_drop (l : List RawS) (i : Nat) (h : i < l.length) : totR (l.drop i) = l[i].f2.length + totR (l.drop (i + 1)) := by rw [drop_raw l i h]; rfl
theorem totR_mem (l : List RawS) (s : RawS) (h : s ∈ l) : s.f2.length ≤ totR l := by
  induction l with
  | nil => cases h
  | cons x l ih =>
    rcases List.mem_cons.1 h with rfl | h
    · unfold totR; omega
    · have := ih h; unfold totR; omega
theorem small16_l1 (l : List RawS) (q0 : Int) (q1 : List Seg) (q2 q3 q4 : Int) (q5 : List Int) (hl : l.length < 4611686018427387904) (hy : ∀ y ∈ l, y.f2.length < 281474976710656) (d : Nat) : ∀ (i k : Nat) (n : Int), i + d = l.length → d < k → 0 ≤ n → n < 4611686018427387904 →
    interregnumlaw16_small.l1 k n i q0 q1 q2 q3 q4 q5 l = some (decide (n + totR (l.drop i) < 3000)) := by
  induction d with
  | zero =>
    intro i k n hi hk h0 hn
    obtain ⟨k, rfl⟩ : ∃ m, k = m + 1 := ⟨k - 1, by omega⟩
    conv => lhs; unfold interregnumlaw16_small.l1
    rw [if_neg (by omega), List.drop_of_length_le (by omega)]
    simp [totR]
  | succ d ih =>
    intro i k n hi hk h0 hn
    obtain ⟨k, rfl⟩ : ∃ m, k = m + 1 := ⟨k - 1, by omega⟩
    have hlt : i < l.length := by omega
    conv => lhs; unfold interregnumlaw16_small.l1
    rw [if_pos (by omega), totR_drop l i hlt]
    have hm := hy l[i] (List.getElem_mem hlt)
    by_cases h3 : n < 3000
    · rw [if_pos h3, if_pos (by omega), raw_at l i hlt, w64 (n + _) (by omega) (by omega), wn i (by omega), ih (i + 1) k _ (by omega) (by omega) (by omega) (by omega)]
      congr 2
      simp only [eq_iff_iff]
      omega
    · rw [if_neg h3]
      congr 2
      simp only [eq_iff_iff]
      omega
theorem small16_l0 (m : List RawS) (l : List Seg) (q0 : Int) (q2 q3 q4 : Int) (q5 : List Int) (hm : m.length < 4611686018427387904) (hym : ∀ y ∈ m, y.f2.length < 281474976710656) (hl : l.length < 1152921504606846976) (hy : ∀ y ∈ l, y.f1.length < 70368744177664) (d : Nat) :
    ∀ (i k : Nat) (n : Int), i + d = l.length → d + m.length + 2 < k → 0 ≤ n → n < 2305843009213693952 + d →
    interregnumlaw16_small.l0 k n i q0 l q2 q3 q4 q5 m = some (decide (n + tot (l.drop i) + totR m < 3000)) := by
  have hend : ∀ (k : Nat) (n : Int), m.length + 1 < k → 0 ≤ n → n < 4611686018427387904 → interregnumlaw16_small.j1 k n q0 l q2 q3 q4 q5 m = some (decide (n + totR m < 3000)) := by
    intro k n hk h0 hn
    obtain ⟨k, rfl⟩ : ∃ m, k = m + 1 := ⟨k - 1, by omega⟩
    conv => lhs; unfold interregnumlaw16_small.j1
    have := small16_l1 m q0 l q2 q3 q4 q5 hm hym m.length 0 k n (by omega) (by omega) h0 hn
    rw [List.drop_zero] at this
    exact this
  induction d with
  | zero =>
    intro i k n hi hk h0 hn
    obtain ⟨k, rfl⟩ : ∃ m, k = m + 1 := ⟨k - 1, by omega⟩
    conv => lhs; unfold interregnumlaw16_small.l0
    rw [if_neg (by omega), List.drop_of_length_le (by omega), hend k n (by omega) h0 (by omega)]
    simp [tot]
  | succ d ih =>
    intro i k n hi hk h0 hn
    obtain ⟨k, rfl⟩ : ∃ m, k = m + 1 := ⟨k - 1, by omega⟩
    have hlt : i < l.length := by omega
    conv => lhs; unfold interregnumlaw16_small.l0
    rw [if_pos (by omega), tot_drop l i hlt]
    have hq := hy l[i] (List.getElem_mem hlt)
    by_cases h3 : n < 3000
    · rw [if_pos h3, if_pos (by omega), seg_at l i hlt, w64 (n + _) (by omega) (by omega), wn i (by omega), ih (i + 1) k _ (by omega) (by omega) (by omega) (by omega)]
      congr 2
      simp only [eq_iff_iff]
      omega
    · rw [if_neg h3, hend k n (by omega) h0 (by omega)]
      congr 2
      simp only [eq_iff_iff]
      omega
theorem Small16 (a3 : Int) (l4 : List Seg) (a5 a6 a7 : Int) (l8 : List Int) (l9 : List RawS) (h4 : l4.length * 32 ≤ 140737488351232) (hy4 : ∀ y ∈ l4, y.f1.length * 8 ≤ 140737488351232) (h8 : l8.length * 4 ≤ 140737488351232) (h9 : l9.length * 40 ≤ 140737488351232) (hy9 : ∀ y ∈ l9, y.f2.length * 1 ≤ 140737488351232)
    (k : Nat) (hk : l4.length + l9.length + 2 < k) : interregnumlaw16_small.f k a3 l4 a5 a6 a7 l8 l9 = some (decide (l4.length + l8.length + l9.length + tot l4 + totR l9 < 3000)) := by
  unfold interregnumlaw16_small.f
  rw [w64 ((l4.length : Int) + (l8.length : Int)) (by omega) (by omega), w64 ((l4.length : Int) + (l8.length : Int) + (l9.length : Int)) (by omega) (by omega)]
  have := small16_l0 l9 l4 a3 a5 a6 a7 l8 (by omega) (fun y h => by have := hy9 y h; omega) (by omega) (fun y h => by have := hy4 y h; omega) l4.length 0 k ((l4.length : Int) + l8.length + l9.length) (by omega) hk (by omega) (by omega)
  rw [show ((0 : Nat) : Int) = 0 from rfl, List.drop_zero] at this
  rw [this]
  congr 2
  simp only [eq_iff_iff]
  omega
theorem clone_u32 (l : List Int) (h : l.length < 35184372088832) : slices_Clone_uint32_uint32.f l = some l := by
  unfold slices_Clone_uint32_uint32.f
  rw [if_pos h]
theorem clone_bytes (l : List Int) (h : l.length < 140737488355328) : bytes_Clone.f l = some l := by
  unfold bytes_Clone.f
  rw [if_pos h]
end Go.Proofs.Ytjdebhkdbdbepaa.PathExportTells
