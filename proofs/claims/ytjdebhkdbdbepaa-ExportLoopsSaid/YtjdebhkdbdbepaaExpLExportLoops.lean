/- Plain facts of paths and attributes for the laws of export; for the statement ExportLoops. -/
import Derived.Test.YtjdebhkdbdbepaaPExportLoopsx
import Derived.Test.YtjdebhkdbdbepaaPre
namespace Go.Proofs.Ytjdebhkdbdbepaa.PathExportLoops
open Go.RowKit Go.Proofs.Ytjdebhkdbdbepaa.PExportLoops Go.Proofs.YtjdebhkdbdbepaaW.PrintWords Go.Proofs.YtjdebhkdbdbepaaW.PrintLast Go.Proofs.YtjdebhkdbdbepaaW.PrintMore Go.Proofs.Ytjdebhkdbdbepaa.Pre
set_option linter.unusedVariables false
abbrev Seg := S69
theorem wf_i64 {x : Int} (h : (Lit.int .i64 x).wf = true) : -9223372036854775808 ≤ x ∧ x ≤ 9223372036854775807 := by
  simpa [Lit.wf, IntKind.min, IntKind.max, IntKind.signed, IntKind.bits] using h
theorem rd_at (l : List Int) (i : Nat) (h : i < l.length) : rd l (i : Int) = l[i] := by
  unfold Go.Proofs.YtjdebhkdbdbepaaW.PrintWords.rd
  rw [List.getD_eq_getElem?_getD, Int.toNat_natCast, List.getElem?_eq_getElem h]
  rfl
theorem seg_at (l : List Seg) (i : Nat) (h : i < l.length) : rd_T69 l (i : Int) = l[i] := by
  unfold rd_T69
  rw [List.getD_eq_getElem?_getD, Int.toNat_natCast, List.getElem?_eq_getElem h]
  rfl
theorem wn (i : Nat) (h : i < 4611686018427387903) : wrap64 ((i : Int) + 1) = ((i + 1 : Nat) : Int) := by
  rw [w64 ((i : Int) + 1) (by omega) (by omega)]; omega
def tot : List Seg → Nat
  | [] => 0
  | s :: l => s.f1.length + tot l
theorem drop_seg (l : List Seg) (i : Nat) (h : i < l.length) : l.drop i = l[i] :: l.drop (i + 1) := List.drop_eq_getElem_cons h
theorem drop_int (l : List Int) (i : Nat) (h : i < l.length) : l.drop i = l[i] :: l.drop (i + 1) := List.drop_eq_getElem_cons h
theorem tot_drop (l : List Seg) (i : Nat) (h : i < l.length) : tot (l.drop i) = l[i].f1.length + tot (l.drop (i + 1)) := by rw [drop_seg l i h]; rfl
theorem tot_mem (l : List Seg) (s : Seg) (h : s ∈ l) : s.f1.length ≤ tot l := by
  induction l with
  | nil => cases h
  | cons x l ih =>
    rcases List.mem_cons.1 h with rfl | h
    · unfold tot; omega
    · have := ih h; unfold tot; omega
theorem SameP_l0 (l : List Seg) (hl : l.length < 4611686018427387904) (hy : ∀ y ∈ l, y.f1.length < 4611686018427387904) (d : Nat) : ∀ (i k : Nat), i + d = l.length → 3 * d + tot (l.drop i) < k → interregnumref05_SamePath.l0 k l l i = some true := by
  induction d with
  | zero =>
    intro i k hi hk
    obtain ⟨k, rfl⟩ : ∃ m, k = m + 1 := ⟨k - 1, by omega⟩
    conv => lhs; unfold interregnumref05_SamePath.l0
    rw [if_neg (by omega)]
  | succ d ih =>
    intro i k hi hk
    obtain ⟨k, rfl⟩ : ∃ m, k = m + 1 := ⟨k - 1, by omega⟩
    have hlt : i < l.length := by omega
    have hm := hy l[i] (List.getElem_mem hlt)
    rw [tot_drop l i hlt] at hk
    obtain ⟨k, rfl⟩ : ∃ m, k = m + 1 := ⟨k - 1, by omega⟩
    conv => lhs; unfold interregnumref05_SamePath.l0
    have inner : ∀ (e j k : Nat), j + e = l[i].f1.length → 3 * d + tot (l.drop (i + 1)) + e + 1 < k → interregnumref05_SamePath.l1 k l l i j = some true := by
      intro e
      induction e with
      | zero =>
        intro j k hj hk
        obtain ⟨k, rfl⟩ : ∃ m, k = m + 1 := ⟨k - 1, by omega⟩
        conv => lhs; unfold interregnumref05_SamePath.l1
        rw [if_pos (by omega), if_pos (by omega), seg_at l i hlt, if_neg (by omega), wn i (by omega)]
        exact ih (i + 1) k (by omega) (by omega)
      | succ e ihe =>
        intro j k hj hk
        obtain ⟨k, rfl⟩ : ∃ m, k = m + 1 := ⟨k - 1, by omega⟩
        conv => lhs; unfold interregnumref05_SamePath.l1
        rw [if_pos (by omega), if_pos (by omega), seg_at l i hlt, if_pos (by omega), if_pos (by omega), if_pos (by omega), if_pos (by omega), if_pos rfl, wn j (by omega)]
        exact ihe (j + 1) k (by omega) (by omega)
    have hin := inner l[i].f1.length 0 k (by omega) (by omega)
    rw [show ((0 : Nat) : Int) = 0 from rfl] at hin
    rw [if_pos (by omega), if_pos (by omega), if_pos (by omega), if_neg (by simp)]
    unfold interregnumref05_SamePath.j1
    rw [if_neg (by simp)]
    exact hin
theorem SameP (l : List Seg) (hl : l.length < 4611686018427387904) (ht : tot l < 4611686018427387904) (k : Nat) (hk : 3 * l.length + tot l < k) : interregnumref05_SamePath.f k l l = some true := by
  unfold interregnumref05_SamePath.f
  rw [if_pos rfl]
  exact SameP_l0 l hl (fun y h => by have := tot_mem l y h; omega) l.length 0 k (by omega) (by rw [List.drop_zero]; exact hk)
theorem clone_int (l : List Int) (h : l.length < 17592186044416) : slices_Clone_int_int.f l = some l := by
  unfold slices_Clone_int_int.f
  rw [if_pos h]
def lenV : List Seg → Nat
  | [] => 0
  | s :: l => (if s.f0 = true then 1 else s.f1.length) + lenV l
theorem lenV_le : ∀ l : List Seg, lenV l ≤ l.length + tot l
  | [] => Nat.le_refl _
  | s :: l => by
    have := lenV_le l
    unfold lenV tot
    rw [List.length_cons]
    split <;> omega
theorem Len_l0 (l : List Seg) (hl : l.length < 4611686018427387903) (d : Nat) : ∀ (i k n : Nat), i + d = l.length → d < k → n + lenV (l.drop i) < 4611686018427387903 → interregnumref05_Length.l0 k l (n : Int) (i : Int) = some ((n + lenV (l.drop i) : Nat) : Int) := by
  induction d with
  | zero =>
    intro i k n hi hk hn
    obtain ⟨k, rfl⟩ : ∃ m, k = m + 1 := ⟨k - 1, by omega⟩
    conv => lhs; unfold interregnumref05_Length.l0
    rw [if_neg (by omega), List.drop_of_length_le (by omega)]
    rfl
  | succ d ih =>
    intro i k n hi hk hn
    obtain ⟨k, rfl⟩ : ∃ m, k = m + 1 := ⟨k - 1, by omega⟩
    have hlt : i < l.length := by omega
    conv => lhs; unfold interregnumref05_Length.l0
    rw [drop_seg l i hlt] at hn ⊢
    unfold lenV at hn ⊢
    rw [if_pos (by omega), if_pos (by omega), seg_at l i hlt, wn i (by omega)]
    by_cases hf : l[i].f0 = true
    · rw [if_pos hf] at hn
      rw [if_pos hf, if_pos hf, w64 ((n : Int) + 1) (by omega) (by omega), show (n : Int) + 1 = ((n + 1 : Nat) : Int) by omega, ih (i + 1) k (n + 1) (by omega) (by omega) (by omega)]
      congr 2
      omega
    · rw [if_neg hf] at hn
      rw [if_neg hf, if_neg hf, w64 ((n : Int) + (l[i].f1.length : Int)) (by omega) (by omega), show (n : Int) + (l[i].f1.length : Int) = ((n + l[i].f1.length : Nat) : Int) by omega, ih (i + 1) k (n + l[i].f1.length) (by omega) (by omega) (by omega)]
      congr 2
      omega
theorem LenV (l : List Seg) (hl : l.length + tot l < 4611686018427387903) (k : Nat) (hk : l.length < k) : interregnumref05_Length.f k l = some (lenV l : Int) := by
  unfold interregnumref05_Length.f
  have := lenV_le l
  have h := Len_l0 l (by omega) l.length 0 k 0 (by omega) hk (by rw [List.drop_zero]; omega)
  rw [List.drop_zero, Nat.zero_add] at h
  exact h
theorem lenV_pre (l : List Seg) (a : Int) : lenV (prependV l a) = lenV l + 1 := by
  cases l with
  | nil => rfl
  | cons s r =>
    show lenV (if s.f0 = true ∨ 255 ≤ s.f1.length then _ else _ : List Seg) = _
    split
    · show 1 + lenV (s :: r) = _
      omega
    · rename_i h
      have hf : ¬ s.f0 = true := fun e => h (Or.inl e)
      unfold lenV
      rw [if_neg hf, if_neg hf, List.length_cons]
      omega
theorem tot_pre (l : List Seg) (a : Int) : tot (prependV l a) = tot l + 1 := by
  cases l with
  | nil => rfl
  | cons s r =>
    show tot (if s.f0 = true ∨ 255 ≤ s.f1.length then _ else _ : List Seg) = _
    split
    · show 1 + tot (s :: r) = _
      omega
    · unfold tot
      rw [List.length_cons]
      omega
abbrev RawS := S73
theorem raw_at (l : List RawS) (i : Nat) (h : i < l.length) : rd_T73 l (i : Int) = l[i] := by
  unfold rd_T73
  rw [List.getD_eq_getElem?_getD, Int.toNat_natCast, List.getElem?_eq_getElem h]
  rfl
theorem drop_raw (l : List RawS) (i : Nat) (h : i < l.length) : l.drop i = l[i] :: l.drop (i + 1) := List.drop_eq_getElem_cons h
def totR : List RawS → Nat
  | [] => 0
  | s :: l => s.f2.length + totR l
theorem totR_drop (l : List RawS) (i : Nat) (h : i < l.length) : totR (l.drop i) = l[i].f2.length + totR (l.drop (i + 1)) := by rw [drop_raw l i h]; rfl
theorem totR_mem (l : List RawS) (s : RawS) (h : s ∈ l) : s.f2.length ≤ totR l := by
  induction l with
  | nil => cases h
  | cons x l ih =>
    rcases List.mem_cons.1 h with rfl | h
    · unfold totR; omega
    · have := ih h; unfold totR; omega
theorem small16_l1 (l : List RawS) (q0 : Int) (q1 : List Seg) (q2 q3 q4 : Int) (q5 : List Int) (hl : l.length < 4611686018427387904) (hy : ∀ y ∈ l, y.f2.length < 281474976710656) (d : Nat) : ∀ (i k : Nat) (n : Int), i + d = l.length → d < k → 0 ≤ n → n < 4611686018427387904 →
    interregnumlaw16_small.l1 k n i q0 q1 q2 q3 q4 q5 l = some (decide (n + totR (l.drop i) < 3000)) := by
  induction d with
  | zero =>
    intro i k n hi hk h0 hn
    obtain ⟨k, rfl⟩ : ∃ m, k = m + 1 := ⟨k - 1, by omega⟩
    conv => lhs; unfold interregnumlaw16_small.l1
    rw [if_neg (by omega), List.drop_of_length_le (by omega)]
    simp [totR]
  | succ d ih =>
    intro i k n hi hk h0 hn
    obtain ⟨k, rfl⟩ : ∃ m, k = m + 1 := ⟨k - 1, by omega⟩
    have hlt : i < l.length := by omega
    conv => lhs; unfold interregnumlaw16_small.l1
    rw [if_pos (by omega), totR_drop l i hlt]
    have hm := hy l[i] (List.getElem_mem hlt)
    by_cases h3 : n < 3000
    · rw [if_pos h3, if_pos (by omega), raw_at l i hlt, w64 (n + _) (by omega) (by omega), wn i (by omega), ih (i + 1) k _ (by omega) (by omega) (by omega) (by omega)]
      congr 2
      simp only [eq_iff_iff]
      omega
    · rw [if_neg h3]
      congr 2
      simp only [eq_iff_iff]
      omega
theorem small16_l0 (m : List RawS) (l : List Seg) (q0 : Int) (q2 q3 q4 : Int) (q5 : List Int) (hm : m.length < 4611686018427387904) (hym : ∀ y ∈ m, y.f2.length < 281474976710656) (hl : l.length < 1152921504606846976) (hy : ∀ y ∈ l, y.f1.length < 70368744177664) (d : Nat) :
    ∀ (i k : Nat) (n : Int), i + d = l.length → d + m.length + 2 < k → 0 ≤ n → n < 2305843009213693952 + d →
    interregnumlaw16_small.l0 k n i q0 l q2 q3 q4 q5 m = some (decide (n + tot (l.drop i) + totR m < 3000)) := by
  have hend : ∀ (k : Nat) (n : Int), m.length + 1 < k → 0 ≤ n → n < 4611686018427387904 → interregnumlaw16_small.j1 k n q0 l q2 q3 q4 q5 m = some (decide (n + totR m < 3000)) := by
    intro k n hk h0 hn
    obtain ⟨k, rfl⟩ : ∃ m, k = m + 1 := ⟨k - 1, by omega⟩
    conv => lhs; unfold interregnumlaw16_small.j1
    have := small16_l1 m q0 l q2 q3 q4 q5 hm hym m.length 0 k n (by omega) (by omega) h0 hn
    rw [List.drop_zero] at this
    exact this
  induction d with
  | zero =>
    intro i k n hi hk h0 hn
    obtain ⟨k, rfl⟩ : ∃ m, k = m + 1 := ⟨k - 1, by omega⟩
    conv => lhs; unfold interregnumlaw16_small.l0
    rw [if_neg (by omega), List.drop_of_length_le (by omega), hend k n (by omega) h0 (by omega)]
    simp [tot]
  | succ d ih =>
    intro i k n hi hk h0 hn
    obtain ⟨k, rfl⟩ : ∃ m, k = m + 1 := ⟨k - 1, by omega⟩
    have hlt : i < l.length := by omega
    conv => lhs; unfold interregnumlaw16_small.l0
    rw [if_pos (by omega), tot_drop l i hlt]
    have hq := hy l[i] (List.getElem_mem hlt)
    by_cases h3 : n < 3000
    · rw [if_pos h3, if_pos (by omega), seg_at l i hlt, w64 (n + _) (by omega) (by omega), wn i (by omega), ih (i + 1) k _ (by omega) (by omega) (by omega) (by omega)]
      congr 2
      simp only [eq_iff_iff]
      omega
    · rw [if_neg h3, hend k n (by omega) h0 (by omega)]
      congr 2
      simp only [eq_iff_iff]
      omega
theorem Small16 (a3 : Int) (l4 : List Seg) (a5 a6 a7 : Int) (l8 : List Int) (l9 : List RawS) (h4 : l4.length * 32 ≤ 140737488351232) (hy4 : ∀ y ∈ l4, y.f1.length * 8 ≤ 140737488351232) (h8 : l8.length * 4 ≤ 140737488351232) (h9 : l9.length * 40 ≤ 140737488351232) (hy9 : ∀ y ∈ l9, y.f2.length * 1 ≤ 140737488351232)
    (k : Nat) (hk : l4.length + l9.length + 2 < k) : interregnumlaw16_small.f k a3 l4 a5 a6 a7 l8 l9 = some (decide (l4.length + l8.length + l9.length + tot l4 + totR l9 < 3000)) := by
  unfold interregnumlaw16_small.f
  rw [w64 ((l4.length : Int) + (l8.length : Int)) (by omega) (by omega), w64 ((l4.length : Int) + (l8.length : Int) + (l9.length : Int)) (by omega) (by omega)]
  have := small16_l0 l9 l4 a3 a5 a6 a7 l8 (by omega) (fun y h => by have := hy9 y h; omega) (by omega) (fun y h => by have := hy4 y h; omega) l4.length 0 k ((l4.length : Int) + l8.length + l9.length) (by omega) hk (by omega) (by omega)
  rw [show ((0 : Nat) : Int) = 0 from rfl, List.drop_zero] at this
  rw [this]
  congr 2
  simp only [eq_iff_iff]
  omega
theorem clone_u32 (l : List Int) (h : l.length < 35184372088832) : slices_Clone_uint32_uint32.f l = some l := by
  unfold slices_Clone_uint32_uint32.f
  rw [if_pos h]
theorem clone_bytes (l : List Int) (h : l.length < 140737488355328) : bytes_Clone.f l = some l := by
  unfold bytes_Clone.f
  rw [if_pos h]
theorem fj_t (k : Nat) (l : List Seg) : interregnumref05_First.j0 (k + 1) l true = some (0, false) := rfl
theorem fj_f (k : Nat) (l : List Seg) : interregnumref05_First.j0 (k + 1) l false = if 0 < (l.length : Int) then (if 0 < (((rd_T69 l 0).f1).length : Int) then (some (rd ((rd_T69 l 0).f1) 0, true)) else (none)) else (none) := rfl
theorem first_some (l : List Seg) (k : Nat) (hk : 0 < k) : (interregnumref05_First.f k l).isSome = true := by
  obtain ⟨k, rfl⟩ : ∃ m, k = m + 1 := ⟨k - 1, by omega⟩
  unfold interregnumref05_First.f
  by_cases h0 : (l.length : Int) = 0
  · rw [if_pos h0, fj_t]; rfl
  · rw [if_neg h0, if_pos (by omega)]
    by_cases hf : (rd_T69 l 0).f0 = true
    · rw [if_pos hf, fj_t]; rfl
    · rw [if_neg hf]
      by_cases hn : ((rd_T69 l 0).f1.length : Int) = 0
      · rw [beq_iff_eq.2 hn, fj_t]; rfl
      · rw [beq_eq_false_iff_ne.2 hn, fj_f, if_pos (by omega), if_pos (by omega)]; rfl
theorem first_head (f : Bool) (a : Int) (r : List Int) (l : List Seg) (hf : f = false) (k : Nat) (hk : 0 < k) : (interregnumref05_First.f k (⟨f, a :: r⟩ :: l)).map Prod.fst = some a := by
  obtain ⟨k, rfl⟩ : ∃ m, k = m + 1 := ⟨k - 1, by omega⟩
  subst hf
  have hr : rd_T69 ((⟨false, a :: r⟩ : Seg) :: l) 0 = ⟨false, a :: r⟩ := rfl
  unfold interregnumref05_First.f
  rw [if_neg (by rw [List.length_cons]; omega), if_pos (by rw [List.length_cons]; omega), hr, if_neg (by simp), beq_eq_false_iff_ne.2 (by simp only [List.length_cons]; omega), fj_f, hr, if_pos (by rw [List.length_cons]; omega), if_pos (by simp only [List.length_cons]; omega)]
  rfl
theorem first_pre (l : List Seg) (a : Int) (k : Nat) (hk : 0 < k) : (interregnumref05_First.f k (prependV l a)).map Prod.fst = some a := by
  cases l with
  | nil => exact first_head false a [] [] rfl k hk
  | cons s r =>
    by_cases h : s.f0 = true ∨ 255 ≤ s.f1.length
    · have e : prependV (s :: r) a = ⟨false, [a]⟩ :: s :: r := if_pos h
      rw [e]
      exact first_head false a [] _ rfl k hk
    · have e : prependV (s :: r) a = ⟨s.f0, a :: s.f1⟩ :: r := if_neg h
      rw [e]
      refine first_head s.f0 a s.f1 r ?_ k hk
      cases hs : s.f0 with
      | true => exact absurd (Or.inl hs) h
      | false => rfl
theorem raw_total (a b : Int) (l : List Int) : ∃ r, attr_raw.f a b l = some r := by
  unfold attr_raw.f
  repeat' split
  all_goals exact ⟨_, rfl⟩
theorem good_l0 (l : List RawS) (o : Int) (p : List Seg) (nx md pr : Int) (l5 : List Int) (hl : l.length < 4611686018427387903) (d : Nat) : ∀ (i k : Nat), i + d = l.length → 2 * d < k → ∃ b, attr_Good.l0 k l (l.length : Int) (i : Int) o p nx md pr l5 l = some b ∧ (b = true → -1 ≤ pr) := by
  induction d with
  | zero =>
    intro i k hi hk
    obtain ⟨k, rfl⟩ : ∃ m, k = m + 1 := ⟨k - 1, by omega⟩
    unfold attr_Good.l0
    rw [if_neg (by omega)]
    by_cases h1 : md ≥ -1
    · rw [if_pos h1]
      by_cases h2 : md ≤ 4294967295
      · rw [if_pos h2]
        by_cases h3 : pr ≥ -1
        · rw [if_pos h3]; exact ⟨_, rfl, fun _ => h3⟩
        · rw [if_neg h3]; exact ⟨_, rfl, fun h => by cases h⟩
      · rw [if_neg h2]; exact ⟨_, rfl, fun h => by cases h⟩
    · rw [if_neg h1]; exact ⟨_, rfl, fun h => by cases h⟩
  | succ d ih =>
    intro i k hi hk
    obtain ⟨k, rfl⟩ : ∃ m, k = m + 2 := ⟨k - 2, by omega⟩
    have hlt : i < l.length := by omega
    have next : ∀ b, ∃ r, attr_Good.j2 (k + 1) l (l.length : Int) (i : Int) b o p nx md pr l5 l = some r ∧ (r = true → -1 ≤ pr) := by
      intro b
      unfold attr_Good.j2
      cases b with
      | true => exact ⟨false, by rw [if_pos rfl], fun h => by cases h⟩
      | false =>
        rw [if_neg (by simp), wn i (by omega)]
        exact ih (i + 1) k (by omega) (by omega)
    unfold attr_Good.l0
    obtain ⟨r, hr⟩ := raw_total (rd_T73 l (i : Int)).f0 (rd_T73 l (i : Int)).f1 (rd_T73 l (i : Int)).f2
    rw [if_pos (by omega), if_pos (by omega), if_pos (by omega), hr, Option.bind_some]
    cases r with
    | false => rw [if_neg (by simp)]; exact next true
    | true =>
      rw [if_pos rfl]
      by_cases hi0 : (i : Int) > 0
      · have hw : wrap64 ((i : Int) - 1) = (i : Int) - 1 := w64 _ (by omega) (by omega)
        rw [if_pos hi0, hw, if_pos (by omega), if_pos (by omega)]
        exact next _
      · rw [if_neg hi0]; exact next false
theorem good_total (o : Int) (p : List Seg) (nx md pr : Int) (l5 : List Int) (l6 : List RawS) (hl : l6.length < 4611686018427387903) (k : Nat) (hk : 2 * l6.length + 1 < k) : ∃ b, attr_Good.f k o p nx md pr l5 l6 = some b ∧ (b = true → -1 ≤ pr) := by
  have next : ∀ b, ∃ r, attr_Good.j0 k b o p nx md pr l5 l6 = some r ∧ (r = true → -1 ≤ pr) := by
    intro b
    obtain ⟨k, rfl⟩ : ∃ m, k = m + 1 := ⟨k - 1, by omega⟩
    cases b with
    | true => exact ⟨false, rfl, fun h => by cases h⟩
    | false =>
      obtain ⟨r, hr, hq⟩ := good_l0 l6 o p nx md pr l5 hl l6.length 0 k (by omega) (by omega)
      exact ⟨r, hr, hq⟩
  unfold attr_Good.f path_Good.f
  rw [Option.bind_some]
  obtain ⟨h, hh⟩ : ∃ h, attr_Hop.f nx = some h := by
    unfold attr_Hop.f
    repeat' split
    all_goals exact ⟨_, rfl⟩
  rw [hh, Option.bind_some]
  repeat' split
  all_goals exact next _
end Go.Proofs.Ytjdebhkdbdbepaa.PathExportLoops
