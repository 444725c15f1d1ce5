/- What the printed functions of routes compute; for the statement RouteOwn. -/
import Derived.Test.YtpkckkmgnlhhcaaPathARouteOwn
import Derived.Lib.Bytes
namespace Go.Proofs.Ytpkckkmgnlhhcaa.PathRouteOwn
open Go.RowKit Go.Proofs.Ytpkckkmgnlhhcaa.PRouteOwn Go.Proofs.YtpkckkmgnlhhcaaW.PrintWords Go.Proofs.YtpkckkmgnlhhcaaW.PrintLast Go.Proofs.YtpkckkmgnlhhcaaW.PrintMore Go.Proofs.Ytpkckkmgnlhhcaa.Pre
set_option linter.unusedVariables false
abbrev RawS := S58
theorem raw_at (l : List RawS) (i : Nat) (h : i < l.length) : rd_T58 l (i : Int) = l[i] := by
  unfold rd_T58
  rw [List.getD_eq_getElem?_getD, Int.toNat_natCast, List.getElem?_eq_getElem h]
  rfl
theorem drop_raw (l : List RawS) (i : Nat) (h : i < l.length) : l.drop i = l[i] :: l.drop (i + 1) := List.drop_eq_getElem_cons h
def totR : List RawS → Nat
  | [] => 0
  | s :: l => s.f2.length + totR l
theorem totR_drop (l : List RawS) (i : Nat) (h : i < l.length) : totR (l.drop i) = l[i].f2.length + totR (l.drop (i + 1)) := by rw [drop_raw l i h]; rfl
theorem totR_mem (l : List RawS) (s : RawS) (h : s ∈ l) : s.f2.length ≤ totR l := by
  induction l with
  | nil => cases h
  | cons x l ih =>
    rcases List.mem_cons.1 h with rfl | h
    · unfold totR; omega
    · have := ih h; unfold totR; omega
theorem small13_l1 (l : List RawS) (q0 : Int) (q1 : List Seg) (q2 q3 q4 : Int) (q5 : List Int) (hl : l.length < 4611686018427387904) (hy : ∀ y ∈ l, y.f2.length < 281474976710656) (d : Nat) : ∀ (i k : Nat) (n : Int), i + d = l.length → d < k → 0 ≤ n → n < 4611686018427387904 →
    interregnumlaw13_small.l1 k n i q0 q1 q2 q3 q4 q5 l = some (decide (n + totR (l.drop i) < 3000)) := by
  induction d with
  | zero =>
    intro i k n hi hk h0 hn
    obtain ⟨k, rfl⟩ : ∃ m, k = m + 1 := ⟨k - 1, by omega⟩
    conv => lhs; unfold interregnumlaw13_small.l1
    rw [if_neg (by omega), List.drop_of_length_le (by omega)]
    simp [totR]
  | succ d ih =>
    intro i k n hi hk h0 hn
    obtain ⟨k, rfl⟩ : ∃ m, k = m + 1 := ⟨k - 1, by omega⟩
    have hlt : i < l.length := by omega
    conv => lhs; unfold interregnumlaw13_small.l1
    rw [if_pos (by omega), totR_drop l i hlt]
    have hm := hy l[i] (List.getElem_mem hlt)
    by_cases h3 : n < 3000
    · rw [if_pos h3, if_pos (by omega), raw_at l i hlt, w64 (n + _) (by omega) (by omega), wn i (by omega), ih (i + 1) k _ (by omega) (by omega) (by omega) (by omega)]
      congr 2
      simp only [eq_iff_iff]
      omega
    · rw [if_neg h3]
      congr 2
      simp only [eq_iff_iff]
      omega
theorem small13_l0 (m : List RawS) (l : List Seg) (q0 : Int) (q2 q3 q4 : Int) (q5 : List Int) (hm : m.length < 4611686018427387904) (hym : ∀ y ∈ m, y.f2.length < 281474976710656) (hl : l.length < 1152921504606846976) (hy : ∀ y ∈ l, y.f1.length < 70368744177664) (d : Nat) :
    ∀ (i k : Nat) (n : Int), i + d = l.length → d + m.length + 2 < k → 0 ≤ n → n < 2305843009213693952 + d →
    interregnumlaw13_small.l0 k n i q0 l q2 q3 q4 q5 m = some (decide (n + tot (l.drop i) + totR m < 3000)) := by
  have hend : ∀ (k : Nat) (n : Int), m.length + 1 < k → 0 ≤ n → n < 4611686018427387904 → interregnumlaw13_small.j1 k n q0 l q2 q3 q4 q5 m = some (decide (n + totR m < 3000)) := by
    intro k n hk h0 hn
    obtain ⟨k, rfl⟩ : ∃ m, k = m + 1 := ⟨k - 1, by omega⟩
    conv => lhs; unfold interregnumlaw13_small.j1
    have := small13_l1 m q0 l q2 q3 q4 q5 hm hym m.length 0 k n (by omega) (by omega) h0 hn
    rw [List.drop_zero] at this
    exact this
  induction d with
  | zero =>
    intro i k n hi hk h0 hn
    obtain ⟨k, rfl⟩ : ∃ m, k = m + 1 := ⟨k - 1, by omega⟩
    conv => lhs; unfold interregnumlaw13_small.l0
    rw [if_neg (by omega), List.drop_of_length_le (by omega), hend k n (by omega) h0 (by omega)]
    simp [tot]
  | succ d ih =>
    intro i k n hi hk h0 hn
    obtain ⟨k, rfl⟩ : ∃ m, k = m + 1 := ⟨k - 1, by omega⟩
    have hlt : i < l.length := by omega
    conv => lhs; unfold interregnumlaw13_small.l0
    rw [if_pos (by omega), tot_drop l i hlt]
    have hq := hy l[i] (List.getElem_mem hlt)
    by_cases h3 : n < 3000
    · rw [if_pos h3, if_pos (by omega), seg_at l i hlt, w64 (n + _) (by omega) (by omega), wn i (by omega), ih (i + 1) k _ (by omega) (by omega) (by omega) (by omega)]
      congr 2
      simp only [eq_iff_iff]
      omega
    · rw [if_neg h3, hend k n (by omega) h0 (by omega)]
      congr 2
      simp only [eq_iff_iff]
      omega
theorem Small13 (a0 a1 a2 a3 : Int) (l4 : List Seg) (a5 a6 a7 : Int) (l8 : List Int) (l9 : List RawS) (a10 : Int) (h4 : l4.length * 32 ≤ 140737488351232) (hy4 : ∀ y ∈ l4, y.f1.length * 8 ≤ 140737488351232) (h8 : l8.length * 4 ≤ 140737488351232) (h9 : l9.length * 40 ≤ 140737488351232) (hy9 : ∀ y ∈ l9, y.f2.length * 1 ≤ 140737488351232)
    (k : Nat) (hk : l4.length + l9.length + 2 < k) : interregnumlaw13_small.f k a0 a1 a2 a3 l4 a5 a6 a7 l8 l9 a10 = some (decide (l4.length + l8.length + l9.length + tot l4 + totR l9 < 3000)) := by
  unfold interregnumlaw13_small.f
  rw [w64 ((l4.length : Int) + (l8.length : Int)) (by omega) (by omega), w64 ((l4.length : Int) + (l8.length : Int) + (l9.length : Int)) (by omega) (by omega)]
  have := small13_l0 l9 l4 a3 a5 a6 a7 l8 (by omega) (fun y h => by have := hy9 y h; omega) (by omega) (fun y h => by have := hy4 y h; omega) l4.length 0 k ((l4.length : Int) + l8.length + l9.length) (by omega) hk (by omega) (by omega)
  rw [show ((0 : Nat) : Int) = 0 from rfl, List.drop_zero] at this
  rw [this]
  congr 2
  simp only [eq_iff_iff]
  omega
/-! ### what is the same -/
theorem all2_len {α : Type} (f : α → α → Bool) : ∀ (l m : List α), l.length ≠ m.length → all2 f l m = false := all2_ne f
theorem all2_drop {α : Type} (f : α → α → Bool) (l m : List α) (i : Nat) (h1 : i < l.length) (h2 : i < m.length) : all2 f (l.drop i) (m.drop i) = (f l[i] m[i] && all2 f (l.drop (i + 1)) (m.drop (i + 1))) := by
  rw [List.drop_eq_getElem_cons h1, List.drop_eq_getElem_cons h2]
  rfl
theorem SameB_l0 (l m : List Int) (hl : l.length < 4611686018427387903) (he : l.length = m.length) (d : Nat) : ∀ (i k : Nat), i + d = l.length → d < k → interregnumref01_Same.l0 k l m i = some (l.drop i == m.drop i) := by
  induction d with
  | zero =>
    intro i k hi hk
    obtain ⟨k, rfl⟩ : ∃ m, k = m + 1 := ⟨k - 1, by omega⟩
    conv => lhs; unfold interregnumref01_Same.l0
    rw [if_neg (by omega), List.drop_of_length_le (by omega), List.drop_of_length_le (by omega)]
    rfl
  | succ d ih =>
    intro i k hi hk
    obtain ⟨k, rfl⟩ : ∃ m, k = m + 1 := ⟨k - 1, by omega⟩
    have h1 : i < l.length := by omega
    have h2 : i < m.length := by omega
    conv => lhs; unfold interregnumref01_Same.l0
    rw [if_pos (by omega), if_pos (by omega), if_pos (by omega), rd_at l i h1, rd_at m i h2, drop_int l i h1, drop_int m i h2, List.cons_beq_cons]
    by_cases hx : l[i] = m[i]
    · rw [if_pos hx, wn i (by omega), ih (i + 1) k (by omega) (by omega), hx, beq_self_eq_true, Bool.true_and]
    · rw [if_neg hx, beq_eq_false_iff_ne.2 hx, Bool.false_and]
theorem SameI (l m : List Int) (hl : l.length < 4611686018427387903) (k : Nat) (hk : l.length < k) : interregnumref01_Same.f k l m = some (l == m) := by
  unfold interregnumref01_Same.f
  by_cases he : l.length = m.length
  · rw [if_pos (by omega)]
    exact SameB_l0 l m hl he l.length 0 k (by omega) hk
  · rw [if_neg (by omega), beq_eq_false_iff_ne.2 (fun e => he (by rw [e]))]
theorem SameS_l0 (l m : List Seg) (hl : l.length < 4611686018427387903) (hy : ∀ y ∈ l, y.f1.length < 4611686018427387903) (he : l.length = m.length) (d : Nat) : ∀ (i k : Nat), i + d = l.length → 3 * d + tot (l.drop i) < k →
    interregnumref05_SamePath.l0 k l m i = some (all2 segEq (l.drop i) (m.drop i)) := by
  induction d with
  | zero =>
    intro i k hi hk
    obtain ⟨k, rfl⟩ : ∃ m, k = m + 1 := ⟨k - 1, by omega⟩
    conv => lhs; unfold interregnumref05_SamePath.l0
    rw [if_neg (by omega), List.drop_of_length_le (by omega), List.drop_of_length_le (by omega)]
    rfl
  | succ d ih =>
    intro i k hi hk
    have h1 : i < l.length := by omega
    have h2 : i < m.length := by omega
    have hm := hy l[i] (List.getElem_mem h1)
    rw [tot_drop l i h1] at hk
    obtain ⟨k, rfl⟩ : ∃ m, k = m + 1 := ⟨k - 1, by omega⟩
    obtain ⟨k, rfl⟩ : ∃ m, k = m + 1 := ⟨k - 1, by omega⟩
    conv => lhs; unfold interregnumref05_SamePath.l0
    rw [all2_drop segEq l m i h1 h2, if_pos (by omega), if_pos (by omega), if_pos (by omega), seg_at l i h1, seg_at m i h2]
    unfold segEq
    have inner : l[i].f1.length = m[i].f1.length → ∀ (e j k : Nat), j + e = l[i].f1.length → 3 * d + tot (l.drop (i + 1)) + e + 1 < k → interregnumref05_SamePath.l1 k l m i j = some ((l[i].f1.drop j == m[i].f1.drop j) && all2 segEq (l.drop (i + 1)) (m.drop (i + 1))) := by
      intro hlen e
      induction e with
      | zero =>
        intro j k hj hk
        obtain ⟨k, rfl⟩ : ∃ m, k = m + 1 := ⟨k - 1, by omega⟩
        conv => lhs; unfold interregnumref05_SamePath.l1
        rw [if_pos (by omega), if_pos (by omega), seg_at l i h1, if_neg (by omega), wn i (by omega), ih (i + 1) k (by omega) (by omega), List.drop_of_length_le (l := l[i].f1) (i := j) (by omega), List.drop_of_length_le (l := m[i].f1) (i := j) (by omega), beq_self_eq_true, Bool.true_and]
      | succ e ihe =>
        intro j k hj hk
        obtain ⟨k, rfl⟩ : ∃ m, k = m + 1 := ⟨k - 1, by omega⟩
        have j1 : j < l[i].f1.length := by omega
        have j2 : j < m[i].f1.length := by omega
        conv => lhs; unfold interregnumref05_SamePath.l1
        rw [if_pos (by omega), if_pos (by omega), seg_at l i h1, if_pos (by omega), if_pos (by omega), if_pos (by omega), seg_at m i h2, if_pos (by omega), rd_at _ j j1, rd_at _ j j2, drop_int _ j j1, drop_int _ j j2, List.cons_beq_cons]
        by_cases hx : l[i].f1[j] = m[i].f1[j]
        · rw [if_pos hx, wn j (by omega), ihe (j + 1) k (by omega) (by omega), hx, beq_self_eq_true, Bool.true_and]
        · rw [if_neg hx, beq_eq_false_iff_ne.2 hx, Bool.false_and, Bool.false_and]
    by_cases hs : l[i].f0 = m[i].f0
    · rw [if_neg (by simp [hs]), beq_iff_eq.2 hs, Bool.true_and]
      by_cases hlen : l[i].f1.length = m[i].f1.length
      · conv => lhs; unfold interregnumref05_SamePath.j1
        rw [if_neg (by simp [hlen])]
        have := inner hlen l[i].f1.length 0 k (by omega) (by omega)
        rw [show ((0 : Nat) : Int) = 0 from rfl, List.drop_zero, List.drop_zero] at this
        exact this
      · conv => lhs; unfold interregnumref05_SamePath.j1
        rw [if_pos (by simp; omega), beq_eq_false_iff_ne.2 (fun e => hlen (by rw [e])), Bool.false_and]
    · rw [if_pos (by simp [hs]), beq_eq_false_iff_ne.2 hs, Bool.false_and, Bool.false_and]
      rfl
theorem SameSeg (l m : List Seg) (hl : l.length < 4611686018427387903) (ht : tot l < 4611686018427387903) (k : Nat) (hk : 3 * l.length + tot l < k) : interregnumref05_SamePath.f k l m = some (all2 segEq l m) := by
  unfold interregnumref05_SamePath.f
  by_cases he : l.length = m.length
  · rw [if_pos (by omega)]
    exact SameS_l0 l m hl (fun y h => by have := tot_mem l y h; omega) he l.length 0 k (by omega) (by rw [List.drop_zero]; exact hk)
  · rw [if_neg (by omega), all2_ne segEq l m he]
def rawEq2 (x y : RawS) : Bool := x.f0 == y.f0 && (x.f1 == y.f1 && x.f2 == y.f2)
section
variable (q0 : Int) (q1 : List Seg) (q2 q3 q4 : Int) (p0 : Int) (p1 : List Seg) (p2 p3 p4 : Int) (l m : List Int) (r s : List RawS)
theorem SameA_l1 (hr : r.length < 4611686018427387903) (hy : ∀ y ∈ r, y.f2.length < 4611686018427387903) (he : r.length = s.length) (d : Nat) : ∀ (i k : Nat), i + d = r.length → 2 * d + totR r < k →
    interregnumref05_SameAttrs.l1 k i q0 q1 q2 q3 q4 l r p0 p1 p2 p3 p4 m s = some (all2 rawEq2 (r.drop i) (s.drop i)) := by
  induction d with
  | zero =>
    intro i k hi hk
    obtain ⟨k, rfl⟩ : ∃ m, k = m + 1 := ⟨k - 1, by omega⟩
    conv => lhs; unfold interregnumref05_SameAttrs.l1
    rw [if_neg (by omega), List.drop_of_length_le (by omega), List.drop_of_length_le (by omega)]
    rfl
  | succ d ih =>
    intro i k hi hk
    obtain ⟨k, rfl⟩ : ∃ m, k = m + 1 := ⟨k - 1, by omega⟩
    have h1 : i < r.length := by omega
    have h2 : i < s.length := by omega
    have hm := hy r[i] (List.getElem_mem h1)
    have ht := totR_mem r r[i] (List.getElem_mem h1)
    conv => lhs; unfold interregnumref05_SameAttrs.l1
    rw [all2_drop rawEq2 r s i h1 h2, if_pos (by omega), if_pos (by omega), if_pos (by omega), raw_at r i h1, raw_at s i h2]
    unfold rawEq2
    by_cases a0 : r[i].f0 = s[i].f0
    · rw [if_pos a0, beq_iff_eq.2 a0, Bool.true_and]
      by_cases a1 : r[i].f1 = s[i].f1
      · rw [if_pos a1, beq_iff_eq.2 a1, Bool.true_and, SameI r[i].f2 s[i].f2 hm k (by omega), Option.bind_some]
        obtain ⟨k, rfl⟩ : ∃ m, k = m + 1 := ⟨k - 1, by omega⟩
        conv => lhs; unfold interregnumref05_SameAttrs.j3
        by_cases a2 : (r[i].f2 == s[i].f2) = true
        · rw [a2, Bool.not_true, if_neg (by simp), Bool.true_and, wn i (by omega), ih (i + 1) k (by omega) (by omega)]
          rfl
        · rw [Bool.eq_false_iff.2 a2, Bool.not_false, if_pos rfl, Bool.false_and]
      · obtain ⟨k, rfl⟩ : ∃ m, k = m + 1 := ⟨k - 1, by omega⟩
        rw [if_neg a1, beq_eq_false_iff_ne.2 a1, Bool.false_and, Bool.false_and]
        rfl
    · obtain ⟨k, rfl⟩ : ∃ m, k = m + 1 := ⟨k - 1, by omega⟩
      rw [if_neg a0, beq_eq_false_iff_ne.2 a0, Bool.false_and]
      rfl
theorem SameA_l0 (hl : l.length < 4611686018427387903) (hlm : l.length = m.length) (hr : r.length < 4611686018427387903) (hy : ∀ y ∈ r, y.f2.length < 4611686018427387903) (he : r.length = s.length) (d : Nat) : ∀ (i k : Nat), i + d = l.length → d + 2 * r.length + totR r + 1 < k →
    interregnumref05_SameAttrs.l0 k i q0 q1 q2 q3 q4 l r p0 p1 p2 p3 p4 m s = some ((l.drop i == m.drop i) && all2 rawEq2 r s) := by
  induction d with
  | zero =>
    intro i k hi hk
    obtain ⟨k, rfl⟩ : ∃ m, k = m + 1 := ⟨k - 1, by omega⟩
    conv => lhs; unfold interregnumref05_SameAttrs.l0
    have := SameA_l1 q0 q1 q2 q3 q4 p0 p1 p2 p3 p4 l m r s hr hy he r.length 0 k (by omega) (by omega)
    rw [show ((0 : Nat) : Int) = 0 from rfl, List.drop_zero, List.drop_zero] at this
    rw [if_neg (by omega), this, List.drop_of_length_le (l := l) (by omega), List.drop_of_length_le (l := m) (by omega), beq_self_eq_true, Bool.true_and]
  | succ d ih =>
    intro i k hi hk
    obtain ⟨k, rfl⟩ : ∃ m, k = m + 1 := ⟨k - 1, by omega⟩
    have h1 : i < l.length := by omega
    have h2 : i < m.length := by omega
    conv => lhs; unfold interregnumref05_SameAttrs.l0
    rw [if_pos (by omega), if_pos (by omega), if_pos (by omega), rd_at l i h1, rd_at m i h2, drop_int l i h1, drop_int m i h2, List.cons_beq_cons]
    by_cases hx : l[i] = m[i]
    · rw [if_pos hx, wn i (by omega), ih (i + 1) k (by omega) (by omega), hx, beq_self_eq_true, Bool.true_and]
    · rw [if_neg hx, beq_eq_false_iff_ne.2 hx, Bool.false_and, Bool.false_and]
theorem SameAttrs (hq : q1.length < 4611686018427387903) (ht : tot q1 < 4611686018427387903) (hl : l.length < 4611686018427387903) (hr : r.length < 4611686018427387903) (hy : totR r < 4611686018427387903) (k : Nat) (hk : 3 * q1.length + tot q1 + l.length + 2 * r.length + totR r + 3 < k) :
    interregnumref05_SameAttrs.f k q0 q1 q2 q3 q4 l r p0 p1 p2 p3 p4 m s = some (q0 == p0 && (q2 == p2 && (q3 == p3 && (q4 == p4 && (all2 segEq q1 p1 && (l == m && all2 rawEq2 r s)))))) := by
  obtain ⟨k, rfl⟩ : ∃ m, k = m + 1 := ⟨k - 1, by omega⟩
  have hj : interregnumref05_SameAttrs.j0 (k + 1) true q0 q1 q2 q3 q4 l r p0 p1 p2 p3 p4 m s = some false := rfl
  unfold interregnumref05_SameAttrs.f
  by_cases a0 : q0 = p0
  · rw [if_pos a0, beq_iff_eq.2 a0, Bool.true_and, SameSeg q1 p1 hq ht (k + 1) (by omega), Option.bind_some]
    cases hs : all2 segEq q1 p1 with
    | false =>
      rw [if_neg (by simp), hj]
      simp
    | true =>
      rw [if_pos rfl, Bool.true_and]
      by_cases a2 : q2 = p2
      · rw [if_pos a2, beq_iff_eq.2 a2, Bool.true_and]
        by_cases a3 : q3 = p3
        · rw [if_pos a3, beq_iff_eq.2 a3, Bool.true_and]
          by_cases a4 : q4 = p4
          · rw [if_pos a4, beq_iff_eq.2 a4, Bool.true_and]
            by_cases a5 : l.length = m.length
            · rw [if_pos (by omega)]
              by_cases a6 : r.length = s.length
              · rw [show ((r.length : Int) != (s.length : Int)) = false by simp [a6]]
                rw [show interregnumref05_SameAttrs.j0 (k + 1) false q0 q1 q2 q3 q4 l r p0 p1 p2 p3 p4 m s = interregnumref05_SameAttrs.l0 k 0 q0 q1 q2 q3 q4 l r p0 p1 p2 p3 p4 m s from rfl]
                have := SameA_l0 q0 q1 q2 q3 q4 p0 p1 p2 p3 p4 l m r s hl a5 hr (fun y h => by have := totR_mem r y h; omega) a6 l.length 0 k (by omega) (by omega)
                rw [show ((0 : Nat) : Int) = 0 from rfl, List.drop_zero, List.drop_zero] at this
                exact this
              · rw [show ((r.length : Int) != (s.length : Int)) = true by simp; omega, hj, all2_ne rawEq2 r s a6, Bool.and_false]
            · rw [if_neg (by omega), hj, beq_eq_false_iff_ne.2 (fun e => a5 (by rw [e])), Bool.false_and]
          · rw [if_neg a4, hj, beq_eq_false_iff_ne.2 a4, Bool.false_and]
        · rw [if_neg a3, hj, beq_eq_false_iff_ne.2 a3, Bool.false_and]
      · rw [if_neg a2, hj, beq_eq_false_iff_ne.2 a2, Bool.false_and]
  · rw [if_neg a0, hj, beq_eq_false_iff_ne.2 a0, Bool.false_and]
end
/-! ### bytes, and communities -/
theorem bytes_inj {x y : List Int} (hx : ∀ v ∈ x, 0 ≤ v ∧ v < 256) (hy : ∀ v ∈ y, 0 ≤ v ∧ v < 256) (h : x.map (fun n => UInt8.ofNat n.toNat) = y.map (fun n => UInt8.ofNat n.toNat)) : x = y := by
  induction x generalizing y with
  | nil =>
    cases y with
    | nil => rfl
    | cons b y => simp at h
  | cons a x ih =>
    cases y with
    | nil => simp at h
    | cons b y =>
      rw [List.map_cons, List.map_cons] at h
      injection h with h1 h2
      have ha := hx a List.mem_cons_self
      have hb := hy b List.mem_cons_self
      have h3 := congrArg UInt8.toNat h1
      simp only [UInt8.toNat_ofNat'] at h3
      have h4 : a = b := by omega
      rw [h4, ih (fun v hv => hx v (List.mem_cons_of_mem _ hv)) (fun v hv => hy v (List.mem_cons_of_mem _ hv)) h2]
theorem rawEq_eq (x y : RawS) (hx : ∀ v ∈ x.f2, 0 ≤ v ∧ v < 256) (hy : ∀ v ∈ y.f2, 0 ≤ v ∧ v < 256) : rawEq x y = rawEq2 x y := by
  unfold rawEq rawEq2
  have h : ((strOfNums x.f2).toList == (strOfNums y.f2).toList) = (x.f2 == y.f2) := by
    rw [Bool.eq_iff_iff, beq_iff_eq, beq_iff_eq, Go.Lib.strOfNums_toList, Go.Lib.strOfNums_toList]
    exact ⟨fun h => bytes_inj hx hy h, fun h => by rw [h]⟩
  rw [h]
theorem all2_congr {α : Type} {f g : α → α → Bool} : ∀ (l m : List α), (∀ x ∈ l, ∀ y ∈ m, f x y = g x y) → all2 f l m = all2 g l m
  | [], [], _ => rfl
  | [], _ :: _, _ => rfl
  | _ :: _, [], _ => rfl
  | x :: l, y :: m, h => by
    unfold all2
    rw [h x List.mem_cons_self y List.mem_cons_self, all2_congr l m (fun a ha b hb => h a (List.mem_cons_of_mem _ ha) b (List.mem_cons_of_mem _ hb))]
theorem index_u (l : List Int) (a : Int) (hl : l.length < 4611686018427387903) (d : Nat) : ∀ (i k : Nat), i + d = l.length → d < k → ∃ r, slices_Index_uint32_uint32.l0 k l a (l.length : Int) i = some r ∧ decide (r ≥ 0) = (l.drop i).any (a == ·) := by
  induction d with
  | zero =>
    intro i k hi hk
    obtain ⟨k, rfl⟩ : ∃ m, k = m + 1 := ⟨k - 1, by omega⟩
    refine ⟨-1, ?_, ?_⟩
    · conv => lhs; unfold slices_Index_uint32_uint32.l0
      rw [if_neg (by omega)]
    · rw [List.drop_of_length_le (by omega)]
      rfl
  | succ d ih =>
    intro i k hi hk
    obtain ⟨k, rfl⟩ : ∃ m, k = m + 1 := ⟨k - 1, by omega⟩
    have h1 : i < l.length := by omega
    rw [drop_int l i h1, List.any_cons]
    by_cases hx : a = l[i]
    · refine ⟨i, ?_, ?_⟩
      · conv => lhs; unfold slices_Index_uint32_uint32.l0
        rw [if_pos (by omega), if_pos (by omega), if_pos (by omega), rd_at l i h1, if_pos hx]
      · rw [hx, beq_self_eq_true, Bool.true_or]
        exact decide_eq_true (by omega)
    · obtain ⟨r, hr, hd⟩ := ih (i + 1) k (by omega) (by omega)
      refine ⟨r, ?_, ?_⟩
      · conv => lhs; unfold slices_Index_uint32_uint32.l0
        rw [if_pos (by omega), if_pos (by omega), if_pos (by omega), rd_at l i h1, if_neg hx, wn i (by omega), hr]
      · rw [hd, beq_eq_false_iff_ne.2 hx, Bool.false_or]
theorem Contains_u (l : List Int) (a : Int) (hl : l.length < 4611686018427387903) (k : Nat) (hk : l.length < k) : slices_Contains_uint32_uint32.f k l a = some (l.any (a == ·)) := by
  unfold slices_Contains_uint32_uint32.f slices_Index_uint32_uint32.f
  obtain ⟨r, hr, hd⟩ := index_u l a hl l.length 0 k (by omega) hk
  rw [show ((0 : Nat) : Int) = 0 from rfl] at hr
  rw [List.drop_zero] at hd
  rw [hr, Option.bind_some, hd]
end Go.Proofs.Ytpkckkmgnlhhcaa.PathRouteOwn
