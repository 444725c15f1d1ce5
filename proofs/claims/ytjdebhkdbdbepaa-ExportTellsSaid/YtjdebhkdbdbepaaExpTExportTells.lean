/- What attributes may be told, as the reference says, and that all are the same as themselves; for the statement ExportTells. -/
import Derived.Test.YtjdebhkdbdbepaaExpLExportTells
namespace Go.Proofs.Ytjdebhkdbdbepaa.PathExportTells
open Go.RowKit Go.Proofs.Ytjdebhkdbdbepaa.PExportTells Go.Proofs.YtjdebhkdbdbepaaW.PrintWords Go.Proofs.YtjdebhkdbdbepaaW.PrintLast Go.Proofs.YtjdebhkdbdbepaaW.PrintMore Go.Proofs.Ytjdebhkdbdbepaa.Pre
set_option linter.unusedVariables false
theorem Good_l0 (l : List Seg) (hl : l.length < 4611686018427387904) (d : Nat) : ∀ (i k : Nat) (n : Int), i + d = l.length → 3 * d + tot (l.drop i) < k → 0 ≤ n → n + tot (l.drop i) < 4611686018427387904 →
    interregnumref05_GoodPath.l0 k l n i = some (path_Good.g (l.drop i) n) := by
  induction d with
  | zero =>
    intro i k n hi hk h0 hn
    obtain ⟨k, rfl⟩ : ∃ m, k = m + 1 := ⟨k - 1, by omega⟩
    conv => lhs; unfold interregnumref05_GoodPath.l0
    rw [if_neg (by omega), List.drop_of_length_le (by omega)]
    rfl
  | succ d ih =>
    intro i k n hi hk h0 hn
    obtain ⟨k, rfl⟩ : ∃ m, k = m + 1 := ⟨k - 1, by omega⟩
    have hlt : i < l.length := by omega
    rw [tot_drop l i hlt] at hk hn
    obtain ⟨k, rfl⟩ : ∃ m, k = m + 1 := ⟨k - 1, by omega⟩
    conv => lhs; unfold interregnumref05_GoodPath.l0
    rw [if_pos (by omega), if_pos (by omega), seg_at l i hlt, drop_seg l i hlt]
    have inner : ∀ (e j k : Nat) (n : Int), j + e = l[i].f1.length → 3 * d + tot (l.drop (i + 1)) + e + 1 < k → 0 ≤ n → n + e + tot (l.drop (i + 1)) < 4611686018427387904 →
        interregnumref05_GoodPath.l1 k l n i j = some (if (l[i].f1.drop j).any oddB = true then false else path_Good.g (l.drop (i + 1)) (n + e)) := by
      intro e
      induction e with
      | zero =>
        intro j k n hj hk h0 hn
        obtain ⟨k, rfl⟩ : ∃ m, k = m + 1 := ⟨k - 1, by omega⟩
        conv => lhs; unfold interregnumref05_GoodPath.l1
        rw [if_pos (by omega), if_pos (by omega), seg_at l i hlt, if_neg (by omega), wn i (by omega), ih (i + 1) k n (by omega) (by omega) (by omega) (by omega), List.drop_of_length_le (l := l[i].f1) (i := j) (by omega), List.any_nil, if_neg (by simp)]
        simp
      | succ e ihe =>
        intro j k n hj hk h0 hn
        obtain ⟨k, rfl⟩ : ∃ m, k = m + 1 := ⟨k - 1, by omega⟩
        have hjt : j < l[i].f1.length := by omega
        conv => lhs; unfold interregnumref05_GoodPath.l1
        rw [if_pos (by omega), if_pos (by omega), seg_at l i hlt, if_pos (by omega), if_pos (by omega), rd_at _ j hjt, drop_int _ j hjt, List.any_cons]
        by_cases h1 : l[i].f1[j] < 1
        · rw [if_pos h1, show oddB l[i].f1[j] = true from by unfold oddB; rw [decide_eq_false (by omega)]; rfl]; rfl
        · rw [if_neg h1]
          by_cases h2 : l[i].f1[j] > 4294967295
          · rw [if_pos h2, show oddB l[i].f1[j] = true from by unfold oddB; rw [decide_eq_false (p := l[i].f1[j] ≤ 4294967295) (by omega), Bool.and_false]; rfl]; rfl
          · rw [if_neg h2, show oddB l[i].f1[j] = false from by unfold oddB; rw [decide_eq_true (by omega), decide_eq_true (by omega)]; rfl, Bool.false_or, wn j (by omega), w64 (n + 1) (by omega) (by omega), ihe (j + 1) k (n + 1) (by omega) (by omega) (by omega) (by omega)]
            rw [show n + 1 + (e : Int) = n + ((e + 1 : Nat) : Int) by omega]
    have hin := inner l[i].f1.length 0 k n (by omega) (by omega) h0 (by omega)
    rw [show ((0 : Nat) : Int) = 0 from rfl, List.drop_zero] at hin
    conv => rhs; unfold path_Good.g
    by_cases hs : l[i].f1.length < 1
    · rw [if_pos (by omega), if_pos (.inl hs)]
      unfold interregnumref05_GoodPath.j1
      rw [if_pos rfl]
    · rw [if_neg (by omega)]
      by_cases hb : l[i].f1.length > 255
      · rw [if_pos (.inr (.inl hb)), decide_eq_true (by omega)]
        unfold interregnumref05_GoodPath.j1
        rw [if_pos rfl]
      · rw [decide_eq_false (by omega)]
        unfold interregnumref05_GoodPath.j1
        rw [if_neg (by simp), hin, w64 (n + _) (by omega) (by omega)]
        simp only [hs, hb, false_or]
theorem GoodPath (l : List Seg) (hl : l.length < 4611686018427387904) (k : Nat) (hk : 3 * l.length + tot l < k) (ht : tot l < 4611686018427387904) : interregnumref05_GoodPath.f k l = some (path_Good.g l 0) :=
  Good_l0 l hl l.length 0 k 0 (by omega) hk (by omega) (by rw [List.drop_zero]; omega)
theorem Prepend_new (k : Nat) (l : List Seg) (a : Int) (hl : l.length < 4000) : interregnumref05_Prepend.j0 (k + 1) l a false = some (⟨false, [a]⟩ :: l) := by
  unfold interregnumref05_Prepend.j0
  dsimp only
  rw [if_neg (by simp), Option.bind_some, if_pos (by rw [List.length_singleton]; omega)]
  rfl
theorem Prepend_f (k : Nat) (l : List Seg) (a : Int) (hl : l.length < 4000) (hy : ∀ y ∈ l, y.f1.length < 4000) : interregnumref05_Prepend.f (k + 1) l a = some (prependV l a) := by
  unfold interregnumref05_Prepend.f
  cases l with
  | nil =>
    rw [if_neg (by simp), Prepend_new k [] a hl]
    rfl
  | cons s r =>
    have hs := hy s List.mem_cons_self
    have hrd : rd_T69 (s :: r) 0 = s := rfl
    rw [if_pos (by rw [List.length_cons]; omega), if_pos (by rw [List.length_cons]; omega), hrd]
    show _ = some (if s.f0 = true ∨ 255 ≤ s.f1.length then _ else _ : List Seg)
    by_cases hf : s.f0 = true
    · rw [if_pos hf, if_pos (Or.inl hf), Prepend_new k _ a hl]
    · rw [if_neg hf]
      by_cases h5 : 255 ≤ s.f1.length
      · rw [decide_eq_false (by omega), if_pos (Or.inr h5), Prepend_new k _ a hl]
      · rw [decide_eq_true (by omega), if_neg (fun h => h.elim hf h5)]
        have hff : s.f0 = false := by cases h : s.f0 with | true => exact absurd h hf | false => rfl
        unfold interregnumref05_Prepend.j0
        dsimp only
        rw [if_pos rfl, Option.bind_some, if_pos (by rw [List.length_cons]; omega), hrd, if_pos (by rw [List.length_singleton]; omega), Option.bind_some, if_pos (by rw [List.length_cons]; omega), Option.bind_some, if_pos (by simp only [List.length_singleton, List.drop_succ_cons, List.drop_zero]; rw [List.length_cons] at hl; omega), hff]
        rfl
/-- Is an attribute that is passed on none, or out of its place? -/
def rawB (r : RawS) : Bool := (decide (r.f1 = 6) && decide (r.f0 = 64) && ((r.f2.length : Int) == 0)) || (decide (r.f1 = 7) && decide (r.f0 = 192) && ((r.f2.length : Int) == 8)) || (decide (r.f1 > 8) && decide (r.f1 ≤ 255) && decide (r.f0 = 224) && decide ((r.f2.length : Int) ≤ 255))
def badB (l : List RawS) (i : Int) : Bool := !rawB (rd_T73 l i) || (decide (i > 0) && decide ((rd_T73 l (wrap64 (i - 1))).f1 ≥ (rd_T73 l i).f1))
theorem raw_eq (r : RawS) : attr_raw.f r.f0 r.f1 r.f2 = some (rawB r) := by
  obtain ⟨f, t, d⟩ := r
  unfold attr_raw.f rawB
  dsimp only
  by_cases h6 : t = 6
  · subst h6
    by_cases hf : f = 64
    · simp [hf]
    · simp [hf]
  · by_cases h7 : t = 7
    · subst h7
      by_cases hf : f = 192
      · simp [hf]
      · simp [hf]
    · by_cases h8 : t > 8
      · by_cases h9 : t ≤ 255
        · by_cases hf : f = 224
          · simp [h6, h7, h8, h9, hf]
          · simp [h6, h7, h8, h9, hf]
        · simp [h6, h7, h8, h9]
      · simp [h6, h7, h8]
theorem good_step (l : List RawS) (o : Int) (p : List Seg) (nx md pr : Int) (l5 : List Int) (hl : l.length < 4611686018427387903) (i : Nat) (hi : i < l.length) (k : Nat) :
    attr_Good.l0 (k + 1) l (l.length : Int) (i : Int) o p nx md pr l5 l = attr_Good.j2 k l (l.length : Int) (i : Int) (badB l i) o p nx md pr l5 l := by
  conv => lhs; unfold attr_Good.l0
  rw [if_pos (by omega), if_pos (by omega), if_pos (by omega), raw_eq, Option.bind_some]
  unfold badB
  cases hr : rawB (rd_T73 l (i : Int)) with
  | false => rw [if_neg (by simp)]; rfl
  | true =>
    rw [if_pos rfl]
    by_cases hi0 : (i : Int) > 0
    · have hw : wrap64 ((i : Int) - 1) = (i : Int) - 1 := w64 _ (by omega) (by omega)
      rw [if_pos hi0, hw, if_pos (by omega), if_pos (by omega), decide_eq_true hi0]
      rfl
    · rw [if_neg hi0, decide_eq_false hi0]; rfl
theorem ref_step (l : List RawS) (o : Int) (p : List Seg) (nx md pr : Int) (l5 : List Int) (hl : l.length < 4611686018427387903) (i : Nat) (hi : i < l.length) (k : Nat) :
    interregnumref05_GoodAttrs.l0 (k + 4) (i : Int) o p nx md pr l5 l = interregnumref05_GoodAttrs.j5 k (i : Int) (badB l i) o p nx md pr l5 l := by
  obtain ⟨r, hr⟩ : ∃ r, r = rd_T73 l (i : Int) := ⟨_, rfl⟩
  have e1 : interregnumref05_GoodAttrs.l0 (k + 4) (i : Int) o p nx md pr l5 l = interregnumref05_GoodAttrs.j2 (k + 3) (i : Int) (decide (r.f1 = 6) && decide (r.f0 = 64) && ((r.f2.length : Int) == 0)) o p nx md pr l5 l r.f0 r.f1 r.f2 := by
    conv => lhs; unfold interregnumref05_GoodAttrs.l0
    rw [if_pos (by omega), if_pos (by omega), ← hr]
    by_cases a : r.f1 = 6
    · by_cases b : r.f0 = 64
      · rw [if_pos a, if_pos b, decide_eq_true a, decide_eq_true b]; rfl
      · rw [if_pos a, if_neg b, decide_eq_true a, decide_eq_false b]; rfl
    · rw [if_neg a, decide_eq_false a]; rfl
  have e2 : ∀ s, interregnumref05_GoodAttrs.j2 (k + 3) (i : Int) s o p nx md pr l5 l r.f0 r.f1 r.f2 = interregnumref05_GoodAttrs.j3 (k + 2) (i : Int) s (decide (r.f1 = 7) && decide (r.f0 = 192) && ((r.f2.length : Int) == 8)) o p nx md pr l5 l r.f0 r.f1 r.f2 := by
    intro s
    conv => lhs; unfold interregnumref05_GoodAttrs.j2
    by_cases a : r.f1 = 7
    · by_cases b : r.f0 = 192
      · rw [if_pos a, if_pos b, decide_eq_true a, decide_eq_true b]; rfl
      · rw [if_pos a, if_neg b, decide_eq_true a, decide_eq_false b]; rfl
    · rw [if_neg a, decide_eq_false a]; rfl
  have e3 : ∀ s t, interregnumref05_GoodAttrs.j3 (k + 2) (i : Int) s t o p nx md pr l5 l r.f0 r.f1 r.f2 = interregnumref05_GoodAttrs.j4 (k + 1) (i : Int) s t (decide (r.f1 > 8) && decide (r.f1 ≤ 255) && decide (r.f0 = 224) && decide ((r.f2.length : Int) ≤ 255)) o p nx md pr l5 l r.f0 r.f1 r.f2 := by
    intro s t
    conv => lhs; unfold interregnumref05_GoodAttrs.j3
    by_cases a : r.f1 > 8
    · by_cases b : r.f1 ≤ 255
      · by_cases c : r.f0 = 224
        · rw [if_pos a, if_pos b, if_pos c, decide_eq_true a, decide_eq_true b, decide_eq_true c]; rfl
        · rw [if_pos a, if_pos b, if_neg c, decide_eq_true a, decide_eq_true b, decide_eq_false c]; rfl
      · rw [if_pos a, if_neg b, decide_eq_true a, decide_eq_false b]; rfl
    · rw [if_neg a, decide_eq_false a]; rfl
  have e4 : ∀ s t u, interregnumref05_GoodAttrs.j4 (k + 1) (i : Int) s t u o p nx md pr l5 l r.f0 r.f1 r.f2 = interregnumref05_GoodAttrs.j5 k (i : Int) (!(s || t || u) || (decide ((i : Int) > 0) && decide ((rd_T73 l (wrap64 ((i : Int) - 1))).f1 ≥ r.f1))) o p nx md pr l5 l := by
    intro s t u
    conv => lhs; unfold interregnumref05_GoodAttrs.j4
    have go : (if (i : Int) > 0 then (if 0 ≤ (wrap64 ((i : Int) - 1)) then (if (wrap64 ((i : Int) - 1)) < (l.length : Int) then (interregnumref05_GoodAttrs.j5 k (i : Int) (decide ((rd_T73 l (wrap64 ((i : Int) - 1))).f1 ≥ r.f1)) o p nx md pr l5 l) else none) else none) else (interregnumref05_GoodAttrs.j5 k (i : Int) false o p nx md pr l5 l)) = interregnumref05_GoodAttrs.j5 k (i : Int) (decide ((i : Int) > 0) && decide ((rd_T73 l (wrap64 ((i : Int) - 1))).f1 ≥ r.f1)) o p nx md pr l5 l := by
      by_cases hi0 : (i : Int) > 0
      · have hw : wrap64 ((i : Int) - 1) = (i : Int) - 1 := w64 _ (by omega) (by omega)
        rw [if_pos hi0, hw, if_pos (by omega), if_pos (by omega), decide_eq_true hi0]; rfl
      · rw [if_neg hi0, decide_eq_false hi0]; rfl
    rw [go]
    cases s <;> cases t <;> cases u <;> rfl
  rw [e1, e2, e3, e4]
  unfold badB rawB
  rw [← hr]
/-- Are the numbers of attributes within their bounds? -/
def inB (md pr : Int) : Bool := decide (md ≥ -1) && decide (md ≤ 4294967295) && decide (pr ≥ -1) && decide (pr ≤ 4294967295)
theorem raws_eq (l : List RawS) (o : Int) (p : List Seg) (nx md pr : Int) (l5 : List Int) (hl : l.length < 4611686018427387903) (d : Nat) : ∀ (i k m : Nat), i + d = l.length → 2 * d < k → 6 * d < m → ∃ b, attr_Good.l0 k l (l.length : Int) (i : Int) o p nx md pr l5 l = some (b && inB md pr) ∧ interregnumref05_GoodAttrs.l0 m (i : Int) o p nx md pr l5 l = some b := by
  induction d with
  | zero =>
    intro i k m hi hk hm
    obtain ⟨k, rfl⟩ : ∃ m, k = m + 1 := ⟨k - 1, by omega⟩
    obtain ⟨m, rfl⟩ : ∃ n, m = n + 1 := ⟨m - 1, by omega⟩
    refine ⟨true, ?_, ?_⟩
    · unfold attr_Good.l0
      rw [if_neg (by omega)]
      unfold inB
      by_cases a : md ≥ -1
      · by_cases b : md ≤ 4294967295
        · by_cases c : pr ≥ -1
          · rw [if_pos a, if_pos b, if_pos c, decide_eq_true a, decide_eq_true b, decide_eq_true c]; rfl
          · rw [if_pos a, if_pos b, if_neg c, decide_eq_true a, decide_eq_true b, decide_eq_false c]; rfl
        · rw [if_pos a, if_neg b, decide_eq_true a, decide_eq_false b]; rfl
      · rw [if_neg a, decide_eq_false a]; rfl
    · unfold interregnumref05_GoodAttrs.l0
      rw [if_neg (by omega)]
  | succ d ih =>
    intro i k m hi hk hm
    obtain ⟨k, rfl⟩ : ∃ m, k = m + 2 := ⟨k - 2, by omega⟩
    obtain ⟨m, rfl⟩ : ∃ n, m = n + 1 + 4 := ⟨m - 5, by omega⟩
    rw [good_step l o p nx md pr l5 hl i (by omega) (k + 1), ref_step l o p nx md pr l5 hl i (by omega) (m + 1)]
    unfold attr_Good.j2 interregnumref05_GoodAttrs.j5
    cases badB l (i : Int) with
    | true => exact ⟨false, rfl, rfl⟩
    | false =>
      rw [if_neg (by simp), if_neg (by simp), wn i (by omega)]
      exact ih (i + 1) k m (by omega) (by omega) (by omega)
theorem good_eq (o : Int) (p : List Seg) (nx md pr : Int) (l5 : List Int) (l6 : List RawS) (hl : l6.length < 4611686018427387903) (hp : p.length < 4611686018427387904) (ht : tot p < 4611686018427387904) (k : Nat) (hk : 6 * l6.length + 3 * p.length + tot p + 10 < k) :
    ∃ b, attr_Good.f k o p nx md pr l5 l6 = some b ∧ interregnumref05_GoodAttrs.f k o p nx md pr l5 l6 = some b := by
  obtain ⟨k, rfl⟩ : ∃ m, k = m + 1 := ⟨k - 1, by omega⟩
  have no : attr_Good.j0 (k + 1) true o p nx md pr l5 l6 = some false ∧ interregnumref05_GoodAttrs.j0 (k + 1) true o p nx md pr l5 l6 = some false := ⟨rfl, rfl⟩
  have go : ∀ c, ∃ b, attr_Good.j0 (k + 1) c o p nx md pr l5 l6 = some (b && inB md pr) ∧ interregnumref05_GoodAttrs.j0 (k + 1) c o p nx md pr l5 l6 = some b := by
    intro c
    cases c with
    | true => exact ⟨false, rfl, rfl⟩
    | false => exact raws_eq l6 o p nx md pr l5 hl l6.length 0 k k (by omega) (by omega) (by omega)
  unfold attr_Good.f interregnumref05_GoodAttrs.f
  by_cases h0 : o < 0
  · rw [if_pos h0, if_pos h0]; exact ⟨false, no⟩
  rw [if_neg h0, if_neg h0]
  by_cases h2 : o > 2
  · rw [if_pos h2, if_pos h2]; exact ⟨false, no⟩
  rw [if_neg h2, if_neg h2, GoodPath p hp (k + 1) (by omega) ht]
  have e : path_Good.f p = some (path_Good.g p 0) := rfl
  rw [e, Option.bind_some, Option.bind_some]
  cases path_Good.g p 0 with
  | false => rw [if_neg (by simp), if_neg (by simp)]; exact ⟨false, no⟩
  | true =>
    rw [if_pos rfl, if_pos rfl]
    have eh : attr_Hop.f nx = interregnumref05_Hop.f nx := rfl
    obtain ⟨h, hh⟩ : ∃ h, interregnumref05_Hop.f nx = some h := by
      unfold interregnumref05_Hop.f
      repeat' split
      all_goals exact ⟨_, rfl⟩
    rw [eh, hh, Option.bind_some, Option.bind_some]
    cases h with
    | false => rw [if_neg (by simp), if_neg (by simp)]; exact ⟨false, no⟩
    | true =>
      rw [if_pos rfl, if_pos rfl]
      obtain ⟨b, g1, g2⟩ := go (decide ((l5.length : Int) > 32))
      rw [g1]
      by_cases a1 : md < -1
      · rw [if_pos a1]; exact ⟨false, by unfold inB; rw [decide_eq_false (by omega)]; simp, no.2⟩
      rw [if_neg a1]
      by_cases a2 : md > 4294967295
      · rw [if_pos a2]; exact ⟨false, by unfold inB; rw [decide_eq_false (p := md ≤ 4294967295) (by omega)]; simp, no.2⟩
      rw [if_neg a2]
      by_cases a3 : pr < -1
      · rw [if_pos a3]; exact ⟨false, by unfold inB; rw [decide_eq_false (p := pr ≥ -1) (by omega)]; simp, no.2⟩
      rw [if_neg a3]
      by_cases a4 : pr > 4294967295
      · rw [if_pos a4]; exact ⟨false, by unfold inB; rw [decide_eq_false (p := pr ≤ 4294967295) (by omega)]; simp, no.2⟩
      rw [if_neg a4, g2]
      exact ⟨b, by unfold inB; rw [decide_eq_true (by omega), decide_eq_true (by omega), decide_eq_true (by omega), decide_eq_true (by omega)]; simp, rfl⟩
theorem Same01_l0 (l : List Int) (hl : l.length < 4611686018427387903) (d : Nat) : ∀ (i k : Nat), i + d = l.length → d < k → interregnumref01_Same.l0 k l l (i : Int) = some true := by
  induction d with
  | zero =>
    intro i k hi hk
    obtain ⟨k, rfl⟩ : ∃ m, k = m + 1 := ⟨k - 1, by omega⟩
    unfold interregnumref01_Same.l0
    rw [if_neg (by omega)]
  | succ d ih =>
    intro i k hi hk
    obtain ⟨k, rfl⟩ : ∃ m, k = m + 1 := ⟨k - 1, by omega⟩
    unfold interregnumref01_Same.l0
    rw [if_pos (by omega), if_pos (by omega), if_pos (by omega), if_pos rfl, wn i (by omega)]
    exact ih (i + 1) k (by omega) (by omega)
theorem Same01 (l : List Int) (hl : l.length < 4611686018427387903) (k : Nat) (hk : l.length < k) : interregnumref01_Same.f k l l = some true := by
  unfold interregnumref01_Same.f
  rw [if_pos rfl]
  exact Same01_l0 l hl l.length 0 k (by omega) hk
theorem SameA_l1 (o : Int) (p : List Seg) (nx md pr : Int) (l5 : List Int) (l6 : List RawS) (hl : l6.length < 4611686018427387903) (hy : ∀ y ∈ l6, y.f2.length < 4611686018427387903) (d : Nat) : ∀ (i k : Nat), i + d = l6.length → 2 * d + totR (l6.drop i) < k → interregnumref05_SameAttrs.l1 k (i : Int) o p nx md pr l5 l6 o p nx md pr l5 l6 = some true := by
  induction d with
  | zero =>
    intro i k hi hk
    obtain ⟨k, rfl⟩ : ∃ m, k = m + 1 := ⟨k - 1, by omega⟩
    unfold interregnumref05_SameAttrs.l1
    rw [if_neg (by omega)]
  | succ d ih =>
    intro i k hi hk
    have hlt : i < l6.length := by omega
    rw [totR_drop l6 i hlt] at hk
    obtain ⟨k, rfl⟩ : ∃ m, k = m + 2 := ⟨k - 2, by omega⟩
    have hm := hy l6[i] (List.getElem_mem hlt)
    unfold interregnumref05_SameAttrs.l1
    rw [if_pos (by omega), if_pos (by omega), if_pos (by omega), if_pos rfl, if_pos rfl, raw_at l6 i hlt, Same01 _ hm (k + 1) (by omega), Option.bind_some]
    unfold interregnumref05_SameAttrs.j3
    rw [if_neg (by simp), wn i (by omega)]
    exact ih (i + 1) k (by omega) (by omega)
theorem SameA_l0 (o : Int) (p : List Seg) (nx md pr : Int) (l5 : List Int) (l6 : List RawS) (h5 : l5.length < 4611686018427387903) (K : Nat) (hend : ∀ k, K < k → interregnumref05_SameAttrs.l1 k 0 o p nx md pr l5 l6 o p nx md pr l5 l6 = some true) (d : Nat) : ∀ (i k : Nat), i + d = l5.length → d + K + 1 < k → interregnumref05_SameAttrs.l0 k (i : Int) o p nx md pr l5 l6 o p nx md pr l5 l6 = some true := by
  induction d with
  | zero =>
    intro i k hi hk
    obtain ⟨k, rfl⟩ : ∃ m, k = m + 1 := ⟨k - 1, by omega⟩
    unfold interregnumref05_SameAttrs.l0
    rw [if_neg (by omega)]
    exact hend k (by omega)
  | succ d ih =>
    intro i k hi hk
    obtain ⟨k, rfl⟩ : ∃ m, k = m + 1 := ⟨k - 1, by omega⟩
    unfold interregnumref05_SameAttrs.l0
    rw [if_pos (by omega), if_pos (by omega), if_pos (by omega), if_pos rfl, wn i (by omega)]
    exact ih (i + 1) k (by omega) (by omega)
theorem SameA (o : Int) (p : List Seg) (nx md pr : Int) (l5 : List Int) (l6 : List RawS) (h5 : l5.length < 4611686018427387903) (hl : l6.length < 4611686018427387903) (hr : totR l6 < 4611686018427387903) (hp : p.length < 4611686018427387904) (ht : tot p < 4611686018427387904) (k : Nat) (hk : 3 * p.length + tot p + l5.length + 2 * l6.length + totR l6 + 10 < k) :
    interregnumref05_SameAttrs.f k o p nx md pr l5 l6 o p nx md pr l5 l6 = some true := by
  unfold interregnumref05_SameAttrs.f
  rw [if_pos rfl, SameP p hp ht k (by omega), Option.bind_some, if_pos rfl, if_pos rfl, if_pos rfl, if_pos rfl, if_pos rfl]
  obtain ⟨k, rfl⟩ : ∃ m, k = m + 1 := ⟨k - 1, by omega⟩
  rw [show ((l6.length : Int) != (l6.length : Int)) = false from by simp]
  exact SameA_l0 o p nx md pr l5 l6 h5 (2 * l6.length + totR l6) (fun k hk => SameA_l1 o p nx md pr l5 l6 hl (fun y h => by have := totR_mem l6 y h; omega) l6.length 0 k (by omega) (by rw [List.drop_zero]; exact hk)) l5.length 0 k (by omega) (by omega)
end Go.Proofs.Ytjdebhkdbdbepaa.PathExportTells
