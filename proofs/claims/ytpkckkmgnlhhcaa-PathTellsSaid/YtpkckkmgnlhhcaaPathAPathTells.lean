/- Plain facts of paths, and what the small functions of them compute; for the statement PathTells. -/
import Derived.Test.YtpkckkmgnlhhcaaPPathTellsx
import Derived.Test.YtpkckkmgnlhhcaaPre
namespace Go.Proofs.Ytpkckkmgnlhhcaa.PathPathTells
open Go.RowKit Go.Proofs.Ytpkckkmgnlhhcaa.PPathTells Go.Proofs.YtpkckkmgnlhhcaaW.PrintWords Go.Proofs.YtpkckkmgnlhhcaaW.PrintLast Go.Proofs.YtpkckkmgnlhhcaaW.PrintMore Go.Proofs.Ytpkckkmgnlhhcaa.Pre
set_option linter.unusedVariables false
abbrev Seg := S38
theorem wf_i64 {x : Int} (h : (Lit.int .i64 x).wf = true) : -9223372036854775808 ≤ x ∧ x ≤ 9223372036854775807 := by
  simpa [Lit.wf, IntKind.min, IntKind.max, IntKind.signed, IntKind.bits] using h
theorem rd_at (l : List Int) (i : Nat) (h : i < l.length) : rd l (i : Int) = l[i] := by
  unfold Go.Proofs.YtpkckkmgnlhhcaaW.PrintWords.rd
  rw [List.getD_eq_getElem?_getD, Int.toNat_natCast, List.getElem?_eq_getElem h]
  rfl
theorem seg_at (l : List Seg) (i : Nat) (h : i < l.length) : rd_T38 l (i : Int) = l[i] := by
  unfold rd_T38
  rw [List.getD_eq_getElem?_getD, Int.toNat_natCast, List.getElem?_eq_getElem h]
  rfl
/-- how many numbers the pieces hold -/
def tot : List Seg → Nat
  | [] => 0
  | s :: l => s.f1.length + tot l
theorem drop_seg (l : List Seg) (i : Nat) (h : i < l.length) : l.drop i = l[i] :: l.drop (i + 1) := List.drop_eq_getElem_cons h
theorem drop_int (l : List Int) (i : Nat) (h : i < l.length) : l.drop i = l[i] :: l.drop (i + 1) := List.drop_eq_getElem_cons h
theorem tot_drop (l : List Seg) (i : Nat) (h : i < l.length) : tot (l.drop i) = l[i].f1.length + tot (l.drop (i + 1)) := by rw [drop_seg l i h]; rfl
theorem tot_mem (l : List Seg) (s : Seg) (h : s ∈ l) : s.f1.length ≤ tot l := by
  induction l with
  | nil => cases h
  | cons x l ih =>
    rcases List.mem_cons.1 h with rfl | h
    · unfold tot; omega
    · have := ih h; unfold tot; omega
theorem answers (k : Nat) (hk : 40 ≤ k) : interregnumlaw06_answers.f k = some true :=
  at_rounds interregnumlaw06_answers.mono hk (by decide +kernel)
theorem small_l0 (l : List Seg) (hl : l.length < 4611686018427387904) (hy : ∀ y ∈ l, y.f1.length < 70368744177664) (d : Nat) : ∀ (i k : Nat) (n : Int), i + d = l.length → d < k → 0 ≤ n → n < 4611686018427387904 →
    interregnumlaw06_small.l0 k l n i = some (decide (n + tot (l.drop i) < 3000)) := by
  induction d with
  | zero =>
    intro i k n hi hk h0 hn
    obtain ⟨k, rfl⟩ : ∃ m, k = m + 1 := ⟨k - 1, by omega⟩
    conv => lhs; unfold interregnumlaw06_small.l0
    rw [if_neg (by omega), List.drop_of_length_le (by omega)]
    simp [tot]
  | succ d ih =>
    intro i k n hi hk h0 hn
    obtain ⟨k, rfl⟩ : ∃ m, k = m + 1 := ⟨k - 1, by omega⟩
    have hlt : i < l.length := by omega
    conv => lhs; unfold interregnumlaw06_small.l0
    rw [if_pos (by omega), tot_drop l i hlt]
    have hm := hy l[i] (List.getElem_mem hlt)
    by_cases h3 : n < 3000
    · rw [if_pos h3, if_pos (by omega), seg_at l i hlt, w64 (n + _) (by omega) (by omega), w64 ((i : Int) + 1) (by omega) (by omega), show (i : Int) + 1 = ((i + 1 : Nat) : Int) by omega, ih (i + 1) k _ (by omega) (by omega) (by omega) (by omega)]
      congr 2
      simp only [eq_iff_iff]
      omega
    · rw [if_neg h3]
      congr 2
      simp only [eq_iff_iff]
      omega
theorem Small (l : List Seg) (hl : l.length * 32 ≤ 140737488351232) (hy : ∀ y ∈ l, y.f1.length * 8 ≤ 140737488351232) (k : Nat) (hk : l.length < k) :
    interregnumlaw06_small.f k l = some (decide (l.length + tot l < 3000)) := by
  unfold interregnumlaw06_small.f
  have := small_l0 l (by omega) (fun y h => by have := hy y h; omega) l.length 0 k l.length (by omega) hk (by omega) (by omega)
  rw [show ((0 : Nat) : Int) = 0 from rfl] at this
  rw [this, List.drop_zero]
  congr 2
  simp only [eq_iff_iff]
  omega
theorem Length_l0 (l : List Seg) (hl : l.length < 4611686018427387904) (d : Nat) : ∀ (i k : Nat) (n : Int), i + d = l.length → d < k →
    ∃ v, path_Length.l0 k n l (l.length : Int) i = some v ∧ interregnumref05_Length.l0 k l n i = some v := by
  induction d with
  | zero =>
    intro i k n hi hk
    obtain ⟨k, rfl⟩ : ∃ m, k = m + 1 := ⟨k - 1, by omega⟩
    refine ⟨n, ?_, ?_⟩
    · unfold path_Length.l0; rw [if_neg (by omega)]
    · unfold interregnumref05_Length.l0; rw [if_neg (by omega)]
  | succ d ih =>
    intro i k n hi hk
    obtain ⟨k, rfl⟩ : ∃ m, k = m + 1 := ⟨k - 1, by omega⟩
    unfold path_Length.l0 interregnumref05_Length.l0
    have e : wrap64 ((i : Int) + 1) = ((i + 1 : Nat) : Int) := by rw [w64 ((i : Int) + 1) (by omega) (by omega)]; omega
    by_cases h : (rd_T38 l (i : Int)).f0 = true
    · rw [if_pos (by omega), if_pos (by omega), if_pos (by omega), if_pos h, if_pos (by omega), if_pos (by omega), if_pos h, e]
      exact ih (i + 1) k _ (by omega) (by omega)
    · rw [if_pos (by omega), if_pos (by omega), if_pos (by omega), if_neg h, if_pos (by omega), if_pos (by omega), if_neg h, e]
      exact ih (i + 1) k _ (by omega) (by omega)
theorem Length (l : List Seg) (hl : l.length < 4611686018427387904) (k : Nat) (hk : l.length < k) : ∃ v, path_Length.f k l = some v ∧ interregnumref05_Length.f k l = some v :=
  Length_l0 l hl l.length 0 k 0 (by omega) hk
theorem First (l : List Seg) : ∃ p q, path_First.f l = some (p, q) ∧ interregnumref05_First.f l = some (p, q) := by
  have : ∃ p q, path_First.f l = some (p, q) := by
    unfold path_First.f
    repeat' split
    all_goals first | exact ⟨_, _, rfl⟩ | omega
  obtain ⟨p, q, h⟩ := this
  exact ⟨p, q, h, h⟩
theorem Has_l0 (l : List Seg) (a : Int) (hl : l.length < 4611686018427387904) (hy : ∀ y ∈ l, y.f1.length < 4611686018427387904) (d : Nat) : ∀ (i k : Nat), i + d = l.length → 2 * d + tot (l.drop i) < k →
    interregnumref05_HasAS.l0 k l a i = some ((l.drop i).any (segHas a)) := by
  induction d with
  | zero =>
    intro i k hi hk
    obtain ⟨k, rfl⟩ : ∃ m, k = m + 1 := ⟨k - 1, by omega⟩
    conv => lhs; unfold interregnumref05_HasAS.l0
    rw [if_neg (by omega), List.drop_of_length_le (by omega)]
    rfl
  | succ d ih =>
    intro i k hi hk
    obtain ⟨k, rfl⟩ : ∃ m, k = m + 1 := ⟨k - 1, by omega⟩
    have hlt : i < l.length := by omega
    have hm := hy l[i] (List.getElem_mem hlt)
    rw [tot_drop l i hlt] at hk
    conv => lhs; unfold interregnumref05_HasAS.l0
    rw [if_pos (by omega), drop_seg l i hlt, List.any_cons]
    have inner : ∀ (e j k : Nat), j + e = l[i].f1.length → 2 * d + tot (l.drop (i + 1)) + e + 1 < k →
        interregnumref05_HasAS.l1 k l a i j = some ((l[i].f1.drop j).any (a == ·) || (l.drop (i + 1)).any (segHas a)) := by
      intro e
      induction e with
      | zero =>
        intro j k hj hk
        obtain ⟨k, rfl⟩ : ∃ m, k = m + 1 := ⟨k - 1, by omega⟩
        conv => lhs; unfold interregnumref05_HasAS.l1
        rw [if_pos (by omega), if_pos (by omega), seg_at l i hlt, if_neg (by omega), w64 ((i : Int) + 1) (by omega) (by omega), show (i : Int) + 1 = ((i + 1 : Nat) : Int) by omega, ih (i + 1) k (by omega) (by omega), List.drop_of_length_le (l := l[i].f1) (i := j) (by omega), List.any_nil, Bool.false_or]
      | succ e ihe =>
        intro j k hj hk
        obtain ⟨k, rfl⟩ : ∃ m, k = m + 1 := ⟨k - 1, by omega⟩
        have hjt : j < l[i].f1.length := by omega
        conv => lhs; unfold interregnumref05_HasAS.l1
        rw [if_pos (by omega), if_pos (by omega), seg_at l i hlt, if_pos (by omega), if_pos (by omega), rd_at _ j hjt, drop_int _ j hjt, List.any_cons]
        by_cases h : l[i].f1[j] = a
        · rw [if_pos h, h, beq_self_eq_true, Bool.true_or, Bool.true_or]
        · rw [if_neg h, w64 ((j : Int) + 1) (by omega) (by omega), show (j : Int) + 1 = ((j + 1 : Nat) : Int) by omega, ihe (j + 1) k (by omega) (by omega), show (a == l[i].f1[j]) = false from by simpa using fun h' => h h'.symm, Bool.false_or]
    have := inner l[i].f1.length 0 k (by omega) (by omega)
    rw [show ((0 : Nat) : Int) = 0 from rfl, List.drop_zero] at this
    exact this
theorem HasAS (l : List Seg) (a : Int) (hl : l.length < 4611686018427387904) (hy : ∀ y ∈ l, y.f1.length < 4611686018427387904) (k : Nat) (hk : 2 * l.length + tot l < k) : interregnumref05_HasAS.f k l a = path_Has.f l a := by
  have := Has_l0 l a hl hy l.length 0 k (by omega) (by rw [List.drop_zero]; exact hk)
  exact this
end Go.Proofs.Ytpkckkmgnlhhcaa.PathPathTells
