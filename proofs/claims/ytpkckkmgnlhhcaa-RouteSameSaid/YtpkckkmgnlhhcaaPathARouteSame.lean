/- Plain facts of paths, and what the small functions of them compute; for the statement RouteSame. -/
import Derived.Test.YtpkckkmgnlhhcaaPRouteSamex
import Derived.Test.YtpkckkmgnlhhcaaPre
namespace Go.Proofs.Ytpkckkmgnlhhcaa.PathRouteSame
open Go.RowKit Go.Proofs.Ytpkckkmgnlhhcaa.PRouteSame Go.Proofs.YtpkckkmgnlhhcaaW.PrintWords Go.Proofs.YtpkckkmgnlhhcaaW.PrintLast Go.Proofs.YtpkckkmgnlhhcaaW.PrintMore Go.Proofs.Ytpkckkmgnlhhcaa.Pre
set_option linter.unusedVariables false
abbrev Seg := S38
theorem wf_i64 {x : Int} (h : (Lit.int .i64 x).wf = true) : -9223372036854775808 ≤ x ∧ x ≤ 9223372036854775807 := by
  simpa [Lit.wf, IntKind.min, IntKind.max, IntKind.signed, IntKind.bits] using h
theorem rd_at (l : List Int) (i : Nat) (h : i < l.length) : rd l (i : Int) = l[i] := by
  unfold Go.Proofs.YtpkckkmgnlhhcaaW.PrintWords.rd
  rw [List.getD_eq_getElem?_getD, Int.toNat_natCast, List.getElem?_eq_getElem h]
  rfl
theorem seg_at (l : List Seg) (i : Nat) (h : i < l.length) : rd_T38 l (i : Int) = l[i] := by
  unfold rd_T38
  rw [List.getD_eq_getElem?_getD, Int.toNat_natCast, List.getElem?_eq_getElem h]
  rfl
theorem wn (i : Nat) (h : i < 4611686018427387903) : wrap64 ((i : Int) + 1) = ((i + 1 : Nat) : Int) := by
  rw [w64 ((i : Int) + 1) (by omega) (by omega)]; omega
/-- how many numbers the pieces hold -/
def tot : List Seg → Nat
  | [] => 0
  | s :: l => s.f1.length + tot l
theorem drop_seg (l : List Seg) (i : Nat) (h : i < l.length) : l.drop i = l[i] :: l.drop (i + 1) := List.drop_eq_getElem_cons h
theorem drop_int (l : List Int) (i : Nat) (h : i < l.length) : l.drop i = l[i] :: l.drop (i + 1) := List.drop_eq_getElem_cons h
theorem tot_drop (l : List Seg) (i : Nat) (h : i < l.length) : tot (l.drop i) = l[i].f1.length + tot (l.drop (i + 1)) := by rw [drop_seg l i h]; rfl
theorem tot_mem (l : List Seg) (s : Seg) (h : s ∈ l) : s.f1.length ≤ tot l := by
  induction l with
  | nil => cases h
  | cons x l ih =>
    rcases List.mem_cons.1 h with rfl | h
    · unfold tot; omega
    · have := ih h; unfold tot; omega
theorem Has_l0 (l : List Seg) (a : Int) (hl : l.length < 4611686018427387904) (hy : ∀ y ∈ l, y.f1.length < 4611686018427387904) (d : Nat) : ∀ (i k : Nat), i + d = l.length → 2 * d + tot (l.drop i) < k →
    interregnumref05_HasAS.l0 k l a i = some ((l.drop i).any (segHas a)) := by
  induction d with
  | zero =>
    intro i k hi hk
    obtain ⟨k, rfl⟩ : ∃ m, k = m + 1 := ⟨k - 1, by omega⟩
    conv => lhs; unfold interregnumref05_HasAS.l0
    rw [if_neg (by omega), List.drop_of_length_le (by omega)]
    rfl
  | succ d ih =>
    intro i k hi hk
    obtain ⟨k, rfl⟩ : ∃ m, k = m + 1 := ⟨k - 1, by omega⟩
    have hlt : i < l.length := by omega
    have hm := hy l[i] (List.getElem_mem hlt)
    rw [tot_drop l i hlt] at hk
    conv => lhs; unfold interregnumref05_HasAS.l0
    rw [if_pos (by omega), drop_seg l i hlt, List.any_cons]
    have inner : ∀ (e j k : Nat), j + e = l[i].f1.length → 2 * d + tot (l.drop (i + 1)) + e + 1 < k →
        interregnumref05_HasAS.l1 k l a i j = some ((l[i].f1.drop j).any (a == ·) || (l.drop (i + 1)).any (segHas a)) := by
      intro e
      induction e with
      | zero =>
        intro j k hj hk
        obtain ⟨k, rfl⟩ : ∃ m, k = m + 1 := ⟨k - 1, by omega⟩
        conv => lhs; unfold interregnumref05_HasAS.l1
        rw [if_pos (by omega), if_pos (by omega), seg_at l i hlt, if_neg (by omega), w64 ((i : Int) + 1) (by omega) (by omega), show (i : Int) + 1 = ((i + 1 : Nat) : Int) by omega, ih (i + 1) k (by omega) (by omega), List.drop_of_length_le (l := l[i].f1) (i := j) (by omega), List.any_nil, Bool.false_or]
      | succ e ihe =>
        intro j k hj hk
        obtain ⟨k, rfl⟩ : ∃ m, k = m + 1 := ⟨k - 1, by omega⟩
        have hjt : j < l[i].f1.length := by omega
        conv => lhs; unfold interregnumref05_HasAS.l1
        rw [if_pos (by omega), if_pos (by omega), seg_at l i hlt, if_pos (by omega), if_pos (by omega), rd_at _ j hjt, drop_int _ j hjt, List.any_cons]
        by_cases h : l[i].f1[j] = a
        · rw [if_pos h, h, beq_self_eq_true, Bool.true_or, Bool.true_or]
        · rw [if_neg h, w64 ((j : Int) + 1) (by omega) (by omega), show (j : Int) + 1 = ((j + 1 : Nat) : Int) by omega, ihe (j + 1) k (by omega) (by omega), show (a == l[i].f1[j]) = false from by simpa using fun h' => h h'.symm, Bool.false_or]
    have := inner l[i].f1.length 0 k (by omega) (by omega)
    rw [show ((0 : Nat) : Int) = 0 from rfl, List.drop_zero] at this
    exact this
theorem HasAS (l : List Seg) (a : Int) (hl : l.length < 4611686018427387904) (hy : ∀ y ∈ l, y.f1.length < 4611686018427387904) (k : Nat) (hk : 2 * l.length + tot l < k) : interregnumref05_HasAS.f k l a = path_Has.f l a := by
  have := Has_l0 l a hl hy l.length 0 k (by omega) (by rw [List.drop_zero]; exact hk)
  exact this
end Go.Proofs.Ytpkckkmgnlhhcaa.PathRouteSame
