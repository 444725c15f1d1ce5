/- Plain facts of paths, and what the small functions of them compute; for the statement PathPrepends. -/
import Derived.Test.YtpkckkmgnlhhcaaPPathPrependsx
import Derived.Test.YtpkckkmgnlhhcaaPre
namespace Go.Proofs.Ytpkckkmgnlhhcaa.PathPathPrepends
open Go.RowKit Go.Proofs.Ytpkckkmgnlhhcaa.PPathPrepends Go.Proofs.YtpkckkmgnlhhcaaW.PrintWords Go.Proofs.YtpkckkmgnlhhcaaW.PrintLast Go.Proofs.YtpkckkmgnlhhcaaW.PrintMore Go.Proofs.Ytpkckkmgnlhhcaa.Pre
set_option linter.unusedVariables false
abbrev Seg := S38
theorem wf_i64 {x : Int} (h : (Lit.int .i64 x).wf = true) : -9223372036854775808 ≤ x ∧ x ≤ 9223372036854775807 := by
  simpa [Lit.wf, IntKind.min, IntKind.max, IntKind.signed, IntKind.bits] using h
theorem rd_at (l : List Int) (i : Nat) (h : i < l.length) : rd l (i : Int) = l[i] := by
  unfold Go.Proofs.YtpkckkmgnlhhcaaW.PrintWords.rd
  rw [List.getD_eq_getElem?_getD, Int.toNat_natCast, List.getElem?_eq_getElem h]
  rfl
theorem seg_at (l : List Seg) (i : Nat) (h : i < l.length) : rd_T38 l (i : Int) = l[i] := by
  unfold rd_T38
  rw [List.getD_eq_getElem?_getD, Int.toNat_natCast, List.getElem?_eq_getElem h]
  rfl
theorem wn (i : Nat) (h : i < 4611686018427387903) : wrap64 ((i : Int) + 1) = ((i + 1 : Nat) : Int) := by
  rw [w64 ((i : Int) + 1) (by omega) (by omega)]; omega
/-- how many numbers the pieces hold -/
def tot : List Seg → Nat
  | [] => 0
  | s :: l => s.f1.length + tot l
theorem drop_seg (l : List Seg) (i : Nat) (h : i < l.length) : l.drop i = l[i] :: l.drop (i + 1) := List.drop_eq_getElem_cons h
theorem drop_int (l : List Int) (i : Nat) (h : i < l.length) : l.drop i = l[i] :: l.drop (i + 1) := List.drop_eq_getElem_cons h
theorem tot_drop (l : List Seg) (i : Nat) (h : i < l.length) : tot (l.drop i) = l[i].f1.length + tot (l.drop (i + 1)) := by rw [drop_seg l i h]; rfl
theorem tot_mem (l : List Seg) (s : Seg) (h : s ∈ l) : s.f1.length ≤ tot l := by
  induction l with
  | nil => cases h
  | cons x l ih =>
    rcases List.mem_cons.1 h with rfl | h
    · unfold tot; omega
    · have := ih h; unfold tot; omega
theorem answers (k : Nat) (hk : 40 ≤ k) : interregnumlaw06_answers.f k = some true :=
  at_rounds interregnumlaw06_answers.mono hk (by decide +kernel)
theorem small_l0 (l : List Seg) (hl : l.length < 4611686018427387904) (hy : ∀ y ∈ l, y.f1.length < 70368744177664) (d : Nat) : ∀ (i k : Nat) (n : Int), i + d = l.length → d < k → 0 ≤ n → n < 4611686018427387904 →
    interregnumlaw06_small.l0 k l n i = some (decide (n + tot (l.drop i) < 3000)) := by
  induction d with
  | zero =>
    intro i k n hi hk h0 hn
    obtain ⟨k, rfl⟩ : ∃ m, k = m + 1 := ⟨k - 1, by omega⟩
    conv => lhs; unfold interregnumlaw06_small.l0
    rw [if_neg (by omega), List.drop_of_length_le (by omega)]
    simp [tot]
  | succ d ih =>
    intro i k n hi hk h0 hn
    obtain ⟨k, rfl⟩ : ∃ m, k = m + 1 := ⟨k - 1, by omega⟩
    have hlt : i < l.length := by omega
    conv => lhs; unfold interregnumlaw06_small.l0
    rw [if_pos (by omega), tot_drop l i hlt]
    have hm := hy l[i] (List.getElem_mem hlt)
    by_cases h3 : n < 3000
    · rw [if_pos h3, if_pos (by omega), seg_at l i hlt, w64 (n + _) (by omega) (by omega), w64 ((i : Int) + 1) (by omega) (by omega), show (i : Int) + 1 = ((i + 1 : Nat) : Int) by omega, ih (i + 1) k _ (by omega) (by omega) (by omega) (by omega)]
      congr 2
      simp only [eq_iff_iff]
      omega
    · rw [if_neg h3]
      congr 2
      simp only [eq_iff_iff]
      omega
theorem Small (l : List Seg) (hl : l.length * 32 ≤ 140737488351232) (hy : ∀ y ∈ l, y.f1.length * 8 ≤ 140737488351232) (k : Nat) (hk : l.length < k) :
    interregnumlaw06_small.f k l = some (decide (l.length + tot l < 3000)) := by
  unfold interregnumlaw06_small.f
  have := small_l0 l (by omega) (fun y h => by have := hy y h; omega) l.length 0 k l.length (by omega) hk (by omega) (by omega)
  rw [show ((0 : Nat) : Int) = 0 from rfl] at this
  rw [this, List.drop_zero]
  congr 2
  simp only [eq_iff_iff]
  omega
end Go.Proofs.Ytpkckkmgnlhhcaa.PathPathPrepends
