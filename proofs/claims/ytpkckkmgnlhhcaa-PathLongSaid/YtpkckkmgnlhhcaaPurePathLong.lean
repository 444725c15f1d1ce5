/- How long a path may be, in pieces of any width; the plain part of the proof. Conditions: none. -/
import Derived.Test.YtpkckkmgnlhhcaaPathDPathLong
namespace Go.Proofs.Ytpkckkmgnlhhcaa.Pure
open Go.RowKit Go.Proofs.Ytpkckkmgnlhhcaa.PPathLong Go.Proofs.YtpkckkmgnlhhcaaW.PrintWords Go.Proofs.YtpkckkmgnlhhcaaW.PrintLast Go.Proofs.YtpkckkmgnlhhcaaW.PrintMore Go.Proofs.Ytpkckkmgnlhhcaa.Pre Go.Proofs.Ytpkckkmgnlhhcaa Go.Proofs.Ytpkckkmgnlhhcaa.PathPathLong
namespace PathLong_
mutual
/-- the path that the law builds -/
def b0 : Nat → Bool → Int → Int → List Seg → Int → Option (List Seg)
  | 0, _, _, _, _, _ => none
  | k + 1, s, n, m, acc, i => if i < n then b1 k s n m acc i 0 [] else some acc
def b1 : Nat → Bool → Int → Int → List Seg → Int → Int → List Int → Option (List Seg)
  | 0, _, _, _, _, _, _, _ => none
  | k + 1, s, n, m, acc, i, j, xs => if j < m then (if wrap64 (i + j) < n then (if xs.length < 17592186044416 then b1 k s n m acc i (wrap64 (j + 1)) (xs ++ [wrap64 (j + 1)]) else none) else (if acc.length < 4398046511104 then b0 k s n m (acc ++ [⟨s, xs⟩]) (wrap64 (i + m)) else none)) else (if acc.length < 4398046511104 then b0 k s n m (acc ++ [⟨s, xs⟩]) (wrap64 (i + m)) else none)
end
/-- how long it is then -/
def v (s : Bool) (n m : Int) : Int := if s = true then wrap64 (Int.tdiv (wrap64 (wrap64 (n + m) - 1)) m) else n
theorem reach (K : Nat) (s : Bool) (n m : Int) (hm : m ≠ 0) (L : List Seg) (hj : ∀ k, K ≤ k → interregnumlaw06_PathLong.j2 k n L (v s n m) = some true) (k : Nat) :
    (∀ acc i, b0 k s n m acc i = some L → interregnumlaw06_PathLong.l0 (K + k) s n m acc i = some true) ∧
    (∀ acc i j xs, b1 k s n m acc i j xs = some L → interregnumlaw06_PathLong.l1 (K + k) s n m acc i j s xs = some true) := by
  induction k with
  | zero => exact ⟨fun acc i h => by simp [b0] at h, fun acc i j xs h => by simp [b1] at h⟩
  | succ k ih =>
    refine ⟨fun acc i h => ?_, fun acc i j xs h => ?_⟩
    · rw [show K + (k + 1) = (K + k) + 1 by omega]
      unfold interregnumlaw06_PathLong.l0
      unfold b0 at h
      by_cases hi : i < n
      · rw [if_pos hi] at h ⊢
        exact ih.2 _ _ _ _ h
      · rw [if_neg hi] at h ⊢
        simp only [Option.some.injEq] at h
        subst h
        have hv := hj (K + k) (by omega)
        unfold v at hv
        split
        · rename_i hs
          rw [if_pos hs] at hv
          first | exact hv | (rw [if_neg hm]; exact hv)
        · rename_i hs
          rw [if_neg hs] at hv
          exact hv
    · rw [show K + (k + 1) = (K + k) + 1 by omega]
      unfold interregnumlaw06_PathLong.l1
      unfold b1 at h
      split at h
      · rename_i h1
        rw [if_pos h1]
        split at h
        · rename_i h2
          rw [if_pos h2]
          split at h
          · rename_i h3
            rw [if_pos h3]; exact ih.2 _ _ _ _ h
          · cases h
        · rename_i h2
          rw [if_neg h2]
          split at h
          · rename_i h3
            rw [if_pos h3]; exact ih.1 _ _ h
          · cases h
      · rename_i h1
        rw [if_neg h1]
        split at h
        · rename_i h3
          rw [if_pos h3]; exact ih.1 _ _ h
        · cases h
def check (s : Bool) (n m : Int) : Bool := match b0 300 s n m [] 0 with
  | none => false
  | some L => path_Good.g L 0 == decide (n ≤ 64) && path_Length.f 100 L == some (v s n m) && decide (L.length ≤ 99) && decide (tot L ≤ 99)
set_option maxRecDepth 100000 in
theorem checked : ∀ (n : Fin 70) (m : Fin 9), check true n.val (m.val + 1) = true ∧ check false n.val (m.val + 1) = true := by decide +kernel
theorem wf_u8 {x : Int} (h : (Lit.int .u8 x).wf = true) : 0 ≤ x ∧ x < 256 := by
  simp [Lit.wf, IntKind.min, IntKind.max, IntKind.signed, IntKind.bits] at h
  omega
end PathLong_
open PathLong_ in
theorem PathLong : interregnumlaw06_PathLong.Pure := by
  intro a b s ha hb
  have ha := PathLong_.wf_u8 ha
  have hb := PathLong_.wf_u8 hb
  refine ⟨10000 + 300, ?_⟩
  unfold interregnumlaw06_PathLong.f
  rw [Int.tmod_eq_emod_of_nonneg ha.1, Int.tmod_eq_emod_of_nonneg hb.1, w64 (a % 70) (by omega) (by omega), w64 (b % 9) (by omega) (by omega), w64 (b % 9 + 1) (by omega) (by omega)]
  obtain ⟨n, hn⟩ := Int.eq_ofNat_of_zero_le (show 0 ≤ a % 70 by omega)
  obtain ⟨m, hm⟩ := Int.eq_ofNat_of_zero_le (show 0 ≤ b % 9 by omega)
  rw [hn, hm]
  have hc : check s n ((m : Int) + 1) = true := by
    have := checked ⟨n, by omega⟩ ⟨m, by omega⟩
    cases s
    · exact this.2
    · exact this.1
  unfold check at hc
  split at hc
  · cases hc
  · rename_i L hL
    simp only [Bool.and_eq_true, beq_iff_eq, decide_eq_true_eq] at hc
    obtain ⟨⟨⟨hg, hlen⟩, h1⟩, h2⟩ := hc
    refine (reach 10000 s n ((m : Int) + 1) (by omega) L ?_ 300).1 [] 0 hL
    intro k hk
    obtain ⟨k, rfl⟩ : ∃ q, k = q + 1 := ⟨k - 1, by omega⟩
    rw [interregnumlaw06_PathLong.j2, Encode L (by omega) (by omega) k (by omega), Option.bind_some, answers k (by omega), at_rounds (path_Length.mono L) (k' := k) (by omega) hlen, show path_Good.f L = some (path_Good.g L 0) from rfl]
    simp only [Option.bind_some, if_true]
    by_cases h : path_Good.g L 0 = true
    · rw [if_pos h, Back L (by omega) (by omega) h k (by omega)]
      have hn64 : (n : Int) ≤ 64 := by simpa [h] using hg.symm
      simp only [Option.bind_some]
      rw [hg, if_pos (by simp), if_pos trivial, if_neg (by omega), SameP L (by omega) (by omega) k (by omega)]
      rfl
    · have hf : path_Good.g L 0 = false := by simpa using h
      have hn64 : ¬ (n : Int) ≤ 64 := by simpa [hf] using hg.symm
      have hd : path_Decode.f k [] = some ([], true) := by
        rw [Decode [] (fun x hx => by cases hx) (by rw [List.length_nil]; omega) k (by rw [List.length_nil]; omega)]
        rfl
      rw [if_neg h, hd]
      simp only [Option.bind_some]
      rw [hg, if_pos (by simp), if_pos trivial, if_pos (by omega)]
      rfl
end Go.Proofs.Ytpkckkmgnlhhcaa.Pure
