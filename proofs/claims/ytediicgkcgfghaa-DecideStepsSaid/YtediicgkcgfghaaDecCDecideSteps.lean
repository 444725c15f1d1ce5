/- What is left of a list, step by step, told by a count of which the least are left; for the statement DecideSteps. -/
import Derived.Test.YtediicgkcgfghaaDecADecideSteps
namespace Go.Proofs.Ytediicgkcgfghaa.DecDecideSteps
open Go.RowKit Go.Proofs.Ytediicgkcgfghaa.PDecideSteps Go.Proofs.YtediicgkcgfghaaW.PrintWords Go.Proofs.YtediicgkcgfghaaW.PrintLast Go.Proofs.YtediicgkcgfghaaW.PrintMore Go.Proofs.Ytediicgkcgfghaa.Help
set_option linter.unusedVariables false
/-- The least of m and what follows. -/
def lowR (v : Int → Int) (m : Int) : List Int → Int
  | [] => m
  | n :: L => lowR v (if v n < m then v n else m) L
/-- Those of which the count is least. -/
def minF (v : Int → Int) (L : List Int) : List Int :=
  match L with
  | [] => []
  | x :: T => (x :: T).filter (fun n => decide (v n = lowR v (v x) (x :: T)))
theorem lowR_le (v : Int → Int) (L : List Int) : ∀ m, lowR v m L ≤ m ∧ ∀ n ∈ L, lowR v m L ≤ v n := by
  induction L with
  | nil => intro m; exact ⟨Int.le_refl _, fun n h => by cases h⟩
  | cons x L ih =>
    intro m
    unfold lowR
    obtain ⟨h1, h2⟩ := ih (if v x < m then v x else m)
    have h3 : (if v x < m then v x else m) ≤ m ∧ (if v x < m then v x else m) ≤ v x := by split <;> omega
    refine ⟨Int.le_trans h1 h3.1, fun n hn => ?_⟩
    rcases List.mem_cons.1 hn with rfl | hn
    · exact Int.le_trans h1 h3.2
    · exact h2 n hn
theorem lowR_mem (v : Int → Int) (L : List Int) : ∀ m, lowR v m L = m ∨ ∃ n ∈ L, lowR v m L = v n := by
  induction L with
  | nil => intro m; exact .inl rfl
  | cons x L ih =>
    intro m
    unfold lowR
    rcases ih (if v x < m then v x else m) with h | ⟨n, hn, h⟩
    · rw [h]
      split
      · exact .inr ⟨x, List.mem_cons_self, rfl⟩
      · exact .inl rfl
    · exact .inr ⟨n, List.mem_cons_of_mem _ hn, h⟩
theorem foldl_low (v : Int → Int) (L : List Int) : ∀ m : Int, L.foldl (fun o n => lowStep o (v n)) (some m) = some (lowR v m L) := by
  induction L with
  | nil => intro m; rfl
  | cons x L ih =>
    intro m
    rw [List.foldl_cons]
    unfold lowR
    rw [← ih]
    congr 1
    show some (min m (v x)) = _
    congr 1
    split <;> omega
theorem lowOf_cons (v : Int → Int) (x : Int) (T : List Int) : lowOf v (x :: T) = some (lowR v (v x) (x :: T)) := by
  unfold lowOf
  rw [List.foldl_cons]
  show T.foldl (fun o n => lowStep o (v n)) (some (v x)) = _
  rw [foldl_low]
  conv => rhs; unfold lowR
  rw [if_neg (by omega)]
theorem mem_min (v : Int → Int) (L : List Int) (n : Int) : n ∈ minF v L ↔ n ∈ L ∧ ∀ m ∈ L, v n ≤ v m := by
  cases L with
  | nil => exact ⟨fun h => (List.not_mem_nil h).elim, fun h => (List.not_mem_nil h.1).elim⟩
  | cons x T =>
    show n ∈ (x :: T).filter (fun n => decide (v n = lowR v (v x) (x :: T))) ↔ _
    rw [List.mem_filter]
    have h1 := lowR_le v (x :: T) (v x)
    have h2 := lowR_mem v (x :: T) (v x)
    constructor
    · rintro ⟨h, he⟩
      have he := of_decide_eq_true he
      exact ⟨h, fun m hm => by rw [he]; exact h1.2 m hm⟩
    · rintro ⟨h, he⟩
      refine ⟨h, decide_eq_true ?_⟩
      have h3 := h1.2 n h
      rcases h2 with h2 | ⟨m, hm, h2⟩
      · have := he x List.mem_cons_self; omega
      · have := he m hm; omega
theorem low_at (v : Int → Int) : ∀ (L : List Int), 0 < L.length → ∃ n ∈ L, ∀ m ∈ L, v n ≤ v m := by
  intro L
  induction L with
  | nil => intro h; cases h
  | cons x T ih =>
    intro _
    rcases Nat.eq_zero_or_pos T.length with h0 | h0
    · have : T = [] := List.length_eq_zero_iff.1 h0
      subst this
      exact ⟨x, List.mem_cons_self, fun m hm => by rcases List.mem_cons.1 hm with rfl | hm; exact Int.le_refl _; cases hm⟩
    · obtain ⟨n, hn, h⟩ := ih h0
      by_cases hx : v x ≤ v n
      · exact ⟨x, List.mem_cons_self, fun m hm => by
          rcases List.mem_cons.1 hm with rfl | hm
          · exact Int.le_refl _
          · exact Int.le_trans hx (h m hm)⟩
      · exact ⟨n, List.mem_cons_of_mem _ hn, fun m hm => by
          rcases List.mem_cons.1 hm with rfl | hm
          · omega
          · exact h m hm⟩
theorem min_pos (v : Int → Int) (L : List Int) (h : 0 < L.length) : 0 < (minF v L).length := by
  obtain ⟨n, hn, hm⟩ := low_at v L h
  exact List.length_pos_of_mem ((mem_min v L n).2 ⟨hn, hm⟩)
theorem min_sub (v : Int → Int) (L : List Int) : ∀ n ∈ minF v L, n ∈ L := fun n h => ((mem_min v L n).1 h).1
theorem min_len (v : Int → Int) (L : List Int) : (minF v L).length ≤ L.length := by
  cases L with
  | nil => exact Nat.le_refl _
  | cons x T => exact List.length_filter_le _ _
/-- A filter of L whose members are told is that filter. -/
theorem min_filter (v : Int → Int) (L : List Int) (q : Int → Bool) (h : ∀ n ∈ L, q n = true ↔ ∀ m ∈ L, v n ≤ v m) : minF v L = L.filter q := by
  cases L with
  | nil => rfl
  | cons x T =>
    show (x :: T).filter (fun n => decide (v n = lowR v (v x) (x :: T))) = (x :: T).filter q
    refine List.filter_congr (fun n hn => ?_)
    have h1 := mem_min v (x :: T) n
    have h2 : n ∈ minF v (x :: T) ↔ decide (v n = lowR v (v x) (x :: T)) = true := by
      show n ∈ (x :: T).filter (fun n => decide (v n = lowR v (v x) (x :: T))) ↔ _
      rw [List.mem_filter]
      exact ⟨fun h => h.2, fun h => ⟨hn, h⟩⟩
    have h3 : decide (v n = lowR v (v x) (x :: T)) = true ↔ q n = true := by
      rw [← h2, h1, h n hn]
      exact ⟨fun h => h.2, fun h => ⟨hn, h⟩⟩
    exact Bool.eq_iff_iff.2 h3
theorem keep_min (p : Int → Bool) (v : Int → Int) (L : List Int) (h : ∀ n ∈ L, v n = if p n = true then 0 else 1) : keepL p L = minF v L := by
  unfold keepL
  split
  · rename_i hl
    obtain ⟨a, ha⟩ := List.exists_mem_of_length_pos hl
    obtain ⟨ha, hp⟩ := List.mem_filter.1 ha
    refine (min_filter v L p (fun n hn => ?_)).symm
    rw [h n hn]
    constructor
    · intro hq m hm
      rw [if_pos hq, h m hm]
      split <;> omega
    · intro hq
      have := hq a ha
      rw [h a ha, if_pos hp] at this
      split at this
      · assumption
      · omega
  · rename_i hl
    have hn0 : ∀ n ∈ L, p n = false := fun n hn => by
      cases hq : p n with
      | false => rfl
      | true => exact absurd (List.length_pos_of_mem (List.mem_filter.2 ⟨hn, hq⟩)) hl
    rw [min_filter v L (fun _ => true) (fun n hn => ⟨fun _ m hm => by rw [h n hn, h m hm, hn0 n hn, hn0 m hm]; exact Int.le_refl _, fun _ => rfl⟩)]
    exact (List.filter_eq_self.2 (fun _ _ => rfl)).symm
theorem least_min (v u : Int → Int) (L : List Int) (h : ∀ n ∈ L, v n = u n) : leastL v L = minF u L := by
  unfold leastL
  cases hL : L with
  | nil => rfl
  | cons x T =>
    rw [← hL]
    have hlow : lowOf v L = some (lowR v (v x) L) := by rw [hL]; exact lowOf_cons v x T
    have hf : L.filter (fun n => decide (some (v n) = lowOf v L)) = minF v L := by
      rw [hlow, hL]
      show _ = (x :: T).filter (fun n => decide (v n = lowR v (v x) (x :: T)))
      refine List.filter_congr (fun n _ => ?_)
      simp
    have hp : 0 < (minF v L).length := min_pos v L (by rw [hL]; simp)
    unfold keepL
    rw [hf, if_pos hp]
    have hu : ∀ n, n ∈ minF v L ↔ n ∈ minF u L := fun n => by
      rw [mem_min, mem_min]
      constructor
      · rintro ⟨a, b⟩
        exact ⟨a, fun m hm => by rw [← h n a, ← h m hm]; exact b m hm⟩
      · rintro ⟨a, b⟩
        exact ⟨a, fun m hm => by rw [h n a, h m hm]; exact b m hm⟩
    rw [min_filter v L (fun n => decide (∀ m ∈ L, v n ≤ v m)) (fun n _ => by rw [decide_eq_true_iff]), min_filter u L (fun n => decide (∀ m ∈ L, v n ≤ v m)) (fun n hn => by
      rw [decide_eq_true_iff]
      constructor
      · intro b m hm
        rw [← h n hn, ← h m hm]
        exact b m hm
      · intro b m hm
        rw [h n hn, h m hm]
        exact b m hm)]
theorem infoV_cons (x : Inf) (I : List Inf) (P : Int) : infoV (x :: I) P = if x.f0 = P then x else infoV I P := by
  unfold infoV
  have hc : idxOf (fun y : S49 => decide (y.f0 = P)) (x :: I) = if decide (x.f0 = P) = true then 0 else (if idxOf (fun y : S49 => decide (y.f0 = P)) I < 0 then -1 else idxOf (fun y : S49 => decide (y.f0 = P)) I + 1) := rfl
  by_cases h : x.f0 = P
  · rw [if_pos (decide_eq_true h)] at hc
    rw [hc, if_pos h, if_neg (by omega)]
    rfl
  · rw [if_neg (by simpa using h)] at hc
    rw [if_neg h]
    by_cases h0 : idxOf (fun y : S49 => decide (y.f0 = P)) I < 0
    · rw [if_pos h0] at hc
      rw [hc, if_pos h0, if_pos (by omega)]
    · rw [if_neg h0] at hc
      rw [hc, if_neg h0, if_neg (by omega)]
      unfold rd_T49
      rw [show (idxOf (fun y : S49 => decide (y.f0 = P)) I + 1).toNat = (idxOf (fun y : S49 => decide (y.f0 = P)) I).toNat + 1 by omega]
      rfl
end Go.Proofs.Ytediicgkcgfghaa.DecDecideSteps
