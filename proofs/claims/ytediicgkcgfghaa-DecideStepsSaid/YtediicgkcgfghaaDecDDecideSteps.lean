/- What is left of a list and of another one of which the routes are found in the first: the same; for the statement DecideSteps. -/
import Derived.Test.YtediicgkcgfghaaDecCDecideSteps
namespace Go.Proofs.Ytediicgkcgfghaa.DecDecideSteps
open Go.RowKit Go.Proofs.Ytediicgkcgfghaa.PDecideSteps Go.Proofs.YtediicgkcgfghaaW.PrintWords Go.Proofs.YtediicgkcgfghaaW.PrintLast Go.Proofs.YtediicgkcgfghaaW.PrintMore Go.Proofs.Ytediicgkcgfghaa.Help
set_option linter.unusedVariables false
abbrev rdR (l : List Rt) (n : Int) : Rt := rd_T41 l n
def v0 (l : List Rt) (n : Int) : Int := if (rdR l n).f1 < 0 then 0 else 1
def v1 (l : List Rt) (n : Int) : Int := if (rdR l n).f3 = 2 then 1 else 0
def v2 (l : List Rt) (n : Int) : Int := prefV (rdR l n).f2.f4
def v3 (l : List Rt) (n : Int) : Int := lenR (rdR l n)
def v4 (l : List Rt) (n : Int) : Int := (rdR l n).f2.f0
def v5 (l : List Rt) (L : List Int) (n : Int) : Int := if beatenB l L n = true then 1 else 0
def v6 (a : Int) (I : List Inf) (l : List Rt) (n : Int) : Int := if (infoV I (rdR l n).f1).f1 = a then 1 else 0
def v7 (I : List Inf) (l : List Rt) (n : Int) : Int := (infoV I (rdR l n).f1).f2
def v8 (l : List Rt) (n : Int) : Int := (rdR l n).f1
theorem bestA_min (l : List Rt) (L : List Int) : bestA l L = minF (v4 l) (minF (v3 l) (minF (v2 l) (minF (v1 l) (minF (v0 l) L)))) := by
  unfold bestA
  rw [keep_min (fun n => decide ((rd_T41 l n).f1 < 0)) (v0 l) L (fun n _ => by
    unfold v0
    by_cases h : (rd_T41 l n).f1 < 0
    · rw [if_pos h, if_pos (decide_eq_true h)]
    · rw [if_neg h, if_neg (by simpa using h)])]
  rw [keep_min (fun n => (rd_T41 l n).f3 != 2) (v1 l) _ (fun n _ => by
    unfold v1
    by_cases h : (rd_T41 l n).f3 = 2
    · rw [if_pos h, if_neg (by simp [h])]
    · rw [if_neg h, if_pos (by simpa using h)])]
  rw [least_min (fun n => prefV (rd_T41 l n).f2.f4) (v2 l) _ (fun n _ => rfl), least_min (fun n => lenR (rd_T41 l n)) (v3 l) _ (fun n _ => rfl), least_min (fun n => (rd_T41 l n).f2.f0) (v4 l) _ (fun n _ => rfl)]
theorem bestB_min (a : Int) (I : List Inf) (l : List Rt) (L : List Int) : bestB a I l L = minF (v8 l) (minF (v7 I l) (minF (v6 a I l) (minF (v5 l L) L))) := by
  unfold bestB
  rw [keep_min (fun n => !beatenB l L n) (v5 l L) L (fun n _ => by
    unfold v5
    cases beatenB l L n <;> rfl)]
  rw [keep_min (fun n => (infoV I (rd_T41 l n).f1).f1 != a) (v6 a I l) _ (fun n _ => by
    unfold v6
    by_cases h : (infoV I (rd_T41 l n).f1).f1 = a
    · rw [if_pos h, if_neg (by simp [h])]
    · rw [if_neg h, if_pos (by simpa using h)])]
  rw [least_min (fun n => (infoV I (rd_T41 l n).f1).f2) (v7 I l) _ (fun n _ => rfl), least_min (fun n => (rd_T41 l n).f1) (v8 l) _ (fun n _ => rfl)]
theorem mem_idx {k : Nat} {n : Int} (h0 : 0 ≤ n) (h1 : n < (k : Int)) : n ∈ idx k := by
  simp only [idx, List.mem_map, List.mem_range]
  exact ⟨n.toNat, by omega, by omega⟩
theorem mem_leftL (a : Int) (l : List Rt) (n : Int) : n ∈ leftL a l ↔ (0 ≤ n ∧ n < (l.length : Int)) ∧ useB a (rdR l n) = true := by
  unfold leftL
  rw [List.mem_filter]
  exact ⟨fun h => ⟨idx_mem h.1, h.2⟩, fun h => ⟨mem_idx h.1.1 h.1.2, h.2⟩⟩
/-- Places of l. -/
def In (l : List Rt) (L : List Int) : Prop := ∀ n ∈ L, 0 ≤ n ∧ n < (l.length : Int)
theorem In.min {l : List Rt} {L : List Int} (h : In l L) (v : Int → Int) : In l (minF v L) := fun n hn => h n (min_sub v L n hn)
section
variable (l l' : List Rt) (f : Int → Int)
def Corr (L' L : List Int) : Prop := ∀ j, 0 ≤ j → j < (l'.length : Int) → (j ∈ L' ↔ f j ∈ L)
theorem corr_min {L L' : List Int} (h : Corr l' f L' L) (hi : In l' L') (v v' : Int → Int) (hv : ∀ j ∈ L', v' j = v (f j)) (hd : ∀ m ∈ L, ∃ m' ∈ L', v (f m') ≤ v m) : Corr l' f (minF v' L') (minF v L) := by
  intro j j0 j1
  rw [mem_min, mem_min]
  constructor
  · rintro ⟨hj, hm⟩
    refine ⟨(h j j0 j1).1 hj, fun m hmL => ?_⟩
    obtain ⟨m', hm', hle⟩ := hd m hmL
    have h2 := hm m' hm'
    rw [hv j hj, hv m' hm'] at h2
    exact Int.le_trans h2 hle
  · rintro ⟨hj, hm⟩
    have hj' := (h j j0 j1).2 hj
    refine ⟨hj', fun m hmL => ?_⟩
    rw [hv j hj', hv m hmL]
    exact hm (f m) ((h m (hi m hmL).1 (hi m hmL).2).1 hmL)
variable (hr : ∀ j, 0 ≤ j → j < (l'.length : Int) → (0 ≤ f j ∧ f j < (l.length : Int)) ∧ rdR l' j = rdR l (f j))
theorem corr_left (a : Int) (hr : ∀ j, 0 ≤ j → j < (l'.length : Int) → (0 ≤ f j ∧ f j < (l.length : Int)) ∧ rdR l' j = rdR l (f j)) : Corr l' f (leftL a l') (leftL a l) := by
  intro j j0 j1
  rw [mem_leftL, mem_leftL, (hr j j0 j1).2]
  exact ⟨fun h => ⟨(hr j j0 j1).1, h.2⟩, fun h => ⟨⟨j0, j1⟩, h.2⟩⟩
theorem corr_best (a : Int) (I : List Inf) (n : Int) (hr : ∀ j, 0 ≤ j → j < (l'.length : Int) → (0 ≤ f j ∧ f j < (l.length : Int)) ∧ rdR l' j = rdR l (f j))
    (hd : ∀ (v : Int → Int) (L L' : List Int), Corr l' f L' L → In l L → In l' L' → n ∈ minF v L → ∀ m ∈ L, ∃ m' ∈ L', v (f m') ≤ v m)
    (hb : ∀ (L L' : List Int), Corr l' f L' L → In l L → In l' L' → ∀ j ∈ L', beatenB l' L' j = beatenB l L (f j))
    (hn : n ∈ bestB a I l (bestA l (leftL a l))) : Corr l' f (bestB a I l' (bestA l' (leftL a l'))) (bestB a I l (bestA l (leftL a l))) := by
  have i0 : In l (leftL a l) := fun n h => ((mem_leftL a l n).1 h).1
  have i0' : In l' (leftL a l') := fun n h => ((mem_leftL a l' n).1 h).1
  have c0 := corr_left l l' f a hr
  rw [bestB_min, bestB_min, bestA_min, bestA_min]
  rw [bestB_min, bestA_min] at hn
  generalize leftL a l = L0 at *
  generalize leftL a l' = L0' at *
  have step : ∀ (v v' : Int → Int) (L L' : List Int), Corr l' f L' L → In l L → In l' L' → n ∈ minF v L → (∀ j, rdR l' j = rdR l (f j) → j ∈ L' → v' j = v (f j)) → Corr l' f (minF v' L') (minF v L) ∧ In l (minF v L) ∧ In l' (minF v' L') := fun v v' L L' c i i' hm hv =>
    ⟨corr_min l' f c i' v v' (fun j hj => hv j (hr j (i' j hj).1 (i' j hj).2).2 hj) (hd v L L' c i i' hm), i.min v, i'.min v'⟩
  have n7 := min_sub _ _ n hn
  have n6 := min_sub _ _ n n7
  have n5 := min_sub _ _ n n6
  have n4 := min_sub _ _ n n5
  have n3 := min_sub _ _ n n4
  have n2 := min_sub _ _ n n3
  have n1 := min_sub _ _ n n2
  have n0 := min_sub _ _ n n1
  obtain ⟨c1, i1, i1'⟩ := step (v0 l) (v0 l') L0 L0' c0 i0 i0' n0 (fun j h _ => by unfold v0; rw [h])
  generalize minF (v0 l) L0 = L1 at *
  generalize minF (v0 l') L0' = L1' at *
  obtain ⟨c2, i2, i2'⟩ := step (v1 l) (v1 l') L1 L1' c1 i1 i1' n1 (fun j h _ => by unfold v1; rw [h])
  generalize minF (v1 l) L1 = L2 at *
  generalize minF (v1 l') L1' = L2' at *
  obtain ⟨c3, i3, i3'⟩ := step (v2 l) (v2 l') L2 L2' c2 i2 i2' n2 (fun j h _ => by unfold v2; rw [h])
  generalize minF (v2 l) L2 = L3 at *
  generalize minF (v2 l') L2' = L3' at *
  obtain ⟨c4, i4, i4'⟩ := step (v3 l) (v3 l') L3 L3' c3 i3 i3' n3 (fun j h _ => by unfold v3; rw [h])
  generalize minF (v3 l) L3 = L4 at *
  generalize minF (v3 l') L3' = L4' at *
  obtain ⟨c5, i5, i5'⟩ := step (v4 l) (v4 l') L4 L4' c4 i4 i4' n4 (fun j h _ => by unfold v4; rw [h])
  generalize minF (v4 l) L4 = L5 at *
  generalize minF (v4 l') L4' = L5' at *
  obtain ⟨c6, i6, i6'⟩ := step (v5 l L5) (v5 l' L5') L5 L5' c5 i5 i5' n5 (fun j h hj => by unfold v5; rw [hb L5 L5' c5 i5 i5' j hj])
  generalize minF (v5 l L5) L5 = L6 at *
  generalize minF (v5 l' L5') L5' = L6' at *
  obtain ⟨c7, i7, i7'⟩ := step (v6 a I l) (v6 a I l') L6 L6' c6 i6 i6' n6 (fun j h _ => by unfold v6; rw [h])
  generalize minF (v6 a I l) L6 = L7 at *
  generalize minF (v6 a I l') L6' = L7' at *
  obtain ⟨c8, i8, i8'⟩ := step (v7 I l) (v7 I l') L7 L7' c7 i7 i7' n7 (fun j h _ => by unfold v7; rw [h])
  generalize minF (v7 I l) L7 = L8 at *
  generalize minF (v7 I l') L7' = L8' at *
  exact (step (v8 l) (v8 l') L8 L8' c8 i8 i8' hn (fun j h _ => by unfold v8; rw [h])).1
end
/-- The last step: of those that are left none has a lesser peer. -/
theorem best_peer (a : Int) (I : List Inf) (l : List Rt) (L : List Int) (n m : Int) (hn : n ∈ bestB a I l L) (hm : m ∈ bestB a I l L) : (rdR l n).f1 = (rdR l m).f1 := by
  rw [bestB_min] at hn hm
  have h1 := ((mem_min _ _ n).1 hn).2 m (min_sub _ _ m hm)
  have h2 := ((mem_min _ _ m).1 hm).2 n (min_sub _ _ n hn)
  unfold v8 at h1 h2
  omega
theorem min_pairwise (v : Int → Int) (L : List Int) (h : L.Pairwise (· < ·)) : (minF v L).Pairwise (· < ·) := by
  cases L with
  | nil => exact List.Pairwise.nil
  | cons x T => exact List.Pairwise.filter _ h
theorem idx_pairwise (k : Nat) : (idx k).Pairwise (· < ·) := by
  unfold idx
  rw [List.pairwise_map]
  exact List.Pairwise.imp (fun h => by omega) List.pairwise_lt_range
theorem best_first (a : Int) (I : List Inf) (l : List Rt) (n : Int) (hn : n ∈ bestB a I l (bestA l (leftL a l))) : rd (bestB a I l (bestA l (leftL a l))) 0 ≤ n := by
  have hp : (bestB a I l (bestA l (leftL a l))).Pairwise (· < ·) := by
    rw [bestB_min, bestA_min]
    exact min_pairwise _ _ (min_pairwise _ _ (min_pairwise _ _ (min_pairwise _ _ (min_pairwise _ _ (min_pairwise _ _ (min_pairwise _ _ (min_pairwise _ _ (min_pairwise _ _ (List.Pairwise.filter _ (idx_pairwise _))))))))))
  generalize bestB a I l (bestA l (leftL a l)) = L at *
  cases L with
  | nil => cases hn
  | cons x T =>
    show x ≤ n
    rcases List.mem_cons.1 hn with rfl | h
    · exact Int.le_refl _
    · have := (List.pairwise_cons.1 hp).1 n h
      omega
/-- What the choice tells of itself. -/
theorem best_is (a : Int) (I : List Inf) (l : List Rt) (h : 0 < (leftL a l).length) : ∃ n, bestV a I l = (n, true) ∧ n = rd (bestB a I l (bestA l (leftL a l))) 0 ∧ n ∈ bestB a I l (bestA l (leftL a l)) ∧ 0 ≤ n ∧ n < (l.length : Int) := by
  refine ⟨rd (bestB a I l (bestA l (leftL a l))) 0, ?_, rfl, ?_, ?_⟩
  · unfold bestV
    rw [if_neg (by omega)]
  all_goals have hm : rd (bestB a I l (bestA l (leftL a l))) 0 ∈ bestB a I l (bestA l (leftL a l)) := rd_mem _ 0 (by omega) (by have := bestB_pos a I l _ (bestA_pos l _ h); omega)
  · exact hm
  · have h1 := keepL_sub _ _ _ (keepL_sub _ _ _ (bestA_sub l _ _ (bestB_sub a I l _ _ hm)))
    exact ((mem_leftL a l _).1 h1).1
theorem best_none (a : Int) (I : List Inf) (l : List Rt) (h : (leftL a l).length = 0) : bestV a I l = (0, false) := by
  unfold bestV
  rw [if_pos h]
end Go.Proofs.Ytediicgkcgfghaa.DecDecideSteps
