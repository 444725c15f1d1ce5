/- Plain facts of the routes that a choice is made of, and what the small functions of them compute; for the statement DecideSteps. -/
import Derived.Test.YtediicgkcgfghaaPDecideStepsx
import Derived.Test.YtediicgkcgfghaaBndDecideSteps
namespace Go.Proofs.Ytediicgkcgfghaa.DecDecideSteps
open Go.RowKit Go.Proofs.Ytediicgkcgfghaa.PDecideSteps Go.Proofs.YtediicgkcgfghaaW.PrintWords Go.Proofs.YtediicgkcgfghaaW.PrintLast Go.Proofs.YtediicgkcgfghaaW.PrintMore Go.Proofs.Ytediicgkcgfghaa.Help
set_option linter.unusedVariables false
abbrev Seg := S47
abbrev Rt := S41
abbrev Inf := S49
theorem w64 (i : Int) (h0 : -4611686018427387904 ≤ i) (h : i < 4611686018427387904) : wrap64 i = i := by unfold wrap64; omega
theorem wn (i : Nat) (h : i < 4611686018427387903) : wrap64 ((i : Int) + 1) = ((i + 1 : Nat) : Int) := by
  rw [w64 ((i : Int) + 1) (by omega) (by omega)]; omega
theorem rd_at (l : List Int) (i : Nat) (h : i < l.length) : rd l (i : Int) = l[i] := by
  unfold Go.Proofs.YtediicgkcgfghaaW.PrintWords.rd
  rw [List.getD_eq_getElem?_getD, Int.toNat_natCast, List.getElem?_eq_getElem h]
  rfl
theorem seg_at (l : List Seg) (i : Nat) (h : i < l.length) : rd_T47 l (i : Int) = l[i] := by
  unfold rd_T47
  rw [List.getD_eq_getElem?_getD, Int.toNat_natCast, List.getElem?_eq_getElem h]
  rfl
theorem rt_at (l : List Rt) (i : Nat) (h : i < l.length) : rd_T41 l (i : Int) = l[i] := by
  unfold rd_T41
  rw [List.getD_eq_getElem?_getD, Int.toNat_natCast, List.getElem?_eq_getElem h]
  rfl
theorem inf_at (l : List Inf) (i : Nat) (h : i < l.length) : rd_T49 l (i : Int) = l[i] := by
  unfold rd_T49
  rw [List.getD_eq_getElem?_getD, Int.toNat_natCast, List.getElem?_eq_getElem h]
  rfl
/-- From some number of rounds on. -/
def Evt {α : Type} (g : Nat → Option α) (v : α) : Prop := ∃ K, ∀ k, K ≤ k → g k = some v
theorem Evt.now {α : Type} {g : Nat → Option α} {v : α} (h : ∀ k, g k = some v) : Evt g v := ⟨0, fun k _ => h k⟩
theorem Evt.succ {α : Type} {g : Nat → Option α} {v : α} (h : Evt (fun k => g (k + 1)) v) : Evt g v := by
  obtain ⟨K, h⟩ := h
  refine ⟨K + 1, fun k hk => ?_⟩
  obtain ⟨m, rfl⟩ : ∃ m, k = m + 1 := ⟨k - 1, by omega⟩
  exact h m (by omega)
theorem Evt.of {α : Type} {f g : Nat → Option α} {v : α} (h : Evt g v) (e : ∀ k, f k = g k) : Evt f v := by
  obtain ⟨K, h⟩ := h
  exact ⟨K, fun k hk => (e k).trans (h k hk)⟩
theorem Evt.bind {α β : Type} {f : Nat → Option β} {h : Nat → β → Option α} {b : β} {v : α} (hf : Evt f b) (hh : Evt (fun k => h k b) v) : Evt (fun k => (f k).bind (h k)) v := by
  obtain ⟨K, hf⟩ := hf
  obtain ⟨J, hh⟩ := hh
  refine ⟨K + J, fun k hk => ?_⟩
  show (f k).bind (h k) = some v
  rw [hf k (by omega)]
  exact hh k (by omega)
theorem Evt.some {α : Type} {g : Nat → Option α} {v : α} (h : Evt g v) : ∃ k, g k = some v := by
  obtain ⟨K, h⟩ := h
  exact ⟨K, h K (Nat.le_refl _)⟩
/-- how many numbers the pieces hold; how long a path is -/
def tot : List Seg → Nat
  | [] => 0
  | s :: l => s.f1.length + tot l
def plen : List Seg → Nat
  | [] => 0
  | s :: l => (if s.f0 = true then 1 else s.f1.length) + plen l
theorem drop_seg (l : List Seg) (i : Nat) (h : i < l.length) : l.drop i = l[i] :: l.drop (i + 1) := List.drop_eq_getElem_cons h
theorem drop_int (l : List Int) (i : Nat) (h : i < l.length) : l.drop i = l[i] :: l.drop (i + 1) := List.drop_eq_getElem_cons h
theorem drop_rt (l : List Rt) (i : Nat) (h : i < l.length) : l.drop i = l[i] :: l.drop (i + 1) := List.drop_eq_getElem_cons h
theorem tot_drop (l : List Seg) (i : Nat) (h : i < l.length) : tot (l.drop i) = l[i].f1.length + tot (l.drop (i + 1)) := by rw [drop_seg l i h]; rfl
theorem plen_drop (l : List Seg) (i : Nat) (h : i < l.length) : plen (l.drop i) = (if l[i].f0 = true then 1 else l[i].f1.length) + plen (l.drop (i + 1)) := by rw [drop_seg l i h]; rfl
theorem tot_mem (l : List Seg) (s : Seg) (h : s ∈ l) : s.f1.length ≤ tot l := by
  induction l with
  | nil => cases h
  | cons x l ih =>
    rcases List.mem_cons.1 h with rfl | h
    · unfold tot; omega
    · have := ih h; unfold tot; omega
theorem plen_le (l : List Seg) : plen l ≤ l.length + tot l := by
  induction l with
  | nil => simp [plen, tot]
  | cons s l ih =>
    unfold plen tot
    simp only [List.length_cons]
    split <;> omega
theorem path_l0 (l : List Seg) (hl : l.length < 4611686018427387904) (hp : plen l < 4611686018427387904) (d : Nat) : ∀ (i k : Nat) (n : Nat), i + d = l.length → d < k → n + plen (l.drop i) ≤ plen l →
    path_Length.l0 k (n : Int) l (l.length : Int) i = some ((n + plen (l.drop i) : Nat) : Int) := by
  induction d with
  | zero =>
    intro i k n hi hk hn
    obtain ⟨k, rfl⟩ : ∃ m, k = m + 1 := ⟨k - 1, by omega⟩
    unfold path_Length.l0
    rw [if_neg (by omega), List.drop_of_length_le (by omega)]
    rfl
  | succ d ih =>
    intro i k n hi hk hn
    obtain ⟨k, rfl⟩ : ∃ m, k = m + 1 := ⟨k - 1, by omega⟩
    have hlt : i < l.length := by omega
    unfold path_Length.l0
    rw [plen_drop l i hlt] at hn ⊢
    rw [if_pos (by omega), if_pos (by omega), if_pos (by omega), seg_at l i hlt, wn i (by omega)]
    by_cases h : l[i].f0 = true
    · rw [if_pos h] at hn ⊢
      rw [if_pos h, wn n (by omega), ih (i + 1) k (n + 1) (by omega) (by omega) (by omega)]
      congr 2
      omega
    · rw [if_neg h] at hn ⊢
      rw [if_neg h, w64 _ (by omega) (by omega), show ((n : Int) + (l[i].f1.length : Int)) = ((n + l[i].f1.length : Nat) : Int) by omega, ih (i + 1) k _ (by omega) (by omega) (by omega)]
      congr 2
      omega
theorem path_len (l : List Seg) (hl : l.length < 4611686018427387904) (hp : plen l < 4611686018427387904) : path_Length.f (l.length + 1) l = some ((plen l : Nat) : Int) := by
  have := path_l0 l hl hp l.length 0 (l.length + 1) 0 (by omega) (by omega) (by simp)
  unfold path_Length.f
  rw [show ((0 : Nat) : Int) = 0 from rfl] at this
  rw [this]
  simp
def badB (a : Int) : Bool := decide (a > 9007199254740992 ∨ a < -9007199254740992)
/-- What a list must be that is not too large. -/
def okS (r : Rt) : Prop := badB r.f1 = false ∧ badB r.f2.f4 = false ∧ badB r.f2.f3 = false ∧ badB r.f2.f0 = false ∧ r.f2.f1.length + tot r.f2.f1 < 3000
theorem bad_no {a : Int} (h : badB a = false) : a.natAbs ≤ 9007199254740992 := by
  unfold badB at h
  have := of_decide_eq_false h
  omega
/-- What the choice is, wherever a list is not too large. -/
def bestV (a : Int) (I : List Inf) (l : List Rt) : Int × Bool := if (leftL a l).length = 0 then (0, false) else (rd (bestB a I l (bestA l (leftL a l))) 0, true)
theorem info_zero (I : List Inf) (P : Int) : infoV I P = z49 ∨ infoV I P ∈ I := by
  unfold infoV
  have h := idxOf_lt (fun x : S49 => decide (x.f0 = P)) I
  split
  · exact .inl rfl
  · rename_i h0
    right
    unfold rd_T49
    rw [List.getD_eq_getElem?_getD, List.getElem?_eq_getElem (show (idxOf (fun x : S49 => decide (x.f0 = P)) I).toNat < I.length by omega)]
    exact List.getElem_mem _
/-- What a peer's numbers are. -/
def InfOk (x : Inf) : Prop := ((Lit.int .i64 x.f0).wf = true) ∧ ((Lit.int .i64 x.f1).wf = true) ∧ ((Lit.int .u32 x.f2).wf = true)
theorem id_small {x : Inf} (h : InfOk x) : 0 ≤ x.f2 ∧ x.f2 < 4294967296 := by
  have h := h.2.2
  simp [Lit.wf, IntKind.min, IntKind.max, IntKind.signed, IntKind.bits] at h
  omega
theorem info_id (I : List Inf) (hI : ∀ y ∈ I, InfOk y) (P : Int) : 0 ≤ (infoV I P).f2 ∧ (infoV I P).f2 < 4294967296 := by
  rcases info_zero I P with h | h
  · rw [h]; exact ⟨by decide, by decide⟩
  · exact id_small (hI _ h)
theorem ok_of (I : List Inf) (hI : ∀ y ∈ I, InfOk y) (r : Rt) (h : okS r) : okR I r ∧ lenR r = ((plen r.f2.f1 : Nat) : Int) := by
  obtain ⟨h1, h2, h3, h4, h5⟩ := h
  have hp := plen_le r.f2.f1
  have hl := path_len r.f2.f1 (by omega) (by omega)
  have he : lenR r = ((plen r.f2.f1 : Nat) : Int) := by unfold lenR; rw [hl]; rfl
  exact ⟨⟨bad_no h1, bad_no h2, bad_no h4, by rw [he]; exact hl, by rw [he]; omega, by have := info_id I hI r.f1; omega⟩, he⟩
theorem best_some (a : Int) (I : List Inf) (hI : ∀ y ∈ I, InfOk y) (l : List Rt) (hl : l.length < 4000) (h : ∀ r ∈ l, okS r) : decide_Best.f a I l = some (bestV a I l) := by
  unfold decide_Best.f bestV
  rw [if_pos ⟨hl, fun r hr => (ok_of I hI r (h r hr)).1⟩]
  split <;> rfl
theorem answers : interregnumlaw15_answers.f = some true := by
  first | rfl | decide +kernel
theorem keepL_all (p : Int → Bool) (L : List Int) (h : ∃ m ∈ L, p m = true) : ∀ n ∈ keepL p L, p n = true := by
  obtain ⟨m, hm, hp⟩ := h
  intro n hn
  unfold keepL at hn
  rw [if_pos (List.length_pos_of_mem (List.mem_filter.2 ⟨hm, hp⟩))] at hn
  exact (List.mem_filter.1 hn).2
theorem leastL_sub (v : Int → Int) (L : List Int) : ∀ n ∈ leastL v L, n ∈ L := fun n h => keepL_sub (fun n => decide (some (v n) = lowOf v L)) L n h
theorem leastL_pos (v : Int → Int) {L : List Int} (h : 0 < L.length) : 0 < (leastL v L).length := keepL_pos (fun n => decide (some (v n) = lowOf v L)) h
theorem bestA_sub (l : List Rt) (L : List Int) (n : Int) (h : n ∈ bestA l L) : n ∈ keepL (fun n => (rd_T41 l n).f3 != 2) (keepL (fun n => decide ((rd_T41 l n).f1 < 0)) L) := by
  unfold bestA at h
  exact leastL_sub _ _ n (leastL_sub _ _ n (leastL_sub _ _ n h))
theorem bestB_sub (a : Int) (I : List Inf) (l : List Rt) (L : List Int) (n : Int) (h : n ∈ bestB a I l L) : n ∈ L := by
  unfold bestB at h
  exact keepL_sub _ _ n (keepL_sub _ _ n (leastL_sub _ _ n (leastL_sub _ _ n h)))
theorem bestA_pos (l : List Rt) (L : List Int) (h : 0 < L.length) : 0 < (bestA l L).length := by
  unfold bestA
  exact leastL_pos _ (leastL_pos _ (leastL_pos _ (keepL_pos _ (keepL_pos _ h))))
theorem bestB_pos (a : Int) (I : List Inf) (l : List Rt) (L : List Int) (h : 0 < L.length) : 0 < (bestB a I l L).length := by
  unfold bestB
  exact leastL_pos _ (leastL_pos _ (keepL_pos _ (keepL_pos _ h)))
end Go.Proofs.Ytediicgkcgfghaa.DecDecideSteps
