/- Plain facts of the routes that a choice is made of, and what the small functions of them compute; for the statement DecideLess. -/
import Derived.Test.YtediicgkcgfghaaPDecideLessx
import Derived.Test.YtediicgkcgfghaaBndDecideLess
namespace Go.Proofs.Ytediicgkcgfghaa.DecDecideLess
open Go.RowKit Go.Proofs.Ytediicgkcgfghaa.PDecideLess Go.Proofs.YtediicgkcgfghaaW.PrintWords Go.Proofs.YtediicgkcgfghaaW.PrintLast Go.Proofs.YtediicgkcgfghaaW.PrintMore Go.Proofs.Ytediicgkcgfghaa.Help
set_option linter.unusedVariables false
abbrev Seg := S47
abbrev Rt := S41
abbrev Inf := S49
theorem w64 (i : Int) (h0 : -4611686018427387904 ≤ i) (h : i < 4611686018427387904) : wrap64 i = i := by unfold wrap64; omega
theorem wn (i : Nat) (h : i < 4611686018427387903) : wrap64 ((i : Int) + 1) = ((i + 1 : Nat) : Int) := by
  rw [w64 ((i : Int) + 1) (by omega) (by omega)]; omega
theorem rd_at (l : List Int) (i : Nat) (h : i < l.length) : rd l (i : Int) = l[i] := by
  unfold Go.Proofs.YtediicgkcgfghaaW.PrintWords.rd
  rw [List.getD_eq_getElem?_getD, Int.toNat_natCast, List.getElem?_eq_getElem h]
  rfl
theorem seg_at (l : List Seg) (i : Nat) (h : i < l.length) : rd_T47 l (i : Int) = l[i] := by
  unfold rd_T47
  rw [List.getD_eq_getElem?_getD, Int.toNat_natCast, List.getElem?_eq_getElem h]
  rfl
theorem rt_at (l : List Rt) (i : Nat) (h : i < l.length) : rd_T41 l (i : Int) = l[i] := by
  unfold rd_T41
  rw [List.getD_eq_getElem?_getD, Int.toNat_natCast, List.getElem?_eq_getElem h]
  rfl
theorem inf_at (l : List Inf) (i : Nat) (h : i < l.length) : rd_T49 l (i : Int) = l[i] := by
  unfold rd_T49
  rw [List.getD_eq_getElem?_getD, Int.toNat_natCast, List.getElem?_eq_getElem h]
  rfl
/-- From some number of rounds on. -/
def Evt {α : Type} (g : Nat → Option α) (v : α) : Prop := ∃ K, ∀ k, K ≤ k → g k = some v
theorem Evt.now {α : Type} {g : Nat → Option α} {v : α} (h : ∀ k, g k = some v) : Evt g v := ⟨0, fun k _ => h k⟩
theorem Evt.succ {α : Type} {g : Nat → Option α} {v : α} (h : Evt (fun k => g (k + 1)) v) : Evt g v := by
  obtain ⟨K, h⟩ := h
  refine ⟨K + 1, fun k hk => ?_⟩
  obtain ⟨m, rfl⟩ : ∃ m, k = m + 1 := ⟨k - 1, by omega⟩
  exact h m (by omega)
theorem Evt.of {α : Type} {f g : Nat → Option α} {v : α} (h : Evt g v) (e : ∀ k, f k = g k) : Evt f v := by
  obtain ⟨K, h⟩ := h
  exact ⟨K, fun k hk => (e k).trans (h k hk)⟩
theorem Evt.bind {α β : Type} {f : Nat → Option β} {h : Nat → β → Option α} {b : β} {v : α} (hf : Evt f b) (hh : Evt (fun k => h k b) v) : Evt (fun k => (f k).bind (h k)) v := by
  obtain ⟨K, hf⟩ := hf
  obtain ⟨J, hh⟩ := hh
  refine ⟨K + J, fun k hk => ?_⟩
  show (f k).bind (h k) = some v
  rw [hf k (by omega)]
  exact hh k (by omega)
theorem Evt.some {α : Type} {g : Nat → Option α} {v : α} (h : Evt g v) : ∃ k, g k = some v := by
  obtain ⟨K, h⟩ := h
  exact ⟨K, h K (Nat.le_refl _)⟩
/-- how many numbers the pieces hold; how long a path is -/
def tot : List Seg → Nat
  | [] => 0
  | s :: l => s.f1.length + tot l
def plen : List Seg → Nat
  | [] => 0
  | s :: l => (if s.f0 = true then 1 else s.f1.length) + plen l
theorem drop_seg (l : List Seg) (i : Nat) (h : i < l.length) : l.drop i = l[i] :: l.drop (i + 1) := List.drop_eq_getElem_cons h
theorem drop_int (l : List Int) (i : Nat) (h : i < l.length) : l.drop i = l[i] :: l.drop (i + 1) := List.drop_eq_getElem_cons h
theorem drop_rt (l : List Rt) (i : Nat) (h : i < l.length) : l.drop i = l[i] :: l.drop (i + 1) := List.drop_eq_getElem_cons h
theorem tot_drop (l : List Seg) (i : Nat) (h : i < l.length) : tot (l.drop i) = l[i].f1.length + tot (l.drop (i + 1)) := by rw [drop_seg l i h]; rfl
theorem plen_drop (l : List Seg) (i : Nat) (h : i < l.length) : plen (l.drop i) = (if l[i].f0 = true then 1 else l[i].f1.length) + plen (l.drop (i + 1)) := by rw [drop_seg l i h]; rfl
theorem tot_mem (l : List Seg) (s : Seg) (h : s ∈ l) : s.f1.length ≤ tot l := by
  induction l with
  | nil => cases h
  | cons x l ih =>
    rcases List.mem_cons.1 h with rfl | h
    · unfold tot; omega
    · have := ih h; unfold tot; omega
theorem plen_le (l : List Seg) : plen l ≤ l.length + tot l := by
  induction l with
  | nil => simp [plen, tot]
  | cons s l ih =>
    unfold plen tot
    simp only [List.length_cons]
    split <;> omega
theorem path_l0 (l : List Seg) (hl : l.length < 4611686018427387904) (hp : plen l < 4611686018427387904) (d : Nat) : ∀ (i k : Nat) (n : Nat), i + d = l.length → d < k → n + plen (l.drop i) ≤ plen l →
    path_Length.l0 k (n : Int) l (l.length : Int) i = some ((n + plen (l.drop i) : Nat) : Int) := by
  induction d with
  | zero =>
    intro i k n hi hk hn
    obtain ⟨k, rfl⟩ : ∃ m, k = m + 1 := ⟨k - 1, by omega⟩
    unfold path_Length.l0
    rw [if_neg (by omega), List.drop_of_length_le (by omega)]
    rfl
  | succ d ih =>
    intro i k n hi hk hn
    obtain ⟨k, rfl⟩ : ∃ m, k = m + 1 := ⟨k - 1, by omega⟩
    have hlt : i < l.length := by omega
    unfold path_Length.l0
    rw [plen_drop l i hlt] at hn ⊢
    rw [if_pos (by omega), if_pos (by omega), if_pos (by omega), seg_at l i hlt, wn i (by omega)]
    by_cases h : l[i].f0 = true
    · rw [if_pos h] at hn ⊢
      rw [if_pos h, wn n (by omega), ih (i + 1) k (n + 1) (by omega) (by omega) (by omega)]
      congr 2
      omega
    · rw [if_neg h] at hn ⊢
      rw [if_neg h, w64 _ (by omega) (by omega), show ((n : Int) + (l[i].f1.length : Int)) = ((n + l[i].f1.length : Nat) : Int) by omega, ih (i + 1) k _ (by omega) (by omega) (by omega)]
      congr 2
      omega
theorem path_len (l : List Seg) (hl : l.length < 4611686018427387904) (hp : plen l < 4611686018427387904) : path_Length.f (l.length + 1) l = some ((plen l : Nat) : Int) := by
  have := path_l0 l hl hp l.length 0 (l.length + 1) 0 (by omega) (by omega) (by simp)
  unfold path_Length.f
  rw [show ((0 : Nat) : Int) = 0 from rfl] at this
  rw [this]
  simp
def badB (a : Int) : Bool := decide (a > 9007199254740992 ∨ a < -9007199254740992)
theorem bad_eq (a : Int) : interregnumlaw15_bad.f a = some (badB a) := by
  unfold interregnumlaw15_bad.f badB
  split
  · rename_i h
    simp [h]
  · rename_i h
    congr 1
    simp only [decide_eq_decide]
    omega
/-- What a list must be that is not too large. -/
def okS (r : Rt) : Prop := badB r.f1 = false ∧ badB r.f2.f4 = false ∧ badB r.f2.f3 = false ∧ badB r.f2.f0 = false ∧ r.f2.f1.length + tot r.f2.f1 < 3000
theorem bad_no {a : Int} (h : badB a = false) : a.natAbs ≤ 9007199254740992 := by
  unfold badB at h
  have := of_decide_eq_false h
  omega
theorem small_j4 (l : List Rt) (n i : Int) {v : Bool} (h : Evt (fun k => interregnumlaw15_small.l0 k l n (wrap64 (i + 1))) v) : Evt (fun k => interregnumlaw15_small.j4 k l n i false) v :=
  Evt.succ (h.of (fun k => by
    show interregnumlaw15_small.j4 (k + 1) l n i false = _
    conv => lhs; unfold interregnumlaw15_small.j4
    rw [if_neg (by decide)]))
theorem small_j4t (l : List Rt) (n i : Int) : Evt (fun k => interregnumlaw15_small.j4 k l n i true) false :=
  Evt.succ (Evt.now (fun k => by
    show interregnumlaw15_small.j4 (k + 1) l n i true = _
    conv => lhs; unfold interregnumlaw15_small.j4
    rw [if_pos rfl]))
theorem small_j3 (l : List Rt) (n : Int) (i : Nat) (hi : i < l.length) (a0 : Int) (p : List Seg) (a2 a3 a4 : Int) (l5 : List Int) (l6 : List S102) {v : Bool} (h : Evt (fun k => interregnumlaw15_small.l0 k l n ((i + 1 : Nat) : Int)) v) (hl : l.length < 4611686018427387903) :
    ∃ b, Evt (fun k => interregnumlaw15_small.j3 k l n i a0 p a2 a3 a4 l5 l6) b ∧ (b = true → v = true ∧ badB l[i].f1 = false ∧ badB a4 = false ∧ badB a3 = false ∧ badB a0 = false) := by
  have hT := small_j4t l n i
  have hF := small_j4 l n (i : Int) (v := v) (by rw [wn i (by omega)]; exact h)
  have hb : ∀ (c : Bool), ∃ b, Evt (fun k => interregnumlaw15_small.j4 k l n i c) b ∧ (b = true → v = true ∧ c = false) := fun c => by
    cases c with
    | true => exact ⟨false, hT, fun h => by cases h⟩
    | false => exact ⟨v, hF, fun h => ⟨h, rfl⟩⟩
  have e : ∀ k, interregnumlaw15_small.j3 (k + 1) l n i a0 p a2 a3 a4 l5 l6 = if badB a4 = true then interregnumlaw15_small.j4 k l n i true else if badB a3 = true then interregnumlaw15_small.j4 k l n i true else if badB a0 = true then interregnumlaw15_small.j4 k l n i true else interregnumlaw15_small.j4 k l n i (badB l[i].f1) := fun k => by
    conv => lhs; unfold interregnumlaw15_small.j3
    rw [bad_eq, bad_eq, bad_eq, bad_eq, if_pos (show 0 ≤ (i : Int) by omega), if_pos (show (i : Int) < (l.length : Int) by omega), rt_at l i hi]
    rfl
  cases h4 : badB a4 with
  | true => exact ⟨false, Evt.succ (hT.of (fun k => by show interregnumlaw15_small.j3 (k + 1) l n i a0 p a2 a3 a4 l5 l6 = _; rw [e k, h4, if_pos rfl])), fun h => by cases h⟩
  | false =>
    cases h3 : badB a3 with
    | true => exact ⟨false, Evt.succ (hT.of (fun k => by show interregnumlaw15_small.j3 (k + 1) l n i a0 p a2 a3 a4 l5 l6 = _; rw [e k, h4, h3, if_neg (by decide), if_pos rfl])), fun h => by cases h⟩
    | false =>
      cases h0 : badB a0 with
      | true => exact ⟨false, Evt.succ (hT.of (fun k => by show interregnumlaw15_small.j3 (k + 1) l n i a0 p a2 a3 a4 l5 l6 = _; rw [e k, h4, h3, h0, if_neg (by decide), if_neg (by decide), if_pos rfl])), fun h => by cases h⟩
      | false =>
        obtain ⟨b, hb1, hb2⟩ := hb (badB l[i].f1)
        exact ⟨b, Evt.succ (hb1.of (fun k => by show interregnumlaw15_small.j3 (k + 1) l n i a0 p a2 a3 a4 l5 l6 = _; rw [e k, h4, h3, h0, if_neg (by decide), if_neg (by decide), if_neg (by decide)])), fun h => ⟨(hb2 h).1, (hb2 h).2, rfl, rfl, rfl⟩⟩
theorem small_l1 (l : List Rt) (i : Nat) (a0 : Int) (p : List Seg) (hp : p.length < 4611686018427387903) (hy : ∀ y ∈ p, y.f1.length < 70368744177664) (a2 a3 a4 : Int) (l5 : List Int) (l6 : List S102) (d : Nat) : ∀ (j : Nat) (n : Nat), j + d = p.length → n < 2305843009213693952 →
    ∃ n' : Nat, (∀ v, Evt (fun k => interregnumlaw15_small.j3 k l (n' : Int) i a0 p a2 a3 a4 l5 l6) v → Evt (fun k => interregnumlaw15_small.l1 k l (n : Int) i j a0 p a2 a3 a4 l5 l6) v) ∧ n ≤ n' ∧ (n' < 3000 → n' = n + tot (p.drop j)) ∧ n' < 2305843009213693952 := by
  induction d with
  | zero =>
    intro j n hj hn
    refine ⟨n, fun v h => Evt.succ (h.of (fun k => ?_)), Nat.le_refl _, fun _ => by rw [List.drop_of_length_le (by omega)]; rfl, hn⟩
    show interregnumlaw15_small.l1 (k + 1) l (n : Int) i j a0 p a2 a3 a4 l5 l6 = _
    conv => lhs; unfold interregnumlaw15_small.l1
    rw [if_neg (by omega)]
  | succ d ih =>
    intro j n hj hn
    have hlt : j < p.length := by omega
    by_cases h3 : n < 3000
    · have hm := hy p[j] (List.getElem_mem hlt)
      obtain ⟨n', h1, h2, h4, h5⟩ := ih (j + 1) (n + p[j].f1.length) (by omega) (by omega)
      refine ⟨n', fun v h => Evt.succ ((h1 v h).of (fun k => ?_)), by omega, fun h => by have := h4 h; rw [tot_drop p j hlt]; omega, h5⟩
      show interregnumlaw15_small.l1 (k + 1) l (n : Int) i j a0 p a2 a3 a4 l5 l6 = _
      conv => lhs; unfold interregnumlaw15_small.l1
      rw [if_pos (by omega), if_pos (by omega), if_pos (by omega), seg_at p j hlt, wn j (by omega), w64 _ (by omega) (by omega), show ((n : Int) + (p[j].f1.length : Int)) = ((n + p[j].f1.length : Nat) : Int) by omega]
    · refine ⟨n, fun v h => Evt.succ (h.of (fun k => ?_)), Nat.le_refl _, fun h => by omega, hn⟩
      show interregnumlaw15_small.l1 (k + 1) l (n : Int) i j a0 p a2 a3 a4 l5 l6 = _
      conv => lhs; unfold interregnumlaw15_small.l1
      rw [if_pos (by omega), if_neg (by omega)]
theorem small_l0 (l : List Rt) (hl : l.length < 4611686018427387903) (hy : ∀ r ∈ l, r.f2.f1.length < 70368744177664 ∧ r.f2.f5.length < 70368744177664 ∧ ∀ y ∈ r.f2.f1, y.f1.length < 70368744177664) (d : Nat) : ∀ (i : Nat) (n : Nat), i + d = l.length → n < 2305843009213693952 →
    ∃ b, Evt (fun k => interregnumlaw15_small.l0 k l (n : Int) i) b ∧ (b = true → n < 3000 ∧ ∀ r ∈ l.drop i, okS r) := by
  have fin : ∀ (i n : Nat), ¬ (i < l.length ∧ n < 3000) → Evt (fun k => interregnumlaw15_small.l0 k l (n : Int) i) (decide ((n : Int) < 3000)) := fun i n h => by
    refine Evt.succ (Evt.succ (Evt.now (fun k => ?_)))
    show interregnumlaw15_small.l0 (k + 1 + 1) l (n : Int) i = _
    conv => lhs; unfold interregnumlaw15_small.l0
    by_cases hi : (i : Int) < (l.length : Int)
    · rw [if_pos hi]
      conv => lhs; unfold interregnumlaw15_small.j1
      rw [if_neg (by simp; omega)]
    · rw [if_neg hi]
      conv => lhs; unfold interregnumlaw15_small.j1
      rw [if_neg (by decide)]
  induction d with
  | zero =>
    intro i n hi hn
    refine ⟨_, fin i n (by omega), fun h => ?_⟩
    have := of_decide_eq_true h
    exact ⟨by omega, by rw [List.drop_of_length_le (by omega)]; simp⟩
  | succ d ih =>
    intro i n hi hn
    have hlt : i < l.length := by omega
    by_cases h3 : n < 3000
    · obtain ⟨hp, h5, hq⟩ := hy l[i] (List.getElem_mem hlt)
      obtain ⟨n', h1, h2, h4, h6⟩ := small_l1 l i l[i].f2.f0 l[i].f2.f1 (by omega) hq l[i].f2.f2 l[i].f2.f3 l[i].f2.f4 l[i].f2.f5 l[i].f2.f6 l[i].f2.f1.length 0 (n + l[i].f2.f1.length + l[i].f2.f5.length) (by omega) (by omega)
      obtain ⟨v, hv1, hv2⟩ := ih (i + 1) n' (by omega) h6
      obtain ⟨b, hb1, hb2⟩ := small_j3 l (n' : Int) i hlt l[i].f2.f0 l[i].f2.f1 l[i].f2.f2 l[i].f2.f3 l[i].f2.f4 l[i].f2.f5 l[i].f2.f6 hv1 hl
      refine ⟨b, Evt.succ (Evt.succ ((h1 b hb1).of (fun k => ?_))), fun h => ?_⟩
      · show interregnumlaw15_small.l0 (k + 1 + 1) l (n : Int) i = _
        conv => lhs; unfold interregnumlaw15_small.l0
        rw [if_pos (by omega)]
        conv => lhs; unfold interregnumlaw15_small.j1
        rw [if_pos (by simp; omega), if_pos (by omega), if_pos (by omega), rt_at l i hlt, w64 ((n : Int) + _) (by omega) (by omega), w64 _ (by omega) (by omega), show ((n : Int) + (l[i].f2.f1.length : Int) + (l[i].f2.f5.length : Int)) = ((n + l[i].f2.f1.length + l[i].f2.f5.length : Nat) : Int) by omega]
        rfl
      · obtain ⟨g1, g2, g3, g4, g5⟩ := hb2 h
        obtain ⟨g6, g7⟩ := hv2 g1
        have g8 := h4 g6
        rw [List.drop_zero] at g8
        refine ⟨h3, fun r hr => ?_⟩
        rw [drop_rt l i hlt] at hr
        rcases List.mem_cons.1 hr with rfl | hr
        · exact ⟨g2, g3, g4, g5, by omega⟩
        · exact g7 r hr
    · refine ⟨_, fin i n (by omega), fun h => ?_⟩
      have := of_decide_eq_true h
      omega
theorem wf_len {r : Rt} (h : BndDecideLess.B41 r) : r.f2.f1.length < 70368744177664 ∧ r.f2.f5.length < 70368744177664 ∧ ∀ y ∈ r.f2.f1, y.f1.length < 70368744177664 := by
  obtain ⟨_, _, ⟨_, h1, _, _, _, h5, _⟩, _⟩ := h
  exact ⟨by have := h1.1; omega, by have := h5.1; omega, fun y hy => by have := (h1.2 y hy).2.1; omega⟩
theorem small_ev (l : List Rt) (h : l.length * 136 ≤ 140737488351232 ∧ ∀ y ∈ l, BndDecideLess.B41 y) : ∃ b, Evt (fun k => interregnumlaw15_small.f k l) b ∧ (b = true → l.length < 3000 ∧ ∀ r ∈ l, okS r) := by
  obtain ⟨b, h1, h2⟩ := small_l0 l (by have := h.1; omega) (fun r hr => wf_len (h.2 r hr)) l.length 0 l.length (by omega) (by have := h.1; omega)
  exact ⟨b, h1, fun hb => by have := h2 hb; rwa [List.drop_zero] at this⟩
/-- What the choice is, wherever a list is not too large. -/
def bestV (a : Int) (I : List Inf) (l : List Rt) : Int × Bool := if (leftL a l).length = 0 then (0, false) else (rd (bestB a I l (bestA l (leftL a l))) 0, true)
theorem info_zero (I : List Inf) (P : Int) : infoV I P = z49 ∨ infoV I P ∈ I := by
  unfold infoV
  have h := idxOf_lt (fun x : S49 => decide (x.f0 = P)) I
  split
  · exact .inl rfl
  · rename_i h0
    right
    unfold rd_T49
    rw [List.getD_eq_getElem?_getD, List.getElem?_eq_getElem (show (idxOf (fun x : S49 => decide (x.f0 = P)) I).toNat < I.length by omega)]
    exact List.getElem_mem _
theorem id_small {x : Inf} (h : BndDecideLess.B49 x) : 0 ≤ x.f2 ∧ x.f2 < 4294967296 := by
  have h := h.2.2
  simp [Lit.wf, IntKind.min, IntKind.max, IntKind.signed, IntKind.bits] at h
  omega
theorem info_id (I : List Inf) (hI : ∀ y ∈ I, BndDecideLess.B49 y) (P : Int) : 0 ≤ (infoV I P).f2 ∧ (infoV I P).f2 < 4294967296 := by
  rcases info_zero I P with h | h
  · rw [h]; exact ⟨by decide, by decide⟩
  · exact id_small (hI _ h)
theorem ok_of (I : List Inf) (hI : ∀ y ∈ I, BndDecideLess.B49 y) (r : Rt) (h : okS r) : okR I r ∧ lenR r = ((plen r.f2.f1 : Nat) : Int) := by
  obtain ⟨h1, h2, h3, h4, h5⟩ := h
  have hp := plen_le r.f2.f1
  have hl := path_len r.f2.f1 (by omega) (by omega)
  have he : lenR r = ((plen r.f2.f1 : Nat) : Int) := by unfold lenR; rw [hl]; rfl
  exact ⟨⟨bad_no h1, bad_no h2, bad_no h4, by rw [he]; exact hl, by rw [he]; omega, by have := info_id I hI r.f1; omega⟩, he⟩
theorem best_some (a : Int) (I : List Inf) (hI : ∀ y ∈ I, BndDecideLess.B49 y) (l : List Rt) (hl : l.length < 4000) (h : ∀ r ∈ l, okS r) : decide_Best.f a I l = some (bestV a I l) := by
  unfold decide_Best.f bestV
  rw [if_pos ⟨hl, fun r hr => (ok_of I hI r (h r hr)).1⟩]
  split <;> rfl
theorem answers : interregnumlaw15_answers.f = some true := by
  first | rfl | decide +kernel
theorem keepL_all (p : Int → Bool) (L : List Int) (h : ∃ m ∈ L, p m = true) : ∀ n ∈ keepL p L, p n = true := by
  obtain ⟨m, hm, hp⟩ := h
  intro n hn
  unfold keepL at hn
  rw [if_pos (List.length_pos_of_mem (List.mem_filter.2 ⟨hm, hp⟩))] at hn
  exact (List.mem_filter.1 hn).2
theorem leastL_sub (v : Int → Int) (L : List Int) : ∀ n ∈ leastL v L, n ∈ L := fun n h => keepL_sub (fun n => decide (some (v n) = lowOf v L)) L n h
theorem leastL_pos (v : Int → Int) {L : List Int} (h : 0 < L.length) : 0 < (leastL v L).length := keepL_pos (fun n => decide (some (v n) = lowOf v L)) h
theorem bestA_sub (l : List Rt) (L : List Int) (n : Int) (h : n ∈ bestA l L) : n ∈ keepL (fun n => (rd_T41 l n).f3 != 2) (keepL (fun n => decide ((rd_T41 l n).f1 < 0)) L) := by
  unfold bestA at h
  exact leastL_sub _ _ n (leastL_sub _ _ n (leastL_sub _ _ n h))
theorem bestB_sub (a : Int) (I : List Inf) (l : List Rt) (L : List Int) (n : Int) (h : n ∈ bestB a I l L) : n ∈ L := by
  unfold bestB at h
  exact keepL_sub _ _ n (keepL_sub _ _ n (leastL_sub _ _ n (leastL_sub _ _ n h)))
theorem bestA_pos (l : List Rt) (L : List Int) (h : 0 < L.length) : 0 < (bestA l L).length := by
  unfold bestA
  exact leastL_pos _ (leastL_pos _ (leastL_pos _ (keepL_pos _ (keepL_pos _ h))))
theorem bestB_pos (a : Int) (I : List Inf) (l : List Rt) (L : List Int) (h : 0 < L.length) : 0 < (bestB a I l L).length := by
  unfold bestB
  exact leastL_pos _ (leastL_pos _ (keepL_pos _ (keepL_pos _ h)))
end Go.Proofs.Ytediicgkcgfghaa.DecDecideLess
