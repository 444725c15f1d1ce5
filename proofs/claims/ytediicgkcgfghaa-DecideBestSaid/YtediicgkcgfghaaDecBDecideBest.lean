/- The reference's choice, round by round, is the choice that the program makes; for the statement DecideBest. -/
import Derived.Test.YtediicgkcgfghaaDecADecideBest
import Derived.Test.YtediicgkcgfghaaDecCDecideBest
namespace Go.Proofs.Ytediicgkcgfghaa.DecDecideBest
open Go.RowKit Go.Proofs.Ytediicgkcgfghaa.PDecideBest Go.Proofs.YtediicgkcgfghaaW.PrintWords Go.Proofs.YtediicgkcgfghaaW.PrintLast Go.Proofs.YtediicgkcgfghaaW.PrintMore Go.Proofs.Ytediicgkcgfghaa.Help
set_option linter.unusedVariables false
abbrev RInf := S64
def refInf (x : Inf) : RInf := ⟨x.f0, x.f1, x.f2⟩
theorem rinf_at (l : List RInf) (i : Nat) (h : i < l.length) : rd_T64 l (i : Int) = l[i] := by
  unfold rd_T64
  rw [List.getD_eq_getElem?_getD, Int.toNat_natCast, List.getElem?_eq_getElem h]
  rfl
theorem infos_l0 (I : List Inf) (hI : I.length < 4611686018427387903) (d : Nat) : ∀ (i : Nat) (out : List RInf), i + d = I.length → out.length + d < 5864062014805 →
    Evt (fun k => interregnumlaw15_infos.l0 k I out i) (out ++ (I.drop i).map refInf) := by
  induction d with
  | zero =>
    intro i out hi ho
    refine Evt.succ (Evt.now (fun k => ?_))
    show interregnumlaw15_infos.l0 (k + 1) I out i = _
    unfold interregnumlaw15_infos.l0
    rw [if_neg (by omega), List.drop_of_length_le (by omega)]
    simp
  | succ d ih =>
    intro i out hi ho
    have hlt : i < I.length := by omega
    have h := ih (i + 1) (out ++ [refInf I[i]]) (by omega) (by simp; omega)
    rw [List.append_assoc, List.singleton_append, ← List.map_cons, ← List.drop_eq_getElem_cons hlt] at h
    refine Evt.succ (h.of (fun k => ?_))
    show interregnumlaw15_infos.l0 (k + 1) I out i = _
    conv => lhs; unfold interregnumlaw15_infos.l0
    rw [if_pos (by omega), if_pos (by omega), if_pos (by omega), inf_at I i hlt, wn i (by omega)]
    rfl
theorem infos_ev (I : List Inf) (hI : I.length < 5864062014805) : Evt (fun k => interregnumlaw15_infos.f k I) (I.map refInf) := by
  have h := infos_l0 I (by omega) I.length 0 [] (by omega) (by simp; omega)
  rw [List.drop_zero, List.nil_append] at h
  exact h
theorem has_l0 (l : List Seg) (a : Int) (hl : l.length < 4611686018427387903) (hy : ∀ y ∈ l, y.f1.length < 4611686018427387903) (d : Nat) : ∀ (i : Nat), i + d = l.length →
    Evt (fun k => interregnumref05_HasAS.l0 k l a i) ((l.drop i).any (segHas a)) := by
  induction d with
  | zero =>
    intro i hi
    refine Evt.succ (Evt.now (fun k => ?_))
    show interregnumref05_HasAS.l0 (k + 1) l a i = _
    conv => lhs; unfold interregnumref05_HasAS.l0
    rw [if_neg (by omega), List.drop_of_length_le (by omega)]
    rfl
  | succ d ih =>
    intro i hi
    have hlt : i < l.length := by omega
    have hm := hy l[i] (List.getElem_mem hlt)
    have hi2 := ih (i + 1) (by omega)
    have inner : ∀ (e j : Nat), j + e = l[i].f1.length → Evt (fun k => interregnumref05_HasAS.l1 k l a i j) ((l[i].f1.drop j).any (a == ·) || (l.drop (i + 1)).any (segHas a)) := by
      intro e
      induction e with
      | zero =>
        intro j hj
        rw [List.drop_of_length_le (l := l[i].f1) (i := j) (by omega), List.any_nil, Bool.false_or]
        refine Evt.succ (hi2.of (fun k => ?_))
        show interregnumref05_HasAS.l1 (k + 1) l a i j = _
        conv => lhs; unfold interregnumref05_HasAS.l1
        rw [if_pos (by omega), if_pos (by omega), seg_at l i hlt, if_neg (by omega), wn i (by omega)]
      | succ e ihe =>
        intro j hj
        have hjt : j < l[i].f1.length := by omega
        rw [drop_int _ j hjt, List.any_cons]
        by_cases h : l[i].f1[j] = a
        · rw [h, beq_self_eq_true, Bool.true_or, Bool.true_or]
          refine Evt.succ (Evt.now (fun k => ?_))
          show interregnumref05_HasAS.l1 (k + 1) l a i j = _
          conv => lhs; unfold interregnumref05_HasAS.l1
          rw [if_pos (by omega), if_pos (by omega), seg_at l i hlt, if_pos (by omega), if_pos (by omega), rd_at _ j hjt, if_pos h]
        · rw [show (a == l[i].f1[j]) = false from by simpa using fun h' => h h'.symm, Bool.false_or]
          refine Evt.succ ((ihe (j + 1) (by omega)).of (fun k => ?_))
          show interregnumref05_HasAS.l1 (k + 1) l a i j = _
          conv => lhs; unfold interregnumref05_HasAS.l1
          rw [if_pos (by omega), if_pos (by omega), seg_at l i hlt, if_pos (by omega), if_pos (by omega), rd_at _ j hjt, if_neg h, wn j (by omega)]
    have h := inner l[i].f1.length 0 (by omega)
    rw [List.drop_zero] at h
    rw [drop_seg l i hlt, List.any_cons]
    refine Evt.succ (h.of (fun k => ?_))
    show interregnumref05_HasAS.l0 (k + 1) l a i = _
    conv => lhs; unfold interregnumref05_HasAS.l0
    rw [if_pos (by omega)]
    rfl
theorem has_ev (l : List Seg) (a : Int) (hl : l.length < 4611686018427387903) (hy : ∀ y ∈ l, y.f1.length < 4611686018427387903) : Evt (fun k => interregnumref05_HasAS.f k l a) (l.any (segHas a)) := by
  have h := has_l0 l a hl hy l.length 0 (by omega)
  rwa [List.drop_zero] at h
theorem rlen_l0 (l : List Seg) (hl : l.length < 4611686018427387903) (hp : plen l < 4611686018427387904) (d : Nat) : ∀ (i : Nat) (n : Nat), i + d = l.length → n + plen (l.drop i) ≤ plen l →
    Evt (fun k => interregnumref05_Length.l0 k l (n : Int) i) ((n + plen (l.drop i) : Nat) : Int) := by
  induction d with
  | zero =>
    intro i n hi hn
    refine Evt.succ (Evt.now (fun k => ?_))
    show interregnumref05_Length.l0 (k + 1) l (n : Int) i = _
    unfold interregnumref05_Length.l0
    rw [if_neg (by omega), List.drop_of_length_le (by omega)]
    rfl
  | succ d ih =>
    intro i n hi hn
    have hlt : i < l.length := by omega
    rw [plen_drop l i hlt] at hn ⊢
    by_cases h : l[i].f0 = true
    · rw [if_pos h] at hn ⊢
      have h2 := ih (i + 1) (n + 1) (by omega) (by omega)
      rw [show n + 1 + plen (l.drop (i + 1)) = n + (1 + plen (l.drop (i + 1))) by omega] at h2
      refine Evt.succ (h2.of (fun k => ?_))
      show interregnumref05_Length.l0 (k + 1) l (n : Int) i = _
      conv => lhs; unfold interregnumref05_Length.l0
      rw [if_pos (by omega), if_pos (by omega), seg_at l i hlt, if_pos h, wn i (by omega), wn n (by omega)]
    · rw [if_neg h] at hn ⊢
      have h2 := ih (i + 1) (n + l[i].f1.length) (by omega) (by omega)
      rw [show n + l[i].f1.length + plen (l.drop (i + 1)) = n + (l[i].f1.length + plen (l.drop (i + 1))) by omega] at h2
      refine Evt.succ (h2.of (fun k => ?_))
      show interregnumref05_Length.l0 (k + 1) l (n : Int) i = _
      conv => lhs; unfold interregnumref05_Length.l0
      rw [if_pos (by omega), if_pos (by omega), seg_at l i hlt, if_neg h, wn i (by omega), w64 _ (by omega) (by omega), show ((n : Int) + (l[i].f1.length : Int)) = ((n + l[i].f1.length : Nat) : Int) by omega]
theorem rlen_ev (l : List Seg) (hl : l.length < 4611686018427387903) (hp : plen l < 4611686018427387904) : Evt (fun k => interregnumref05_Length.f k l) ((plen l : Nat) : Int) := by
  have h := rlen_l0 l hl hp l.length 0 0 (by omega) (by simp)
  rw [List.drop_zero, Nat.zero_add] at h
  exact h
theorem rfirst_ev (l : List Seg) : Evt (fun k => interregnumref05_First.f k l) (firstV l) := by
  refine Evt.succ (Evt.now (fun k => ?_))
  have h := first_eq l
  rw [← h]
  rfl
theorem med_eq (a : S39) : interregnumref11_med.f a.f0 a.f1 a.f2 a.f3 a.f4 a.f5 a.f6 = some (max a.f3 0) := by
  unfold interregnumref11_med.f
  split
  · rw [Int.max_eq_right (by omega)]
  · rw [Int.max_eq_left (by omega)]
theorem rinfo_l0 (I : List Inf) (hI : I.length < 4611686018427387903) (P : Int) (d : Nat) : ∀ (i : Nat), i + d = I.length →
    Evt (fun k => interregnumref11_info.l0 k (I.map refInf) P i) ((infoV (I.drop i) P).f0, (infoV (I.drop i) P).f1, (infoV (I.drop i) P).f2) := by
  induction d with
  | zero =>
    intro i hi
    refine Evt.succ (Evt.now (fun k => ?_))
    show interregnumref11_info.l0 (k + 1) (I.map refInf) P i = _
    conv => lhs; unfold interregnumref11_info.l0
    rw [if_neg (by simp; omega), List.drop_of_length_le (by omega)]
    rfl
  | succ d ih =>
    intro i hi
    have hlt : i < I.length := by omega
    rw [List.drop_eq_getElem_cons hlt, infoV_cons]
    by_cases h : I[i].f0 = P
    · rw [if_pos h]
      refine Evt.succ (Evt.now (fun k => ?_))
      show interregnumref11_info.l0 (k + 1) (I.map refInf) P i = _
      conv => lhs; unfold interregnumref11_info.l0
      rw [if_pos (by simp; omega), if_pos (by omega), rinf_at _ i (by simpa using hlt), List.getElem_map, if_pos (show (refInf I[i]).f0 = P from h)]
      rfl
    · rw [if_neg h]
      refine Evt.succ ((ih (i + 1) (by omega)).of (fun k => ?_))
      show interregnumref11_info.l0 (k + 1) (I.map refInf) P i = _
      conv => lhs; unfold interregnumref11_info.l0
      rw [if_pos (by simp; omega), if_pos (by omega), rinf_at _ i (by simpa using hlt), List.getElem_map, if_neg (show ¬ (refInf I[i]).f0 = P from h), wn i (by omega)]
theorem rinfo_ev (I : List Inf) (hI : I.length < 4611686018427387903) (P : Int) : Evt (fun k => interregnumref11_info.f k (I.map refInf) P) ((infoV I P).f0, (infoV I P).f1, (infoV I P).f2) := by
  have h := rinfo_l0 I hI P I.length 0 (by omega)
  rwa [List.drop_zero] at h
theorem beat_l0 (l : List Rt) (L : List Int) (hL : L.length < 4000) (hr : ∀ n ∈ L, 0 ≤ n ∧ n < (l.length : Int)) (R : Rt) (d : Nat) : ∀ (i : Nat), i + d = L.length →
    Evt (fun k => interregnumref11_score.l0 k l L (firstV R.f2.f1).1 (firstV R.f2.f1).2 i R.f0.f0 R.f0.f1 R.f1 R.f2.f0 R.f2.f1 R.f2.f2 R.f2.f3 R.f2.f4 R.f2.f5 R.f2.f6 R.f3)
      (if ((firstV R.f2.f1).2 && (L.drop i).any (fun m => beatsB (firstV R.f2.f1).1 (rd_T41 l m) R)) = true then 1 else 0) := by
  induction d with
  | zero =>
    intro i hi
    refine Evt.succ (Evt.now (fun k => ?_))
    show interregnumref11_score.l0 (k + 1) l L _ _ i R.f0.f0 R.f0.f1 R.f1 R.f2.f0 R.f2.f1 R.f2.f2 R.f2.f3 R.f2.f4 R.f2.f5 R.f2.f6 R.f3 = _
    conv => lhs; unfold interregnumref11_score.l0
    rw [if_neg (by omega), List.drop_of_length_le (by omega), List.any_nil, Bool.and_false, if_neg (by decide)]
  | succ d ih =>
    intro i hi
    have hlt : i < L.length := by omega
    obtain ⟨h0, h1⟩ := hr L[i] (List.getElem_mem hlt)
    have hi2 := ih (i + 1) (by omega)
    have key : ∀ c : Bool, c = ((firstV R.f2.f1).2 && beatsB (firstV R.f2.f1).1 (rd_T41 l L[i]) R) →
        Evt (fun k => interregnumref11_score.j1 k l L (firstV R.f2.f1).1 (firstV R.f2.f1).2 i c R.f0.f0 R.f0.f1 R.f1 R.f2.f0 R.f2.f1 R.f2.f2 R.f2.f3 R.f2.f4 R.f2.f5 R.f2.f6 R.f3) (if ((firstV R.f2.f1).2 && (L.drop i).any (fun m => beatsB (firstV R.f2.f1).1 (rd_T41 l m) R)) = true then 1 else 0) := by
      intro c hc
      rw [drop_int L i hlt, List.any_cons, Bool.and_or_distrib_left, ← hc]
      cases c with
      | true =>
        rw [Bool.true_or, if_pos rfl]
        refine Evt.succ (Evt.now (fun k => ?_))
        show interregnumref11_score.j1 (k + 1) l L _ _ i true R.f0.f0 R.f0.f1 R.f1 R.f2.f0 R.f2.f1 R.f2.f2 R.f2.f3 R.f2.f4 R.f2.f5 R.f2.f6 R.f3 = _
        conv => lhs; unfold interregnumref11_score.j1
        rw [if_pos rfl]
      | false =>
        rw [Bool.false_or]
        refine Evt.succ (hi2.of (fun k => ?_))
        show interregnumref11_score.j1 (k + 1) l L _ _ i false R.f0.f0 R.f0.f1 R.f1 R.f2.f0 R.f2.f1 R.f2.f2 R.f2.f3 R.f2.f4 R.f2.f5 R.f2.f6 R.f3 = _
        conv => lhs; unfold interregnumref11_score.j1
        rw [if_neg (by decide), wn i (by omega)]
    have hf := rfirst_ev (rd_T41 l L[i]).f2.f1
    have un : ∀ k, interregnumref11_score.l0 (k + 1) l L (firstV R.f2.f1).1 (firstV R.f2.f1).2 i R.f0.f0 R.f0.f1 R.f1 R.f2.f0 R.f2.f1 R.f2.f2 R.f2.f3 R.f2.f4 R.f2.f5 R.f2.f6 R.f3 = (interregnumref05_First.f k (rd_T41 l L[i]).f2.f1).bind fun bt =>
        (if (firstV R.f2.f1).2 = true then (if bt.2 = true then (if (firstV R.f2.f1).1 = bt.1 then interregnumref11_score.j1 k l L (firstV R.f2.f1).1 (firstV R.f2.f1).2 i (decide (max (rd_T41 l L[i]).f2.f3 0 < max R.f2.f3 0)) R.f0.f0 R.f0.f1 R.f1 R.f2.f0 R.f2.f1 R.f2.f2 R.f2.f3 R.f2.f4 R.f2.f5 R.f2.f6 R.f3 else interregnumref11_score.j1 k l L (firstV R.f2.f1).1 (firstV R.f2.f1).2 i false R.f0.f0 R.f0.f1 R.f1 R.f2.f0 R.f2.f1 R.f2.f2 R.f2.f3 R.f2.f4 R.f2.f5 R.f2.f6 R.f3) else interregnumref11_score.j1 k l L (firstV R.f2.f1).1 (firstV R.f2.f1).2 i false R.f0.f0 R.f0.f1 R.f1 R.f2.f0 R.f2.f1 R.f2.f2 R.f2.f3 R.f2.f4 R.f2.f5 R.f2.f6 R.f3) else interregnumref11_score.j1 k l L (firstV R.f2.f1).1 (firstV R.f2.f1).2 i false R.f0.f0 R.f0.f1 R.f1 R.f2.f0 R.f2.f1 R.f2.f2 R.f2.f3 R.f2.f4 R.f2.f5 R.f2.f6 R.f3) := fun k => by
      conv => lhs; unfold interregnumref11_score.l0
      rw [if_pos (by omega), if_pos (by omega), rd_at L i hlt, if_pos h0, if_pos h1, med_eq, med_eq]
      rfl
    refine Evt.succ ((Evt.bind hf ?_).of un)
    generalize hF : firstV (rd_T41 l L[i]).f2.f1 = F at *
    have hb : beatsB (firstV R.f2.f1).1 (rd_T41 l L[i]) R = (F.2 && (decide (F.1 = (firstV R.f2.f1).1) && decide (max (rd_T41 l L[i]).f2.f3 0 < max R.f2.f3 0))) := by
      unfold beatsB
      rw [hF]
    by_cases h2 : (firstV R.f2.f1).2 = true
    · by_cases h3 : F.2 = true
      · by_cases h4 : (firstV R.f2.f1).1 = F.1
        · exact (key _ (by rw [hb, h2, h3, decide_eq_true h4.symm, Bool.true_and, Bool.true_and, Bool.true_and])).of (fun k => by
            show (if (firstV R.f2.f1).2 = true then (if F.2 = true then (if (firstV R.f2.f1).1 = F.1 then _ else _) else _) else _) = _
            rw [if_pos h2, if_pos h3, if_pos h4])
        · exact (key false (by rw [hb, decide_eq_false (fun e => h4 e.symm), Bool.false_and, Bool.and_false, Bool.and_false])).of (fun k => by
            show (if (firstV R.f2.f1).2 = true then (if F.2 = true then (if (firstV R.f2.f1).1 = F.1 then _ else _) else _) else _) = _
            rw [if_pos h2, if_pos h3, if_neg h4])
      · exact (key false (by rw [hb, Bool.eq_false_iff.mpr h3, Bool.false_and, Bool.and_false])).of (fun k => by
          show (if (firstV R.f2.f1).2 = true then (if F.2 = true then (if (firstV R.f2.f1).1 = F.1 then _ else _) else _) else _) = _
          rw [if_pos h2, if_neg h3])
    · exact (key false (by rw [Bool.eq_false_iff.mpr h2, Bool.false_and])).of (fun k => by
        show (if (firstV R.f2.f1).2 = true then (if F.2 = true then (if (firstV R.f2.f1).1 = F.1 then _ else _) else _) else _) = _
        rw [if_neg h2])
/-- What a step counts. -/
def scV (a : Int) (I : List Inf) (l : List Rt) (L : List Int) (s n : Int) : Int :=
  if s = 0 then (if (rd_T41 l n).f1 < 0 then 0 else 1)
  else if s = 1 then (if (rd_T41 l n).f3 = 2 then 1 else 0)
  else if s = 2 then prefV (rd_T41 l n).f2.f4
  else if s = 3 then lenR (rd_T41 l n)
  else if s = 4 then (rd_T41 l n).f2.f0
  else if s = 5 then (if beatenB l L n = true then 1 else 0)
  else if s = 6 then (if (infoV I (rd_T41 l n).f1).f1 = a then 1 else 0)
  else if s = 7 then (infoV I (rd_T41 l n).f1).f2
  else (rd_T41 l n).f1
theorem score_ev (a : Int) (I : List Inf) (hI : I.length < 4611686018427387903) (hId : ∀ y ∈ I, BndDecideBest.B49 y) (l : List Rt) (hok : ∀ r ∈ l, okS r) (L : List Int) (hL : L.length < 4000) (hr : ∀ n ∈ L, 0 ≤ n ∧ n < (l.length : Int)) (s n : Int) (h0 : 0 ≤ n) (h1 : n < (l.length : Int)) :
    Evt (fun k => interregnumref11_score.f k s a (I.map refInf) l L n) (scV a I l L s n) := by
  have hR := hok _ (rdR_mem l n h0 h1)
  have hid := info_id I hId (rd_T41 l n).f1
  have hlen := (ok_of I hId _ hR).2
  have hpl := plen_le (rd_T41 l n).f2.f1
  have hin := rinfo_ev I hI (rd_T41 l n).f1
  have hbt := beat_l0 l L hL hr (rd_T41 l n) L.length 0 (by omega)
  rw [List.drop_zero] at hbt
  have hfi := rfirst_ev (rd_T41 l n).f2.f1
  have hrl := rlen_ev (rd_T41 l n).f2.f1 (by have := hR.2.2.2.2; omega) (by have := hR.2.2.2.2; omega)
  have hbe : beatenB l L n = ((firstV (rd_T41 l n).f2.f1).2 && L.any (fun m => beatsB (firstV (rd_T41 l n).f2.f1).1 (rd_T41 l m) (rd_T41 l n))) := rfl
  have hpr : ((if (rd_T41 l n).f2.f4 < 0 then (some (100 : Int)) else some (rd_T41 l n).f2.f4).bind fun t => some (wrap64 (-t))) = some (prefV (rd_T41 l n).f2.f4) := by
    have hb := bad_no hR.2.1
    unfold prefV
    split
    · rw [if_neg (by omega)]
      show some (wrap64 (-100)) = _
      rw [w64 _ (by omega) (by omega)]
    · rw [if_pos (by omega)]
      show some (wrap64 (-(rd_T41 l n).f2.f4)) = _
      rw [w64 _ (by omega) (by omega)]
  unfold scV
  rw [hlen, hbe]
  by_cases s0 : s = 0
  · rw [if_pos s0]
    refine Evt.now (fun k => ?_)
    unfold interregnumref11_score.f
    rw [if_pos h0, if_pos h1, if_pos s0]
    split <;> rfl
  rw [if_neg s0]
  by_cases s1 : s = 1
  · rw [if_pos s1]
    refine Evt.now (fun k => ?_)
    unfold interregnumref11_score.f
    rw [if_pos h0, if_pos h1, if_neg s0, if_pos s1]
    split <;> rfl
  rw [if_neg s1]
  by_cases s2 : s = 2
  · rw [if_pos s2]
    refine Evt.now (fun k => ?_)
    unfold interregnumref11_score.f interregnumref11_pref.f
    rw [if_pos h0, if_pos h1, if_neg s0, if_neg s1, if_pos s2]
    exact hpr
  rw [if_neg s2]
  by_cases s3 : s = 3
  · rw [if_pos s3]
    refine (Evt.bind (h := fun k t => some t) hrl (Evt.now (fun _ => rfl))).of (fun k => ?_)
    unfold interregnumref11_score.f
    rw [if_pos h0, if_pos h1, if_neg s0, if_neg s1, if_neg s2, if_pos s3]
  rw [if_neg s3]
  by_cases s4 : s = 4
  · rw [if_pos s4]
    refine Evt.now (fun k => ?_)
    unfold interregnumref11_score.f
    rw [if_pos h0, if_pos h1, if_neg s0, if_neg s1, if_neg s2, if_neg s3, if_pos s4]
  rw [if_neg s4]
  by_cases s5 : s = 5
  · rw [if_pos s5]
    refine (Evt.bind (h := fun k bt => interregnumref11_score.l0 k l L bt.1 bt.2 0 (rd_T41 l n).f0.f0 (rd_T41 l n).f0.f1 (rd_T41 l n).f1 (rd_T41 l n).f2.f0 (rd_T41 l n).f2.f1 (rd_T41 l n).f2.f2 (rd_T41 l n).f2.f3 (rd_T41 l n).f2.f4 (rd_T41 l n).f2.f5 (rd_T41 l n).f2.f6 (rd_T41 l n).f3) hfi hbt).of (fun k => ?_)
    unfold interregnumref11_score.f
    rw [if_pos h0, if_pos h1, if_neg s0, if_neg s1, if_neg s2, if_neg s3, if_neg s4, if_pos s5]
  rw [if_neg s5]
  by_cases s6 : s = 6
  · rw [if_pos s6]
    refine (Evt.bind (h := fun k (bt : Int × Int × Int) => if bt.2.1 = a then some (1 : Int) else some 0) hin (Evt.now (fun _ => ?_))).of (fun k => ?_)
    · show (if (infoV I (rd_T41 l n).f1).f1 = a then some (1 : Int) else some 0) = _
      split <;> rfl
    · unfold interregnumref11_score.f
      rw [if_pos h0, if_pos h1, if_neg s0, if_neg s1, if_neg s2, if_neg s3, if_neg s4, if_neg s5, if_pos s6]
  rw [if_neg s6]
  by_cases s7 : s = 7
  · rw [if_pos s7]
    refine (Evt.bind (h := fun k (bt : Int × Int × Int) => some (wrap64 bt.2.2)) hin (Evt.now (fun _ => ?_))).of (fun k => ?_)
    · show some (wrap64 (infoV I (rd_T41 l n).f1).f2) = _
      rw [w64 _ (by omega) (by omega)]
    · unfold interregnumref11_score.f
      rw [if_pos h0, if_pos h1, if_neg s0, if_neg s1, if_neg s2, if_neg s3, if_neg s4, if_neg s5, if_neg s6, if_pos s7]
  rw [if_neg s7]
  refine Evt.now (fun k => ?_)
  unfold interregnumref11_score.f
  rw [if_pos h0, if_pos h1, if_neg s0, if_neg s1, if_neg s2, if_neg s3, if_neg s4, if_neg s5, if_neg s6, if_neg s7]
section
variable (a : Int) (I : List Inf) (l : List Rt) (L : List Int)
theorem l3_ev (hL : L.length < 4000) (hr : ∀ n ∈ L, 0 ≤ n ∧ n < (l.length : Int)) (s : Int) (v : Int → Int) (hs : ∀ n ∈ L, Evt (fun k => interregnumref11_score.f k s a (I.map refInf) l L n) (v n)) (low : Int) (w : Int × Bool) (d : Nat) : ∀ (i : Nat) (acc : List Int), i + d = L.length → acc.length + d < 8000 →
    Evt (fun k => interregnumref11_Best.l1 k a (I.map refInf) l (acc ++ (L.drop i).filter (fun n => decide (v n = low))) (wrap64 (s + 1))) w → Evt (fun k => interregnumref11_Best.l3 k a (I.map refInf) l L s acc low i) w := by
  induction d with
  | zero =>
    intro i acc hi ha h
    rw [List.drop_of_length_le (by omega), List.filter_nil, List.append_nil] at h
    refine Evt.succ (h.of (fun k => ?_))
    show interregnumref11_Best.l3 (k + 1) a (I.map refInf) l L s acc low i = _
    conv => lhs; unfold interregnumref11_Best.l3
    rw [if_neg (by omega)]
  | succ d ih =>
    intro i acc hi ha h
    have hlt : i < L.length := by omega
    rw [drop_int L i hlt, List.filter_cons] at h
    have hx := hs L[i] (List.getElem_mem hlt)
    by_cases hv : v L[i] = low
    · rw [if_pos (decide_eq_true hv)] at h
      have h2 := ih (i + 1) (acc ++ [L[i]]) (by omega) (by simp; omega) (by rw [List.append_assoc, List.singleton_append]; exact h)
      refine Evt.succ ((Evt.bind (h := fun k t => if t = low then (if acc.length < 17592186044416 then interregnumref11_Best.l3 k a (I.map refInf) l L s (acc ++ [L[i]]) low ((i + 1 : Nat) : Int) else none) else interregnumref11_Best.l3 k a (I.map refInf) l L s acc low ((i + 1 : Nat) : Int)) hx (h2.of (fun k => ?_))).of (fun k => ?_))
      · show (if v L[i] = low then _ else _) = _
        rw [if_pos hv, if_pos (by omega)]
      · show interregnumref11_Best.l3 (k + 1) a (I.map refInf) l L s acc low i = _
        conv => lhs; unfold interregnumref11_Best.l3
        rw [if_pos (by omega), if_pos (by omega), rd_at L i hlt, wn i (by omega)]
    · rw [if_neg (by simpa using hv)] at h
      have h2 := ih (i + 1) acc (by omega) (by omega) h
      refine Evt.succ ((Evt.bind (h := fun k t => if t = low then (if acc.length < 17592186044416 then interregnumref11_Best.l3 k a (I.map refInf) l L s (acc ++ [L[i]]) low ((i + 1 : Nat) : Int) else none) else interregnumref11_Best.l3 k a (I.map refInf) l L s acc low ((i + 1 : Nat) : Int)) hx (h2.of (fun k => ?_))).of (fun k => ?_))
      · show (if v L[i] = low then _ else _) = _
        rw [if_neg hv]
      · show interregnumref11_Best.l3 (k + 1) a (I.map refInf) l L s acc low i = _
        conv => lhs; unfold interregnumref11_Best.l3
        rw [if_pos (by omega), if_pos (by omega), rd_at L i hlt, wn i (by omega)]
theorem l2_ev (hL : L.length < 4000) (hr : ∀ n ∈ L, 0 ≤ n ∧ n < (l.length : Int)) (s : Int) (v : Int → Int) (hs : ∀ n ∈ L, Evt (fun k => interregnumref11_score.f k s a (I.map refInf) l L n) (v n)) (w : Int × Bool) (d : Nat) : ∀ (i : Nat) (m : Int), i + d = L.length →
    Evt (fun k => interregnumref11_Best.l3 k a (I.map refInf) l L s [] (lowR v m (L.drop i)) 0) w → Evt (fun k => interregnumref11_Best.l2 k a (I.map refInf) l L s m i) w := by
  induction d with
  | zero =>
    intro i m hi h
    rw [List.drop_of_length_le (by omega)] at h
    refine Evt.succ (h.of (fun k => ?_))
    show interregnumref11_Best.l2 (k + 1) a (I.map refInf) l L s m i = _
    conv => lhs; unfold interregnumref11_Best.l2
    rw [if_neg (by omega)]
    rfl
  | succ d ih =>
    intro i m hi h
    have hlt : i < L.length := by omega
    rw [drop_int L i hlt] at h
    have hx := hs L[i] (List.getElem_mem hlt)
    have h2 := ih (i + 1) (if v L[i] < m then v L[i] else m) (by omega) h
    refine Evt.succ ((Evt.bind (h := fun k t => if t < m then interregnumref11_Best.l2 k a (I.map refInf) l L s t ((i + 1 : Nat) : Int) else interregnumref11_Best.l2 k a (I.map refInf) l L s m ((i + 1 : Nat) : Int)) hx (h2.of (fun k => ?_))).of (fun k => ?_))
    · show (if v L[i] < m then _ else _) = _
      by_cases hv : v L[i] < m
      · rw [if_pos hv, if_pos hv]
      · rw [if_neg hv, if_neg hv]
    · show interregnumref11_Best.l2 (k + 1) a (I.map refInf) l L s m i = _
      conv => lhs; unfold interregnumref11_Best.l2
      rw [if_pos (by omega), if_pos (by omega), rd_at L i hlt, wn i (by omega)]
theorem round_ev (hL : L.length < 4000) (hp : 0 < L.length) (hr : ∀ n ∈ L, 0 ≤ n ∧ n < (l.length : Int)) (s : Nat) (h9 : s < 9) (v : Int → Int) (hs : ∀ n ∈ L, Evt (fun k => interregnumref11_score.f k (s : Int) a (I.map refInf) l L n) (v n)) (w : Int × Bool)
    (h : Evt (fun k => interregnumref11_Best.l1 k a (I.map refInf) l (minF v L) ((s + 1 : Nat) : Int)) w) : Evt (fun k => interregnumref11_Best.l1 k a (I.map refInf) l L (s : Int)) w := by
  have hx := hs L[0] (List.getElem_mem hp)
  have hm : minF v L = L.filter (fun n => decide (v n = lowR v (v L[0]) L)) := by
    cases L with
    | nil => cases hp
    | cons x T => rfl
  have h3 := l3_ev a I l L hL hr s v hs (lowR v (v L[0]) L) w L.length 0 [] (by omega) (by simp; omega) (by
    rw [List.drop_zero, List.nil_append, ← hm, wn s (by omega)]
    exact h)
  have h2 := l2_ev a I l L hL hr s v hs w L.length 0 (v L[0]) (by omega) (by rw [List.drop_zero]; exact h3)
  have hj : Evt (fun k => interregnumref11_Best.j2 k a (I.map refInf) l L (s : Int) true) w := by
    refine Evt.succ ((Evt.bind (h := fun k t => interregnumref11_Best.l2 k a (I.map refInf) l L s t 0) hx h2).of (fun k => ?_))
    show interregnumref11_Best.j2 (k + 1) a (I.map refInf) l L (s : Int) true = _
    conv => lhs; unfold interregnumref11_Best.j2
    rw [if_pos rfl, if_pos (by omega), show rd L 0 = L[0] from rd_at L 0 hp]
  refine Evt.succ (hj.of (fun k => ?_))
  show interregnumref11_Best.l1 (k + 1) a (I.map refInf) l L (s : Int) = _
  conv => lhs; unfold interregnumref11_Best.l1
  rw [if_pos (by omega), show decide ((L.length : Int) > 0) = true from decide_eq_true (by omega)]
theorem last_ev (hp : 0 < L.length) : Evt (fun k => interregnumref11_Best.l1 k a (I.map refInf) l L ((9 : Nat) : Int)) (rd L 0, true) := by
  refine Evt.succ (Evt.succ (Evt.now (fun k => ?_)))
  show interregnumref11_Best.l1 (k + 1 + 1) a (I.map refInf) l L ((9 : Nat) : Int) = _
  conv => lhs; unfold interregnumref11_Best.l1
  rw [if_neg (by omega)]
  conv => lhs; unfold interregnumref11_Best.j2
  rw [if_neg (by decide), if_neg (by omega), if_pos (by omega)]
theorem none_ev (hp : L.length = 0) : Evt (fun k => interregnumref11_Best.l1 k a (I.map refInf) l L 0) (0, false) := by
  refine Evt.succ (Evt.succ (Evt.now (fun k => ?_)))
  show interregnumref11_Best.l1 (k + 1 + 1) a (I.map refInf) l L 0 = _
  conv => lhs; unfold interregnumref11_Best.l1
  rw [if_pos (by omega), show decide ((L.length : Int) > 0) = false from decide_eq_false (by omega)]
  conv => lhs; unfold interregnumref11_Best.j2
  rw [if_neg (by decide), if_pos (by omega)]
/-- What is left is some of the list. -/
def Some_ (l : List Rt) (L : List Int) : Prop := L.length < 4000 ∧ 0 < L.length ∧ ∀ n ∈ L, 0 ≤ n ∧ n < (l.length : Int)
theorem Some_.keep {l : List Rt} {L : List Int} (h : Some_ l L) (p : Int → Bool) : Some_ l (keepL p L) :=
  ⟨Nat.lt_of_le_of_lt (keepL_len p L) h.1, keepL_pos p h.2.1, fun n hn => h.2.2 n (keepL_sub p L n hn)⟩
theorem step_ev (hI : I.length < 4611686018427387903) (hId : ∀ y ∈ I, BndDecideBest.B49 y) (hok : ∀ r ∈ l, okS r) (h : Some_ l L) (s : Nat) (h9 : s < 9) (L' : List Int) (he : L' = minF (fun n => scV a I l L (s : Int) n) L) (w : Int × Bool)
    (hn : Evt (fun k => interregnumref11_Best.l1 k a (I.map refInf) l L' ((s + 1 : Nat) : Int)) w) : Evt (fun k => interregnumref11_Best.l1 k a (I.map refInf) l L (s : Int)) w := by
  subst he
  exact round_ev a I l L h.1 h.2.1 h.2.2 s h9 _ (fun n hn => score_ev a I hI hId l hok L h.1 h.2.2 (s : Int) n (h.2.2 n hn).1 (h.2.2 n hn).2) w hn
theorem steps_ev (hI : I.length < 4611686018427387903) (hId : ∀ y ∈ I, BndDecideBest.B49 y) (hok : ∀ r ∈ l, okS r) (h0 : Some_ l L) :
    Evt (fun k => interregnumref11_Best.l1 k a (I.map refInf) l L 0) (rd (bestB a I l (bestA l L)) 0, true) := by
  have hA : bestA l L = leastL (fun n => (rd_T41 l n).f2.f0) (leastL (fun n => lenR (rd_T41 l n)) (leastL (fun n => prefV (rd_T41 l n).f2.f4) (keepL (fun n => (rd_T41 l n).f3 != 2) (keepL (fun n => decide ((rd_T41 l n).f1 < 0)) L)))) := rfl
  have e0 : _ = minF (fun n => scV a I l L ((0 : Nat) : Int) n) L := keep_min (fun n => decide ((rd_T41 l n).f1 < 0)) _ L (fun n _ => by
    show (if (rd_T41 l n).f1 < 0 then (0 : Int) else 1) = _
    by_cases h : (rd_T41 l n).f1 < 0
    · rw [if_pos h, if_pos (decide_eq_true h)]
    · rw [if_neg h, if_neg (by simpa using h)])
  refine step_ev a I l L hI hId hok h0 0 (by omega) _ e0 _ ?_
  have h1 := h0.keep (fun n => decide ((rd_T41 l n).f1 < 0))
  clear e0
  generalize keepL (fun n => decide ((rd_T41 l n).f1 < 0)) L = M1 at *
  have e1 : _ = minF (fun n => scV a I l M1 ((1 : Nat) : Int) n) M1 := keep_min (fun n => (rd_T41 l n).f3 != 2) _ M1 (fun n _ => by
    show (if (rd_T41 l n).f3 = 2 then (1 : Int) else 0) = _
    by_cases h : (rd_T41 l n).f3 = 2
    · rw [if_pos h, if_neg (by simp [h])]
    · rw [if_neg h, if_pos (by simpa using h)])
  refine step_ev a I l M1 hI hId hok h1 1 (by omega) _ e1 _ ?_
  have h2 := h1.keep (fun n => (rd_T41 l n).f3 != 2)
  clear e1
  generalize keepL (fun n => (rd_T41 l n).f3 != 2) M1 = M2 at *
  refine step_ev a I l M2 hI hId hok h2 2 (by omega) _ (least_min (fun n => prefV (rd_T41 l n).f2.f4) _ _ (fun n _ => rfl)) _ ?_
  have h3 : Some_ l (leastL (fun n => prefV (rd_T41 l n).f2.f4) M2) := h2.keep _
  generalize leastL (fun n => prefV (rd_T41 l n).f2.f4) M2 = M3 at *
  refine step_ev a I l M3 hI hId hok h3 3 (by omega) _ (least_min (fun n => lenR (rd_T41 l n)) _ _ (fun n _ => rfl)) _ ?_
  have h4 : Some_ l (leastL (fun n => lenR (rd_T41 l n)) M3) := h3.keep _
  generalize leastL (fun n => lenR (rd_T41 l n)) M3 = M4 at *
  refine step_ev a I l M4 hI hId hok h4 4 (by omega) _ (least_min (fun n => (rd_T41 l n).f2.f0) _ _ (fun n _ => rfl)) _ ?_
  have h5 : Some_ l (leastL (fun n => (rd_T41 l n).f2.f0) M4) := h4.keep _
  rw [← hA] at h5 ⊢
  clear hA
  unfold bestB
  generalize bestA l L = M at *
  have e5 : _ = minF (fun n => scV a I l M ((5 : Nat) : Int) n) M := keep_min (fun n => !beatenB l M n) _ M (fun n _ => by
    show (if beatenB l M n = true then (1 : Int) else 0) = _
    cases beatenB l M n <;> rfl)
  refine step_ev a I l M hI hId hok h5 5 (by omega) _ e5 _ ?_
  have h6 := h5.keep (fun n => !beatenB l M n)
  generalize keepL (fun n => !beatenB l M n) M = M6 at *
  have e6 : _ = minF (fun n => scV a I l M6 ((6 : Nat) : Int) n) M6 := keep_min (fun n => (infoV I (rd_T41 l n).f1).f1 != a) _ M6 (fun n _ => by
    show (if (infoV I (rd_T41 l n).f1).f1 = a then (1 : Int) else 0) = _
    by_cases h : (infoV I (rd_T41 l n).f1).f1 = a
    · rw [if_pos h, if_neg (by simp [h])]
    · rw [if_neg h, if_pos (by simpa using h)])
  refine step_ev a I l M6 hI hId hok h6 6 (by omega) _ e6 _ ?_
  have h7 := h6.keep (fun n => (infoV I (rd_T41 l n).f1).f1 != a)
  generalize keepL (fun n => (infoV I (rd_T41 l n).f1).f1 != a) M6 = M7 at *
  refine step_ev a I l M7 hI hId hok h7 7 (by omega) _ (least_min (fun n => (infoV I (rd_T41 l n).f1).f2) _ _ (fun n _ => rfl)) _ ?_
  have h8 : Some_ l (leastL (fun n => (infoV I (rd_T41 l n).f1).f2) M7) := h7.keep _
  generalize leastL (fun n => (infoV I (rd_T41 l n).f1).f2) M7 = M8 at *
  refine step_ev a I l M8 hI hId hok h8 8 (by omega) _ (least_min (fun n => (rd_T41 l n).f1) _ _ (fun n _ => rfl)) _ ?_
  have h9 : Some_ l (leastL (fun n => (rd_T41 l n).f1) M8) := h8.keep _
  exact last_ev a I l _ h9.2.1
theorem l0_ev (hl : l.length < 4000) (hp : ∀ r ∈ l, r.f2.f1.length < 4611686018427387903 ∧ ∀ y ∈ r.f2.f1, y.f1.length < 4611686018427387903) (w : Int × Bool) (h : Evt (fun k => interregnumref11_Best.l1 k a (I.map refInf) l (leftL a l) 0) w) (d : Nat) : ∀ (i : Nat), i + d = l.length →
    Evt (fun k => interregnumref11_Best.l0 k a (I.map refInf) l ((idx i).filter (fun n => useB a (rd_T41 l n))) i) w := by
  induction d with
  | zero =>
    intro i hi
    have hi : i = l.length := by omega
    subst hi
    refine Evt.succ (h.of (fun k => ?_))
    show interregnumref11_Best.l0 (k + 1) a (I.map refInf) l ((idx l.length).filter (fun n => useB a (rd_T41 l n))) (l.length : Int) = _
    conv => lhs; unfold interregnumref11_Best.l0
    rw [if_neg (by omega)]
    rfl
  | succ d ih =>
    intro i hi
    have hlt : i < l.length := by omega
    obtain ⟨h1, h2⟩ := hp l[i] (List.getElem_mem hlt)
    have hx := has_ev l[i].f2.f1 a h1 h2
    have hn := ih (i + 1) (by omega)
    have hlen : ((idx i).filter (fun n => useB a (rd_T41 l n))).length < 17592186044416 := by
      have := List.length_filter_le (fun n => useB a (rd_T41 l n)) (idx i)
      rw [idx_len] at this
      omega
    have e := idx_next (fun n => useB a (rd_T41 l n)) i
    have e : (idx (i + 1)).filter (fun n => useB a (rd_T41 l n)) = (idx i).filter (fun n => useB a (rd_T41 l n)) ++ if (!(l[i].f2.f1.any (segHas a))) = true then [(i : Int)] else [] := by
      rw [e]
      show _ ++ (if useB a (rd_T41 l (i : Int)) = true then _ else _) = _
      rw [rt_at l i hlt]
      rfl
    rw [e] at hn
    generalize (idx i).filter (fun n => useB a (rd_T41 l n)) = M at *
    refine Evt.succ ((Evt.bind (h := fun k t => if t = true then interregnumref11_Best.l0 k a (I.map refInf) l M ((i + 1 : Nat) : Int) else (if M.length < 17592186044416 then interregnumref11_Best.l0 k a (I.map refInf) l (M ++ [(i : Int)]) ((i + 1 : Nat) : Int) else none)) hx (hn.of (fun k => ?_))).of (fun k => ?_))
    · show (if l[i].f2.f1.any (segHas a) = true then _ else _) = _
      cases l[i].f2.f1.any (segHas a) with
      | true => rw [if_pos rfl, if_neg (by decide), List.append_nil]
      | false => rw [if_neg (by decide), if_pos hlen, if_pos (by decide)]
    · show interregnumref11_Best.l0 (k + 1) a (I.map refInf) l M (i : Int) = _
      conv => lhs; unfold interregnumref11_Best.l0
      rw [if_pos (by omega), if_pos (by omega), rt_at l i hlt, wn i (by omega)]
theorem best_ev (hI : I.length < 4611686018427387903) (hId : ∀ y ∈ I, BndDecideBest.B49 y) (hl : l.length < 4000) (hok : ∀ r ∈ l, okS r) : Evt (fun k => interregnumref11_Best.f k a (I.map refInf) l) (bestV a I l) := by
  have hp : ∀ r ∈ l, r.f2.f1.length < 4611686018427387903 ∧ ∀ y ∈ r.f2.f1, y.f1.length < 4611686018427387903 := fun r hr => by
    have h := (hok r hr).2.2.2.2
    refine ⟨by omega, fun y hy => ?_⟩
    have := tot_mem r.f2.f1 y hy
    omega
  have key : Evt (fun k => interregnumref11_Best.l1 k a (I.map refInf) l (leftL a l) 0) (bestV a I l) := by
    unfold bestV
    by_cases h : (leftL a l).length = 0
    · rw [if_pos h]
      exact none_ev a I l _ h
    · rw [if_neg h]
      refine steps_ev a I l _ hI hId hok ⟨?_, Nat.pos_of_ne_zero h, fun n hn => idx_mem (List.mem_filter.1 hn).1⟩
      have h2 := List.length_filter_le (fun n => useB a (rd_T41 l n)) (idx l.length)
      rw [idx_len] at h2
      exact Nat.lt_of_le_of_lt h2 hl
  exact l0_ev a I l hl hp _ key l.length 0 (by omega)
end
end Go.Proofs.Ytediicgkcgfghaa.DecDecideBest
