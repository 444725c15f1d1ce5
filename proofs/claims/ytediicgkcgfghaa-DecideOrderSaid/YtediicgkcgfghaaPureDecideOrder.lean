/- In whatever order routes of unlike peers stand, the same one is the best. -/
import Derived.Test.YtediicgkcgfghaaBndDecideOrder
import Derived.Test.YtediicgkcgfghaaDecDDecideOrder
namespace Go.Proofs.Ytediicgkcgfghaa.Pure
open Go.RowKit Go.Proofs.Ytediicgkcgfghaa.PDecideOrder Go.Proofs.YtediicgkcgfghaaW.PrintWords Go.Proofs.YtediicgkcgfghaaW.PrintLast Go.Proofs.Ytediicgkcgfghaa.DecDecideOrder
def rot (l : List Rt) (k : Nat) : List Rt := l.drop k ++ l.take k
def turn (n k : Nat) (j : Int) : Int := if j + k < n then j + k else j + k - n
theorem rot_len (l : List Rt) (k : Nat) (h : k < l.length) : (rot l k).length = l.length := by
  unfold rot
  rw [List.length_append, List.length_drop, List.length_take]
  omega
theorem rot_at (l : List Rt) (k : Nat) (h : k < l.length) (j : Int) (j0 : 0 ≤ j) (j1 : j < (l.length : Int)) : rdR (rot l k) j = rdR l (turn l.length k j) := by
  show (rot l k).getD j.toNat _ = l.getD (turn l.length k j).toNat _
  rw [List.getD_eq_getElem?_getD, List.getD_eq_getElem?_getD]
  congr 1
  unfold rot turn
  by_cases hj : j.toNat < l.length - k
  · rw [List.getElem?_append_left (by rw [List.length_drop]; exact hj), List.getElem?_drop, if_pos (by omega)]
    congr 1
    omega
  · rw [List.getElem?_append_right (by rw [List.length_drop]; omega), List.length_drop, List.getElem?_take_of_lt (by omega), if_neg (by omega)]
    congr 1
    omega
theorem rot_mem (l : List Rt) (k : Nat) (r : Rt) (h : r ∈ rot l k) : r ∈ l := by
  unfold rot at h
  rcases List.mem_append.1 h with h | h
  · exact List.mem_of_mem_drop h
  · exact List.mem_of_mem_take h
/-- Of routes of unlike peers the one that is chosen is found wherever the list begins. -/
theorem rot_best (a : Int) (I : List Inf) (l : List Rt) (k : Nat) (hk : k < l.length) (hu : ∀ n m : Int, 0 ≤ n → n < (l.length : Int) → 0 ≤ m → m < (l.length : Int) → (rdR l n).f1 = (rdR l m).f1 → n = m) :
    ((leftL a l).length = 0 ∧ bestV a I l = (0, false) ∧ bestV a I (rot l k) = (0, false)) ∨ (∃ n m, bestV a I l = (n, true) ∧ bestV a I (rot l k) = (m, true) ∧ 0 ≤ m ∧ m < (l.length : Int) ∧ n = turn l.length k m) := by
  have hlen := rot_len l k hk
  have hr : ∀ j, 0 ≤ j → j < ((rot l k).length : Int) → (0 ≤ turn l.length k j ∧ turn l.length k j < (l.length : Int)) ∧ rdR (rot l k) j = rdR l (turn l.length k j) := fun j j0 j1 => by
    rw [hlen] at j1
    refine ⟨?_, rot_at l k hk j j0 j1⟩
    unfold turn
    split <;> omega
  have back : ∀ m : Int, 0 ≤ m → m < (l.length : Int) → ∃ j, 0 ≤ j ∧ j < ((rot l k).length : Int) ∧ turn l.length k j = m := fun m m0 m1 => by
    rw [hlen]
    by_cases h : (k : Int) ≤ m
    · exact ⟨m - k, by omega, by omega, by unfold turn; rw [if_pos (by omega)]; omega⟩
    · exact ⟨m + l.length - k, by omega, by omega, by unfold turn; rw [if_neg (by omega)]; omega⟩
  have c0 := corr_left l (rot l k) (turn l.length k) a hr
  by_cases h0 : (leftL a l).length = 0
  · refine .inl ⟨h0, best_none a I l h0, best_none a I _ ?_⟩
    apply Nat.eq_zero_of_not_pos
    intro hp
    obtain ⟨j, hj⟩ := List.exists_mem_of_length_pos hp
    have hi := ((mem_leftL a _ j).1 hj).1
    have := List.length_pos_of_mem ((c0 j hi.1 hi.2).1 hj)
    omega
  · obtain ⟨n, hv, hn, hm, n0, n1⟩ := best_is a I l (Nat.pos_of_ne_zero h0)
    have hp' : 0 < (leftL a (rot l k)).length := by
      obtain ⟨x, hx⟩ := List.exists_mem_of_length_pos (Nat.pos_of_ne_zero h0)
      have hi := ((mem_leftL a l x).1 hx).1
      obtain ⟨j, j0, j1, rfl⟩ := back x hi.1 hi.2
      exact List.length_pos_of_mem ((c0 j j0 j1).2 hx)
    obtain ⟨m, hv', hm', hmm, m0, m1⟩ := best_is a I (rot l k) hp'
    have c9 := corr_best l (rot l k) (turn l.length k) a I n hr
      (fun v L L' c i i' _ x hx => by
        obtain ⟨j, j0, j1, rfl⟩ := back x (i x hx).1 (i x hx).2
        exact ⟨j, (c j j0 j1).2 hx, Int.le_refl _⟩)
      (fun L L' c i i' j hj => by
        have hj' := hr j (i' j hj).1 (i' j hj).2
        unfold beatenB
        show ((firstV (rdR (rot l k) j).f2.f1).2 && L'.any (fun m => beatsB (firstV (rdR (rot l k) j).f2.f1).1 (rdR (rot l k) m) (rdR (rot l k) j))) = ((firstV (rdR l (turn l.length k j)).f2.f1).2 && L.any (fun m => beatsB (firstV (rdR l (turn l.length k j)).f2.f1).1 (rdR l m) (rdR l (turn l.length k j))))
        rw [hj'.2]
        congr 1
        apply Bool.eq_iff_iff.2
        rw [List.any_eq_true, List.any_eq_true]
        constructor
        · rintro ⟨x, hx, hb⟩
          have hx' := hr x (i' x hx).1 (i' x hx).2
          rw [hx'.2] at hb
          exact ⟨_, (c x (i' x hx).1 (i' x hx).2).1 hx, hb⟩
        · rintro ⟨x, hx, hb⟩
          obtain ⟨y, y0, y1, rfl⟩ := back x (i x hx).1 (i x hx).2
          refine ⟨y, (c y y0 y1).2 hx, ?_⟩
          rw [(hr y y0 y1).2]
          exact hb)
      hm
    have hf := (c9 m m0 m1).1 hmm
    have hi := (hr m m0 m1).1
    rw [hlen] at m1
    exact .inr ⟨n, m, hv, hv', m0, m1, hu n _ n0 n1 hi.1 hi.2 (best_peer a I l _ n _ hm hf)⟩
theorem DecideOrder : BndDecideOrder.Pure := by
  intro x0 x1 x2 x3 _ h1 h2 h3
  have h3 : 0 ≤ x3 ∧ x3 < 256 := by
    simp [Lit.wf, IntKind.min, IntKind.max, IntKind.signed, IntKind.bits] at h3
    omega
  obtain ⟨b, hb, hok⟩ := small_ev x2 h2
  have un : ∀ k c, interregnumlaw15_DecideOrder.j0 (k + 1) x0 x1 x2 x3 c = if c = true then ((interregnumlaw15_answers.f).bind fun t129 => (some t129)) else (interregnumlaw15_DecideOrder.l0 k x0 x1 x2 x3 0) := fun k c => by
    conv => lhs; unfold interregnumlaw15_DecideOrder.j0
  have jT : Evt (fun k => interregnumlaw15_DecideOrder.j0 k x0 x1 x2 x3 true) true := by
    refine Evt.succ (Evt.now (fun k => ?_))
    show interregnumlaw15_DecideOrder.j0 (k + 1) x0 x1 x2 x3 true = _
    rw [un, if_pos rfl, answers]
    rfl
  have jF : b = true → 0 < x2.length → Evt (fun k => interregnumlaw15_DecideOrder.j0 k x0 x1 x2 x3 false) true := fun hbt hpos => by
    obtain ⟨hl, hr⟩ := hok hbt
    have hB := best_some x0 x1 h1.2 x2 (by omega) hr
    obtain ⟨k, hk⟩ : ∃ k : Nat, Int.tmod (wrap64 x3) (x2.length : Int) = (k : Int) ∧ k < x2.length := by
      rw [w64 x3 (by omega) (by omega)]
      obtain ⟨q, rfl⟩ : ∃ q : Nat, x3 = (q : Int) := ⟨x3.toNat, by omega⟩
      refine ⟨q % x2.length, ?_, Nat.mod_lt _ hpos⟩
      rw [Int.tmod_eq_emod_of_nonneg h3.1]
      omega
    have hB' := best_some x0 x1 h1.2 (rot x2 k) (by rw [rot_len x2 k hk.2]; omega) (fun r hr' => hr r (rot_mem x2 k r hr'))
    -- the end: all peers are unlike
    have fin : (∀ n m : Int, 0 ≤ n → n < (x2.length : Int) → 0 ≤ m → m < (x2.length : Int) → (rdR x2 n).f1 = (rdR x2 m).f1 → n = m) → Evt (fun k => interregnumlaw15_DecideOrder.l0 k x0 x1 x2 x3 (x2.length : Int)) true := fun hu => by
      refine Evt.succ (Evt.now (fun q => ?_))
      show interregnumlaw15_DecideOrder.l0 (q + 1) x0 x1 x2 x3 (x2.length : Int) = _
      conv => lhs; unfold interregnumlaw15_DecideOrder.l0
      rw [if_neg (by omega), if_neg (by omega), hB, hk.1]
      simp only [Option.bind_some]
      rw [if_pos (by omega), if_pos (by omega), Int.toNat_natCast, if_pos (by simp only [List.length_nil, List.length_drop]; omega), if_pos (by simp only [List.nil_append, List.length_drop, List.length_take]; omega)]
      rw [show decide_Best.f x0 x1 ([] ++ x2.drop k ++ x2.take k) = some (bestV x0 x1 (rot x2 k)) from hB', answers]
      simp only [Option.bind_some]
      rw [if_pos trivial]
      rcases rot_best x0 x1 x2 k hk.2 hu with ⟨_, e1, e2⟩ | ⟨n, m, e1, e2, m0, m1, e3⟩
      · rw [e1, e2]
        rfl
      · rw [e1, e2]
        show some (n == Int.tmod (wrap64 (m + (k : Int))) (x2.length : Int)) = some true
        rw [w64 _ (by omega) (by omega), Int.tmod_eq_emod_of_nonneg (by omega)]
        have : n = (m + (k : Int)) % (x2.length : Int) := by
          rw [e3]
          unfold turn
          split
          · rw [Int.emod_eq_of_lt (by omega) (by omega)]
          · rw [← Int.sub_emod_right, Int.emod_eq_of_lt (by omega) (by omega)]
        rw [this]
        simp
    have loop : ∀ (d i : Nat), i + d = x2.length → (∀ n m : Nat, n < m → m < i → (rdR x2 (n : Int)).f1 ≠ (rdR x2 (m : Int)).f1) → Evt (fun k => interregnumlaw15_DecideOrder.l0 k x0 x1 x2 x3 (i : Int)) true := by
      intro d
      induction d with
      | zero =>
        intro i hi hd
        have hi : i = x2.length := by omega
        subst hi
        refine fin (fun n m n0 n1 m0 m1 e => ?_)
        rcases Nat.lt_trichotomy n.toNat m.toNat with h | h | h
        · have := hd n.toNat m.toNat h (by omega)
          rw [show ((n.toNat : Nat) : Int) = n by omega, show ((m.toNat : Nat) : Int) = m by omega] at this
          exact absurd e this
        · omega
        · have := hd m.toNat n.toNat h (by omega)
          rw [show ((n.toNat : Nat) : Int) = n by omega, show ((m.toNat : Nat) : Int) = m by omega] at this
          exact absurd e.symm this
      | succ d ih =>
        intro i hi hd
        have hlt : i < x2.length := by omega
        have inner : ∀ (e j : Nat), j + e = i → (∀ q : Nat, q < j → (rdR x2 (q : Int)).f1 ≠ (rdR x2 (i : Int)).f1) → Evt (fun k => interregnumlaw15_DecideOrder.l1 k x0 x1 x2 x3 (i : Int) (j : Int)) true := by
          intro e
          induction e with
          | zero =>
            intro j hj hq
            have hj : j = i := by omega
            subst hj
            refine Evt.succ ((ih (j + 1) (by omega) (fun n m hnm hm => ?_)).of (fun k => ?_))
            · by_cases h : m < j
              · exact hd n m hnm h
              · have : m = j := by omega
                subst this
                exact hq n hnm
            · show interregnumlaw15_DecideOrder.l1 (k + 1) x0 x1 x2 x3 (j : Int) (j : Int) = _
              conv => lhs; unfold interregnumlaw15_DecideOrder.l1
              rw [if_neg (by omega), wn j (by omega)]
          | succ e ihe =>
            intro j hj hq
            by_cases he : (rdR x2 (i : Int)).f1 = (rdR x2 (j : Int)).f1
            · refine Evt.succ (Evt.now (fun k => ?_))
              show interregnumlaw15_DecideOrder.l1 (k + 1) x0 x1 x2 x3 (i : Int) (j : Int) = _
              conv => lhs; unfold interregnumlaw15_DecideOrder.l1
              rw [if_pos (by omega), if_pos (by omega), if_pos (by omega), if_pos (by omega), if_pos (by omega), if_pos he, answers]
              rfl
            · refine Evt.succ ((ihe (j + 1) (by omega) (fun q h => ?_)).of (fun k => ?_))
              · by_cases h2 : q < j
                · exact hq q h2
                · have : q = j := by omega
                  subst this
                  exact fun e => he e.symm
              · show interregnumlaw15_DecideOrder.l1 (k + 1) x0 x1 x2 x3 (i : Int) (j : Int) = _
                conv => lhs; unfold interregnumlaw15_DecideOrder.l1
                rw [if_pos (by omega), if_pos (by omega), if_pos (by omega), if_pos (by omega), if_pos (by omega), if_neg he, wn j (by omega)]
        refine Evt.succ ((inner i 0 (by omega) (fun q h => by omega)).of (fun k => ?_))
        show interregnumlaw15_DecideOrder.l0 (k + 1) x0 x1 x2 x3 (i : Int) = _
        conv => lhs; unfold interregnumlaw15_DecideOrder.l0
        rw [if_pos (by omega)]
        rfl
    refine Evt.succ ((loop x2.length 0 (by omega) (fun n m _ h => by omega)).of (fun k => ?_))
    show interregnumlaw15_DecideOrder.j0 (k + 1) x0 x1 x2 x3 false = _
    rw [un, if_neg (by decide)]
    rfl
  refine Evt.some ((Evt.bind (h := fun k t => if t = true then (if (x2.length : Int) = 0 then (interregnumlaw15_DecideOrder.j0 k x0 x1 x2 x3 true) else (interregnumlaw15_DecideOrder.j0 k x0 x1 x2 x3 (decide ((x1.length : Int) > 20)))) else (interregnumlaw15_DecideOrder.j0 k x0 x1 x2 x3 true)) hb ?_).of (fun k => rfl))
  cases b with
  | false => exact jT.of (fun k => by rw [if_neg (by decide)])
  | true =>
    by_cases h0 : (x2.length : Int) = 0
    · exact jT.of (fun k => by rw [if_pos rfl, if_pos h0])
    · by_cases h20 : (x1.length : Int) > 20
      · exact jT.of (fun k => by rw [if_pos rfl, if_neg h0, decide_eq_true h20])
      · exact (jF rfl (by omega)).of (fun k => by rw [if_pos rfl, if_neg h0, decide_eq_false h20])
end Go.Proofs.Ytediicgkcgfghaa.Pure
