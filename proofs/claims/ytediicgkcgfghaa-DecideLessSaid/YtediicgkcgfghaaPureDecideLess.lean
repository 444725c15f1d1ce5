/- Without one that is not the best, and has no Med of the best one's neighbour to tell, the best one stays. -/
import Derived.Test.YtediicgkcgfghaaBndDecideLess
import Derived.Test.YtediicgkcgfghaaDecDDecideLess
namespace Go.Proofs.Ytediicgkcgfghaa.Pure
open Go.RowKit Go.Proofs.Ytediicgkcgfghaa.PDecideLess Go.Proofs.YtediicgkcgfghaaW.PrintWords Go.Proofs.YtediicgkcgfghaaW.PrintLast Go.Proofs.Ytediicgkcgfghaa.DecDecideLess
def cut (l : List Rt) (k : Nat) : List Rt := l.take k ++ l.drop (k + 1)
def skip1 (k : Nat) (j : Int) : Int := if j < k then j else j + 1
theorem cut_len (l : List Rt) (k : Nat) (h : k < l.length) : (cut l k).length = l.length - 1 := by
  unfold cut
  rw [List.length_append, List.length_drop, List.length_take]
  omega
theorem cut_at (l : List Rt) (k : Nat) (h : k < l.length) (j : Int) (j0 : 0 ≤ j) : rdR (cut l k) j = rdR l (skip1 k j) := by
  show (cut l k).getD j.toNat _ = l.getD (skip1 k j).toNat _
  rw [List.getD_eq_getElem?_getD, List.getD_eq_getElem?_getD]
  congr 1
  unfold cut skip1
  by_cases hj : j.toNat < k
  · rw [List.getElem?_append_left (by rw [List.length_take]; omega), List.getElem?_take_of_lt hj, if_pos (by omega)]
  · rw [List.getElem?_append_right (by rw [List.length_take]; omega), List.length_take, List.getElem?_drop, if_neg (by omega)]
    congr 1
    omega
theorem cut_mem (l : List Rt) (k : Nat) (r : Rt) (h : r ∈ cut l k) : r ∈ l := by
  unfold cut at h
  rcases List.mem_append.1 h with h | h
  · exact List.mem_of_mem_take h
  · exact List.mem_of_mem_drop h
theorem no_beat (l : List Rt) (L : List Int) (hm : ∀ r ∈ l, r.f2.f3 ≤ 0) (hL : In l L) (n : Int) (hn : n ∈ L) : beatenB l L n = false := by
  unfold beatenB
  apply Bool.eq_false_iff.2
  intro h
  have h := (Bool.and_eq_true_iff.1 h).2
  obtain ⟨m, hmL, hb⟩ := List.any_eq_true.1 h
  unfold beatsB at hb
  have hb := of_decide_eq_true (Bool.and_eq_true_iff.1 (Bool.and_eq_true_iff.1 hb).2).2
  have h1 := hm _ (rdR_mem l m (hL m hmL).1 (hL m hmL).2)
  have h2 := hm _ (rdR_mem l n (hL n hn).1 (hL n hn).2)
  omega
/-- Without a route that is not the best one the best one stays, where no Med tells. -/
theorem cut_best (a : Int) (I : List Inf) (l : List Rt) (k : Nat) (hk : k < l.length) (hm : ∀ r ∈ l, r.f2.f3 ≤ 0) (hne : ((k : Nat) : Int) ≠ (bestV a I l).1) :
    (bestV a I l = (0, false) ∧ bestV a I (cut l k) = (0, false)) ∨ (∃ n m, bestV a I l = (n, true) ∧ bestV a I (cut l k) = (m, true) ∧ 0 ≤ m ∧ m < (l.length : Int) ∧ n = skip1 k m) := by
  have hlen := cut_len l k hk
  have hr : ∀ j, 0 ≤ j → j < ((cut l k).length : Int) → (0 ≤ skip1 k j ∧ skip1 k j < (l.length : Int)) ∧ rdR (cut l k) j = rdR l (skip1 k j) := fun j j0 j1 => by
    rw [hlen] at j1
    refine ⟨?_, cut_at l k hk j j0⟩
    unfold skip1
    split <;> omega
  have back : ∀ m : Int, m ≠ (k : Int) → 0 ≤ m → m < (l.length : Int) → ∃ j, 0 ≤ j ∧ j < ((cut l k).length : Int) ∧ skip1 k j = m := fun m mk m0 m1 => by
    rw [hlen]
    by_cases h : m < (k : Int)
    · exact ⟨m, by omega, by omega, by unfold skip1; rw [if_pos h]⟩
    · exact ⟨m - 1, by omega, by omega, by unfold skip1; rw [if_neg (by omega)]; omega⟩
  have c0 := corr_left l (cut l k) (skip1 k) a hr
  by_cases h0 : (leftL a l).length = 0
  · refine .inl ⟨best_none a I l h0, best_none a I _ ?_⟩
    apply Nat.eq_zero_of_not_pos
    intro hp
    obtain ⟨j, hj⟩ := List.exists_mem_of_length_pos hp
    have hi := ((mem_leftL a _ j).1 hj).1
    have := List.length_pos_of_mem ((c0 j hi.1 hi.2).1 hj)
    omega
  · obtain ⟨n, hv, hn, hmn, n0, n1⟩ := best_is a I l (Nat.pos_of_ne_zero h0)
    rw [hv] at hne
    have hne : n ≠ (k : Int) := fun e => hne e.symm
    obtain ⟨n', q0, q1, hn'⟩ := back n hne n0 n1
    have hn0 : n ∈ leftL a l := keepL_sub _ _ _ (keepL_sub _ _ _ (bestA_sub l _ _ (bestB_sub a I l _ _ hmn)))
    have hp' : 0 < (leftL a (cut l k)).length := List.length_pos_of_mem ((c0 n' q0 q1).2 (by rw [hn']; exact hn0))
    obtain ⟨m, hv', hm', hmm, m0, m1⟩ := best_is a I (cut l k) hp'
    have c9 := corr_best l (cut l k) (skip1 k) a I n hr
      (fun v L L' c i i' hv x hx => ⟨n', (c n' q0 q1).2 (by rw [hn']; exact min_sub v L n hv), by rw [hn']; exact ((mem_min v L n).1 hv).2 x hx⟩)
      (fun L L' c i i' j hj => by
        rw [no_beat (cut l k) L' (fun r hr' => hm r (cut_mem l k r hr')) i' j hj, no_beat l L hm i _ ((c j (i' j hj).1 (i' j hj).2).1 hj)])
      hmn
    have f1 := (c9 m m0 m1).1 hmm
    have f2 : n' ∈ bestB a I (cut l k) (bestA (cut l k) (leftL a (cut l k))) := (c9 n' q0 q1).2 (by rw [hn']; exact hmn)
    have g1 := best_first a I l _ f1
    have g2 := best_first a I (cut l k) _ f2
    rw [← hn] at g1
    rw [← hm'] at g2
    rw [hlen] at m1
    refine .inr ⟨n, m, hv, hv', m0, by omega, ?_⟩
    rw [← hn'] at g1 ⊢
    unfold skip1 at g1 ⊢
    split at g1 <;> split at g1 <;> (try rw [if_pos (by assumption)]) <;> (try rw [if_neg (by assumption)]) <;> (try rw [if_pos (by assumption)]) <;> (try rw [if_neg (by assumption)]) <;> omega
theorem less_j2 (n m : Int) (ok ok' : Bool) (h : (ok == ok') = true ∧ (ok = true → n = m)) : Evt (fun q => interregnumlaw15_DecideLess.j2 q n ok m ok') true := by
  refine Evt.succ (Evt.now (fun q => ?_))
  show interregnumlaw15_DecideLess.j2 (q + 1) n ok m ok' = _
  conv => lhs; unfold interregnumlaw15_DecideLess.j2
  rw [answers]
  simp only [Option.bind_some]
  rw [if_pos trivial, if_pos h.1]
  cases ok with
  | true => rw [if_pos rfl, h.2 rfl]; simp
  | false => rw [if_neg (by decide)]
theorem less_key (x0 : Int) (x1 : List Inf) (x2 : List Rt) (k : Nat) (hk : k < x2.length) (hl : x2.length < 3000) (hm : ∀ r ∈ x2, r.f2.f3 ≤ 0) (hne : ¬ ((k : Nat) : Int) = (bestV x0 x1 x2).1) : Evt (fun q => if (k : Int) < (bestV x0 x1 x2).1 then interregnumlaw15_DecideLess.j2 q (bestV x0 x1 x2).1 (bestV x0 x1 x2).2 (wrap64 ((bestV x0 x1 (cut x2 k)).1 + 1)) (bestV x0 x1 (cut x2 k)).2 else interregnumlaw15_DecideLess.j2 q (bestV x0 x1 x2).1 (bestV x0 x1 x2).2 (bestV x0 x1 (cut x2 k)).1 (bestV x0 x1 (cut x2 k)).2) true := by
  rcases cut_best x0 x1 x2 k hk hm hne with ⟨e1, e2⟩ | ⟨n, m, e1, e2, m0, m1, e3⟩
  · rw [e1, e2]
    by_cases h : (k : Int) < 0
    · omega
    · exact (less_j2 0 0 false false ⟨rfl, fun h => by cases h⟩).of (fun q => by rw [if_neg h])
  · rw [e1, e2]
    unfold skip1 at e3
    by_cases h : (k : Int) < n
    · refine (less_j2 n (m + 1) true true ⟨rfl, fun _ => ?_⟩).of (fun q => by rw [if_pos h, w64 (m + 1) (by omega) (by omega)])
      split at e3 <;> omega
    · refine (less_j2 n m true true ⟨rfl, fun _ => ?_⟩).of (fun q => by rw [if_neg h])
      split at e3 <;> omega
theorem less_fin (x0 : Int) (x1 : List Inf) (x2 : List Rt) (x3 : Int) (k : Nat) (hk : Int.tmod (wrap64 x3) (x2.length : Int) = (k : Int) ∧ k < x2.length) (hl : x2.length < 3000) (hm : ∀ r ∈ x2, r.f2.f3 ≤ 0) (hB : decide_Best.f x0 x1 x2 = some (bestV x0 x1 x2)) (hB' : decide_Best.f x0 x1 (cut x2 k) = some (bestV x0 x1 (cut x2 k))) : Evt (fun k => interregnumlaw15_DecideLess.l0 k x0 x1 x2 x3 (x2.length : Int)) true := by
  by_cases hne : ((k : Nat) : Int) = (bestV x0 x1 x2).1
  · refine Evt.succ (Evt.now (fun q => ?_))
    show interregnumlaw15_DecideLess.l0 (q + 1) x0 x1 x2 x3 (x2.length : Int) = _
    conv => lhs; unfold interregnumlaw15_DecideLess.l0
    rw [if_neg (by omega), hB, hk.1, Option.bind_some, if_neg (by omega), if_pos hne, answers, Option.bind_some]
  · refine Evt.succ ((less_key x0 x1 x2 k hk.2 hl hm hne).of (fun q => ?_))
    show interregnumlaw15_DecideLess.l0 (q + 1) x0 x1 x2 x3 (x2.length : Int) = _
    conv => lhs; unfold interregnumlaw15_DecideLess.l0
    rw [if_neg (by omega), hB, hk.1, Option.bind_some, if_neg (by omega), if_neg hne, Option.bind_some, if_pos (by omega), if_pos (by omega), Option.bind_some, Int.toNat_natCast]
    rw [if_pos (by simp only [List.length_nil, List.length_take]; omega), Option.bind_some, wn k (by omega), if_pos (by omega), if_pos (by omega), Option.bind_some, Int.toNat_natCast]
    rw [if_pos (by simp only [List.nil_append, List.length_drop, List.length_take]; omega)]
    rw [show decide_Best.f x0 x1 ([] ++ x2.take k ++ x2.drop (k + 1)) = some (bestV x0 x1 (cut x2 k)) from hB', Option.bind_some]
theorem DecideLess : BndDecideLess.Pure := by
  intro x0 x1 x2 x3 _ h1 h2 h3
  have h3 : 0 ≤ x3 ∧ x3 < 256 := by
    simp [Lit.wf, IntKind.min, IntKind.max, IntKind.signed, IntKind.bits] at h3
    omega
  obtain ⟨b, hb, hok⟩ := small_ev x2 h2
  have un : ∀ k c, interregnumlaw15_DecideLess.j0 (k + 1) x0 x1 x2 x3 c = if c = true then ((interregnumlaw15_answers.f).bind fun t129 => (some t129)) else (interregnumlaw15_DecideLess.l0 k x0 x1 x2 x3 0) := fun k c => by
    conv => lhs; unfold interregnumlaw15_DecideLess.j0
  have jT : Evt (fun k => interregnumlaw15_DecideLess.j0 k x0 x1 x2 x3 true) true := by
    refine Evt.succ (Evt.now (fun k => ?_))
    show interregnumlaw15_DecideLess.j0 (k + 1) x0 x1 x2 x3 true = _
    rw [un, if_pos rfl, answers]
    rfl
  have jF : b = true → 2 ≤ x2.length → Evt (fun k => interregnumlaw15_DecideLess.j0 k x0 x1 x2 x3 false) true := fun hbt hpos => by
    obtain ⟨hl, hr⟩ := hok hbt
    have hB := best_some x0 x1 h1.2 x2 (by omega) hr
    obtain ⟨k, hk⟩ : ∃ k : Nat, Int.tmod (wrap64 x3) (x2.length : Int) = (k : Int) ∧ k < x2.length := by
      rw [w64 x3 (by omega) (by omega)]
      obtain ⟨q, rfl⟩ : ∃ q : Nat, x3 = (q : Int) := ⟨x3.toNat, by omega⟩
      refine ⟨q % x2.length, ?_, Nat.mod_lt _ (by omega)⟩
      rw [Int.tmod_eq_emod_of_nonneg h3.1]
      omega
    have hB' := best_some x0 x1 h1.2 (cut x2 k) (by rw [cut_len x2 k hk.2]; omega) (fun r hr' => hr r (cut_mem x2 k r hr'))
    have fin : (∀ r ∈ x2, r.f2.f3 ≤ 0) → Evt (fun k => interregnumlaw15_DecideLess.l0 k x0 x1 x2 x3 (x2.length : Int)) true := fun hm => less_fin x0 x1 x2 x3 k hk hl hm hB hB'
    have loop : ∀ (d i : Nat), i + d = x2.length → (∀ n : Nat, n < i → (rdR x2 (n : Int)).f2.f3 ≤ 0) → Evt (fun k => interregnumlaw15_DecideLess.l0 k x0 x1 x2 x3 (i : Int)) true := by
      intro d
      induction d with
      | zero =>
        intro i hi hd
        have hi : i = x2.length := by omega
        subst hi
        refine fin (fun r hr' => ?_)
        obtain ⟨q, hq, rfl⟩ := List.mem_iff_getElem.1 hr'
        have := hd q hq
        unfold rdR at this
        rwa [rt_at x2 q hq] at this
      | succ d ih =>
        intro i hi hd
        have hlt : i < x2.length := by omega
        by_cases hp : (rdR x2 (i : Int)).f2.f3 > 0
        · refine Evt.succ (Evt.now (fun q => ?_))
          show interregnumlaw15_DecideLess.l0 (q + 1) x0 x1 x2 x3 (i : Int) = _
          conv => lhs; unfold interregnumlaw15_DecideLess.l0
          rw [if_pos (by omega), if_pos (by omega), if_pos hp, answers]
          rfl
        · refine Evt.succ ((ih (i + 1) (by omega) (fun n hn => ?_)).of (fun q => ?_))
          · by_cases h : n < i
            · exact hd n h
            · have : n = i := by omega
              subst this
              omega
          · show interregnumlaw15_DecideLess.l0 (q + 1) x0 x1 x2 x3 (i : Int) = _
            conv => lhs; unfold interregnumlaw15_DecideLess.l0
            rw [if_pos (by omega), if_pos (by omega), if_neg hp, wn i (by omega)]
    refine Evt.succ ((loop x2.length 0 (by omega) (fun n h => by omega)).of (fun k => ?_))
    show interregnumlaw15_DecideLess.j0 (k + 1) x0 x1 x2 x3 false = _
    rw [un, if_neg (by decide)]
    rfl
  refine Evt.some ((Evt.bind (h := fun k t => if t = true then (if (x2.length : Int) < 2 then (interregnumlaw15_DecideLess.j0 k x0 x1 x2 x3 true) else (interregnumlaw15_DecideLess.j0 k x0 x1 x2 x3 (decide ((x1.length : Int) > 20)))) else (interregnumlaw15_DecideLess.j0 k x0 x1 x2 x3 true)) hb ?_).of (fun k => rfl))
  cases b with
  | false => exact jT.of (fun k => by rw [if_neg (by decide)])
  | true =>
    by_cases h0 : (x2.length : Int) < 2
    · exact jT.of (fun k => by rw [if_pos rfl, if_pos h0])
    · by_cases h20 : (x1.length : Int) > 20
      · exact jT.of (fun k => by rw [if_pos rfl, if_neg h0, decide_eq_true h20])
      · exact (jF rfl (by omega)).of (fun k => by rw [if_pos rfl, if_neg h0, decide_eq_false h20])
end Go.Proofs.Ytediicgkcgfghaa.Pure
