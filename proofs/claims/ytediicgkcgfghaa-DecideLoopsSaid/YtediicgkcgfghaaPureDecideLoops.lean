/- A route in whose path our own number is never is the best; nor is one that is long-lived stale, if there is another one. -/
import Derived.Test.YtediicgkcgfghaaBndDecideLoops
import Derived.Test.YtediicgkcgfghaaDecADecideLoops
namespace Go.Proofs.Ytediicgkcgfghaa.Pure
open Go.RowKit Go.Proofs.Ytediicgkcgfghaa.PDecideLoops Go.Proofs.YtediicgkcgfghaaW.PrintWords Go.Proofs.YtediicgkcgfghaaW.PrintLast Go.Proofs.Ytediicgkcgfghaa.DecDecideLoops
theorem idx_succ (k : Nat) : idx (k + 1) = idx k ++ [(k : Int)] := by
  unfold idx
  rw [List.range_succ, List.map_append]
  rfl
def isO (a : Int) (l : List Rt) (n : Int) : Bool := useB a (rd_T41 l n)
def isF (a : Int) (l : List Rt) (n : Int) : Bool := useB a (rd_T41 l n) && ((rd_T41 l n).f3 != 2)
def isS (a : Int) (l : List Rt) (n : Int) : Bool := useB a (rd_T41 l n) && decide ((rd_T41 l n).f1 < 0)
theorem loops_l0 (a : Int) (l : List Rt) (hp : ∀ r ∈ l, r.f2.f1.length < 4611686018427387903 ∧ ∀ y ∈ r.f2.f1, y.f1.length < 4611686018427387903) (hl : l.length < 4000) (n : Int) (ok : Bool) (v : Bool) (h : Evt (fun k => interregnumlaw15_DecideLoops.l0 k a l n ok ((idx l.length).any (isF a l)) ((idx l.length).any (isS a l)) ((idx l.length).any (isO a l)) (l.length : Int)) v) (d : Nat) : ∀ (i : Nat), i + d = l.length →
    Evt (fun k => interregnumlaw15_DecideLoops.l0 k a l n ok ((idx i).any (isF a l)) ((idx i).any (isS a l)) ((idx i).any (isO a l)) (i : Int)) v := by
  induction d with
  | zero =>
    intro i hi
    have hi : i = l.length := by omega
    subst hi
    exact h
  | succ d ih =>
    intro i hi
    have hlt : i < l.length := by omega
    obtain ⟨h1, h2⟩ := hp l[i] (List.getElem_mem hlt)
    have hx := has_ev l[i].f2.f1 a h1 h2
    have hn := ih (i + 1) (by omega)
    rw [idx_succ, List.any_append, List.any_append, List.any_append] at hn
    have eF : [(i : Int)].any (isF a l) = (!(l[i].f2.f1.any (segHas a)) && (l[i].f3 != 2)) := by
      rw [List.any_cons, List.any_nil, Bool.or_false]
      unfold isF
      rw [rt_at l i hlt]
      rfl
    have eS : [(i : Int)].any (isS a l) = (!(l[i].f2.f1.any (segHas a)) && decide (l[i].f1 < 0)) := by
      rw [List.any_cons, List.any_nil, Bool.or_false]
      unfold isS
      rw [rt_at l i hlt]
      rfl
    have eO : [(i : Int)].any (isO a l) = !(l[i].f2.f1.any (segHas a)) := by
      rw [List.any_cons, List.any_nil, Bool.or_false]
      unfold isO
      rw [rt_at l i hlt]
      rfl
    rw [eF, eS, eO] at hn
    generalize (idx i).any (isF a l) = F at *
    generalize (idx i).any (isS a l) = Sx at *
    generalize (idx i).any (isO a l) = O at *
    have un : ∀ k, interregnumlaw15_DecideLoops.l0 (k + 1) a l n ok F Sx O (i : Int) = (interregnumref05_HasAS.f k l[i].f2.f1 a).bind fun t136 => (if t136 = true then (interregnumlaw15_DecideLoops.l0 k a l n ok F Sx O ((i + 1 : Nat) : Int)) else (if F = true then (if Sx = true then (interregnumlaw15_DecideLoops.l0 k a l n ok true true true ((i + 1 : Nat) : Int)) else (interregnumlaw15_DecideLoops.l0 k a l n ok true (decide (l[i].f1 < 0)) true ((i + 1 : Nat) : Int))) else (if Sx = true then (interregnumlaw15_DecideLoops.l0 k a l n ok (l[i].f3 != 2) true true ((i + 1 : Nat) : Int)) else (interregnumlaw15_DecideLoops.l0 k a l n ok (l[i].f3 != 2) (decide (l[i].f1 < 0)) true ((i + 1 : Nat) : Int))))) := fun k => by
      conv => lhs; unfold interregnumlaw15_DecideLoops.l0
      rw [if_pos (by omega), if_pos (by omega), rt_at l i hlt, wn i (by omega)]
    refine Evt.succ ((Evt.bind hx (hn.of (fun k => ?_))).of un)
    cases l[i].f2.f1.any (segHas a) with
    | true => simp
    | false => cases F <;> cases Sx <;> cases O <;> simp
theorem DecideLoops : BndDecideLoops.Pure := by
  intro x0 x1 x2 _ h1 h2
  obtain ⟨b, hb, hok⟩ := small_ev x2 h2
  have un : ∀ k c, interregnumlaw15_DecideLoops.j0 (k + 1) x0 x1 x2 c = if c = true then ((interregnumlaw15_answers.f).bind fun t132 => (some t132)) else ((decide_Best.f x0 x1 x2).bind fun bt133 => (interregnumlaw15_DecideLoops.l0 k x0 x2 bt133.1 bt133.2 false false false 0)) := fun k c => by
    conv => lhs; unfold interregnumlaw15_DecideLoops.j0
  have jT : Evt (fun k => interregnumlaw15_DecideLoops.j0 k x0 x1 x2 true) true := by
    refine Evt.succ (Evt.now (fun k => ?_))
    show interregnumlaw15_DecideLoops.j0 (k + 1) x0 x1 x2 true = _
    rw [un, if_pos rfl, answers]
    rfl
  have jF : b = true → Evt (fun k => interregnumlaw15_DecideLoops.j0 k x0 x1 x2 false) true := fun hbt => by
    obtain ⟨hl, hr⟩ := hok hbt
    have hp : ∀ r ∈ x2, r.f2.f1.length < 4611686018427387903 ∧ ∀ y ∈ r.f2.f1, y.f1.length < 4611686018427387903 := fun r hr' => by
      have h := (hr r hr').2.2.2.2
      refine ⟨by omega, fun y hy => ?_⟩
      have := tot_mem r.f2.f1 y hy
      omega
    have hB := best_some x0 x1 h1.2 x2 (by omega) hr
    have hO : (idx x2.length).any (isO x0 x2) = (bestV x0 x1 x2).2 := by
      have e : (idx x2.length).any (isO x0 x2) = true ↔ 0 < (leftL x0 x2).length := by
        rw [List.any_eq_true]
        constructor
        · rintro ⟨m, hm, hq⟩
          exact List.length_pos_of_mem (List.mem_filter.2 ⟨hm, hq⟩)
        · intro h
          obtain ⟨m, hm⟩ := List.exists_mem_of_length_pos h
          exact ⟨m, (List.mem_filter.1 hm).1, (List.mem_filter.1 hm).2⟩
      unfold bestV
      by_cases h : (leftL x0 x2).length = 0
      · rw [if_pos h]
        exact Bool.eq_false_iff.2 (fun hq => by have := e.1 hq; omega)
      · rw [if_neg h]
        exact e.2 (Nat.pos_of_ne_zero h)
    have key : Evt (fun k => interregnumlaw15_DecideLoops.l0 k x0 x2 (bestV x0 x1 x2).1 (bestV x0 x1 x2).2 ((idx x2.length).any (isF x0 x2)) ((idx x2.length).any (isS x0 x2)) ((idx x2.length).any (isO x0 x2)) (x2.length : Int)) true := by
      by_cases h0 : (leftL x0 x2).length = 0
      · have hv : bestV x0 x1 x2 = (0, false) := by unfold bestV; rw [if_pos h0]
        rw [hO, hv]
        refine Evt.succ (Evt.now (fun k => ?_))
        show interregnumlaw15_DecideLoops.l0 (k + 1) x0 x2 0 false _ _ false (x2.length : Int) = _
        conv => lhs; unfold interregnumlaw15_DecideLoops.l0
        rw [if_neg (by omega), if_neg (by decide), if_neg (by decide), answers]
        rfl
      · have hpos := Nat.pos_of_ne_zero h0
        obtain ⟨n, hn⟩ : ∃ n, n = rd (bestB x0 x1 x2 (bestA x2 (leftL x0 x2))) 0 := ⟨_, rfl⟩
        have hv : bestV x0 x1 x2 = (n, true) := by unfold bestV; rw [if_neg h0, hn]
        have hlen := bestB_pos x0 x1 x2 _ (bestA_pos x2 _ hpos)
        have hm1 : n ∈ bestB x0 x1 x2 (bestA x2 (leftL x0 x2)) := by rw [hn]; exact rd_mem _ 0 (by omega) (by omega)
        have hm2 := bestA_sub x2 _ n (bestB_sub x0 x1 x2 _ n hm1)
        have hm3 := keepL_sub _ _ n hm2
        have hm4 := keepL_sub _ _ n hm3
        obtain ⟨hm5, hu⟩ := List.mem_filter.1 hm4
        obtain ⟨n0, n1⟩ := idx_mem hm5
        have hu : (!((rd_T41 x2 n).f2.f1.any (segHas x0))) = true := hu
        obtain ⟨q1, q2⟩ := hp _ (rdR_mem x2 n n0 n1)
        have hx := has_ev (rd_T41 x2 n).f2.f1 x0 q1 q2
        have hS : (idx x2.length).any (isS x0 x2) = true → (rd_T41 x2 n).f1 < 0 := fun h => by
          obtain ⟨m, hm, hq⟩ := List.any_eq_true.1 h
          have hq := Bool.and_eq_true_iff.1 hq
          exact of_decide_eq_true (keepL_all _ _ ⟨m, List.mem_filter.2 ⟨hm, hq.1⟩, hq.2⟩ n hm3)
        have hF : (idx x2.length).any (isS x0 x2) = false → (idx x2.length).any (isF x0 x2) = true → ((rd_T41 x2 n).f3 != 2) = true := fun hs h => by
          obtain ⟨m, hm, hq⟩ := List.any_eq_true.1 h
          have hq := Bool.and_eq_true_iff.1 hq
          have hno : ∀ y ∈ leftL x0 x2, decide ((rd_T41 x2 y).f1 < 0) = false := fun y hy => by
            cases hd : decide ((rd_T41 x2 y).f1 < 0) with
            | false => rfl
            | true =>
              have := List.any_eq_true.2 ⟨y, (List.mem_filter.1 hy).1, (show isS x0 x2 y = true by unfold isS; rw [hd, Bool.and_true]; exact (List.mem_filter.1 hy).2)⟩
              rw [hs] at this
              cases this
          have hsame : m ∈ keepL (fun n => decide ((rd_T41 x2 n).f1 < 0)) (leftL x0 x2) := by
            unfold keepL
            split
            · rename_i hp0
              obtain ⟨y, hy⟩ := List.exists_mem_of_length_pos hp0
              have hy := List.mem_filter.1 hy
              rw [hno y hy.1] at hy
              cases hy.2
            · exact List.mem_filter.2 ⟨hm, hq.1⟩
          exact keepL_all _ _ ⟨m, hsame, hq.2⟩ n hm2
        rw [hO, hv]
        generalize (idx x2.length).any (isS x0 x2) = Sx at *
        generalize (idx x2.length).any (isF x0 x2) = F at *
        have hun : ∀ k, interregnumlaw15_DecideLoops.l0 (k + 1) x0 x2 n true F Sx true (x2.length : Int) = (interregnumref05_HasAS.f k (rd_T41 x2 n).f2.f1 x0).bind fun t143 => (if t143 = true then (some false) else (if Sx = true then (if ((rd_T41 x2 n).f1) < 0 then (some true) else (some false)) else (if F = true then (some (((rd_T41 x2 n).f3) != 2)) else (some true)))) := fun k => by
          conv => lhs; unfold interregnumlaw15_DecideLoops.l0
          rw [if_neg (by omega), if_neg (by decide), if_pos rfl, answers]
          simp only [Option.bind_some]
          rw [if_pos trivial, if_pos n0, if_pos n1]
        refine Evt.succ ((Evt.bind hx (Evt.now (fun k => ?_))).of hun)
        rw [show (rd_T41 x2 n).f2.f1.any (segHas x0) = false by simpa using hu, if_neg (by decide)]
        cases Sx with
        | true => rw [if_pos rfl, if_pos (hS rfl)]
        | false =>
          rw [if_neg (by decide)]
          cases F with
          | true => rw [if_pos rfl, hF rfl rfl]
          | false => rw [if_neg (by decide)]
    have hloop := loops_l0 x0 x2 hp (by omega) (bestV x0 x1 x2).1 (bestV x0 x1 x2).2 true key x2.length 0 (by omega)
    refine Evt.succ (hloop.of (fun k => ?_))
    show interregnumlaw15_DecideLoops.j0 (k + 1) x0 x1 x2 false = _
    rw [un, if_neg (by decide), hB]
    rfl
  refine Evt.some ((Evt.bind (h := fun k t => if t = true then (interregnumlaw15_DecideLoops.j0 k x0 x1 x2 (decide ((x1.length : Int) > 20))) else (interregnumlaw15_DecideLoops.j0 k x0 x1 x2 true)) hb ?_).of (fun k => rfl))
  cases b with
  | false => exact jT.of (fun k => by rw [if_neg (by decide)])
  | true =>
    by_cases h20 : (x1.length : Int) > 20
    · exact jT.of (fun k => by rw [if_pos rfl, decide_eq_true h20])
    · exact (jF rfl).of (fun k => by rw [if_pos rfl, decide_eq_false h20])
end Go.Proofs.Ytediicgkcgfghaa.Pure
