/- What was set comes due in order, each once; the plain part of the proof. Conditions: none. -/
import Derived.Test.YtbnchdfmkmkhnaaPTimerOrderx1
namespace Go.Proofs.Ytbnchdfmkmkhnaa.Pure
open Go.RowKit Go.Proofs.Ytbnchdfmkmkhnaa.PTimerOrder Go.Proofs.YtbnchdfmkmkhnaaW.PrintWords Go.Proofs.YtbnchdfmkmkhnaaW.PrintLast Go.Proofs.Ytbnchdfmkmkhnaa.Timer
namespace TimerOrder_
theorem answers_true : interregnumlaw17_answers.f = some true := by
  kernel_rfl
/-- The name of number i. -/
def nm (x4 : Int) : ByteArray := strOfNums (([(97 + ((wrap64 (Int.tdiv x4 26)) % 256)) % 256, (97 + ((Int.tmod x4 26) % 256)) % 256] : List Int))
theorem nm_table : ∀ i : Fin 51, ∀ j : Fin 51, i ≠ j → nm (i.val : Int) ≠ nm (j.val : Int) := by decide +kernel
theorem nm_inj {i j : Nat} (hi : i ≤ 50) (hj : j ≤ 50) (h : nm i = nm j) : i = j := by
  refine Decidable.byContradiction fun hne => nm_table ⟨i, by omega⟩ ⟨j, by omega⟩ (fun e => hne ?_) h
  injection e
theorem nm_size (i : Int) : (nm i).size = 2 := rfl
def Good (s : TimerM) : Prop := s.Pairwise (fun p q => p.1 ≠ q.1) ∧ ∀ p ∈ s, 0 ≤ p.2 ∧ p.2 ≤ 65535 ∧ p.1.size = 2
theorem set_new {s : TimerM} {n : ByteArray} {v : Int} (h : ∀ p ∈ s, p.1 ≠ n) : setM s n v = s ++ [(n, v)] := by
  induction s with
  | nil => rfl
  | cons p l ih =>
    unfold setM
    rw [if_neg (h p List.mem_cons_self), ih (fun q hq => h q (List.mem_cons_of_mem _ hq))]
    rfl
theorem loop1 (l0 : List Int) (hl : l0.length ≤ 50) (d : Nat) : ∀ (k : Nat) (x5 : Int) (x6 : ByteArray) (x7 : Int) (s : TimerM), s.length = d → x7 + d = l0.length → 0 ≤ x7 → Good s →
    (∀ p ∈ s, x5 < p.2 ∨ x5 = p.2 ∧ Op.bytesLess x6.toList p.1.toList = true) → d < k → interregnumlaw17_TimerOrder.l1 k l0 x5 x6 x7 s = some true := by
  induction d with
  | zero =>
    intro k x5 x6 x7 s hs hx h0 hG hF hk
    obtain ⟨k, rfl⟩ : ∃ m, k = m + 1 := ⟨k - 1, by omega⟩
    have : s = [] := List.length_eq_zero_iff.1 hs
    subst this
    unfold interregnumlaw17_TimerOrder.l1
    rw [if_neg (by omega), show timer_Timers_Due.f [] 70000 = some (⟨#[]⟩, 0, false, []) from rfl, answers_true]
    rfl
  | succ d ih =>
    intro k x5 x6 x7 s hs hx h0 hG hF hk
    obtain ⟨k, rfl⟩ : ∃ m, k = m + 1 := ⟨k - 1, by omega⟩
    unfold interregnumlaw17_TimerOrder.l1
    rw [if_pos (by omega)]
    cases hd : dueM s 70000 with
    | none =>
      match s, hs with
      | p :: l, _ => exact absurd (show p.2 ≤ 70000 by have := (hG.2 p List.mem_cons_self); omega) (due_none hd p List.mem_cons_self)
    | some p =>
      obtain ⟨h1, h2, h3⟩ := due_some hd
      have hp := hG.2 p h1
      rw [show timer_Timers_Due.f s 70000 = some (p.1, p.2, true, delM s p.1) by
        unfold timer_Timers_Due.f
        rw [hd]
        dsimp only
        rw [if_pos (by rw [hp.2.2]; unfold maxLen; decide)]]
      rw [Option.bind_some, if_pos rfl]
      have hgo : interregnumlaw17_TimerOrder.l1 k l0 p.2 p.1 (wrap64 (x7 + 1)) (delM s p.1) = some true := by
        have hw : wrap64 (x7 + 1) = x7 + 1 := by unfold wrap64; omega
        rw [hw]
        have hlen := length_del (s := s) (n := p.1)
        have hget : (getM s p.1).isSome = true := by
          cases hg : getM s p.1 with
          | some v => rfl
          | none => exact absurd rfl (get_none hg p h1)
        rw [hget, if_pos rfl] at hlen
        refine ih k p.2 p.1 (x7 + 1) (delM s p.1) (by omega) (by omega) (by omega) ⟨nodup_del hG.1, fun q hq => hG.2 q ((mem_del hG.1).1 hq).1⟩ (fun q hq => ?_) (by omega)
        obtain ⟨hq1, hq2⟩ := (mem_del hG.1).1 hq
        have hb : before p q = true := by
          cases hb : before p q with
          | true => rfl
          | false => exact absurd (congrArg Prod.fst (before_total (h3 q hq1 (by have := hG.2 q hq1; omega)) hb)) hq2
        simp only [before, Bool.or_eq_true, Bool.and_eq_true, decide_eq_true_eq, beq_iff_eq] at hb
        exact hb
      rcases hF p h1 with hlt | ⟨he, hless⟩
      · rw [if_neg (by dsimp only; omega), if_neg (by dsimp only; omega)]
        exact hgo
      · rw [if_neg (by dsimp only; omega), if_pos he.symm, if_pos hless]
        exact hgo
theorem loop0 (l0 : List Int) (hl : l0.length ≤ 50) (hw : ∀ x ∈ l0, (Lit.int .u16 x).wf = true) (d : Nat) : ∀ (k i : Nat) (s : TimerM), i + d = l0.length → s.length = i → Good s → (∀ p ∈ s, ∃ j : Nat, j < i ∧ p.1 = nm j) → d + l0.length + 1 < k →
    interregnumlaw17_TimerOrder.l0 k l0 (i : Int) s = some true := by
  induction d with
  | zero =>
    intro k i s hi hs hG hN hk
    obtain ⟨k, rfl⟩ : ∃ m, k = m + 1 := ⟨k - 1, by omega⟩
    unfold interregnumlaw17_TimerOrder.l0
    rw [if_neg (by omega)]
    exact loop1 l0 hl i k _ _ _ s hs (by omega) (by omega) hG (fun p hp => .inl (by have := hG.2 p hp; omega)) (by omega)
  | succ d ih =>
    intro k i s hi hs hG hN hk
    obtain ⟨k, rfl⟩ : ∃ m, k = m + 1 := ⟨k - 1, by omega⟩
    unfold interregnumlaw17_TimerOrder.l0
    have hlt : i < l0.length := by omega
    have hr : rd l0 (i : Int) = l0[i] := by
      unfold rd
      rw [List.getD_eq_getElem?_getD, Int.toNat_natCast, List.getElem?_eq_getElem hlt]; rfl
    have hv := hw l0[i] (List.getElem_mem hlt)
    have hv2 : 0 ≤ l0[i] ∧ l0[i] ≤ 65535 := by
      simp [Lit.wf, IntKind.min, IntKind.max, IntKind.signed, IntKind.bits] at hv
      omega
    have hw64 : wrap64 l0[i] = l0[i] := by unfold wrap64; omega
    have hw1 : wrap64 ((i : Int) + 1) = ((i + 1 : Nat) : Int) := by unfold wrap64; omega
    rw [if_pos (by omega), if_pos (by omega), hr, hw64, hw1]
    have hnew : ∀ p ∈ s, p.1 ≠ nm i := fun p hp e => by
      obtain ⟨j, hj, h⟩ := hN p hp
      have := nm_inj (by omega) (by omega) (h.symm.trans e)
      omega
    rw [show timer_Timers_Set.f s (strOfNums (([(97 + ((wrap64 (Int.tdiv (i : Int) 26)) % 256)) % 256, (97 + ((Int.tmod (i : Int) 26) % 256)) % 256] : List Int))) l0[i] = some (s ++ [(nm i, l0[i])]) by
      unfold timer_Timers_Set.f
      rw [if_pos ⟨by show (nm i).size ≤ maxLen; rw [nm_size]; unfold maxLen; decide, by simp [Lit.wf, IntKind.min, IntKind.max, IntKind.signed, IntKind.bits]; omega, by rw [hs]; unfold maxLen; omega⟩]
      exact congrArg some (set_new hnew)]
    rw [Option.bind_some]
    refine ih k (i + 1) _ (by omega) (by simp [hs]) ⟨List.pairwise_append.2 ⟨hG.1, List.pairwise_singleton _ _, fun p hp q hq => by rw [List.mem_singleton.1 hq]; exact hnew p hp⟩, fun p hp => ?_⟩ (fun p hp => ?_) (by omega)
    · rcases List.mem_append.1 hp with hp | hp
      · exact hG.2 p hp
      · rw [List.mem_singleton.1 hp]
        exact ⟨hv2.1, hv2.2, nm_size _⟩
    · rcases List.mem_append.1 hp with hp | hp
      · obtain ⟨j, hj, h⟩ := hN p hp
        exact ⟨j, by omega, h⟩
      · rw [List.mem_singleton.1 hp]
        exact ⟨i, by omega, rfl⟩
end TimerOrder_
open TimerOrder_ in
theorem TimerOrder : interregnumlaw17_TimerOrder.Pure := by
  intro l0 hm hz hw
  refine ⟨200, ?_⟩
  unfold interregnumlaw17_TimerOrder.f
  by_cases h : (l0.length : Int) > 50
  · rw [if_pos h, answers_true]; rfl
  · rw [if_neg h, show timer_New.f = some [] from rfl, Option.bind_some]
    exact loop0 l0 (by omega) hw l0.length 200 0 [] (by omega) rfl ⟨List.Pairwise.nil, fun p hp => by cases hp⟩ (fun p hp => by cases hp) (by omega)
end Go.Proofs.Ytbnchdfmkmkhnaa.Pure
