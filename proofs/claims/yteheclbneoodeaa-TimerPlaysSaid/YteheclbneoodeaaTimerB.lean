/- A map from names to numbers and two lists side by side: what is set, dropped and due. No program in sight. -/
import Derived.Test.YteheclbneoodeaaTimer
namespace Go.Proofs.Yteheclbneoodeaa.Timer
set_option linter.unusedVariables false
set_option linter.unusedSimpArgs false
abbrev Nodup (s : TimerM) : Prop := s.Pairwise (fun p q => p.1 ≠ q.1)
theorem nodup_at {s : TimerM} (h : Nodup s) {i j : Nat} (hi : i < s.length) (hj : j < s.length) (e : (s[i]).1 = (s[j]).1) : i = j := by
  rcases Nat.lt_trichotomy i j with h1 | h1 | h1
  · exact absurd e (List.pairwise_iff_getElem.1 h i j hi hj h1)
  · exact h1
  · exact absurd e.symm (List.pairwise_iff_getElem.1 h j i hj hi h1)
theorem getM_at {s : TimerM} (h : Nodup s) {i : Nat} (hi : i < s.length) : getM s (s[i]).1 = some (s[i]).2 := by
  cases hg : getM s (s[i]).1 with
  | none => exact absurd rfl (get_none hg _ (List.getElem_mem hi))
  | some v =>
    obtain ⟨j, hj, e⟩ := List.mem_iff_getElem.1 (get_some hg)
    have := nodup_at h hi hj (by rw [e])
    subst this
    rw [e]
theorem getM_no {s : TimerM} {n : ByteArray} (h : ∀ p ∈ s, p.1 ≠ n) : getM s n = none := by
  cases hg : getM s n with
  | none => rfl
  | some v => exact absurd rfl (h _ (get_some hg))
theorem setM_no {s : TimerM} {n : ByteArray} {v : Int} (h : ∀ p ∈ s, p.1 ≠ n) : setM s n v = s ++ [(n, v)] := by
  induction s with
  | nil => rfl
  | cons p l ih =>
    unfold setM
    rw [if_neg (h p List.mem_cons_self), ih (fun q hq => h q (List.mem_cons_of_mem _ hq))]
    rfl
theorem setM_at {s : TimerM} (h : Nodup s) {v : Int} : ∀ {i : Nat} (hi : i < s.length), setM s (s[i]).1 v = s.set i ((s[i]).1, v) := by
  induction s with
  | nil => intro i hi; simp at hi
  | cons p l ih =>
    intro i hi
    obtain ⟨h1, h2⟩ := List.pairwise_cons.1 h
    cases i with
    | zero =>
      unfold setM
      rw [List.getElem_cons_zero, if_pos rfl]
      rfl
    | succ i =>
      have hi2 : i < l.length := by simpa using hi
      unfold setM
      rw [List.getElem_cons_succ, if_neg (h1 _ (List.getElem_mem hi2)), ih h2 hi2]
      rfl
theorem delM_no {s : TimerM} {n : ByteArray} (h : ∀ p ∈ s, p.1 ≠ n) : delM s n = s := by
  induction s with
  | nil => rfl
  | cons p l ih =>
    unfold delM
    rw [if_neg (h p List.mem_cons_self), ih (fun q hq => h q (List.mem_cons_of_mem _ hq))]
theorem delM_at {s : TimerM} (h : Nodup s) : ∀ {i : Nat} (hi : i < s.length), delM s (s[i]).1 = s.take i ++ s.drop (i + 1) := by
  induction s with
  | nil => intro i hi; simp at hi
  | cons p l ih =>
    intro i hi
    obtain ⟨h1, h2⟩ := List.pairwise_cons.1 h
    cases i with
    | zero =>
      unfold delM
      rw [List.getElem_cons_zero, if_pos rfl]
      rfl
    | succ i =>
      have hi2 : i < l.length := by simpa using hi
      unfold delM
      rw [List.getElem_cons_succ, if_neg (h1 _ (List.getElem_mem hi2)), ih h2 hi2]
      rfl
/-- Where a name was found among the first k. -/
def FoundAt (s : TimerM) (n : ByteArray) (k : Nat) (a : Int) : Prop := (a = -1 ∧ ∀ j (h : j < s.length), j < k → (s[j]).1 ≠ n) ∨ ∃ (i : Nat) (h : i < s.length), a = (i : Int) ∧ (s[i]).1 = n
theorem FoundAt.zero (s : TimerM) (n : ByteArray) : FoundAt s n 0 (-1) := .inl ⟨rfl, fun j _ h => by omega⟩
theorem FoundAt.hit {s : TimerM} {n : ByteArray} {k : Nat} {a : Int} (h : FoundAt s n k a) (hk : k < s.length) (e : (s[k]).1 = n) : FoundAt s n (k + 1) (k : Int) := .inr ⟨k, hk, rfl, e⟩
theorem FoundAt.miss {s : TimerM} {n : ByteArray} {k : Nat} {a : Int} (h : FoundAt s n k a) (hk : k < s.length) (e : (s[k]).1 ≠ n) : FoundAt s n (k + 1) a := by
  rcases h with ⟨h1, h2⟩ | h
  · refine .inl ⟨h1, fun j hj hjk => ?_⟩
    rcases Nat.lt_or_ge j k with h3 | h3
    · exact h2 j hj h3
    · obtain rfl : j = k := by omega
      exact e
  · exact .inr h
theorem FoundAt.none_ {s : TimerM} {n : ByteArray} {a : Int} (h : FoundAt s n s.length a) (ha : ¬ 0 ≤ a) : a = -1 ∧ ∀ p ∈ s, p.1 ≠ n := by
  rcases h with ⟨h1, h2⟩ | ⟨i, hi, h3, _⟩
  · refine ⟨h1, fun p hp => ?_⟩
    obtain ⟨j, hj, rfl⟩ := List.mem_iff_getElem.1 hp
    exact h2 j hj hj
  · omega
theorem FoundAt.some_ {s : TimerM} {n : ByteArray} {k : Nat} {a : Int} (h : FoundAt s n k a) (ha : 0 ≤ a) : ∃ (i : Nat) (h : i < s.length), a = (i : Int) ∧ (s[i]).1 = n := by
  rcases h with ⟨h1, _⟩ | h
  · omega
  · exact h
/-- The best of the first k. -/
def BestAt (s : TimerM) (now : Int) (k : Nat) (a : Int) : Prop := (a = -1 ∧ ∀ q ∈ s.take k, ¬ q.2 ≤ now) ∨ ∃ (i : Nat) (h : i < s.length), a = (i : Int) ∧ i < k ∧ First (· ∈ s.take k) now s[i]
theorem BestAt.zero (s : TimerM) (now : Int) : BestAt s now 0 (-1) := .inl ⟨rfl, fun q hq => by simp at hq⟩
theorem mem_take_succ {s : TimerM} {k : Nat} (hk : k < s.length) (q : ByteArray × Int) : q ∈ s.take (k + 1) ↔ q ∈ s.take k ∨ q = s[k] := by
  rw [List.take_succ_eq_append_getElem hk, List.mem_append, List.mem_singleton]
theorem BestAt.miss {s : TimerM} {now : Int} {k : Nat} {a : Int} (h : BestAt s now k a) (hk : k < s.length) (hs : ¬ (s[k]).2 ≤ now ∨ ∃ (i : Nat) (h : i < s.length), a = (i : Int) ∧ before s[k] s[i] = false) : BestAt s now (k + 1) a := by
  rcases h with ⟨h1, h2⟩ | ⟨i, hi, h1, h2, h3, h4, h5⟩
  · refine .inl ⟨h1, fun q hq => ?_⟩
    rcases (mem_take_succ hk q).1 hq with hq | rfl
    · exact h2 q hq
    · rcases hs with hs | ⟨i, _, e, _⟩
      · exact hs
      · omega
  · refine .inr ⟨i, hi, h1, by omega, (mem_take_succ hk _).2 (.inl h3), h4, fun q hq hqn => ?_⟩
    rcases (mem_take_succ hk q).1 hq with hq | rfl
    · exact h5 q hq hqn
    · rcases hs with hs | ⟨j, hj, e, hb⟩
      · exact absurd hqn hs
      · obtain rfl : j = i := by omega
        exact hb
theorem BestAt.hit {s : TimerM} {now : Int} {k : Nat} {a : Int} (h : BestAt s now k a) (hk : k < s.length) (hn : (s[k]).2 ≤ now) (hs : a < 0 ∨ ∃ (i : Nat) (h : i < s.length), a = (i : Int) ∧ before s[k] s[i] = true) : BestAt s now (k + 1) (k : Int) := by
  refine .inr ⟨k, hk, rfl, by omega, (mem_take_succ hk _).2 (.inr rfl), hn, fun q hq hqn => ?_⟩
  rcases (mem_take_succ hk q).1 hq with hq | rfl
  · rcases h with ⟨h1, h2⟩ | ⟨i, hi, h1, h2, h3, h4, h5⟩
    · exact absurd hqn (h2 q hq)
    · rcases hs with hs | ⟨j, hj, e, hb⟩
      · omega
      · obtain rfl : j = i := by omega
        cases hx : before q s[k] with
        | false => rfl
        | true => exact absurd (before_trans hx hb) (by simp [h5 q hq hqn])
  · exact before_irrefl _
theorem BestAt.end_ {s : TimerM} {now : Int} {a : Int} (h : BestAt s now s.length a) : (a = -1 ∧ dueM s now = none) ∨ ∃ (i : Nat) (h : i < s.length), a = (i : Int) ∧ dueM s now = some s[i] := by
  unfold BestAt at h
  rw [List.take_length] at h
  rcases h with ⟨h1, h2⟩ | ⟨i, hi, h1, _, h3⟩
  · exact .inl ⟨h1, due_of_none h2⟩
  · exact .inr ⟨i, hi, h1, due_of_first h3⟩
theorem before_eq (p q : ByteArray × Int) : before p q = (decide (p.2 < q.2) || (p.2 == q.2 && Op.bytesLess p.1.toList q.1.toList)) := rfl
end Go.Proofs.Yteheclbneoodeaa.Timer
