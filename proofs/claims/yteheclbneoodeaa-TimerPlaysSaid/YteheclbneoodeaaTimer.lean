/- A map from names to numbers, told as a list of pairs in the order they were set. No program in sight. -/
import Derived.WalkKit
import Derived.Maps.RangeWalk
import Derived.Maps.OwnSet
import Derived.Maps.StringElems
import Derived.StringKeys
import Derived.Test.YteheclbneoodeaaOpq
namespace Go.Proofs.Yteheclbneoodeaa.Timer
open Go.RowKit Go.ChangeMaps
open Go.Maps (Tidy IsMap)
abbrev TimerM := List (ByteArray × Int)
def keyL (s : ByteArray) : Lit := .string s.data.toList
theorem keyL_inj {a b : ByteArray} (h : keyL a = keyL b) : a = b := by
  unfold keyL at h
  injection h with h
  cases a with | mk x =>
  cases b with | mk y =>
  have h2 : x = y := Array.toList_inj.1 h
  rw [h2]
theorem keyL_key (s : ByteArray) : WideAt.IsKeyLit (keyL s) := trivial
/-- What is set under a name. -/
def getM : TimerM → ByteArray → Option Int
  | [], _ => none
  | p :: l, n => if p.1 = n then some p.2 else getM l n
def setM : TimerM → ByteArray → Int → TimerM
  | [], n, v => [(n, v)]
  | p :: l, n, v => if p.1 = n then (n, v) :: l else p :: setM l n v
def delM : TimerM → ByteArray → TimerM
  | [], _ => []
  | p :: l, n => if p.1 = n then l else p :: delM l n
structure TimesD (s : TimerM) (D : DataW Unit) : Prop where
  has : ∀ kl, Maps.has D kl = true ↔ ∃ p ∈ s, keyL p.1 = kl
  at_ : ∀ p ∈ s, ∀ z, D.atKey (keyL p.1) z = .lit (.int .i64 p.2)
  nodup : s.Pairwise (fun p q => p.1 ≠ q.1)
  tidy : Tidy D
  size : Maps.size D = s.length
theorem mem_set {s : TimerM} {n : ByteArray} {v : Int} (hn : s.Pairwise (fun p q => p.1 ≠ q.1)) {p : ByteArray × Int} : p ∈ setM s n v ↔ p = (n, v) ∨ p ∈ s ∧ p.1 ≠ n := by
  induction s with
  | nil => simp [setM]
  | cons q l ih =>
    obtain ⟨h1, h2⟩ := List.pairwise_cons.1 hn
    unfold setM
    split
    · rename_i e
      constructor
      · rintro h
        rcases List.mem_cons.1 h with h | h
        · exact .inl h
        · exact .inr ⟨List.mem_cons_of_mem _ h, fun e2 => h1 p h (e.trans e2.symm)⟩
      · rintro (h | ⟨h, h3⟩)
        · exact h ▸ List.mem_cons_self
        · rcases List.mem_cons.1 h with h | h
          · exact absurd (h ▸ e) h3
          · exact List.mem_cons_of_mem _ h
    · rename_i e
      rw [List.mem_cons, ih h2, List.mem_cons]
      constructor
      · rintro (h | h | ⟨h, h3⟩)
        · exact .inr ⟨.inl h, h ▸ e⟩
        · exact .inl h
        · exact .inr ⟨.inr h, h3⟩
      · rintro (h | ⟨h | h, h3⟩)
        · exact .inr (.inl h)
        · exact .inl h
        · exact .inr (.inr ⟨h, h3⟩)
theorem mem_del {s : TimerM} {n : ByteArray} (hn : s.Pairwise (fun p q => p.1 ≠ q.1)) {p : ByteArray × Int} : p ∈ delM s n ↔ p ∈ s ∧ p.1 ≠ n := by
  induction s with
  | nil => simp [delM]
  | cons q l ih =>
    obtain ⟨h1, h2⟩ := List.pairwise_cons.1 hn
    unfold delM
    split
    · rename_i e
      constructor
      · intro h
        exact ⟨List.mem_cons_of_mem _ h, fun e2 => h1 p h (e.trans e2.symm)⟩
      · rintro ⟨h, h3⟩
        rcases List.mem_cons.1 h with h | h
        · exact absurd (h ▸ e) h3
        · exact h
    · rename_i e
      rw [List.mem_cons, ih h2, List.mem_cons]
      constructor
      · rintro (h | ⟨h, h3⟩)
        · exact ⟨.inl h, h ▸ e⟩
        · exact ⟨.inr h, h3⟩
      · rintro ⟨h | h, h3⟩
        · exact .inl h
        · exact .inr ⟨h, h3⟩
theorem nodup_set {s : TimerM} {n : ByteArray} {v : Int} (hn : s.Pairwise (fun p q => p.1 ≠ q.1)) : (setM s n v).Pairwise (fun p q => p.1 ≠ q.1) := by
  induction s with
  | nil => simp [setM]
  | cons q l ih =>
    obtain ⟨h1, h2⟩ := List.pairwise_cons.1 hn
    unfold setM
    split
    · rename_i e
      exact List.pairwise_cons.2 ⟨fun p hp => by have := h1 p hp; rw [e] at this; exact this, h2⟩
    · rename_i e
      refine List.pairwise_cons.2 ⟨fun p hp => ?_, ih h2⟩
      rcases (mem_set h2).1 hp with rfl | ⟨h, _⟩
      · exact e
      · exact h1 p h
theorem nodup_del {s : TimerM} {n : ByteArray} (hn : s.Pairwise (fun p q => p.1 ≠ q.1)) : (delM s n).Pairwise (fun p q => p.1 ≠ q.1) := by
  induction s with
  | nil => simp [delM]
  | cons q l ih =>
    obtain ⟨h1, h2⟩ := List.pairwise_cons.1 hn
    unfold delM
    split
    · exact h2
    · exact List.pairwise_cons.2 ⟨fun p hp => h1 p ((mem_del h2).1 hp).1, ih h2⟩
theorem get_some {s : TimerM} {n : ByteArray} {v : Int} (h : getM s n = some v) : (n, v) ∈ s := by
  induction s with
  | nil => cases h
  | cons q l ih =>
    unfold getM at h
    split at h
    · rename_i e
      injection h with h
      subst e; subst h
      exact List.mem_cons_self
    · exact List.mem_cons_of_mem _ (ih h)
theorem get_none {s : TimerM} {n : ByteArray} (h : getM s n = none) : ∀ p ∈ s, p.1 ≠ n := by
  induction s with
  | nil => intro p hp; cases hp
  | cons q l ih =>
    unfold getM at h
    split at h
    · cases h
    · rename_i e
      intro p hp
      rcases List.mem_cons.1 hp with rfl | hp
      · exact e
      · exact ih h p hp
theorem length_set {s : TimerM} {n : ByteArray} {v : Int} : (setM s n v).length = if (getM s n).isSome then s.length else s.length + 1 := by
  induction s with
  | nil => rfl
  | cons q l ih =>
    unfold setM getM
    split
    · simp
    · rw [List.length_cons, ih]
      split <;> simp
theorem length_del {s : TimerM} {n : ByteArray} : (delM s n).length + (if (getM s n).isSome then 1 else 0) = s.length := by
  induction s with
  | nil => rfl
  | cons q l ih =>
    unfold delM getM
    split
    · simp
    · rw [List.length_cons, List.length_cons, ← ih]
      omega
theorem empty_timesD : TimesD [] (.map []) := ⟨(fun kl => by simp [Maps.has]), (fun p hp => by simp at hp), List.Pairwise.nil, Maps.tidy_empty, rfl⟩
theorem TimesD.has_get {s : TimerM} {D : DataW Unit} (h : TimesD s D) (n : ByteArray) : Maps.has D (keyL n) = (getM s n).isSome := by
  cases hg : getM s n with
  | none =>
    cases hh : Maps.has D (keyL n) with
    | false => rfl
    | true =>
      obtain ⟨p, hp, e⟩ := (h.has _).1 hh
      exact absurd (keyL_inj e) (get_none hg p hp)
  | some v => exact (h.has _).2 ⟨_, get_some hg, rfl⟩
theorem TimesD.at_get {s : TimerM} {D : DataW Unit} (h : TimesD s D) (n : ByteArray) : D.atKey (keyL n) (.lit (.int .i64 0)) = .lit (.int .i64 ((getM s n).getD 0)) := by
  cases hg : getM s n with
  | none =>
    have : Maps.has D (keyL n) = false := by rw [h.has_get, hg]; rfl
    exact Maps.atKey_of_not_has this _
  | some v => exact h.at_ _ (get_some hg) _
theorem TimesD.set {s : TimerM} {D : DataW Unit} (h : TimesD s D) (n : ByteArray) (v : Int) : TimesD (setM s n v) (D.put (keyL n) (.lit (.int .i64 v))) := by
  refine ⟨fun kl => ?_, fun p hp z => ?_, nodup_set h.nodup, h.tidy.put (keyL_key n) _, ?_⟩
  · by_cases e : kl = keyL n
    · subst e
      rw [Maps.has_put_same h.tidy.isMap (keyL_key n)]
      exact ⟨fun _ => ⟨_, (mem_set h.nodup).2 (.inl rfl), rfl⟩, fun _ => rfl⟩
    · rw [Maps.has_put_other e, h.has]
      constructor
      · rintro ⟨p, hp, rfl⟩
        exact ⟨p, (mem_set h.nodup).2 (.inr ⟨hp, fun e2 => e (by rw [e2])⟩), rfl⟩
      · rintro ⟨p, hp, rfl⟩
        rcases (mem_set h.nodup).1 hp with rfl | ⟨hp, _⟩
        · exact absurd rfl e
        · exact ⟨p, hp, rfl⟩
  · rcases (mem_set h.nodup).1 hp with rfl | ⟨hp, hne⟩
    · exact Maps.atKey_put_same h.tidy.isMap (keyL_key n) _ _
    · rw [Maps.atKey_put_other (fun e => hne (keyL_inj e))]
      exact h.at_ p hp z
  · rw [Maps.size_put h.tidy, length_set, h.has_get, h.size]
theorem TimesD.del {s : TimerM} {D : DataW Unit} (h : TimesD s D) (n : ByteArray) : TimesD (delM s n) (D.del (keyL n)) := by
  refine ⟨fun kl => ?_, fun p hp z => ?_, nodup_del h.nodup, h.tidy.del _, ?_⟩
  · by_cases e : kl = keyL n
    · subst e
      rw [Maps.has_del_same]
      constructor
      · intro h; cases h
      · rintro ⟨p, hp, e⟩
        exact absurd (keyL_inj e) ((mem_del h.nodup).1 hp).2
    · rw [Maps.has_del_other e, h.has]
      constructor
      · rintro ⟨p, hp, rfl⟩
        exact ⟨p, (mem_del h.nodup).2 ⟨hp, fun e2 => e (by rw [e2])⟩, rfl⟩
      · rintro ⟨p, hp, rfl⟩
        exact ⟨p, ((mem_del h.nodup).1 hp).1, rfl⟩
  · obtain ⟨h1, h2⟩ := (mem_del h.nodup).1 hp
    rw [Maps.atKey_del_other (fun e => h2 (keyL_inj e))]
    exact h.at_ p h1 z
  · have h1 := Maps.size_del h.tidy (k := keyL n)
    have h2 := length_del (s := s) (n := n)
    rw [h.has_get, h.size] at h1
    omega
/-- The map's room told by its entries alone. -/
theorem ownsMap_tight {P : Program} {k : TypeId} {R : Value → Option (DataW Unit × List MemPlace)} {w : World} {b n : Nat} {D : DataW Unit} (h : w.ownsMap P k R b n D) : w.ownsMap P k R b (Maps.size D) D := by
  obtain ⟨es, clock, hb, F, hs, rfl⟩ := h
  exact ⟨es, clock, hb, F, by simp [Maps.size, length_sorted], rfl⟩
/-- Which of two comes first. -/
def before (p q : ByteArray × Int) : Bool := decide (p.2 < q.2) || (p.2 == q.2 && Op.bytesLess p.1.toList q.1.toList)
/-- What is due first. -/
def dueM : TimerM → Int → Option (ByteArray × Int)
  | [], _ => none
  | p :: l, now =>
    match dueM l now with
    | none => if p.2 ≤ now then some p else none
    | some q => if p.2 ≤ now ∧ before p q = true then some p else some q
theorem less_irrefl : ∀ a : List UInt8, Op.bytesLess a a = false
  | [] => rfl
  | x :: l => by simp [Op.bytesLess, less_irrefl l]
theorem less_trans : ∀ a b c : List UInt8, Op.bytesLess a b = true → Op.bytesLess b c = true → Op.bytesLess a c = true
  | _, [], _, h, _ => by simp [Op.bytesLess] at h
  | [], _ :: _, [], _, h => by simp [Op.bytesLess] at h
  | [], _ :: _, _ :: _, _, _ => rfl
  | _ :: _, _ :: _, [], _, h => by simp [Op.bytesLess] at h
  | x :: a, y :: b, z :: c, h1, h2 => by
    simp only [Op.bytesLess, Bool.or_eq_true, Bool.and_eq_true, decide_eq_true_eq, beq_iff_eq] at h1 h2 ⊢
    rcases h1 with h1 | ⟨rfl, h1⟩
    · rcases h2 with h2 | ⟨rfl, h2⟩
      · exact .inl (UInt8.lt_trans h1 h2)
      · exact .inl h1
    · rcases h2 with h2 | ⟨rfl, h2⟩
      · exact .inl h2
      · exact .inr ⟨rfl, less_trans a b c h1 h2⟩
theorem less_total : ∀ a b : List UInt8, Op.bytesLess a b = false → Op.bytesLess b a = false → a = b
  | [], [], _, _ => rfl
  | [], _ :: _, h, _ => by simp [Op.bytesLess] at h
  | _ :: _, [], _, h => by simp [Op.bytesLess] at h
  | x :: a, y :: b, h1, h2 => by
    simp only [Op.bytesLess, Bool.or_eq_false_iff, Bool.and_eq_false_iff, decide_eq_false_iff_not, beq_eq_false_iff_ne] at h1 h2
    have e : x = y := UInt8.le_antisymm (UInt8.not_lt.1 h2.1) (UInt8.not_lt.1 h1.1)
    subst e
    have := less_total a b (h1.2.resolve_left (fun h => h rfl)) (h2.2.resolve_left (fun h => h rfl))
    rw [this]
theorem leq_less (a b : List UInt8) : (Op.bytesLess a b || a == b) = !(Op.bytesLess b a) := by
  cases h : Op.bytesLess a b with
  | true =>
    cases h2 : Op.bytesLess b a with
    | true =>
      have := less_trans a b a h h2
      rw [less_irrefl] at this
      cases this
    | false => rfl
  | false =>
    cases h2 : Op.bytesLess b a with
    | true =>
      have : a ≠ b := by rintro rfl; rw [h] at h2; cases h2
      simpa using this
    | false =>
      have := less_total a b h h2
      simpa using this
theorem binOp_leq (t : TypeId) (a b : ByteArray) : binOp .leq t (.string a) (.string b) = pure (.bool (!(Op.bytesLess b.toList a.toList))) := by
  rw [← leq_less]
  simp [binOp, Op.stringOp]
theorem toList_inj {a b : ByteArray} (h : a.toList = b.toList) : a = b := by
  rw [ByteArray.toList_eq, ByteArray.toList_eq] at h
  exact WideShapes.bytes_inj h
theorem before_irrefl (p : ByteArray × Int) : before p p = false := by simp [before, less_irrefl]
theorem before_trans {p q r : ByteArray × Int} (h1 : before p q = true) (h2 : before q r = true) : before p r = true := by
  simp only [before, Bool.or_eq_true, Bool.and_eq_true, decide_eq_true_eq, beq_iff_eq] at h1 h2 ⊢
  rcases h1 with h1 | ⟨e1, h1⟩
  · rcases h2 with h2 | ⟨e2, h2⟩
    · exact .inl (by omega)
    · exact .inl (by omega)
  · rcases h2 with h2 | ⟨e2, h2⟩
    · exact .inl (by omega)
    · exact .inr ⟨e1.trans e2, less_trans _ _ _ h1 h2⟩
theorem before_total {p q : ByteArray × Int} (h1 : before p q = false) (h2 : before q p = false) : p = q := by
  simp only [before, Bool.or_eq_false_iff, Bool.and_eq_false_iff, decide_eq_false_iff_not, beq_eq_false_iff_ne] at h1 h2
  have e : p.2 = q.2 := by omega
  have := less_total _ _ (h1.2.resolve_left (fun h => h e)) (h2.2.resolve_left (fun h => h e.symm))
  exact Prod.ext (toList_inj this) e
/-- p is due first. -/
def First (s : ByteArray × Int → Prop) (now : Int) (p : ByteArray × Int) : Prop := s p ∧ p.2 ≤ now ∧ ∀ q, s q → q.2 ≤ now → before q p = false
theorem First.uniq {s : ByteArray × Int → Prop} {now : Int} {p q : ByteArray × Int} (h1 : First s now p) (h2 : First s now q) : p = q :=
  before_total (h2.2.2 p h1.1 h1.2.1) (h1.2.2 q h2.1 h2.2.1)
theorem due_some {s : TimerM} {now : Int} {p : ByteArray × Int} (h : dueM s now = some p) : First (· ∈ s) now p := by
  induction s generalizing p with
  | nil => cases h
  | cons q l ih =>
    unfold dueM at h
    cases hd : dueM l now with
    | none =>
      rw [hd] at h
      dsimp only at h
      split at h
      · rename_i hq
        injection h with h
        subst h
        refine ⟨List.mem_cons_self, hq, fun r hr hrn => ?_⟩
        rcases List.mem_cons.1 hr with rfl | hr
        · exact before_irrefl _
        · exfalso
          clear ih hq
          induction l generalizing q with
          | nil => cases hr
          | cons x l ih =>
            unfold dueM at hd
            cases hd2 : dueM l now with
            | some y => rw [hd2] at hd; dsimp only at hd; split at hd <;> cases hd
            | none =>
              rw [hd2] at hd
              dsimp only at hd
              split at hd
              · cases hd
              · rename_i hx
                rcases List.mem_cons.1 hr with rfl | hr
                · exact hx hrn
                · exact ih q hd2 (List.mem_cons_of_mem _ hr) hr
      · cases h
    | some y =>
      rw [hd] at h
      obtain ⟨h1, h2, h3⟩ := ih hd
      dsimp only at h
      split at h
      · rename_i hq
        injection h with h
        subst h
        refine ⟨List.mem_cons_self, hq.1, fun r hr hrn => ?_⟩
        rcases List.mem_cons.1 hr with rfl | hr
        · exact before_irrefl _
        · cases hb : before r q with
          | false => rfl
          | true => exact absurd (h3 r hr hrn) (by simp [before_trans hb hq.2])
      · rename_i hq
        injection h with h
        subst h
        refine ⟨List.mem_cons_of_mem _ h1, h2, fun r hr hrn => ?_⟩
        rcases List.mem_cons.1 hr with rfl | hr
        · cases hb : before r y with
          | false => rfl
          | true => exact absurd ⟨hrn, hb⟩ hq
        · exact h3 r hr hrn
theorem due_none {s : TimerM} {now : Int} (h : dueM s now = none) : ∀ q ∈ s, ¬ q.2 ≤ now := by
  induction s with
  | nil => intro q hq; cases hq
  | cons x l ih =>
    unfold dueM at h
    cases hd : dueM l now with
    | some y => rw [hd] at h; dsimp only at h; split at h <;> cases h
    | none =>
      rw [hd] at h
      dsimp only at h
      split at h
      · cases h
      · rename_i hx
        intro q hq
        rcases List.mem_cons.1 hq with rfl | hq
        · exact hx
        · exact ih hd q hq
theorem due_of_first {s : TimerM} {now : Int} {p : ByteArray × Int} (h : First (· ∈ s) now p) : dueM s now = some p := by
  cases hd : dueM s now with
  | none => exact absurd h.2.1 (due_none hd p h.1)
  | some q => rw [(due_some hd).uniq h]
theorem due_of_none {s : TimerM} {now : Int} (h : ∀ q ∈ s, ¬ q.2 ≤ now) : dueM s now = none := by
  cases hd : dueM s now with
  | none => rfl
  | some q => exact absurd (due_some hd).2.1 (h q (due_some hd).1)
/-- What the loop over the map knows: the best of what it has met. -/
def Best (met : ByteArray × Int → Prop) (now : Int) (n : ByteArray) (v : Int) (ok : Bool) : Prop :=
  (ok = false ∧ n = ⟨#[]⟩ ∧ v = 0 ∧ ∀ q, met q → ¬ q.2 ≤ now) ∨ (ok = true ∧ First met now (n, v))
theorem Best.skip {met met' : ByteArray × Int → Prop} {now : Int} {n : ByteArray} {v : Int} {ok : Bool} {e : ByteArray × Int} (h : Best met now n v ok) (hm : ∀ q, met' q ↔ met q ∨ q = e)
    (hs : ¬ e.2 ≤ now ∨ ok = true ∧ before e (n, v) = false) : Best met' now n v ok := by
  rcases h with ⟨rfl, h1, h2, h3⟩ | ⟨rfl, h1, h2, h3⟩
  · refine .inl ⟨rfl, h1, h2, fun q hq => ?_⟩
    rcases (hm q).1 hq with hq | rfl
    · exact h3 q hq
    · exact hs.resolve_right (fun h => by cases h.1)
  · refine .inr ⟨rfl, (hm _).2 (.inl h1), h2, fun q hq hqn => ?_⟩
    rcases (hm q).1 hq with hq | rfl
    · exact h3 q hq hqn
    · rcases hs with hs | hs
      · exact absurd hqn hs
      · exact hs.2
theorem Best.take {met met' : ByteArray × Int → Prop} {now : Int} {n : ByteArray} {v : Int} {ok : Bool} {n' : ByteArray} {v' : Int} (h : Best met now n v ok) (hm : ∀ q, met' q ↔ met q ∨ q = (n', v'))
    (hn : v' ≤ now) (hs : ok = false ∨ before (n', v') (n, v) = true) : Best met' now n' v' true := by
  refine .inr ⟨rfl, (hm _).2 (.inr rfl), hn, fun q hq hqn => ?_⟩
  rcases (hm q).1 hq with hq | rfl
  · rcases h with ⟨rfl, h1, h2, h3⟩ | ⟨rfl, h1, h2, h3⟩
    · exact absurd hqn (h3 q hq)
    · have hb := hs.resolve_left (by simp)
      cases hx : before q (n', v') with
      | false => rfl
      | true => exact absurd (before_trans hx hb) (by simp [h3 q hq hqn])
  · exact before_irrefl _
theorem Best.end_ {s : TimerM} {now : Int} {n : ByteArray} {v : Int} {ok : Bool} (h : Best (· ∈ s) now n v ok) : ok = (dueM s now).isSome ∧ (n, v) = (dueM s now).getD (⟨#[]⟩, 0) := by
  rcases h with ⟨rfl, rfl, rfl, h⟩ | ⟨rfl, h⟩
  · rw [due_of_none h]; exact ⟨rfl, rfl⟩
  · rw [due_of_first h]; exact ⟨rfl, rfl⟩
theorem met_step {s : TimerM} {D : DataW Unit} (hT : TimesD s D) {left : Lit → Bool} {x : ByteArray} {c : Int} (hat : ∀ zd, D.atKey (keyL x) zd = .lit (.int .i64 c)) :
    ∀ q : ByteArray × Int, (q ∈ s ∧ (left (keyL q.1) && !(keyL q.1).sameKey (keyL x)) = false) ↔ (q ∈ s ∧ left (keyL q.1) = false) ∨ q = (x, c) := by
  have hh := Maps.has_true_of_atKey hat
  obtain ⟨p, hp, he⟩ := (hT.has _).1 hh
  have he2 : p.1 = x := keyL_inj he
  have h2 := (hT.at_ p hp (.lit (.int .i64 0))).symm.trans (he ▸ hat _)
  injection h2 with h2
  injection h2 with _ h2
  have hpc : p = (x, c) := Prod.ext he2 h2
  subst hpc
  intro q
  constructor
  · rintro ⟨hq, h⟩
    rcases Bool.and_eq_false_iff.1 h with h | h
    · exact .inl ⟨hq, h⟩
    · have hk : (keyL q.1).sameKey (keyL x) = true := by simpa using h
      have hqx : q.1 = x := keyL_inj (WideAt.sameKey_eq hk)
      have h3 := (hT.at_ q hq (.lit (.int .i64 0))).symm.trans (hqx ▸ hat _)
      injection h3 with h3
      injection h3 with _ h3
      exact .inr (Prod.ext hqx h3)
  · rintro (⟨hq, h⟩ | rfl)
    · exact ⟨hq, by rw [h]; rfl⟩
    · exact ⟨hp, by rw [WideAt.sameKey_self (keyL_key x)]; simp⟩
theorem Best.congr {met met' : ByteArray × Int → Prop} {now : Int} {n : ByteArray} {v : Int} {ok : Bool} (h : Best met now n v ok) (hm : ∀ q, met' q ↔ met q) : Best met' now n v ok := by
  have : met' = met := funext fun q => propext (hm q)
  rw [this]; exact h
theorem invK {P : Program} {k : TypeId} (hk : P.underlying k = some .string) : ∀ key kl, keyOf P k key = some kl → ∃ x, key = Value.string x := fun key kl h => by
  obtain ⟨s, rfl, _⟩ := WideMaps.string_of_keyOf hk h
  exact ⟨s, rfl⟩
theorem invV {P : Program} {e : TypeId} (he : P.underlying e = some (.int .i64)) : ∀ v (y : DataW Unit × List MemPlace), plainElem P e v = some y → ∃ c, v = Value.int .i64 c := fun v y h => by
  obtain ⟨a, rfl, _⟩ := plainElem_int_inv he h
  exact ⟨a, rfl⟩
end Go.Proofs.Yteheclbneoodeaa.Timer
