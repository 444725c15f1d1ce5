/- Whatever is set, stopped, and due, all answers are those of two lists side by side; the plain part of the proof. Conditions: none. -/
import Derived.Test.YteheclbneoodeaaTimerB
import Derived.Test.YteheclbneoodeaaBndTimerPlays
namespace Go.Proofs.Yteheclbneoodeaa.Pure
open Go.RowKit Go.Proofs.Yteheclbneoodeaa.PTimerPlays Go.Proofs.YteheclbneoodeaaW.PrintWords Go.Proofs.YteheclbneoodeaaW.PrintLast Go.Proofs.Yteheclbneoodeaa.Timer
set_option linter.unusedVariables false
set_option linter.unusedSimpArgs false
namespace TimerPlays_
theorem w64n (n : Nat) (h : n < 4000000) : wrap64 (n : Int) = (n : Int) := by unfold wrap64; omega
theorem answers_true : interregnumlaw17_answers.f = some true := by
  kernel_rfl
def ns (s : TimerM) : List ByteArray := s.map (·.1)
def vs (s : TimerM) : List Int := s.map (·.2)
theorem ns_len (s : TimerM) : (ns s).length = s.length := List.length_map _
theorem vs_len (s : TimerM) : (vs s).length = s.length := List.length_map _
theorem ns_at {s : TimerM} {i : Nat} (h : i < s.length) : rdOf ByteArray.empty (ns s) (i : Int) = (s[i]).1 := by
  unfold rdOf ns
  rw [List.getD_eq_getElem?_getD, Int.toNat_natCast, List.getElem?_map, List.getElem?_eq_getElem h]
  rfl
theorem vs_at {s : TimerM} {i : Nat} (h : i < s.length) : rd (vs s) (i : Int) = (s[i]).2 := by
  unfold rd vs
  rw [List.getD_eq_getElem?_getD, Int.toNat_natCast, List.getElem?_map, List.getElem?_eq_getElem h]
  rfl
theorem next (i : Nat) (h : i < 1000) : wrap64 ((i : Int) + 1) = ((i + 1 : Nat) : Int) := by
  rw [show (i : Int) + 1 = ((i + 1 : Nat) : Int) by omega]
  exact w64n _ (by omega)
theorem find (l : List S36) (s : TimerM) (hs : s.length ≤ 100) (x6 f0 f1 : Int) (n : ByteArray) (d : Nat) : ∀ (k x : Nat) (a : Int), x + d = s.length → FoundAt s n x a →
    ∃ a', FoundAt s n s.length a' ∧ TP.l1 (k + d + 1) l (ns s) (vs s) x6 a (x : Int) s f0 f1 n = TP.l1 (k + 1) l (ns s) (vs s) x6 a' (s.length : Int) s f0 f1 n := by
  induction d with
  | zero =>
    intro k x a hx hf
    obtain rfl : x = s.length := by omega
    exact ⟨a, hf, rfl⟩
  | succ d ih =>
    intro k x a hx hf
    have hlt : x < s.length := by omega
    by_cases e : (s[x]).1 = n
    · obtain ⟨a', h1, h2⟩ := ih k (x + 1) (x : Int) (by omega) (hf.hit hlt e)
      refine ⟨a', h1, ?_⟩
      rw [← h2, show k + (d + 1) + 1 = (k + d + 1) + 1 by omega]
      conv => lhs; unfold TP.l1
      rw [ns_len, if_pos (by omega), if_pos (by omega), ns_at hlt, if_pos (by rw [e]), next x (by omega)]
    · obtain ⟨a', h1, h2⟩ := ih k (x + 1) a (by omega) (hf.miss hlt e)
      refine ⟨a', h1, ?_⟩
      rw [← h2, show k + (d + 1) + 1 = (k + d + 1) + 1 by omega]
      conv => lhs; unfold TP.l1
      rw [ns_len, if_pos (by omega), if_pos (by omega), ns_at hlt, if_neg (fun h => e (toList_inj h)), next x (by omega)]
theorem best (l : List S36) (s : TimerM) (hs : s.length ≤ 100) (x6 f0 now : Int) (n : ByteArray) (d : Nat) : ∀ (k x : Nat) (a : Int), x + d = s.length → BestAt s now x a →
    ∃ a', BestAt s now s.length a' ∧ TP.l2 (k + 2 * d + 1) l (ns s) (vs s) x6 a (x : Int) s f0 now n = TP.l2 (k + 1) l (ns s) (vs s) x6 a' (s.length : Int) s f0 now n := by
  induction d with
  | zero =>
    intro k x a hx hf
    obtain rfl : x = s.length := by omega
    exact ⟨a, hf, rfl⟩
  | succ d ih =>
    intro k x a hx hf
    have hlt : x < s.length := by omega
    have hit : (s[x]).2 ≤ now → (a < 0 ∨ ∃ (i : Nat) (h : i < s.length), a = (i : Int) ∧ before s[x] s[i] = true) → ∃ a', BestAt s now s.length a' ∧ TP.j4 (k + 2 * d + 1 + 1) l (ns s) (vs s) x6 a (x : Int) true s f0 now n = TP.l2 (k + 1) l (ns s) (vs s) x6 a' (s.length : Int) s f0 now n := fun h1 h2 => by
      obtain ⟨a', h3, h4⟩ := ih k (x + 1) (x : Int) (by omega) (hf.hit hlt h1 h2)
      refine ⟨a', h3, ?_⟩
      conv => lhs; unfold TP.j4
      rw [if_pos rfl, next x (by omega), h4]
    have miss : (¬ (s[x]).2 ≤ now ∨ ∃ (i : Nat) (h : i < s.length), a = (i : Int) ∧ before s[x] s[i] = false) → ∃ a', BestAt s now s.length a' ∧ TP.j4 (k + 2 * d + 1 + 1) l (ns s) (vs s) x6 a (x : Int) false s f0 now n = TP.l2 (k + 1) l (ns s) (vs s) x6 a' (s.length : Int) s f0 now n := fun h2 => by
      obtain ⟨a', h3, h4⟩ := ih k (x + 1) a (by omega) (hf.miss hlt h2)
      refine ⟨a', h3, ?_⟩
      conv => lhs; unfold TP.j4
      rw [if_neg (by decide), next x (by omega), h4]
    rw [show k + 2 * (d + 1) + 1 = (k + 2 * d + 1 + 1) + 1 by omega]
    conv => enter [1, a', 2, 1]; unfold TP.l2
    rw [ns_len, vs_len, if_pos (by omega), if_pos (by omega), if_pos (by omega), vs_at hlt]
    by_cases h1 : (s[x]).2 ≤ now
    · rw [if_pos h1]
      by_cases h2 : a < 0
      · rw [if_pos h2]
        exact hit h1 (.inl h2)
      · rw [if_neg h2]
        have hi : ∃ (i : Nat) (h : i < s.length), a = (i : Int) := by
          rcases hf with ⟨h3, _⟩ | ⟨i, h3, h4, _⟩
          · omega
          · exact ⟨i, h3, h4⟩
        obtain ⟨i, hil, rfl⟩ := hi
        rw [if_pos (by omega), if_pos (by omega), vs_at hil]
        by_cases h3 : (s[x]).2 < (s[i]).2
        · rw [if_pos h3]
          exact hit h1 (.inr ⟨i, hil, rfl, by rw [before_eq, decide_eq_true h3]; rfl⟩)
        · rw [if_neg h3]
          by_cases h4 : (s[x]).2 = (s[i]).2
          · rw [if_pos h4, if_pos (by omega), ns_at hlt, ns_at hil]
            cases hb : Op.bytesLess (s[x]).1.toList (s[i]).1.toList with
            | true => exact hit h1 (.inr ⟨i, hil, rfl, by rw [before_eq, hb, h4]; simp⟩)
            | false => exact miss (.inr ⟨i, hil, rfl, by rw [before_eq, hb, decide_eq_false h3]; simp⟩)
          · rw [if_neg h4]
            exact miss (.inr ⟨i, hil, rfl, by rw [before_eq, decide_eq_false h3]; simp [h4]⟩)
    · rw [if_neg h1]
      exact miss (.inl h1)
/-- what is left when one is dropped, or none -/
def Left (s s' : TimerM) (a : Int) : Prop := (a = -1 ∧ s' = s) ∨ ∃ (i : Nat) (h : i < s.length), a = (i : Int) ∧ s' = s.take i ++ s.drop (i + 1)
theorem j6_go (l : List S36) (s s' : TimerM) (hs : s.length ≤ 100) (x : Nat) (hx : x < 1000) (a : Int) (h : Left s s' a) (k : Nat) : TP.j6 (k + 1) l (ns s) (vs s) (x : Int) a s' = TP.l0 k l (ns s') (vs s') ((x + 1 : Nat) : Int) s' := by
  conv => lhs; unfold TP.j6
  rcases h with ⟨rfl, rfl⟩ | ⟨i, hi, rfl, rfl⟩
  · rw [if_neg (by decide), next x hx]
  · have hn := next i (by omega)
    rw [if_pos (by omega), Option.bind_some, if_pos (by omega), ns_len, vs_len, if_pos (by omega), Option.bind_some, Int.toNat_natCast]
    rw [if_pos (by rw [List.length_take, ns_len]; simp; omega), Option.bind_some, hn, if_pos (by omega), if_pos (by omega), Option.bind_some, Int.toNat_natCast]
    rw [if_pos (by simp [ns_len]; omega), Option.bind_some, if_pos (by omega), Option.bind_some, if_pos (by simp [vs_len]; omega), Option.bind_some, if_pos (by omega), Option.bind_some, if_pos (by simp [vs_len]; omega), next x hx]
    have e1 : ([] ++ (ns s).take i) ++ (ns s).drop (i + 1) = ns (s.take i ++ s.drop (i + 1)) := by unfold ns; simp
    have e2 : ([] ++ (vs s).take i) ++ (vs s).drop (i + 1) = vs (s.take i ++ s.drop (i + 1)) := by unfold vs; simp
    rw [e1, e2]
theorem left_stop {s : TimerM} (hn : Nodup s) {n : ByteArray} {a : Int} (h : FoundAt s n s.length a) : Left s (delM s n) a := by
  by_cases h0 : 0 ≤ a
  · obtain ⟨i, hi, e, e2⟩ := h.some_ h0
    refine .inr ⟨i, hi, e, ?_⟩
    rw [← e2]
    exact delM_at hn hi
  · obtain ⟨e, e2⟩ := h.none_ h0
    exact .inl ⟨e, delM_no e2⟩
theorem left_len {s s' : TimerM} {a : Int} (h : Left s s' a) : s'.length ≤ s.length := by
  rcases h with ⟨_, rfl⟩ | ⟨i, hi, _, rfl⟩
  · exact Nat.le_refl _
  · rw [List.length_append, List.length_take, List.length_drop]
    omega
theorem left_sub {s s' : TimerM} {a : Int} (h : Left s s' a) : ∀ p ∈ s', p ∈ s := fun p hp => by
  rcases h with ⟨_, rfl⟩ | ⟨i, hi, _, rfl⟩
  · exact hp
  · rcases List.mem_append.1 hp with hp | hp
    · exact List.mem_of_mem_take hp
    · exact List.mem_of_mem_drop hp
theorem ns_set {s : TimerM} {i : Nat} (h : i < s.length) (v : Int) : ns (s.set i ((s[i]).1, v)) = ns s := by
  unfold ns
  rw [List.map_set]
  apply List.ext_getElem?
  intro j
  rw [List.getElem?_set]
  split
  · rename_i e
    subst e
    rw [if_pos (by rw [List.length_map]; exact h), List.getElem?_map, List.getElem?_eq_getElem h]
    rfl
  · rfl
theorem vs_set {s : TimerM} {i : Nat} (n : ByteArray) (v : Int) : vs (s.set i (n, v)) = (vs s).set i v := by
  unfold vs
  rw [List.map_set]
theorem main (l : List S36) (hl : l.length ≤ 100) (hw : ∀ y ∈ l, (Lit.int .i64 y.f1).wf = true ∧ y.f2.size ≤ maxLen) (d : Nat) : ∀ (K x : Nat) (s : TimerM), x + d = l.length → s.length ≤ x → Nodup s → (∀ p ∈ s, p.1.size ≤ maxLen) → 500 * d + 50 ≤ K →
    TP.l0 K l (ns s) (vs s) (x : Int) s = some true := by
  induction d with
  | zero =>
    intro K x s hx hs hn hz hK
    obtain ⟨K, rfl⟩ : ∃ m, K = m + 1 := ⟨K - 1, by omega⟩
    unfold TP.l0
    rw [if_neg (by omega), answers_true]
    rfl
  | succ d ih =>
    intro K x s hx hs hn hz hK
    obtain ⟨k, rfl⟩ : ∃ m, K = m + s.length + 1 + 1 := ⟨K - s.length - 2, by omega⟩
    have hxl : x < l.length := by omega
    have hrd : rd_T36 l (x : Int) = l[x] := by
      unfold rd_T36
      rw [List.getD_eq_getElem?_getD, Int.toNat_natCast, List.getElem?_eq_getElem hxl]
      rfl
    obtain ⟨hwf, hsz⟩ := hw l[x] (List.getElem_mem hxl)
    have hgo : ∀ (m : Nat) (s' : TimerM), 500 * d + 50 ≤ m → s'.length ≤ x + 1 → Nodup s' → (∀ p ∈ s', p.1.size ≤ maxLen) → TP.l0 m l (ns s') (vs s') ((x + 1 : Nat) : Int) s' = some true := fun m s' h1 h2 h3 h4 => ih m (x + 1) s' (by omega) h2 h3 h4 h1
    clear ih
    unfold TP.l0
    rw [if_pos (by omega), if_pos (by omega), hrd]
    generalize l[x] = y at hwf hsz ⊢
    obtain ⟨f0, f1, n⟩ := y
    dsimp only at hwf hsz ⊢
    obtain ⟨a, hf, e⟩ := find l s (by omega) (x : Int) f0 f1 n s.length k 0 (-1) (by omega) (FoundAt.zero s n)
    rw [show ((0 : Nat) : Int) = 0 from rfl] at e
    rw [e]
    clear e
    have hj2 : TP.j2 k l (ns s) (vs s) (x : Int) a false s f0 f1 n = some true := by
      obtain ⟨k, rfl⟩ : ∃ m, k = m + 1 := ⟨k - 1, by omega⟩
      unfold TP.j2
      rw [if_neg (by decide)]
      by_cases h0 : f0 = 0
      · rw [if_pos h0]
        unfold timer_Timers_Set.f
        rw [if_pos ⟨hsz, hwf, by unfold maxLen; omega⟩, Option.bind_some]
        have hz' : ∀ p ∈ setM s n f1, p.1.size ≤ maxLen := fun p hp => by
          rcases (mem_set hn).1 hp with rfl | ⟨h, _⟩
          · exact hsz
          · exact hz p h
        by_cases ha : 0 ≤ a
        · obtain ⟨i, hi, rfl, e2⟩ := hf.some_ ha
          have es : setM s n f1 = s.set i ((s[i]).1, f1) := by rw [← e2]; exact setM_at hn hi
          rw [if_pos (by omega), if_pos (by omega), vs_len, if_pos (by omega), Int.toNat_natCast, next x (by omega)]
          have := hgo k (setM s n f1) (by omega) (by rw [es, List.length_set]; omega) (nodup_set hn) hz'
          rw [es, ns_set hi, vs_set] at this
          rw [es]
          exact this
        · obtain ⟨rfl, e2⟩ := hf.none_ ha
          have es : setM s n f1 = s ++ [(n, f1)] := setM_no e2
          rw [if_neg (by decide), Option.bind_some, if_pos (by rw [ns_len]; simp; omega), Option.bind_some, if_pos (by rw [vs_len]; simp; omega), next x (by omega)]
          have := hgo k (setM s n f1) (by omega) (by rw [es, List.length_append]; simp; omega) (nodup_set hn) hz'
          rw [es] at this ⊢
          rw [show ns (s ++ [(n, f1)]) = ns s ++ [n] by unfold ns; simp, show vs (s ++ [(n, f1)]) = vs s ++ [f1] by unfold vs; simp] at this
          exact this
      · rw [if_neg h0]
        by_cases h1 : f0 = 1
        · rw [if_pos h1]
          unfold timer_Timers_Stop.f
          rw [if_pos hsz, Option.bind_some]
          have hL := left_stop hn hf
          obtain ⟨k, rfl⟩ : ∃ m, k = m + 1 := ⟨k - 1, by omega⟩
          rw [j6_go l s _ (by omega) x (by omega) a hL k]
          exact hgo k _ (by omega) (by have := left_len hL; omega) (nodup_del hn) (fun p hp => hz p (left_sub hL p hp))
        · rw [if_neg h1]
          obtain ⟨k, rfl⟩ : ∃ m, k = m + 2 * s.length + 1 := ⟨k - 2 * s.length - 1, by omega⟩
          obtain ⟨b, hb, e⟩ := best l s (by omega) (x : Int) f0 f1 n s.length k 0 (-1) (by omega) (BestAt.zero s f1)
          rw [show ((0 : Nat) : Int) = 0 from rfl] at e
          rw [e]
          clear e
          have hend : ∀ s' : TimerM, Left s s' b → Nodup s' → TP.j5 k l (ns s) (vs s) (x : Int) b false s' = some true := fun s' hL hn' => by
            obtain ⟨k, rfl⟩ : ∃ m, k = m + 1 + 1 := ⟨k - 2, by omega⟩
            unfold TP.j5
            rw [if_neg (by decide), j6_go l s s' (by omega) x (by omega) b hL k]
            exact hgo k _ (by omega) (by have := left_len hL; omega) hn' (fun p hp => hz p (left_sub hL p hp))
          unfold TP.l2
          rw [ns_len, if_neg (by omega)]
          unfold timer_Timers_Due.f
          rcases hb.end_ with ⟨rfl, hd⟩ | ⟨i, hi, rfl, hd⟩
          · rw [hd]
            dsimp only
            rw [Option.bind_some]
            dsimp only
            rw [if_neg (by decide), if_neg (by decide), if_pos (show (⟨#[]⟩ : ByteArray).toList = ([] : List UInt8) by first | rfl | decide | simp)]
            exact hend s (.inl ⟨rfl, rfl⟩) hn
          · rw [hd]
            dsimp only
            rw [if_pos (hz _ (List.getElem_mem hi)), Option.bind_some]
            dsimp only
            rw [decide_eq_true (show (i : Int) ≥ 0 by omega), if_neg (by decide), if_pos rfl, if_pos (by omega), if_pos (by omega), ns_at hi, if_pos rfl, vs_len, if_pos (by omega), vs_at hi, if_pos rfl]
            exact hend _ (.inr ⟨i, hi, rfl, delM_at hn hi⟩) (nodup_del hn)
    unfold TP.l1
    rw [ns_len, if_neg (by omega)]
    unfold timer_Timers_At.f
    rw [if_pos hsz, Option.bind_some]
    dsimp only
    by_cases ha : 0 ≤ a
    · obtain ⟨i, hi, rfl, e2⟩ := hf.some_ ha
      have hg : getM s n = some (s[i]).2 := by rw [← e2]; exact getM_at hn hi
      rw [hg, decide_eq_true (show (i : Int) ≥ 0 by omega), Option.isSome_some, if_neg (by decide), if_pos rfl, if_pos (by omega), vs_len, if_pos (by omega), vs_at hi, Option.getD_some, if_pos rfl]
      exact hj2
    · obtain ⟨rfl, e2⟩ := hf.none_ ha
      rw [getM_no e2, Option.isSome_none, if_neg (by decide), if_neg (by decide), Option.getD_none]
      exact hj2
end TimerPlays_
open TimerPlays_ in
theorem TimerPlays : BndTimerPlays.Pure := by
  intro l h
  refine ⟨60000, ?_⟩
  unfold interregnumlaw17_TimerPlays.f TP.f
  by_cases hl : (l.length : Int) > 100
  · rw [if_pos hl, answers_true]
    rfl
  · rw [if_neg hl]
    unfold timer_New.f
    rw [Option.bind_some]
    exact main l (by omega) (fun y hy => ⟨(h.2 y hy).2.1, Nat.le_trans (h.2 y hy).2.2 (by unfold maxLen; decide)⟩) l.length 60000 0 [] (by omega) (Nat.le_refl _) List.Pairwise.nil (fun p hp => by cases hp) (by omega)
end Go.Proofs.Yteheclbneoodeaa.Pure
