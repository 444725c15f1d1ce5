/- What any peer is told of any route is what the reference says; the plain part of the proof. Conditions: none. -/
import Derived.Test.YtjdebhkdbdbepaaBndExportTells
import Derived.Test.YtjdebhkdbdbepaaPreVExportTells
import Derived.Test.YtjdebhkdbdbepaaExpTExportTells
namespace Go.Proofs.Ytjdebhkdbdbepaa.Pure
open Go.RowKit Go.Proofs.Ytjdebhkdbdbepaa.PExportTells Go.Proofs.YtjdebhkdbdbepaaW.PrintWords Go.Proofs.YtjdebhkdbdbepaaW.PrintLast Go.Proofs.YtjdebhkdbdbepaaW.PrintMore Go.Proofs.Ytjdebhkdbdbepaa.Pre Go.Proofs.Ytjdebhkdbdbepaa Go.Proofs.Ytjdebhkdbdbepaa.PreExportTells
abbrev Rule := S87
/-- Is a rule for a prefix? -/
def Meets (a n : Int) (x : Rule) : Prop := (Ok x.f0.f0 x.f0.f1 ∧ Ok a n ∧ x.f0.f1 ≤ n ∧ top a x.f0.f1 = x.f0.f0) ∧ x.f1 ≤ n ∧ n ≤ x.f2
instance (a n : Int) (x : Rule) : Decidable (Meets a n x) := inferInstanceAs (Decidable (_ ∧ _))
theorem meetsB_eq (a n : Int) (x : Rule) (ha : U32 a) (hx : U32 x.f0.f0) : meetsB a n x = decide (Meets a n x) := by
  have : meetsB a n x = true ↔ Meets a n x := by
    unfold meetsB Meets
    rw [Covers _ _ _ _ hx ha, Option.getD_some]
    simp only [Bool.and_eq_true, decide_eq_true_eq, ge_iff_le]
    exact ⟨fun h => ⟨h.1.1, h.1.2, h.2⟩, fun h => ⟨⟨h.1, h.2.1⟩, h.2.2⟩⟩
  rw [Bool.eq_iff_iff, decide_eq_true_eq]
  exact this
theorem Apply_cons (x : Rule) (l : List Rule) (a n : Int) (ha : U32 a) (hx : U32 x.f0.f0) :
    policy_Apply.f (x :: l) a n = if Meets a n x then (if x.f3 = true then some (0, false) else some (x.f4, true)) else policy_Apply.f l a n := by
  show policy_Apply.g (x :: l) a n = _
  unfold policy_Apply.g
  rw [meetsB_eq a n x ha hx]
  simp only [decide_eq_true_eq]
  rfl
theorem Apply_total (l : List Rule) (a n : Int) : ∃ p q, policy_Apply.f l a n = some (p, q) := by
  show ∃ p q, policy_Apply.g l a n = some (p, q)
  induction l with
  | nil => exact ⟨_, _, rfl⟩
  | cons x l ih =>
    unfold policy_Apply.g
    split
    · split <;> exact ⟨_, _, rfl⟩
    · exact ih
def U (l : List Rule) : Prop := ∀ x ∈ l, U32 x.f0.f0
theorem rule_at (l : List Rule) (i : Nat) (hi : i < l.length) : rd_T87 l (i : Int) = l[i] := by
  unfold rd_T87
  rw [List.getD_eq_getElem?_getD, Int.toNat_natCast, List.getElem?_eq_getElem hi]
  rfl
theorem Apply_l0 (l : List Rule) (hu : U l) (hl : l.length ≤ 100) (a n : Int) (ha : U32 a) (d : Nat) : ∀ (k i : Nat), i + d = l.length → interregnumref11_Apply.l0 (k + 50 + 2 * d) l (i : Int) a n = policy_Apply.f (l.drop i) a n := by
  induction d with
  | zero =>
    intro k i hi
    rw [show k + 50 + 2 * 0 = (k + 49) + 1 by omega]
    conv => lhs; unfold interregnumref11_Apply.l0
    rw [if_neg (by omega), List.drop_of_length_le (by omega)]
    rfl
  | succ d ih =>
    intro k i hi
    have hlt : i < l.length := by omega
    have hx := hu l[i] (List.getElem_mem hlt)
    rw [show k + 50 + 2 * (d + 1) = (k + 50 + 2 * d + 1) + 1 by omega]
    conv => lhs; unfold interregnumref11_Apply.l0
    have e1 : wrap64 ((i : Int) + 1) = ((i + 1 : Nat) : Int) := by rw [w64 _ (by omega) (by omega)]; omega
    rw [if_pos (by omega), if_pos (by omega), rule_at l i hlt, refCovers _ _ _ _ hx ha _ (by omega), Option.bind_some, List.drop_eq_getElem_cons hlt, Apply_cons _ _ a n ha hx]
    have e : Meets a n l[i] ↔ (Ok l[i].f0.f0 l[i].f0.f1 ∧ Ok a n ∧ l[i].f0.f1 ≤ n ∧ top a l[i].f0.f1 = l[i].f0.f0) ∧ l[i].f1 ≤ n ∧ n ≤ l[i].f2 := Iff.rfl
    have skip : interregnumref11_Apply.j1 (k + 50 + 2 * d + 1) l (i : Int) false a n = policy_Apply.f (l.drop (i + 1)) a n := by
      simp only [interregnumref11_Apply.j1]
      rw [if_neg (by simp), e1]
      exact ih k (i + 1) (by omega)
    by_cases hc : Ok l[i].f0.f0 l[i].f0.f1 ∧ Ok a n ∧ l[i].f0.f1 ≤ n ∧ top a l[i].f0.f1 = l[i].f0.f0
    · rw [decide_eq_true hc, if_pos rfl]
      by_cases hm : l[i].f1 ≤ n
      · rw [if_pos hm]
        by_cases hM : n ≤ l[i].f2
        · rw [decide_eq_true hM, if_pos (e.2 ⟨hc, hm, hM⟩)]
          simp only [interregnumref11_Apply.j1]
          rw [if_pos trivial, if_pos (by omega), if_pos (by omega), rule_at l i hlt]
        · rw [decide_eq_false hM, if_neg (fun h => hM (e.1 h).2.2)]
          exact skip
      · rw [if_neg hm, if_neg (fun h => hm (e.1 h).2.1)]
        exact skip
    · rw [decide_eq_false hc, if_neg (by simp), if_neg (fun h => hc (e.1 h).1)]
      exact skip
open Go.Proofs.Ytjdebhkdbdbepaa.PathExportTells Go.Proofs.Ytjdebhkdbdbepaa.BndExportTells
theorem ExportTells : BndExportTells.Pure := by
  intro c q ll x fr hc hq hx hf
  obtain ⟨hx1, hx2, ⟨ho, ⟨h4, hy4⟩, hnx, hmd, hpr, ⟨h8, hy8⟩, ⟨h9, hy9⟩⟩, hst⟩ := hx
  have ha := wf_u32 hx1.1
  have hu : U q.f3 := fun y hy => wf_u32 (hq.2.2.2.2 y hy).1.1
  obtain ⟨K, hK⟩ : ∃ K, K = 100000 + x.f2.f1.length + x.f2.f6.length := ⟨_, rfl⟩
  refine ⟨K + 50 + 2 * q.f3.length, ?_⟩
  have hA := fun hl => Apply_l0 q.f3 hu hl x.f0.f0 x.f0.f1 ha q.f3.length K 0 (by omega)
  obtain ⟨k, hk⟩ : ∃ k, k = K + 50 + 2 * q.f3.length := ⟨_, rfl⟩
  rw [← hk] at hA ⊢
  unfold interregnumlaw16_ExportTells.f
  rw [Small16 x.f2.f0 x.f2.f1 x.f2.f2 x.f2.f3 x.f2.f4 x.f2.f5 x.f2.f6 h4 (fun y h => (hy4 y h).2.1) h8 h9 (fun y h => (hy9 y h).2.2.1) k (by omega), Option.bind_some]
  split
  · rfl
  · rename_i hc2
    simp only [Bool.or_eq_true, Bool.not_eq_true', decide_eq_true_eq, decide_eq_false_iff_not, not_or, Decidable.not_not] at hc2
    obtain ⟨sa, sb⟩ := hc2
    obtain ⟨v, b, hv⟩ := Apply_total q.f3 x.f0.f0 x.f0.f1
    rw [hv, Option.bind_some]
    have hA2 : interregnumref11_Apply.f k q.f3 x.f0.f0 x.f0.f1 = some (v, b) := by
      have h := hA (by omega)
      rw [List.drop_zero] at h
      exact h.trans hv
    have hy2 : ∀ y ∈ x.f2.f1, y.f1.length < 4000 := fun y h => by have := tot_mem x.f2.f1 y h; omega
    have hgo : canGo x.f2.f1 x.f2.f5 x.f2.f6 := ⟨by omega, fun y h => clone_int _ (by have := hy2 y h; omega), hy2, clone_u32 _ (by omega), by omega, fun r h => clone_bytes _ (by have := totR_mem x.f2.f6 r h; omega)⟩
    have hp := prependV_len x.f2.f1 c.f0
    have ht := tot_pre x.f2.f1 c.f0
    have o5 : (outA c.f0 c.f2 q.f1 x.f2.f0 x.f2.f1 x.f2.f2 x.f2.f3 x.f2.f4 x.f2.f5 x.f2.f6).2.2.2.2.2.1 = x.f2.f5 := by unfold outA; split <;> rfl
    have o6 : (outA c.f0 c.f2 q.f1 x.f2.f0 x.f2.f1 x.f2.f2 x.f2.f3 x.f2.f4 x.f2.f5 x.f2.f6).2.2.2.2.2.2 = x.f2.f6 := by unfold outA; split <;> rfl
    have o1 : (outA c.f0 c.f2 q.f1 x.f2.f0 x.f2.f1 x.f2.f2 x.f2.f3 x.f2.f4 x.f2.f5 x.f2.f6).2.1.length ≤ x.f2.f1.length + 1 ∧ tot (outA c.f0 c.f2 q.f1 x.f2.f0 x.f2.f1 x.f2.f2 x.f2.f3 x.f2.f4 x.f2.f5 x.f2.f6).2.1 ≤ tot x.f2.f1 + 1 := by
      unfold outA
      split
      · exact ⟨Nat.le_succ _, Nat.le_succ _⟩
      · dsimp only
        exact ⟨by omega, by omega⟩
    obtain ⟨gd, g1, g2⟩ := good_eq (outA c.f0 c.f2 q.f1 x.f2.f0 x.f2.f1 x.f2.f2 x.f2.f3 x.f2.f4 x.f2.f5 x.f2.f6).1 (outA c.f0 c.f2 q.f1 x.f2.f0 x.f2.f1 x.f2.f2 x.f2.f3 x.f2.f4 x.f2.f5 x.f2.f6).2.1 (outA c.f0 c.f2 q.f1 x.f2.f0 x.f2.f1 x.f2.f2 x.f2.f3 x.f2.f4 x.f2.f5 x.f2.f6).2.2.1 (outA c.f0 c.f2 q.f1 x.f2.f0 x.f2.f1 x.f2.f2 x.f2.f3 x.f2.f4 x.f2.f5 x.f2.f6).2.2.2.1 (outA c.f0 c.f2 q.f1 x.f2.f0 x.f2.f1 x.f2.f2 x.f2.f3 x.f2.f4 x.f2.f5 x.f2.f6).2.2.2.2.1 (outA c.f0 c.f2 q.f1 x.f2.f0 x.f2.f1 x.f2.f2 x.f2.f3 x.f2.f4 x.f2.f5 x.f2.f6).2.2.2.2.2.1 (outA c.f0 c.f2 q.f1 x.f2.f0 x.f2.f1 x.f2.f2 x.f2.f3 x.f2.f4 x.f2.f5 x.f2.f6).2.2.2.2.2.2 (by rw [o6]; omega) (by omega) (by omega) k (by rw [o6]; omega)
    rw [g1, Option.bind_some, if_pos]
    obtain ⟨k', rfl⟩ : ∃ m, k = m + 1 := ⟨k - 1, by omega⟩
    refine ⟨by rw [hA2]; rfl, g1, g2, hgo, Prepend_f k' x.f2.f1 c.f0 (by omega) hy2, ?_⟩
    unfold sameV expV
    split
    · exact SameA 0 [] 0 0 0 [] [] (by simp) (by simp) (by simp [totR]) (by simp) (by simp [tot]) _ (by simp [tot, totR]; omega)
    · exact SameA (outA c.f0 c.f2 q.f1 x.f2.f0 x.f2.f1 x.f2.f2 x.f2.f3 x.f2.f4 x.f2.f5 x.f2.f6).1 (outA c.f0 c.f2 q.f1 x.f2.f0 x.f2.f1 x.f2.f2 x.f2.f3 x.f2.f4 x.f2.f5 x.f2.f6).2.1 (outA c.f0 c.f2 q.f1 x.f2.f0 x.f2.f1 x.f2.f2 x.f2.f3 x.f2.f4 x.f2.f5 x.f2.f6).2.2.1 (outA c.f0 c.f2 q.f1 x.f2.f0 x.f2.f1 x.f2.f2 x.f2.f3 x.f2.f4 x.f2.f5 x.f2.f6).2.2.2.1 (outA c.f0 c.f2 q.f1 x.f2.f0 x.f2.f1 x.f2.f2 x.f2.f3 x.f2.f4 x.f2.f5 x.f2.f6).2.2.2.2.1 (outA c.f0 c.f2 q.f1 x.f2.f0 x.f2.f1 x.f2.f2 x.f2.f3 x.f2.f4 x.f2.f5 x.f2.f6).2.2.2.2.2.1 (outA c.f0 c.f2 q.f1 x.f2.f0 x.f2.f1 x.f2.f2 x.f2.f3 x.f2.f4 x.f2.f5 x.f2.f6).2.2.2.2.2.2 (by rw [o5]; omega) (by rw [o6]; omega) (by rw [o6]; omega) (by omega) (by omega) _ (by rw [o5, o6]; omega)
end Go.Proofs.Ytjdebhkdbdbepaa.Pure
