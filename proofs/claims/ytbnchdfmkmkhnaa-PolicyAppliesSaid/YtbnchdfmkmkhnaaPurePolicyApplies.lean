/- What any rules say of any prefix, and whether they may be, is what the reference says; the plain part of the proof. Conditions: none. -/
import Derived.Test.YtbnchdfmkmkhnaaBndPolicyApplies
import Derived.Test.YtbnchdfmkmkhnaaPolPolicyApplies
namespace Go.Proofs.Ytbnchdfmkmkhnaa.Pure
open Go.RowKit Go.Proofs.Ytbnchdfmkmkhnaa.PPolicyApplies Go.Proofs.YtbnchdfmkmkhnaaW.PrintWords Go.Proofs.YtbnchdfmkmkhnaaW.PrintLast Go.Proofs.YtbnchdfmkmkhnaaW.PrintMore Go.Proofs.Ytbnchdfmkmkhnaa.Pre Go.Proofs.Ytbnchdfmkmkhnaa Go.Proofs.Ytbnchdfmkmkhnaa.PrePolicyApplies
def U (l : List Rule) : Prop := ∀ x ∈ l, U32 x.f0.f0
theorem rd_at (l : List Rule) (i : Nat) (hi : i < l.length) : rd_T50 l (i : Int) = l[i] := by
  unfold rd_T50
  rw [List.getD_eq_getElem?_getD, Int.toNat_natCast, List.getElem?_eq_getElem hi]
  rfl
theorem Apply_l0 (l : List Rule) (hu : U l) (hl : l.length ≤ 100) (a n : Int) (ha : U32 a) (d : Nat) : ∀ (k i : Nat), i + d = l.length → interregnumref11_Apply.l0 (k + 50 + 2 * d) l (i : Int) a n = policy_Apply.f (l.drop i) a n := by
  induction d with
  | zero =>
    intro k i hi
    rw [show k + 50 + 2 * 0 = (k + 49) + 1 by omega]
    conv => lhs; unfold interregnumref11_Apply.l0
    rw [if_neg (by omega), List.drop_of_length_le (by omega)]
    rfl
  | succ d ih =>
    intro k i hi
    have hlt : i < l.length := by omega
    have hx := hu l[i] (List.getElem_mem hlt)
    rw [show k + 50 + 2 * (d + 1) = (k + 50 + 2 * d + 1) + 1 by omega]
    conv => lhs; unfold interregnumref11_Apply.l0
    have e1 : wrap64 ((i : Int) + 1) = ((i + 1 : Nat) : Int) := by rw [w64 _ (by omega) (by omega)]; omega
    rw [if_pos (by omega), if_pos (by omega), rd_at l i hlt, refCovers _ _ _ _ hx ha _ (by omega), Option.bind_some, List.drop_eq_getElem_cons hlt, Apply_cons _ _ a n ha hx]
    have e : Meets a n l[i] ↔ (Ok l[i].f0.f0 l[i].f0.f1 ∧ Ok a n ∧ l[i].f0.f1 ≤ n ∧ top a l[i].f0.f1 = l[i].f0.f0) ∧ l[i].f1 ≤ n ∧ n ≤ l[i].f2 := Iff.rfl
    have skip : interregnumref11_Apply.j1 (k + 50 + 2 * d + 1) l (i : Int) false a n = policy_Apply.f (l.drop (i + 1)) a n := by
      simp only [interregnumref11_Apply.j1]
      rw [if_neg (by simp), e1]
      exact ih k (i + 1) (by omega)
    by_cases hc : Ok l[i].f0.f0 l[i].f0.f1 ∧ Ok a n ∧ l[i].f0.f1 ≤ n ∧ top a l[i].f0.f1 = l[i].f0.f0
    · rw [decide_eq_true hc, if_pos rfl]
      by_cases hm : l[i].f1 ≤ n
      · rw [if_pos hm]
        by_cases hM : n ≤ l[i].f2
        · rw [decide_eq_true hM, if_pos (e.2 ⟨hc, hm, hM⟩)]
          simp only [interregnumref11_Apply.j1]
          rw [if_pos trivial, if_pos (by omega), if_pos (by omega), rd_at l i hlt]
        · rw [decide_eq_false hM, if_neg (fun h => hM (e.1 h).2.2)]
          exact skip
      · rw [if_neg hm, if_neg (fun h => hm (e.1 h).2.1)]
        exact skip
    · rw [decide_eq_false hc, if_neg (by simp), if_neg (fun h => hc (e.1 h).1)]
      exact skip
def Fine (x : Rule) : Prop := Ok x.f0.f0 x.f0.f1 ∧ (0 ≤ x.f1 ∧ x.f1 ≤ 32) ∧ (0 ≤ x.f2 ∧ x.f2 ≤ 32) ∧ (-1 ≤ x.f4 ∧ x.f4 ≤ 4294967295)
instance (x : Rule) : Decidable (Fine x) := inferInstanceAs (Decidable (_ ∧ _))
theorem goodB_eq (x : Rule) (hx : U32 x.f0.f0) : goodB x = !decide (Fine x) := by
  unfold goodB policy_Good_1.f prefix_Right.f policy_within.f Fine
  rw [right _ _ hx, Option.bind_some, Option.bind_some]
  by_cases h1 : Ok x.f0.f0 x.f0.f1
  · rw [decide_eq_true h1, if_pos rfl]
    by_cases h2 : x.f1 ≥ 0
    · rw [if_pos h2, Option.bind_some]
      by_cases h3 : x.f1 ≤ 32
      · rw [decide_eq_true h3, if_pos rfl]
        by_cases h4 : x.f2 ≥ 0
        · rw [if_pos h4, Option.bind_some]
          by_cases h5 : x.f2 ≤ 32
          · rw [decide_eq_true h5, if_pos rfl]
            by_cases h6 : x.f4 ≥ -1
            · rw [if_pos h6, Option.bind_some]
              simp [h1, h2, h3, h4, h5, h6]
            · rw [if_neg h6]
              have : ¬ (-1 ≤ x.f4) := h6
              simp [this]
          · simp [h5]
        · rw [if_neg h4]
          have : ¬ (0 ≤ x.f2) := h4
          simp [this]
      · simp [h3]
    · rw [if_neg h2]
      have : ¬ (0 ≤ x.f1) := h2
      simp [this]
  · simp [h1]
theorem Good_l0 (l : List Rule) (hu : U l) (hl : l.length ≤ 100) (d : Nat) : ∀ (k i : Nat), i + d = l.length → interregnumref11_GoodRules.l0 (k + 50 + d) l (i : Int) = some (decide (l.length ≤ 16) && !((l.drop i).any goodB)) := by
  induction d with
  | zero =>
    intro k i hi
    rw [show k + 50 + 0 = (k + 49) + 1 by omega]
    conv => lhs; unfold interregnumref11_GoodRules.l0
    rw [if_neg (by omega), List.drop_of_length_le (by omega)]
    simp only [List.any_nil, Bool.not_false, Bool.and_true]
    congr 1
    rw [Bool.eq_iff_iff, decide_eq_true_eq, decide_eq_true_eq]
    omega
  | succ d ih =>
    intro k i hi
    have hlt : i < l.length := by omega
    have hx := hu l[i] (List.getElem_mem hlt)
    rw [show k + 50 + (d + 1) = (k + 50 + d) + 1 by omega]
    conv => lhs; unfold interregnumref11_GoodRules.l0
    have e1 : wrap64 ((i : Int) + 1) = ((i + 1 : Nat) : Int) := by rw [w64 _ (by omega) (by omega)]; omega
    rw [if_pos (by omega), if_pos (by omega), rd_at l i hlt, refRight _ _ hx _ (by omega), Option.bind_some, List.drop_eq_getElem_cons hlt, List.any_cons, goodB_eq _ hx, e1, ih k (i + 1) (by omega)]
    by_cases hf : Fine l[i]
    · rw [decide_eq_true hf]
      obtain ⟨h1, ⟨h2, h3⟩, ⟨h4, h5⟩, ⟨h6, h7⟩⟩ := hf
      rw [decide_eq_true h1, if_pos rfl, if_neg (by omega), if_neg (by omega), if_neg (by omega), if_neg (by omega), if_neg (by omega), if_neg (by omega)]
      rfl
    · rw [decide_eq_false hf]
      simp only [Bool.not_false, Bool.true_or, Bool.not_true, Bool.and_false]
      by_cases h1 : Ok l[i].f0.f0 l[i].f0.f1
      · rw [decide_eq_true h1, if_pos rfl]
        repeat' split
        all_goals first | rfl | skip
        exfalso
        apply hf
        refine ⟨h1, ⟨?_, ?_⟩, ⟨?_, ?_⟩, ⟨?_, ?_⟩⟩ <;> omega
      · rw [decide_eq_false h1, if_neg (by simp)]
theorem PolicyApplies : BndPolicyApplies.Pure := by
  intro l p hl hp
  have ha := wf_u32 hp.1
  have hu : U l := fun x hx => wf_u32 (hl.2 x hx).1.1
  refine ⟨50 + 2 * l.length, ?_⟩
  unfold interregnumlaw12_PolicyApplies.f
  split
  · rw [answers]; rfl
  · have h1 := Apply_l0 l hu (by omega) p.f0 p.f1 ha l.length 0 0 (by omega)
    have h2 := Good_l0 l hu (by omega) l.length l.length 0 (by omega)
    rw [List.drop_zero, show 0 + 50 + 2 * l.length = 50 + 2 * l.length by omega] at h1
    rw [List.drop_zero, show l.length + 50 + l.length = 50 + 2 * l.length by omega] at h2
    obtain ⟨v, b, hv⟩ := Apply_total l p.f0 p.f1
    have h3 : interregnumref11_Apply.f (50 + 2 * l.length) l p.f0 p.f1 = some (v, b) := h1.trans hv
    have h4 : interregnumref11_GoodRules.f (50 + 2 * l.length) l = policy_Good.f l := h2
    rw [hv, h3, h4, answers]
    simp [policy_Good.f]
end Go.Proofs.Ytbnchdfmkmkhnaa.Pure
