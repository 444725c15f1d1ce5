/- Without a rule that is for it a prefix is let through as it is; one that denies all lets nothing through; the plain part of the proof. Conditions: none. -/
import Derived.Test.YtbnchdfmkmkhnaaBndPolicyNone
import Derived.Test.YtbnchdfmkmkhnaaPolPolicyNone
namespace Go.Proofs.Ytbnchdfmkmkhnaa.Pure
open Go.RowKit Go.Proofs.Ytbnchdfmkmkhnaa.PPolicyNone Go.Proofs.YtbnchdfmkmkhnaaW.PrintWords Go.Proofs.YtbnchdfmkmkhnaaW.PrintLast Go.Proofs.YtbnchdfmkmkhnaaW.PrintMore Go.Proofs.Ytbnchdfmkmkhnaa.Pre Go.Proofs.Ytbnchdfmkmkhnaa Go.Proofs.Ytbnchdfmkmkhnaa.PrePolicyNone
def host (x : Rule) : Prop := x.f0.f0 = 4278190080 ∧ x.f0.f1 = 32
theorem hosts_none (l : List Rule) (hl : ∀ x ∈ l, host x) (a n : Int) (ha : U32 a) (hne : ¬ (a = 4278190080 ∧ n = 32)) (m : List Rule) : policy_Apply.f (l ++ m) a n = policy_Apply.f m a n := by
  induction l with
  | nil => rfl
  | cons x l ih =>
    have hx := hl x (by simp)
    rw [List.cons_append, Apply_cons x _ a n ha (by rw [hx.1]; unfold U32; omega), if_neg]
    · exact ih (fun y hy => hl y (by simp [hy]))
    · rintro ⟨⟨_, o2, h3, h4⟩, _⟩
      rw [hx.2] at h3 h4
      rw [hx.1, top_32] at h4
      have := o2.2.1
      exact hne ⟨h4, by omega⟩
theorem None_l0 (c pref a n : Int) (hc : 0 ≤ c ∧ c < 256) (ha : U32 a) (d : Nat) : ∀ (i : Nat) (l : List Rule), (i : Int) + d = c % 16 → l.length = i → (∀ x ∈ l, host x) → interregnumlaw12_PolicyNone.l0 (50 + d) c pref l (i : Int) a n = some true := by
  have hw : wrap64 (Int.tmod c 16) = c % 16 := by rw [Int.tmod_eq_emod_of_nonneg hc.1, w64 _ (by omega) (by omega)]
  induction d with
  | zero =>
    intro i l hi hl hh
    rw [show 50 + 0 = 49 + 1 by omega]
    conv => lhs; unfold interregnumlaw12_PolicyNone.l0
    have h0 : ([] : List Rule).length = 0 := rfl
    rw [hw, if_neg (by omega)]
    obtain ⟨v, b, hv⟩ := Apply_total l a n
    obtain ⟨v2, b2, hv2⟩ := Apply_total (l ++ [(⟨(⟨0, 0⟩), 0, 32, true, 0⟩ : Rule)]) a n
    rw [hv, Option.bind_some, Option.bind_some, if_pos (by omega), Option.bind_some, Option.bind_some, List.nil_append, if_pos (by simp only [List.length_singleton]; omega), hv2, Option.bind_some, refRight a n ha 49 (by omega), Option.bind_some]
    by_cases he : (a == 4278190080 && n == 32) = true
    · rw [if_pos he]
      simp only [interregnumlaw12_PolicyNone.j1, if_true, answers, Option.bind_some]
    · rw [if_neg he]
      have hne : ¬ (a = 4278190080 ∧ n = 32) := by simpa using he
      by_cases ho : Ok a n
      · have e1 := hosts_none l hh a n ha hne []
        rw [List.append_nil, Apply_nil, hv] at e1
        have e2 := hosts_none l hh a n ha hne [(⟨(⟨0, 0⟩), 0, 32, true, 0⟩ : Rule)]
        rw [Apply_cons _ _ a n ha (by unfold U32; simp), if_pos, hv2] at e2
        · simp only [Option.some.injEq, Prod.mk.injEq] at e1 e2
          obtain ⟨rfl, rfl⟩ := e1
          obtain ⟨_, rfl⟩ := e2
          rw [decide_eq_true ho]
          simp only [interregnumlaw12_PolicyNone.j1, answers, Option.bind_some]
          simp
        · have o1 := ho.1
          have o2 := ho.2.1
          exact ⟨⟨⟨by simp, by simp, by decide⟩, ho, o1, top_0 a ha⟩, o1, o2⟩
      · rw [decide_eq_false ho]
        simp only [interregnumlaw12_PolicyNone.j1, answers, Option.bind_some]
        simp
  | succ d ih =>
    intro i l hi hl hh
    rw [show 50 + (d + 1) = (50 + d) + 1 by omega]
    conv => lhs; unfold interregnumlaw12_PolicyNone.l0
    rw [hw, if_pos (by omega), Option.bind_some, if_pos (by simp only [List.length_singleton]; omega), w64 _ (by omega) (by omega), show (i : Int) + 1 = ((i + 1 : Nat) : Int) by omega]
    refine ih (i + 1) _ (by omega) (by simp [hl]) ?_
    intro x hx
    rcases List.mem_append.1 hx with hx | hx
    · exact hh x hx
    · rw [List.mem_singleton.1 hx]; exact ⟨rfl, rfl⟩
theorem PolicyNone : BndPolicyNone.Pure := by
  intro p c pref hp hc _
  have ha := wf_u32 hp.1
  have hc := wf_u8 hc
  refine ⟨50 + (c % 16).toNat, ?_⟩
  exact None_l0 c pref p.f0 p.f1 hc ha (c % 16).toNat 0 [] (by omega) rfl (by simp)
end Go.Proofs.Ytbnchdfmkmkhnaa.Pure
