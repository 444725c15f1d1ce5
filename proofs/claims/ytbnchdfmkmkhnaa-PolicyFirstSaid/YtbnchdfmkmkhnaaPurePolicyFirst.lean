/- A rule that stands ahead of others counts, if it is for a prefix; else the others do; the plain part of the proof. Conditions: none. -/
import Derived.Test.YtbnchdfmkmkhnaaBndPolicyFirst
import Derived.Test.YtbnchdfmkmkhnaaPolPolicyFirst
namespace Go.Proofs.Ytbnchdfmkmkhnaa.Pure
open Go.RowKit Go.Proofs.Ytbnchdfmkmkhnaa.PPolicyFirst Go.Proofs.YtbnchdfmkmkhnaaW.PrintWords Go.Proofs.YtbnchdfmkmkhnaaW.PrintLast Go.Proofs.YtbnchdfmkmkhnaaW.PrintMore Go.Proofs.Ytbnchdfmkmkhnaa.Pre Go.Proofs.Ytbnchdfmkmkhnaa Go.Proofs.Ytbnchdfmkmkhnaa.PrePolicyFirst
theorem PolicyFirst : BndPolicyFirst.Pure := by
  intro r l p hr hl hp
  have ha := wf_u32 hp.1
  have hx := wf_u32 hr.1.1
  refine ⟨50, ?_⟩
  unfold interregnumlaw12_PolicyFirst.f
  split
  · rw [answers]; rfl
  · rename_i hlen
    have h1 : ([r] : List Rule).length = 1 := rfl
    rw [Option.bind_some, if_pos (by simp only [List.length_singleton]; omega), List.singleton_append, Apply_cons _ l p.f0 p.f1 ha hx, refCovers _ _ _ _ hx ha 50 (by omega)]
    obtain ⟨v, b, hv⟩ := Apply_total l p.f0 p.f1
    have e : Meets p.f0 p.f1 (⟨⟨r.f0.f0, r.f0.f1⟩, r.f1, r.f2, r.f3, r.f4⟩ : Rule) ↔ (Ok r.f0.f0 r.f0.f1 ∧ Ok p.f0 p.f1 ∧ r.f0.f1 ≤ p.f1 ∧ top p.f0 r.f0.f1 = r.f0.f0) ∧ r.f1 ≤ p.f1 ∧ p.f1 ≤ r.f2 := Iff.rfl
    simp only [e]
    by_cases hc : Ok r.f0.f0 r.f0.f1 ∧ Ok p.f0 p.f1 ∧ r.f0.f1 ≤ p.f1 ∧ top p.f0 r.f0.f1 = r.f0.f0
    · by_cases hm : r.f1 ≤ p.f1
      · by_cases hM : p.f1 ≤ r.f2
        · rw [if_pos ⟨hc, hm, hM⟩]
          cases hd : r.f3 with
          | true =>
            rw [if_pos rfl, hv]
            simp only [Option.bind_some, decide_eq_true hc, if_true]
            rw [if_pos hm, decide_eq_true hM]
            simp only [interregnumlaw12_PolicyFirst.j0, if_true, answers, Option.bind_some]
            rfl
          | false =>
            rw [if_neg (by simp), hv]
            simp only [Option.bind_some, decide_eq_true hc, if_true]
            rw [if_pos hm, decide_eq_true hM]
            simp only [interregnumlaw12_PolicyFirst.j0, if_true, answers, Option.bind_some]
            simp
        · rw [if_neg (fun h => hM h.2.2), hv]
          simp only [Option.bind_some, decide_eq_true hc, if_true]
          rw [if_pos hm, decide_eq_false hM]
          simp only [interregnumlaw12_PolicyFirst.j0, answers, Option.bind_some]
          simp
      · rw [if_neg (fun h => hm h.2.1), hv]
        simp only [Option.bind_some, decide_eq_true hc, if_true]
        rw [if_neg hm]
        simp only [interregnumlaw12_PolicyFirst.j0, answers, Option.bind_some]
        simp
    · rw [if_neg (fun h => hc h.1), hv]
      simp only [Option.bind_some, decide_eq_false hc]
      simp only [interregnumlaw12_PolicyFirst.j0, answers, Option.bind_some]
      simp
end Go.Proofs.Ytbnchdfmkmkhnaa.Pure
