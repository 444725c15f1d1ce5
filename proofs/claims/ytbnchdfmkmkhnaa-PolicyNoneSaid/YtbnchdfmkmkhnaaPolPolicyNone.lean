/- What the rules of a policy say; for the statement PolicyNone. -/
import Derived.Test.YtbnchdfmkmkhnaaPreVPolicyNone
namespace Go.Proofs.Ytbnchdfmkmkhnaa.PrePolicyNone
open Go.RowKit Go.Proofs.Ytbnchdfmkmkhnaa.PPolicyNone Go.Proofs.YtbnchdfmkmkhnaaW.PrintWords Go.Proofs.YtbnchdfmkmkhnaaW.PrintLast Go.Proofs.YtbnchdfmkmkhnaaW.PrintMore Go.Proofs.Ytbnchdfmkmkhnaa.Pre
abbrev Rule := S50
theorem wf_i64 {x : Int} (h : (Lit.int .i64 x).wf = true) : -9223372036854775808 ≤ x ∧ x ≤ 9223372036854775807 := by
  simpa [Lit.wf, IntKind.min, IntKind.max, IntKind.signed, IntKind.bits] using h
theorem answers : interregnumlaw12_answers.f = some true := by decide +kernel
/-- Is a rule for a prefix? -/
def Meets (a n : Int) (x : Rule) : Prop := (Ok x.f0.f0 x.f0.f1 ∧ Ok a n ∧ x.f0.f1 ≤ n ∧ top a x.f0.f1 = x.f0.f0) ∧ x.f1 ≤ n ∧ n ≤ x.f2
instance (a n : Int) (x : Rule) : Decidable (Meets a n x) := inferInstanceAs (Decidable (_ ∧ _))
theorem meetsB_eq (a n : Int) (x : Rule) (ha : U32 a) (hx : U32 x.f0.f0) : meetsB a n x = decide (Meets a n x) := by
  have : meetsB a n x = true ↔ Meets a n x := by
    unfold meetsB Meets
    rw [Covers _ _ _ _ hx ha, Option.getD_some]
    simp only [Bool.and_eq_true, decide_eq_true_eq, ge_iff_le]
    exact ⟨fun h => ⟨h.1.1, h.1.2, h.2⟩, fun h => ⟨⟨h.1, h.2.1⟩, h.2.2⟩⟩
  rw [Bool.eq_iff_iff, decide_eq_true_eq]
  exact this
theorem Apply_cons (x : Rule) (l : List Rule) (a n : Int) (ha : U32 a) (hx : U32 x.f0.f0) :
    policy_Apply.f (x :: l) a n = if Meets a n x then (if x.f3 = true then some (0, false) else some (x.f4, true)) else policy_Apply.f l a n := by
  show policy_Apply.g (x :: l) a n = _
  unfold policy_Apply.g
  rw [meetsB_eq a n x ha hx]
  simp only [decide_eq_true_eq]
  rfl
theorem Apply_nil (a n : Int) : policy_Apply.f [] a n = some (-1, true) := rfl
theorem Apply_total (l : List Rule) (a n : Int) : ∃ p q, policy_Apply.f l a n = some (p, q) := by
  show ∃ p q, policy_Apply.g l a n = some (p, q)
  induction l with
  | nil => exact ⟨_, _, rfl⟩
  | cons x l ih =>
    unfold policy_Apply.g
    split
    · split <;> exact ⟨_, _, rfl⟩
    · exact ih
end Go.Proofs.Ytbnchdfmkmkhnaa.PrePolicyNone
