/- The prefix of any address, of any length, is the reference's; the plain part of the proof. Conditions: none. -/
import Derived.Test.YtndmlmfkbkefcaaPreBPrefixMake
namespace Go.Proofs.Ytndmlmfkbkefcaa.Pure
open Go.RowKit Go.Proofs.Ytndmlmfkbkefcaa.PPrefixMake Go.Proofs.YtndmlmfkbkefcaaW.PrintWords Go.Proofs.YtndmlmfkbkefcaaW.PrintLast Go.Proofs.YtndmlmfkbkefcaaW.PrintMore Go.Proofs.Ytndmlmfkbkefcaa.Pre Go.Proofs.Ytndmlmfkbkefcaa

theorem PrefixMake_answers : interregnumlaw05_answers.f 40 = some true := by decide +kernel

theorem PrefixMake : interregnumlaw05_PrefixMake.Pure := by
  intro a n h0 h1
  have ha := wf_u32 h0
  refine ⟨40, ?_⟩
  unfold interregnumlaw05_PrefixMake.f
  rw [PrePrefixMake.Make a n ha, PrePrefixMake.refMake a n ha 40 (by omega), PrefixMake_answers]
  by_cases h : 0 ≤ n ∧ n ≤ 32
  · simp only [if_pos h, Option.bind_some]
    rw [PrePrefixMake.refRight _ _ (top_U32 a n ha) 40 (by omega)]
    have := Ok_top a n h.1 h.2
    simp [this]
  · simp only [if_neg h, Option.bind_some]
    simp
end Go.Proofs.Ytndmlmfkbkefcaa.Pure
