/- What a path tells of itself: the first number, how long it is, whether it has a number; the plain part of the proof. Conditions: none. -/
import Derived.Test.YtpkckkmgnlhhcaaBndPathTells
import Derived.Test.YtpkckkmgnlhhcaaPathAPathTells
namespace Go.Proofs.Ytpkckkmgnlhhcaa.Pure
open Go.RowKit Go.Proofs.Ytpkckkmgnlhhcaa.PPathTells Go.Proofs.YtpkckkmgnlhhcaaW.PrintWords Go.Proofs.YtpkckkmgnlhhcaaW.PrintLast Go.Proofs.YtpkckkmgnlhhcaaW.PrintMore Go.Proofs.Ytpkckkmgnlhhcaa.Pre Go.Proofs.Ytpkckkmgnlhhcaa Go.Proofs.Ytpkckkmgnlhhcaa.PathPathTells
theorem PathTells : BndPathTells.Pure := by
  intro l a hl ha
  obtain ⟨hl, hy⟩ := hl
  refine ⟨6040 + l.length, ?_⟩
  unfold interregnumlaw06_PathTells.f
  rw [Small l hl (fun y h => (hy y h).2.1) _ (by omega), Option.bind_some, answers _ (by omega)]
  by_cases hs : l.length + tot l < 3000
  · rw [decide_eq_true hs, if_pos rfl]
    obtain ⟨p, q, h1, h2⟩ := First l
    obtain ⟨v, h3, h4⟩ := Length l (by omega) (6040 + l.length) (by omega)
    have h5 := HasAS l a (by omega) (fun y h => by have := tot_mem l y h; omega) (6040 + l.length) (by omega)
    obtain ⟨b, h6⟩ : ∃ b, path_Has.f l a = some b := ⟨_, rfl⟩
    rw [h6] at h5
    simp only [h1, h2, h3, h4, h5, h6, Option.bind_some, if_true, beq_self_eq_true]
  · rw [decide_eq_false hs, if_neg (by simp)]
    rfl
end Go.Proofs.Ytpkckkmgnlhhcaa.Pure
