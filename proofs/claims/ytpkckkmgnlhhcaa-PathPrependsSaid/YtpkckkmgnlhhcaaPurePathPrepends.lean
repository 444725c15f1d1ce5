/- A number ahead of any path; what was handed in stays: the plain part of the proof. Conditions: none. -/
import Derived.Test.YtpkckkmgnlhhcaaBndPathPrepends
import Derived.Test.YtpkckkmgnlhhcaaPathPPathPrepends
namespace Go.Proofs.Ytpkckkmgnlhhcaa.Pure
open Go.RowKit Go.Proofs.Ytpkckkmgnlhhcaa.PPathPrepends Go.Proofs.YtpkckkmgnlhhcaaW.PrintWords Go.Proofs.YtpkckkmgnlhhcaaW.PrintLast Go.Proofs.YtpkckkmgnlhhcaaW.PrintMore Go.Proofs.Ytpkckkmgnlhhcaa.Pre Go.Proofs.Ytpkckkmgnlhhcaa Go.Proofs.Ytpkckkmgnlhhcaa.PathPathPrepends Go.Proofs.Ytpkckkmgnlhhcaa.BndPathPrepends
theorem PathPrepends : BndPathPrepends.Pure := by
  intro l a hA _
  obtain ⟨hl, hy⟩ := hA
  obtain ⟨K, hK⟩ : ∃ K, K = 100000 + l.length := ⟨_, rfl⟩
  refine ⟨K + 1, ?_⟩
  unfold interregnumlaw06_PathPrepends.f
  rw [Small l hl (fun y h => (hy y h).2.1) (K + 1) (by omega), Option.bind_some]
  by_cases sa : l.length + tot l < 3000
  rotate_left
  · rw [decide_eq_false sa, if_neg (by simp), if_pos (answers (K + 1) (by omega))]
  have hy2 : ∀ y ∈ l, y.f1.length < 4000 := fun y h => by have := tot_mem l y h; omega
  have hp := prependV_len l a
  have ht := tot_pre l a
  rw [decide_eq_true sa, if_pos rfl, LenV l (by omega) (K + 1) (by omega), Option.bind_some, if_pos]
  refine ⟨answers (K + 1) (by omega), by omega, fun y h => clone_int _ (by have := hy2 y h; omega), hy2, SameP l (by omega) (by omega) (K + 1) (by omega), Prepend_f K l a (by omega) hy2, SameP _ (by omega) (by omega) (K + 1) (by omega), ?_⟩
  rw [LenV _ (by omega) (K + 1) (by omega), lenV_pre]
  have := lenV_le l
  rw [w64 ((lenV l : Int) + 1) (by omega) (by omega)]
  congr 1
end Go.Proofs.Ytpkckkmgnlhhcaa.Pure
