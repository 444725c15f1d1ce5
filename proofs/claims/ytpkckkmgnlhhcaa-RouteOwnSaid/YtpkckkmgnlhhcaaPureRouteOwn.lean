/- A route of its own memory is the same, and turns nothing else: the plain part of the proof. Conditions: none. -/
import Derived.Test.YtpkckkmgnlhhcaaBndRouteOwn
import Derived.Test.YtpkckkmgnlhhcaaRouteORouteOwn
namespace Go.Proofs.Ytpkckkmgnlhhcaa.Pure
open Go.RowKit Go.Proofs.Ytpkckkmgnlhhcaa.PRouteOwn Go.Proofs.YtpkckkmgnlhhcaaW.PrintWords Go.Proofs.YtpkckkmgnlhhcaaW.PrintLast Go.Proofs.YtpkckkmgnlhhcaaW.PrintMore Go.Proofs.Ytpkckkmgnlhhcaa.Pre Go.Proofs.Ytpkckkmgnlhhcaa Go.Proofs.Ytpkckkmgnlhhcaa.PathRouteOwn Go.Proofs.Ytpkckkmgnlhhcaa.BndRouteOwn
theorem RouteOwn : BndRouteOwn.Pure := by
  intro a hA
  obtain ⟨_, _, ⟨_, ⟨ha4, hya4⟩, _, _, _, ⟨ha8, _⟩, ⟨ha9, hya9⟩⟩, _⟩ := hA
  obtain ⟨K, hK⟩ : ∃ K, K = 100000 + a.f2.f1.length + a.f2.f6.length := ⟨_, rfl⟩
  refine ⟨K, ?_⟩
  unfold interregnumlaw13_RouteOwn.f
  rw [Small13 _ _ _ _ a.f2.f1 _ _ _ a.f2.f5 a.f2.f6 _ ha4 (fun y h => (hya4 y h).2.1) ha8 ha9 (fun y h => (hya9 y h).2.2.1) _ (by omega), Option.bind_some]
  by_cases sa : a.f2.f1.length + a.f2.f5.length + a.f2.f6.length + tot a.f2.f1 + totR a.f2.f6 < 3000
  rotate_left
  · rw [decide_eq_false sa, if_neg (by simp), if_pos (show interregnumlaw13_answers.f = some true from rfl)]
  rw [decide_eq_true sa, if_pos rfl, if_pos]
  exact ⟨by omega, fun y hy => clone_int _ (by have := tot_mem a.f2.f1 y hy; omega), clone_u32 _ (by omega), by omega, fun r hr => clone_bytes _ (by have := totR_mem a.f2.f6 r hr; omega), SameSelf _ _ _ _ a.f2.f1 _ _ _ a.f2.f5 a.f2.f6 _ (by omega) (by omega) (by omega) (by omega) (by omega) K (by omega)⟩
end Go.Proofs.Ytpkckkmgnlhhcaa.Pure
