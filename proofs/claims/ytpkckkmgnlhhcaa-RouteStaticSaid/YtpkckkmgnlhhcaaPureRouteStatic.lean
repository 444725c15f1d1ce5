/- What a static route is: the plain part of the proof. Conditions: none. -/
import Derived.Test.YtpkckkmgnlhhcaaBndRouteStatic
namespace Go.Proofs.Ytpkckkmgnlhhcaa.Pure
open Go.RowKit Go.Proofs.Ytpkckkmgnlhhcaa.PRouteStatic Go.Proofs.YtpkckkmgnlhhcaaW.PrintWords Go.Proofs.YtpkckkmgnlhhcaaW.PrintLast
theorem RouteStatic_attrs (n : Int) : interregnumref05_SameAttrs.f 10 0 [] n (-1) (-1) [] [] 0 [] n (-1) (-1) [] [] = some true := by
  unfold interregnumref05_SameAttrs.f
  rw [if_pos rfl, show interregnumref05_SamePath.f 10 [] [] = some true from rfl, Option.bind_some, if_pos rfl, if_pos rfl, if_pos rfl, if_pos rfl, if_pos rfl]
  rfl
theorem RouteStatic : BndRouteStatic.Pure := by
  intro x0 x1 _ _
  refine ⟨10, ?_⟩
  unfold interregnumlaw13_RouteStatic.f interregnumlaw13_answers.f route_Static.f
  rw [Option.bind_some, if_pos rfl, Option.bind_some]
  dsimp only
  unfold interregnumref11_SameRoute.f
  rw [if_pos (by simp), if_pos rfl, if_pos rfl, RouteStatic_attrs]
  rfl
end Go.Proofs.Ytpkckkmgnlhhcaa.Pure
