/- What becomes of any route that is marked, or that it can not be; what was handed in stays: the plain part of the proof. Conditions: none. -/
import Derived.Test.YtpkckkmgnlhhcaaBndRouteMarks
import Derived.Test.YtpkckkmgnlhhcaaRouteORouteMarks
namespace Go.Proofs.Ytpkckkmgnlhhcaa.Pure
open Go.RowKit Go.Proofs.Ytpkckkmgnlhhcaa.PRouteMarks Go.Proofs.YtpkckkmgnlhhcaaW.PrintWords Go.Proofs.YtpkckkmgnlhhcaaW.PrintLast Go.Proofs.YtpkckkmgnlhhcaaW.PrintMore Go.Proofs.Ytpkckkmgnlhhcaa.Pre Go.Proofs.Ytpkckkmgnlhhcaa Go.Proofs.Ytpkckkmgnlhhcaa.PathRouteMarks Go.Proofs.Ytpkckkmgnlhhcaa.BndRouteMarks
theorem any_mem (l : List Int) (c : Int) : l.any (c == ·) = decide (c ∈ l) := by
  rw [Bool.eq_iff_iff, List.any_eq_true, decide_eq_true_iff]
  constructor
  · rintro ⟨x, hx, he⟩
    have := eq_of_beq he
    subst this
    exact hx
  · intro h
    exact ⟨c, h, by simp⟩
theorem RouteMarks : BndRouteMarks.Pure := by
  intro a s hA _
  obtain ⟨_, _, ⟨_, ⟨ha4, hya4⟩, _, _, _, ⟨ha8, _⟩, ⟨ha9, hya9⟩⟩, _⟩ := hA
  obtain ⟨K, hK⟩ : ∃ K, K = 100000 + a.f2.f1.length + a.f2.f6.length := ⟨_, rfl⟩
  refine ⟨K, ?_⟩
  unfold interregnumlaw13_RouteMarks.f
  rw [Small13 _ _ _ _ a.f2.f1 _ _ _ a.f2.f5 a.f2.f6 _ ha4 (fun y h => (hya4 y h).2.1) ha8 ha9 (fun y h => (hya9 y h).2.2.1) _ (by omega), Option.bind_some]
  by_cases sa : a.f2.f1.length + a.f2.f5.length + a.f2.f6.length + tot a.f2.f1 + totR a.f2.f6 < 3000
  rotate_left
  · rw [decide_eq_false sa, if_neg (by simp), if_pos (show interregnumlaw13_answers.f = some true from rfl)]
  have hp : path_Own.f K a.f2.f1 = some a.f2.f1 := OwnPath a.f2.f1 (by omega) (fun y h => by have := tot_mem a.f2.f1 y h; omega) K (by omega)
  have hH : ∀ c, route_Has.f K a.f2.f0 a.f2.f1 a.f2.f2 a.f2.f3 a.f2.f4 a.f2.f5 a.f2.f6 c = some (decide (c ∈ a.f2.f5)) := fun c => by
    unfold route_Has.f
    rw [Contains_u a.f2.f5 c (by omega) K (by omega), Option.bind_some, any_mem]
  have hR : ∀ c, interregnumref11_Has.f K a.f2.f0 a.f2.f1 a.f2.f2 a.f2.f3 a.f2.f4 a.f2.f5 a.f2.f6 c = some (decide (c ∈ a.f2.f5)) := fun c => by
    rw [Has11 a.f2.f0 a.f2.f1 a.f2.f2 a.f2.f3 a.f2.f4 a.f2.f5 a.f2.f6 c (by omega) K (by omega), any_mem]
  rw [decide_eq_true sa, if_pos rfl, hp, Option.bind_some, if_pos]
  refine ⟨rfl, clone_u32 _ (by omega), by omega, by omega, fun r hr => clone_bytes _ (by have := totR_mem a.f2.f6 r hr; omega), hH _, hH _, hR _, hR _, ?_, ?_⟩
  · exact SameSelf _ _ _ _ a.f2.f1 _ _ _ a.f2.f5 a.f2.f6 _ (by omega) (by omega) (by omega) (by omega) (by omega) K (by omega)
  · unfold outOf
    split
    · exact SameSelf _ _ _ _ [] _ _ _ [] [] _ (by decide) (by decide) (by decide) (by decide) (by decide) K (by simp [tot, totR]; omega)
    · refine SameSelf _ _ _ _ a.f2.f1 _ _ _ _ a.f2.f6 _ (by omega) (by omega) ?_ (by omega) (by omega) K ?_
      all_goals
        dsimp only
        split
        · rw [List.length_append, List.length_singleton]
          omega
        · omega
end Go.Proofs.Ytpkckkmgnlhhcaa.Pure
