/- Which routes are the same; whether any asber is in a route's path, and any community in its attributes: the plain part of the proof. Conditions: none. -/
import Derived.Test.YtpkckkmgnlhhcaaBndRouteSame
import Derived.Test.YtpkckkmgnlhhcaaRouteARouteSame
namespace Go.Proofs.Ytpkckkmgnlhhcaa.Pure
open Go.RowKit Go.Proofs.Ytpkckkmgnlhhcaa.PRouteSame Go.Proofs.YtpkckkmgnlhhcaaW.PrintWords Go.Proofs.YtpkckkmgnlhhcaaW.PrintLast Go.Proofs.YtpkckkmgnlhhcaaW.PrintMore Go.Proofs.Ytpkckkmgnlhhcaa.Pre Go.Proofs.Ytpkckkmgnlhhcaa Go.Proofs.Ytpkckkmgnlhhcaa.PathRouteSame Go.Proofs.Ytpkckkmgnlhhcaa.BndRouteSame
theorem RouteSame_j (k : Nat) (x2 x3 q0 q1 q2 q3 : Int) (q4 : List Seg) (q5 q6 q7 : Int) (q8 : List Int) (q9 : List RawS) (q10 p0 p1 p2 p3 : Int) (p4 : List Seg) (p5 p6 p7 : Int) (p8 : List Int) (p9 : List RawS) (p10 : Int) :
    interregnumlaw13_RouteSame.j0 (k + 1) x2 x3 true q0 q1 q2 q3 q4 q5 q6 q7 q8 q9 q10 p0 p1 p2 p3 p4 p5 p6 p7 p8 p9 p10 = some true := rfl
theorem RouteSame : BndRouteSame.Pure := by
  intro a b num c hA hB _ _
  obtain ⟨_, _, ⟨_, ⟨ha4, hya4⟩, _, _, _, ⟨ha8, _⟩, ⟨ha9, hya9⟩⟩, _⟩ := hA
  obtain ⟨_, _, ⟨_, ⟨hb4, hyb4⟩, _, _, _, ⟨hb8, _⟩, ⟨hb9, hyb9⟩⟩, _⟩ := hB
  obtain ⟨K, hK⟩ : ∃ K, K = 100000 + a.f2.f1.length + a.f2.f6.length + b.f2.f1.length + b.f2.f6.length := ⟨_, rfl⟩
  refine ⟨K + 1, ?_⟩
  unfold interregnumlaw13_RouteSame.f
  rw [Small13 _ _ _ _ a.f2.f1 _ _ _ a.f2.f5 a.f2.f6 _ ha4 (fun y h => (hya4 y h).2.1) ha8 ha9 (fun y h => (hya9 y h).2.2.1) _ (by omega), Option.bind_some]
  by_cases sa : a.f2.f1.length + a.f2.f5.length + a.f2.f6.length + tot a.f2.f1 + totR a.f2.f6 < 3000
  rotate_left
  · rw [decide_eq_false sa, if_neg (by simp), RouteSame_j]
  rw [decide_eq_true sa, if_pos rfl, Small13 _ _ _ _ b.f2.f1 _ _ _ b.f2.f5 b.f2.f6 _ hb4 (fun y h => (hyb4 y h).2.1) hb8 hb9 (fun y h => (hyb9 y h).2.2.1) _ (by omega), Option.bind_some]
  by_cases sb : b.f2.f1.length + b.f2.f5.length + b.f2.f6.length + tot b.f2.f1 + totR b.f2.f6 < 3000
  rotate_left
  · rw [decide_eq_false sb]
    exact RouteSame_j _ _ _ _ _ _ _ _ _ _ _ _ _ _ _ _ _ _ _ _ _ _ _ _ _
  rw [decide_eq_true sb]
  have hraw : all2 rawEq a.f2.f6 b.f2.f6 = all2 rawEq2 a.f2.f6 b.f2.f6 := all2_congr _ _ (fun x hx y hy => rawEq_eq x y (fun v hv => wf_u8 ((hya9 x hx).2.2.2 v hv)) (fun v hv => wf_u8 ((hyb9 y hy).2.2.2 v hv)))
  have hsame : interregnumref11_SameRoute.f K a.f0.f0 a.f0.f1 a.f1 a.f2.f0 a.f2.f1 a.f2.f2 a.f2.f3 a.f2.f4 a.f2.f5 a.f2.f6 a.f3 b.f0.f0 b.f0.f1 b.f1 b.f2.f0 b.f2.f1 b.f2.f2 b.f2.f3 b.f2.f4 b.f2.f5 b.f2.f6 b.f3 = route_Same.f a.f0.f0 a.f0.f1 a.f1 a.f2.f0 a.f2.f1 a.f2.f2 a.f2.f3 a.f2.f4 a.f2.f5 a.f2.f6 a.f3 b.f0.f0 b.f0.f1 b.f1 b.f2.f0 b.f2.f1 b.f2.f2 b.f2.f3 b.f2.f4 b.f2.f5 b.f2.f6 b.f3 := by
    unfold interregnumref11_SameRoute.f route_Same.f attr_Same.f
    rw [SameAttrs _ _ _ _ _ _ _ _ _ _ _ _ _ _ (by omega) (by omega) (by omega) (by omega) (by omega) K (by omega), hraw]
  obtain ⟨v, hv⟩ : ∃ v, route_Same.f a.f0.f0 a.f0.f1 a.f1 a.f2.f0 a.f2.f1 a.f2.f2 a.f2.f3 a.f2.f4 a.f2.f5 a.f2.f6 a.f3 b.f0.f0 b.f0.f1 b.f1 b.f2.f0 b.f2.f1 b.f2.f2 b.f2.f3 b.f2.f4 b.f2.f5 b.f2.f6 b.f3 = some v := by
    unfold route_Same.f attr_Same.f
    repeat' split
    all_goals exact ⟨_, rfl⟩
  have hU : route_Usable.f a.f0.f0 a.f0.f1 a.f1 a.f2.f0 a.f2.f1 a.f2.f2 a.f2.f3 a.f2.f4 a.f2.f5 a.f2.f6 a.f3 num = some (!(a.f2.f1.any (segHas num))) := rfl
  have hH := HasAS a.f2.f1 num (by omega) (fun y h => by have := tot_mem a.f2.f1 y h; omega) K (by omega)
  have hC := Contains_u a.f2.f5 c (by omega) K (by omega)
  have hR := Has11 a.f2.f0 a.f2.f1 a.f2.f2 a.f2.f3 a.f2.f4 a.f2.f5 a.f2.f6 c (by omega) K (by omega)
  have hq : route_Has.f K a.f2.f0 a.f2.f1 a.f2.f2 a.f2.f3 a.f2.f4 a.f2.f5 a.f2.f6 c = some (a.f2.f5.any (c == ·)) := by
    unfold route_Has.f
    rw [hC, Option.bind_some]
  unfold interregnumlaw13_RouteSame.j0
  dsimp only
  rw [if_neg (by simp), show interregnumlaw13_answers.f = some true from rfl, Option.bind_some, if_pos rfl, hsame, hv, Option.bind_some, Option.bind_some, if_pos (by simp), hU, Option.bind_some, hH, show path_Has.f a.f2.f1 num = some (a.f2.f1.any (segHas num)) from rfl, Option.bind_some, if_pos (by simp), hq, hR, Option.bind_some, Option.bind_some, beq_self_eq_true]
end Go.Proofs.Ytpkckkmgnlhhcaa.Pure
