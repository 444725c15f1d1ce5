/- A path of its own memory is the same path, and what is the same as itself; for the statement RouteOwn. -/
import Derived.Test.YtpkckkmgnlhhcaaRouteARouteOwn
namespace Go.Proofs.Ytpkckkmgnlhhcaa.PathRouteOwn
open Go.RowKit Go.Proofs.Ytpkckkmgnlhhcaa.PRouteOwn Go.Proofs.YtpkckkmgnlhhcaaW.PrintWords Go.Proofs.YtpkckkmgnlhhcaaW.PrintLast Go.Proofs.YtpkckkmgnlhhcaaW.PrintMore Go.Proofs.Ytpkckkmgnlhhcaa.Pre
set_option linter.unusedVariables false
theorem clone_int (l : List Int) (h : l.length < 17592186044416) : slices_Clone_int_int.f l = some l := by
  unfold slices_Clone_int_int.f
  rw [if_pos h]
theorem clone_u32 (l : List Int) (h : l.length < 35184372088832) : slices_Clone_uint32_uint32.f l = some l := by
  unfold slices_Clone_uint32_uint32.f
  rw [if_pos h]
theorem clone_bytes (l : List Int) (h : l.length < 140737488355328) : bytes_Clone.f l = some l := by
  unfold bytes_Clone.f
  rw [if_pos h]
theorem all2_refl {α : Type} {f : α → α → Bool} (h : ∀ x, f x x = true) : ∀ l : List α, all2 f l l = true
  | [] => rfl
  | x :: l => by
    unfold all2
    rw [h, all2_refl h l]
    rfl
theorem SameSelf (a0 a1 a2 a3 : Int) (l4 : List Seg) (a5 a6 a7 : Int) (l8 : List Int) (l9 : List RawS) (a10 : Int) (h4 : l4.length < 4611686018427387903) (ht : tot l4 < 4611686018427387903) (h8 : l8.length < 4611686018427387903) (h9 : l9.length < 4611686018427387903) (hr : totR l9 < 4611686018427387903) (k : Nat) (hk : 3 * l4.length + tot l4 + l8.length + 2 * l9.length + totR l9 + 3 < k) :
    interregnumref11_SameRoute.f k a0 a1 a2 a3 l4 a5 a6 a7 l8 l9 a10 a0 a1 a2 a3 l4 a5 a6 a7 l8 l9 a10 = some true := by
  unfold interregnumref11_SameRoute.f
  rw [if_pos (by simp), if_pos rfl, if_pos rfl, SameAttrs _ _ _ _ _ _ _ _ _ _ _ _ _ _ h4 ht h8 h9 hr k hk, Option.bind_some, all2_refl (fun x => by unfold segEq; simp), all2_refl (fun x => by unfold rawEq2; simp)]
  simp
end Go.Proofs.Ytpkckkmgnlhhcaa.PathRouteOwn
