/- A path of its own memory is the same path, and what is the same as itself; for the statement RouteMarks. -/
import Derived.Test.YtpkckkmgnlhhcaaRouteARouteMarks
namespace Go.Proofs.Ytpkckkmgnlhhcaa.PathRouteMarks
open Go.RowKit Go.Proofs.Ytpkckkmgnlhhcaa.PRouteMarks Go.Proofs.YtpkckkmgnlhhcaaW.PrintWords Go.Proofs.YtpkckkmgnlhhcaaW.PrintLast Go.Proofs.YtpkckkmgnlhhcaaW.PrintMore Go.Proofs.Ytpkckkmgnlhhcaa.Pre
set_option linter.unusedVariables false
theorem clip_int (l : List Int) : slices_Clip_int_int.f l = some l := by
  unfold slices_Clip_int_int.f
  rw [if_pos (by omega), if_pos (by omega), Int.toNat_natCast, List.take_length]
theorem clip_seg (l : List Seg) : slices_Clip_api_Segment_api_Segment.f l = some l := by
  unfold slices_Clip_api_Segment_api_Segment.f
  rw [if_pos (by omega), if_pos (by omega), Int.toNat_natCast, List.take_length]
theorem clone_int (l : List Int) (h : l.length < 17592186044416) : slices_Clone_int_int.f l = some l := by
  unfold slices_Clone_int_int.f
  rw [if_pos h]
theorem clone_u32 (l : List Int) (h : l.length < 35184372088832) : slices_Clone_uint32_uint32.f l = some l := by
  unfold slices_Clone_uint32_uint32.f
  rw [if_pos h]
theorem clone_bytes (l : List Int) (h : l.length < 140737488355328) : bytes_Clone.f l = some l := by
  unfold bytes_Clone.f
  rw [if_pos h]
theorem own_l0 (l : List Seg) (hl : l.length < 4398046511104) (hy : ∀ y ∈ l, y.f1.length < 17592186044416) (d : Nat) : ∀ (i k : Nat), i + d = l.length → d < k → path_Own.l0 k (l.take i) l (l.length : Int) i = some l := by
  induction d with
  | zero =>
    intro i k hi hk
    obtain ⟨k, rfl⟩ : ∃ m, k = m + 1 := ⟨k - 1, by omega⟩
    conv => lhs; unfold path_Own.l0
    rw [if_neg (by omega), List.take_of_length_le (by omega), clip_seg, Option.bind_some]
  | succ d ih =>
    intro i k hi hk
    obtain ⟨k, rfl⟩ : ∃ m, k = m + 1 := ⟨k - 1, by omega⟩
    have h1 : i < l.length := by omega
    have hm := hy l[i] (List.getElem_mem h1)
    conv => lhs; unfold path_Own.l0
    rw [if_pos (by omega), if_pos (by omega), if_pos (by omega), seg_at l i h1, clone_int _ hm, Option.bind_some, clip_int, Option.bind_some, if_pos (by rw [List.length_take]; omega), wn i (by omega)]
    have ht : l.take i ++ [(⟨l[i].f0, l[i].f1⟩ : Seg)] = l.take (i + 1) := by rw [List.take_succ_eq_append_getElem h1]
    rw [ht]
    exact ih (i + 1) k (by omega) (by omega)
theorem OwnPath (l : List Seg) (hl : l.length < 4398046511104) (hy : ∀ y ∈ l, y.f1.length < 17592186044416) (k : Nat) (hk : l.length < k) : path_Own.f k l = some l := by
  unfold path_Own.f
  have := own_l0 l hl hy l.length 0 k (by omega) hk
  rw [List.take_zero] at this
  exact this
theorem all2_refl {α : Type} {f : α → α → Bool} (h : ∀ x, f x x = true) : ∀ l : List α, all2 f l l = true
  | [] => rfl
  | x :: l => by
    unfold all2
    rw [h, all2_refl h l]
    rfl
theorem SameSelf (a0 a1 a2 a3 : Int) (l4 : List Seg) (a5 a6 a7 : Int) (l8 : List Int) (l9 : List RawS) (a10 : Int) (h4 : l4.length < 4611686018427387903) (ht : tot l4 < 4611686018427387903) (h8 : l8.length < 4611686018427387903) (h9 : l9.length < 4611686018427387903) (hr : totR l9 < 4611686018427387903) (k : Nat) (hk : 3 * l4.length + tot l4 + l8.length + 2 * l9.length + totR l9 + 3 < k) :
    interregnumref11_SameRoute.f k a0 a1 a2 a3 l4 a5 a6 a7 l8 l9 a10 a0 a1 a2 a3 l4 a5 a6 a7 l8 l9 a10 = some true := by
  unfold interregnumref11_SameRoute.f
  rw [if_pos (by simp), if_pos rfl, if_pos rfl, SameAttrs _ _ _ _ _ _ _ _ _ _ _ _ _ _ h4 ht h8 h9 hr k hk, Option.bind_some, all2_refl (fun x => by unfold segEq; simp), all2_refl (fun x => by unfold rawEq2; simp)]
  simp
end Go.Proofs.Ytpkckkmgnlhhcaa.PathRouteMarks
