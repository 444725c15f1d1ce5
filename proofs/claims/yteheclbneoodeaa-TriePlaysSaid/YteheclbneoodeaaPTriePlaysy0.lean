-- Lean text by a program of this repo (wip/tools/printx.py), out of Lean's own print of the translation
import Derived.Test.YteheclbneoodeaaPTriePlaysx0
import Derived.Test.YteheclbneoodeaaPTriePlaysx1
import Derived.Test.YteheclbneoodeaaPTriePlaysx2
import Derived.Test.YteheclbneoodeaaPTriePlaysx3
import Derived.Test.YteheclbneoodeaaPTriePlaysx4
namespace Go.Proofs.Yteheclbneoodeaa.PTriePlays
open Go.RowKit Go.Proofs.YteheclbneoodeaaW.PrintWords Go.Proofs.YteheclbneoodeaaW.PrintLast Go.Proofs.YteheclbneoodeaaW.PrintMore
attribute [local go_sem] max2_int min2_int max_two min_two max_three min_three max_four min_four   -- for this text's walks alone
set_option linter.unusedVariables false
set_option linter.unusedSimpArgs false

attribute [local go_sem high] eqA47
/-! ### interregnumlaw11_TriePlays: function 8 -/
mutual
def TR.j0 : Nat → List (S62) → List Int → Bool → Option (Bool)
  | 0, _, _, _ => none
  | k + 1, x0, x1, x28 => if x28 = true then ((interregnumlaw11_answers.f).bind fun t133 => (some t133)) else ((trie_New.f).bind fun t134 => (TR.l0 k x0 x1 ([] : List (S47)) ([] : List Int) 0 t134))
def TR.l0 : Nat → List (S62) → List Int → List (S47) → List Int → Int → Trie.TrieM → Option (Bool)
  | 0, _, _, _, _, _, _ => none
  | k + 1, x0, x1, x6, x7, x8, x136000 => if x8 < (x0.length : Int) then (if 0 ≤ x8 then (TR.l1 k x0 x1 x6 x7 x8 (-1) 0 x136000 ((rd_T62 x0 x8).f0) ((rd_T62 x0 x8).f1.f0) ((rd_T62 x0 x8).f1.f1) ((rd_T62 x0 x8).f2)) else (none)) else (TR.l3 k x1 x6 x7 0 x136000)
def TR.l1 : Nat → List (S62) → List Int → List (S47) → List Int → Int → Int → Int → Trie.TrieM → Bool → Int → Int → Int → Option (Bool)
  | 0, _, _, _, _, _, _, _, _, _, _, _, _ => none
  | k + 1, x0, x1, x6, x7, x8, x10, x11, x136000, x138000, x138001, x138002, x138003 => if x11 < (x6.length : Int) then (if 0 ≤ x11 then (if (((rd_T47 x6 x11).f0) == x138001 && (((rd_T47 x6 x11).f1) == x138002)) = true then (TR.l1 k x0 x1 x6 x7 x8 x11 (wrap64 (x11 + 1)) x136000 x138000 x138001 x138002 x138003) else (TR.l1 k x0 x1 x6 x7 x8 x10 (wrap64 (x11 + 1)) x136000 x138000 x138001 x138002 x138003)) else (none)) else ((trie_Trie_Get.f x136000 x138001 x138002).bind fun bt139 => (if (bt139.2.1 != (decide (x10 ≥ 0))) = true then (TR.j3 k x0 x1 x6 x7 x8 x10 true bt139.2.2 x138000 x138001 x138002 x138003) else (if bt139.2.1 = true then (if 0 ≤ x10 then (if x10 < (x7.length : Int) then (if bt139.1 = (rd x7 x10) then (TR.j3 k x0 x1 x6 x7 x8 x10 false bt139.2.2 x138000 x138001 x138002 x138003) else (TR.j3 k x0 x1 x6 x7 x8 x10 true bt139.2.2 x138000 x138001 x138002 x138003)) else (none)) else (none)) else (TR.j3 k x0 x1 x6 x7 x8 x10 (bt139.1 != 0) bt139.2.2 x138000 x138001 x138002 x138003))))
def TR.j3 : Nat → List (S62) → List Int → List (S47) → List Int → Int → Int → Bool → Trie.TrieM → Bool → Int → Int → Int → Option (Bool)
  | 0, _, _, _, _, _, _, _, _, _, _, _, _ => none
  | k + 1, x0, x1, x6, x7, x8, x10, x84, x136000, x138000, x138001, x138002, x138003 => if x84 = true then (some false) else (if x138000 = true then ((trie_Trie_Drop.f x136000 x138001 x138002).bind fun bt143 => (if (bt143.1 != (decide (x10 ≥ 0))) = true then (some false) else (if x10 ≥ 0 then ((some (([] : List (S47)) : List (S47))).bind fun y145 => (if 0 ≤ x10 then (if x10 ≤ (x6.length : Int) then ((some (x6.take (x10 : Int).toNat : List (S47))).bind fun y148 => (if y145.length + y148.length < 8796093022208 then ((some (y145 ++ y148 : List (S47))).bind fun y152 => (if 0 ≤ (wrap64 (x10 + 1)) then (if (wrap64 (x10 + 1)) ≤ (x6.length : Int) then ((some (x6.drop ((wrap64 (x10 + 1)) : Int).toNat : List (S47))).bind fun y155 => (if y152.length + y155.length < 8796093022208 then ((some (([] : List Int) : List Int)).bind fun y162 => (if x10 ≤ (x7.length : Int) then ((some (x7.take (x10 : Int).toNat : List Int)).bind fun y165 => (if y162.length + y165.length < 17592186044416 then ((some (y162 ++ y165 : List Int)).bind fun y169 => (if (wrap64 (x10 + 1)) ≤ (x7.length : Int) then ((some (x7.drop ((wrap64 (x10 + 1)) : Int).toNat : List Int)).bind fun y172 => (if y169.length + y172.length < 17592186044416 then (TR.l0 k x0 x1 (y152 ++ y155) (y169 ++ y172) (wrap64 (x8 + 1)) bt143.2) else (none))) else (none))) else (none))) else (none))) else (none))) else (none)) else (none))) else (none))) else (none)) else (none))) else (TR.l0 k x0 x1 x6 x7 (wrap64 (x8 + 1)) bt143.2)))) else ((trie_Trie_Set.f x136000 x138001 x138002 x138003).bind fun bt179 => ((interregnumref05_Right.f k x138001 x138002).bind fun t181 => (if (bt179.1 != t181) = true then (some false) else (if x10 ≥ 0 then (if 0 ≤ x10 then (if x10 < (x7.length : Int) then (TR.l0 k x0 x1 x6 (x7.set (x10 : Int).toNat x138003) (wrap64 (x8 + 1)) bt179.2) else (none)) else (none)) else ((interregnumref05_Right.f k x138001 x138002).bind fun t183 => (if t183 = true then ((some (([(⟨x138001, x138002⟩ : S47)] : List (S47)) : List (S47))).bind fun y184 => (if x6.length + y184.length < 8796093022208 then ((some (x6 ++ y184 : List (S47))).bind fun y187 => ((some (([x138003] : List Int) : List Int)).bind fun y190 => (if x7.length + y190.length < 17592186044416 then (TR.l2 k x0 x1 y187 (x7 ++ y190) x8 (wrap64 ((y187.length : Int) - 1)) bt179.2) else (none)))) else (none))) else (TR.l0 k x0 x1 x6 x7 (wrap64 (x8 + 1)) bt179.2))))))))
def TR.l2 : Nat → List (S62) → List Int → List (S47) → List Int → Int → Int → Trie.TrieM → Option (Bool)
  | 0, _, _, _, _, _, _, _ => none
  | k + 1, x0, x1, x6, x7, x8, x14, x136000 => if x14 > 0 then (if 0 ≤ x14 then (if x14 < (x6.length : Int) then (if 0 ≤ (wrap64 (x14 - 1)) then (if (wrap64 (x14 - 1)) < (x6.length : Int) then ((interregnumref05_Less.f ((rd_T47 x6 x14).f0) ((rd_T47 x6 x14).f1) ((rd_T47 x6 (wrap64 (x14 - 1))).f0) ((rd_T47 x6 (wrap64 (x14 - 1))).f1)).bind fun t198 => (if t198 = true then (if (wrap64 (x14 - 1)) < (x7.length : Int) then (if x14 < (x7.length : Int) then (TR.l2 k x0 x1 ((x6.set (x14 : Int).toNat (⟨(rd_T47 x6 (wrap64 (x14 - 1))).f0, (rd_T47 x6 (wrap64 (x14 - 1))).f1⟩ : S47)).set ((wrap64 (x14 - 1)) : Int).toNat (⟨(rd_T47 x6 x14).f0, (rd_T47 x6 x14).f1⟩ : S47)) ((x7.set (x14 : Int).toNat (rd x7 (wrap64 (x14 - 1)))).set ((wrap64 (x14 - 1)) : Int).toNat (rd x7 x14)) x8 (wrap64 (x14 - 1)) x136000) else (none)) else (none)) else (TR.l0 k x0 x1 x6 x7 (wrap64 (x8 + 1)) x136000))) else (none)) else (none)) else (none)) else (none)) else (TR.l0 k x0 x1 x6 x7 (wrap64 (x8 + 1)) x136000)
def TR.l3 : Nat → List Int → List (S47) → List Int → Int → Trie.TrieM → Option (Bool)
  | 0, _, _, _, _, _ => none
  | k + 1, x1, x6, x7, x15, x136000 => if x15 < (x1.length : Int) then (TR.l4 k x1 x6 x7 x15 (-1) 0 x136000) else ((interregnumlaw11_answers.f).bind fun t221 => (if t221 = true then ((trie_Trie_All.f x136000).bind fun bt222 => ((interregnumref05_SamePrefixes.f k bt222.1 x6).bind fun t226 => (some t226))) else (some false)))
def TR.l4 : Nat → List Int → List (S47) → List Int → Int → Int → Int → Trie.TrieM → Option (Bool)
  | 0, _, _, _, _, _, _, _ => none
  | k + 1, x1, x6, x7, x15, x16, x17, x136000 => if x17 < (x6.length : Int) then (if 0 ≤ x17 then (if 0 ≤ x15 then (if x15 < (x1.length : Int) then ((interregnumref05_Covers.f k ((rd_T47 x6 x17).f0) ((rd_T47 x6 x17).f1) (rd x1 x15) 32).bind fun t209 => (if t209 = true then (if x16 < 0 then (TR.j7 k x1 x6 x7 x15 x16 x17 true x136000) else (if 0 ≤ x16 then (if x16 < (x6.length : Int) then (TR.j7 k x1 x6 x7 x15 x16 x17 (decide (((rd_T47 x6 x17).f1) > ((rd_T47 x6 x16).f1))) x136000) else (none)) else (none))) else (TR.j7 k x1 x6 x7 x15 x16 x17 false x136000))) else (none)) else (none)) else (none)) else (if 0 ≤ x15 then (if x15 < (x1.length : Int) then ((trie_Trie_Find.f x136000 (rd x1 x15)).bind fun bt213 => (if (bt213.2.2.2.1 != (decide (x16 ≥ 0))) = true then (TR.j8 k x1 x6 x7 x15 true bt213.2.2.2.2) else (if bt213.2.2.2.1 = true then (if 0 ≤ x16 then (if x16 < (x6.length : Int) then (if (!(bt213.1 == ((rd_T47 x6 x16).f0)) || (!(bt213.2.1 == ((rd_T47 x6 x16).f1)))) = true then (TR.j8 k x1 x6 x7 x15 true bt213.2.2.2.2) else (if x16 < (x7.length : Int) then (if bt213.2.2.1 = (rd x7 x16) then (TR.j8 k x1 x6 x7 x15 false bt213.2.2.2.2) else (TR.j8 k x1 x6 x7 x15 true bt213.2.2.2.2)) else (none))) else (none)) else (none)) else (if (!(bt213.1 == 0) || (!(bt213.2.1 == 0))) = true then (TR.j8 k x1 x6 x7 x15 true bt213.2.2.2.2) else (TR.j8 k x1 x6 x7 x15 (bt213.2.2.1 != 0) bt213.2.2.2.2))))) else (none)) else (none))
def TR.j7 : Nat → List Int → List (S47) → List Int → Int → Int → Int → Bool → Trie.TrieM → Option (Bool)
  | 0, _, _, _, _, _, _, _, _ => none
  | k + 1, x1, x6, x7, x15, x16, x17, x235, x136000 => if x235 = true then (TR.l4 k x1 x6 x7 x15 x17 (wrap64 (x17 + 1)) x136000) else (TR.l4 k x1 x6 x7 x15 x16 (wrap64 (x17 + 1)) x136000)
def TR.j8 : Nat → List Int → List (S47) → List Int → Int → Bool → Trie.TrieM → Option (Bool)
  | 0, _, _, _, _, _, _ => none
  | k + 1, x1, x6, x7, x15, x282, x136000 => if x282 = true then (some false) else (TR.l3 k x1 x6 x7 (wrap64 (x15 + 1)) x136000)
end
def TR.f (k : Nat) (l0 : List (S62)) (l1 : List Int) : Option (Bool) := if (l0.length : Int) > 60 then (TR.j0 k l0 l1 true) else (TR.j0 k l0 l1 (decide ((l1.length : Int) > 60)))
theorem TR.mono_l : ∀ k, (∀ y0 y1 y2, LeO (TR.j0 k y0 y1 y2) (TR.j0 (k + 1) y0 y1 y2)) ∧ (∀ y0 y1 y2 y3 y4 y5, LeO (TR.l0 k y0 y1 y2 y3 y4 y5) (TR.l0 (k + 1) y0 y1 y2 y3 y4 y5)) ∧ (∀ y0 y1 y2 y3 y4 y5 y6 y7 y8 y9 y10 y11, LeO (TR.l1 k y0 y1 y2 y3 y4 y5 y6 y7 y8 y9 y10 y11) (TR.l1 (k + 1) y0 y1 y2 y3 y4 y5 y6 y7 y8 y9 y10 y11)) ∧ (∀ y0 y1 y2 y3 y4 y5 y6 y7 y8 y9 y10 y11, LeO (TR.j3 k y0 y1 y2 y3 y4 y5 y6 y7 y8 y9 y10 y11) (TR.j3 (k + 1) y0 y1 y2 y3 y4 y5 y6 y7 y8 y9 y10 y11)) ∧ (∀ y0 y1 y2 y3 y4 y5 y6, LeO (TR.l2 k y0 y1 y2 y3 y4 y5 y6) (TR.l2 (k + 1) y0 y1 y2 y3 y4 y5 y6)) ∧ (∀ y0 y1 y2 y3 y4, LeO (TR.l3 k y0 y1 y2 y3 y4) (TR.l3 (k + 1) y0 y1 y2 y3 y4)) ∧ (∀ y0 y1 y2 y3 y4 y5 y6, LeO (TR.l4 k y0 y1 y2 y3 y4 y5 y6) (TR.l4 (k + 1) y0 y1 y2 y3 y4 y5 y6)) ∧ (∀ y0 y1 y2 y3 y4 y5 y6 y7, LeO (TR.j7 k y0 y1 y2 y3 y4 y5 y6 y7) (TR.j7 (k + 1) y0 y1 y2 y3 y4 y5 y6 y7)) ∧ (∀ y0 y1 y2 y3 y4 y5, LeO (TR.j8 k y0 y1 y2 y3 y4 y5) (TR.j8 (k + 1) y0 y1 y2 y3 y4 y5))
  | 0 => ⟨fun _ _ _ r h => by simp [TR.j0] at h, fun _ _ _ _ _ _ r h => by simp [TR.l0] at h, fun _ _ _ _ _ _ _ _ _ _ _ _ r h => by simp [TR.l1] at h, fun _ _ _ _ _ _ _ _ _ _ _ _ r h => by simp [TR.j3] at h, fun _ _ _ _ _ _ _ r h => by simp [TR.l2] at h, fun _ _ _ _ _ r h => by simp [TR.l3] at h, fun _ _ _ _ _ _ _ r h => by simp [TR.l4] at h, fun _ _ _ _ _ _ _ _ r h => by simp [TR.j7] at h, fun _ _ _ _ _ _ r h => by simp [TR.j8] at h⟩
  | k + 1 => by
    obtain ⟨ih0, ih1, ih2, ih3, ih4, ih5, ih6, ih7, ih8⟩ := TR.mono_l k
    refine ⟨?_, ?_, ?_, ?_, ?_, ?_, ?_, ?_, ?_⟩
    · intro y0 y1 y2
      unfold TR.j0
      repeat' first
      | (with_reducible exact ih0 _ _ _)
      | (with_reducible exact ih1 _ _ _ _ _ _)
      | (with_reducible exact ih2 _ _ _ _ _ _ _ _ _ _ _ _)
      | (with_reducible exact ih3 _ _ _ _ _ _ _ _ _ _ _ _)
      | (with_reducible exact ih4 _ _ _ _ _ _ _)
      | (with_reducible exact ih5 _ _ _ _ _)
      | (with_reducible exact ih6 _ _ _ _ _ _ _)
      | (with_reducible exact ih7 _ _ _ _ _ _ _ _)
      | (with_reducible exact ih8 _ _ _ _ _ _)
      | (with_reducible exact interregnumref05_Covers.mono _ _ _ _ _)
      | (with_reducible exact interregnumref05_Right.mono _ _ _)
      | (with_reducible exact interregnumref05_SamePrefixes.mono _ _ _)
      | (with_reducible exact LeO.refl _)
      | (with_reducible exact LeO.none _)
      | (with_reducible refine LeO.ite ?_ ?_)
      | (with_reducible refine LeO.bind ?_ (fun _ => ?_))
      | exact ih0 _ _ _
      | exact ih1 _ _ _ _ _ _
      | exact ih2 _ _ _ _ _ _ _ _ _ _ _ _
      | exact ih3 _ _ _ _ _ _ _ _ _ _ _ _
      | exact ih4 _ _ _ _ _ _ _
      | exact ih5 _ _ _ _ _
      | exact ih6 _ _ _ _ _ _ _
      | exact ih7 _ _ _ _ _ _ _ _
      | exact ih8 _ _ _ _ _ _
      | exact interregnumref05_Covers.mono _ _ _ _ _
      | exact interregnumref05_Right.mono _ _ _
      | exact interregnumref05_SamePrefixes.mono _ _ _
      | exact LeO.none _
      | refine LeO.ite ?_ ?_
      | refine LeO.bind ?_ (fun _ => ?_)
    · intro y0 y1 y2 y3 y4 y5
      unfold TR.l0
      repeat' first
      | (with_reducible exact ih0 _ _ _)
      | (with_reducible exact ih1 _ _ _ _ _ _)
      | (with_reducible exact ih2 _ _ _ _ _ _ _ _ _ _ _ _)
      | (with_reducible exact ih3 _ _ _ _ _ _ _ _ _ _ _ _)
      | (with_reducible exact ih4 _ _ _ _ _ _ _)
      | (with_reducible exact ih5 _ _ _ _ _)
      | (with_reducible exact ih6 _ _ _ _ _ _ _)
      | (with_reducible exact ih7 _ _ _ _ _ _ _ _)
      | (with_reducible exact ih8 _ _ _ _ _ _)
      | (with_reducible exact interregnumref05_Covers.mono _ _ _ _ _)
      | (with_reducible exact interregnumref05_Right.mono _ _ _)
      | (with_reducible exact interregnumref05_SamePrefixes.mono _ _ _)
      | (with_reducible exact LeO.refl _)
      | (with_reducible exact LeO.none _)
      | (with_reducible refine LeO.ite ?_ ?_)
      | (with_reducible refine LeO.bind ?_ (fun _ => ?_))
      | exact ih0 _ _ _
      | exact ih1 _ _ _ _ _ _
      | exact ih2 _ _ _ _ _ _ _ _ _ _ _ _
      | exact ih3 _ _ _ _ _ _ _ _ _ _ _ _
      | exact ih4 _ _ _ _ _ _ _
      | exact ih5 _ _ _ _ _
      | exact ih6 _ _ _ _ _ _ _
      | exact ih7 _ _ _ _ _ _ _ _
      | exact ih8 _ _ _ _ _ _
      | exact interregnumref05_Covers.mono _ _ _ _ _
      | exact interregnumref05_Right.mono _ _ _
      | exact interregnumref05_SamePrefixes.mono _ _ _
      | exact LeO.none _
      | refine LeO.ite ?_ ?_
      | refine LeO.bind ?_ (fun _ => ?_)
    · intro y0 y1 y2 y3 y4 y5 y6 y7 y8 y9 y10 y11
      unfold TR.l1
      repeat' first
      | (with_reducible exact ih0 _ _ _)
      | (with_reducible exact ih1 _ _ _ _ _ _)
      | (with_reducible exact ih2 _ _ _ _ _ _ _ _ _ _ _ _)
      | (with_reducible exact ih3 _ _ _ _ _ _ _ _ _ _ _ _)
      | (with_reducible exact ih4 _ _ _ _ _ _ _)
      | (with_reducible exact ih5 _ _ _ _ _)
      | (with_reducible exact ih6 _ _ _ _ _ _ _)
      | (with_reducible exact ih7 _ _ _ _ _ _ _ _)
      | (with_reducible exact ih8 _ _ _ _ _ _)
      | (with_reducible exact interregnumref05_Covers.mono _ _ _ _ _)
      | (with_reducible exact interregnumref05_Right.mono _ _ _)
      | (with_reducible exact interregnumref05_SamePrefixes.mono _ _ _)
      | (with_reducible exact LeO.refl _)
      | (with_reducible exact LeO.none _)
      | (with_reducible refine LeO.ite ?_ ?_)
      | (with_reducible refine LeO.bind ?_ (fun _ => ?_))
      | exact ih0 _ _ _
      | exact ih1 _ _ _ _ _ _
      | exact ih2 _ _ _ _ _ _ _ _ _ _ _ _
      | exact ih3 _ _ _ _ _ _ _ _ _ _ _ _
      | exact ih4 _ _ _ _ _ _ _
      | exact ih5 _ _ _ _ _
      | exact ih6 _ _ _ _ _ _ _
      | exact ih7 _ _ _ _ _ _ _ _
      | exact ih8 _ _ _ _ _ _
      | exact interregnumref05_Covers.mono _ _ _ _ _
      | exact interregnumref05_Right.mono _ _ _
      | exact interregnumref05_SamePrefixes.mono _ _ _
      | exact LeO.none _
      | refine LeO.ite ?_ ?_
      | refine LeO.bind ?_ (fun _ => ?_)
    · intro y0 y1 y2 y3 y4 y5 y6 y7 y8 y9 y10 y11
      unfold TR.j3
      repeat' first
      | (with_reducible exact ih0 _ _ _)
      | (with_reducible exact ih1 _ _ _ _ _ _)
      | (with_reducible exact ih2 _ _ _ _ _ _ _ _ _ _ _ _)
      | (with_reducible exact ih3 _ _ _ _ _ _ _ _ _ _ _ _)
      | (with_reducible exact ih4 _ _ _ _ _ _ _)
      | (with_reducible exact ih5 _ _ _ _ _)
      | (with_reducible exact ih6 _ _ _ _ _ _ _)
      | (with_reducible exact ih7 _ _ _ _ _ _ _ _)
      | (with_reducible exact ih8 _ _ _ _ _ _)
      | (with_reducible exact interregnumref05_Covers.mono _ _ _ _ _)
      | (with_reducible exact interregnumref05_Right.mono _ _ _)
      | (with_reducible exact interregnumref05_SamePrefixes.mono _ _ _)
      | (with_reducible exact LeO.refl _)
      | (with_reducible exact LeO.none _)
      | (with_reducible refine LeO.ite ?_ ?_)
      | (with_reducible refine LeO.bind ?_ (fun _ => ?_))
      | exact ih0 _ _ _
      | exact ih1 _ _ _ _ _ _
      | exact ih2 _ _ _ _ _ _ _ _ _ _ _ _
      | exact ih3 _ _ _ _ _ _ _ _ _ _ _ _
      | exact ih4 _ _ _ _ _ _ _
      | exact ih5 _ _ _ _ _
      | exact ih6 _ _ _ _ _ _ _
      | exact ih7 _ _ _ _ _ _ _ _
      | exact ih8 _ _ _ _ _ _
      | exact interregnumref05_Covers.mono _ _ _ _ _
      | exact interregnumref05_Right.mono _ _ _
      | exact interregnumref05_SamePrefixes.mono _ _ _
      | exact LeO.none _
      | refine LeO.ite ?_ ?_
      | refine LeO.bind ?_ (fun _ => ?_)
    · intro y0 y1 y2 y3 y4 y5 y6
      unfold TR.l2
      repeat' first
      | (with_reducible exact ih0 _ _ _)
      | (with_reducible exact ih1 _ _ _ _ _ _)
      | (with_reducible exact ih2 _ _ _ _ _ _ _ _ _ _ _ _)
      | (with_reducible exact ih3 _ _ _ _ _ _ _ _ _ _ _ _)
      | (with_reducible exact ih4 _ _ _ _ _ _ _)
      | (with_reducible exact ih5 _ _ _ _ _)
      | (with_reducible exact ih6 _ _ _ _ _ _ _)
      | (with_reducible exact ih7 _ _ _ _ _ _ _ _)
      | (with_reducible exact ih8 _ _ _ _ _ _)
      | (with_reducible exact interregnumref05_Covers.mono _ _ _ _ _)
      | (with_reducible exact interregnumref05_Right.mono _ _ _)
      | (with_reducible exact interregnumref05_SamePrefixes.mono _ _ _)
      | (with_reducible exact LeO.refl _)
      | (with_reducible exact LeO.none _)
      | (with_reducible refine LeO.ite ?_ ?_)
      | (with_reducible refine LeO.bind ?_ (fun _ => ?_))
      | exact ih0 _ _ _
      | exact ih1 _ _ _ _ _ _
      | exact ih2 _ _ _ _ _ _ _ _ _ _ _ _
      | exact ih3 _ _ _ _ _ _ _ _ _ _ _ _
      | exact ih4 _ _ _ _ _ _ _
      | exact ih5 _ _ _ _ _
      | exact ih6 _ _ _ _ _ _ _
      | exact ih7 _ _ _ _ _ _ _ _
      | exact ih8 _ _ _ _ _ _
      | exact interregnumref05_Covers.mono _ _ _ _ _
      | exact interregnumref05_Right.mono _ _ _
      | exact interregnumref05_SamePrefixes.mono _ _ _
      | exact LeO.none _
      | refine LeO.ite ?_ ?_
      | refine LeO.bind ?_ (fun _ => ?_)
    · intro y0 y1 y2 y3 y4
      unfold TR.l3
      repeat' first
      | (with_reducible exact ih0 _ _ _)
      | (with_reducible exact ih1 _ _ _ _ _ _)
      | (with_reducible exact ih2 _ _ _ _ _ _ _ _ _ _ _ _)
      | (with_reducible exact ih3 _ _ _ _ _ _ _ _ _ _ _ _)
      | (with_reducible exact ih4 _ _ _ _ _ _ _)
      | (with_reducible exact ih5 _ _ _ _ _)
      | (with_reducible exact ih6 _ _ _ _ _ _ _)
      | (with_reducible exact ih7 _ _ _ _ _ _ _ _)
      | (with_reducible exact ih8 _ _ _ _ _ _)
      | (with_reducible exact interregnumref05_Covers.mono _ _ _ _ _)
      | (with_reducible exact interregnumref05_Right.mono _ _ _)
      | (with_reducible exact interregnumref05_SamePrefixes.mono _ _ _)
      | (with_reducible exact LeO.refl _)
      | (with_reducible exact LeO.none _)
      | (with_reducible refine LeO.ite ?_ ?_)
      | (with_reducible refine LeO.bind ?_ (fun _ => ?_))
      | exact ih0 _ _ _
      | exact ih1 _ _ _ _ _ _
      | exact ih2 _ _ _ _ _ _ _ _ _ _ _ _
      | exact ih3 _ _ _ _ _ _ _ _ _ _ _ _
      | exact ih4 _ _ _ _ _ _ _
      | exact ih5 _ _ _ _ _
      | exact ih6 _ _ _ _ _ _ _
      | exact ih7 _ _ _ _ _ _ _ _
      | exact ih8 _ _ _ _ _ _
      | exact interregnumref05_Covers.mono _ _ _ _ _
      | exact interregnumref05_Right.mono _ _ _
      | exact interregnumref05_SamePrefixes.mono _ _ _
      | exact LeO.none _
      | refine LeO.ite ?_ ?_
      | refine LeO.bind ?_ (fun _ => ?_)
    · intro y0 y1 y2 y3 y4 y5 y6
      unfold TR.l4
      repeat' first
      | (with_reducible exact ih0 _ _ _)
      | (with_reducible exact ih1 _ _ _ _ _ _)
      | (with_reducible exact ih2 _ _ _ _ _ _ _ _ _ _ _ _)
      | (with_reducible exact ih3 _ _ _ _ _ _ _ _ _ _ _ _)
      | (with_reducible exact ih4 _ _ _ _ _ _ _)
      | (with_reducible exact ih5 _ _ _ _ _)
      | (with_reducible exact ih6 _ _ _ _ _ _ _)
      | (with_reducible exact ih7 _ _ _ _ _ _ _ _)
      | (with_reducible exact ih8 _ _ _ _ _ _)
      | (with_reducible exact interregnumref05_Covers.mono _ _ _ _ _)
      | (with_reducible exact interregnumref05_Right.mono _ _ _)
      | (with_reducible exact interregnumref05_SamePrefixes.mono _ _ _)
      | (with_reducible exact LeO.refl _)
      | (with_reducible exact LeO.none _)
      | (with_reducible refine LeO.ite ?_ ?_)
      | (with_reducible refine LeO.bind ?_ (fun _ => ?_))
      | exact ih0 _ _ _
      | exact ih1 _ _ _ _ _ _
      | exact ih2 _ _ _ _ _ _ _ _ _ _ _ _
      | exact ih3 _ _ _ _ _ _ _ _ _ _ _ _
      | exact ih4 _ _ _ _ _ _ _
      | exact ih5 _ _ _ _ _
      | exact ih6 _ _ _ _ _ _ _
      | exact ih7 _ _ _ _ _ _ _ _
      | exact ih8 _ _ _ _ _ _
      | exact interregnumref05_Covers.mono _ _ _ _ _
      | exact interregnumref05_Right.mono _ _ _
      | exact interregnumref05_SamePrefixes.mono _ _ _
      | exact LeO.none _
      | refine LeO.ite ?_ ?_
      | refine LeO.bind ?_ (fun _ => ?_)
    · intro y0 y1 y2 y3 y4 y5 y6 y7
      unfold TR.j7
      repeat' first
      | (with_reducible exact ih0 _ _ _)
      | (with_reducible exact ih1 _ _ _ _ _ _)
      | (with_reducible exact ih2 _ _ _ _ _ _ _ _ _ _ _ _)
      | (with_reducible exact ih3 _ _ _ _ _ _ _ _ _ _ _ _)
      | (with_reducible exact ih4 _ _ _ _ _ _ _)
      | (with_reducible exact ih5 _ _ _ _ _)
      | (with_reducible exact ih6 _ _ _ _ _ _ _)
      | (with_reducible exact ih7 _ _ _ _ _ _ _ _)
      | (with_reducible exact ih8 _ _ _ _ _ _)
      | (with_reducible exact interregnumref05_Covers.mono _ _ _ _ _)
      | (with_reducible exact interregnumref05_Right.mono _ _ _)
      | (with_reducible exact interregnumref05_SamePrefixes.mono _ _ _)
      | (with_reducible exact LeO.refl _)
      | (with_reducible exact LeO.none _)
      | (with_reducible refine LeO.ite ?_ ?_)
      | (with_reducible refine LeO.bind ?_ (fun _ => ?_))
      | exact ih0 _ _ _
      | exact ih1 _ _ _ _ _ _
      | exact ih2 _ _ _ _ _ _ _ _ _ _ _ _
      | exact ih3 _ _ _ _ _ _ _ _ _ _ _ _
      | exact ih4 _ _ _ _ _ _ _
      | exact ih5 _ _ _ _ _
      | exact ih6 _ _ _ _ _ _ _
      | exact ih7 _ _ _ _ _ _ _ _
      | exact ih8 _ _ _ _ _ _
      | exact interregnumref05_Covers.mono _ _ _ _ _
      | exact interregnumref05_Right.mono _ _ _
      | exact interregnumref05_SamePrefixes.mono _ _ _
      | exact LeO.none _
      | refine LeO.ite ?_ ?_
      | refine LeO.bind ?_ (fun _ => ?_)
    · intro y0 y1 y2 y3 y4 y5
      unfold TR.j8
      repeat' first
      | (with_reducible exact ih0 _ _ _)
      | (with_reducible exact ih1 _ _ _ _ _ _)
      | (with_reducible exact ih2 _ _ _ _ _ _ _ _ _ _ _ _)
      | (with_reducible exact ih3 _ _ _ _ _ _ _ _ _ _ _ _)
      | (with_reducible exact ih4 _ _ _ _ _ _ _)
      | (with_reducible exact ih5 _ _ _ _ _)
      | (with_reducible exact ih6 _ _ _ _ _ _ _)
      | (with_reducible exact ih7 _ _ _ _ _ _ _ _)
      | (with_reducible exact ih8 _ _ _ _ _ _)
      | (with_reducible exact interregnumref05_Covers.mono _ _ _ _ _)
      | (with_reducible exact interregnumref05_Right.mono _ _ _)
      | (with_reducible exact interregnumref05_SamePrefixes.mono _ _ _)
      | (with_reducible exact LeO.refl _)
      | (with_reducible exact LeO.none _)
      | (with_reducible refine LeO.ite ?_ ?_)
      | (with_reducible refine LeO.bind ?_ (fun _ => ?_))
      | exact ih0 _ _ _
      | exact ih1 _ _ _ _ _ _
      | exact ih2 _ _ _ _ _ _ _ _ _ _ _ _
      | exact ih3 _ _ _ _ _ _ _ _ _ _ _ _
      | exact ih4 _ _ _ _ _ _ _
      | exact ih5 _ _ _ _ _
      | exact ih6 _ _ _ _ _ _ _
      | exact ih7 _ _ _ _ _ _ _ _
      | exact ih8 _ _ _ _ _ _
      | exact interregnumref05_Covers.mono _ _ _ _ _
      | exact interregnumref05_Right.mono _ _ _
      | exact interregnumref05_SamePrefixes.mono _ _ _
      | exact LeO.none _
      | refine LeO.ite ?_ ?_
      | refine LeO.bind ?_ (fun _ => ?_)
theorem TR.mono : ∀ a0 a1 k, LeO (TR.f k a0 a1) (TR.f (k + 1) a0 a1) := by
  intro a0 a1 k
  obtain ⟨ih0, ih1, ih2, ih3, ih4, ih5, ih6, ih7, ih8⟩ := TR.mono_l k
  unfold TR.f
  repeat' first
      | (with_reducible exact ih0 _ _ _)
      | (with_reducible exact ih1 _ _ _ _ _ _)
      | (with_reducible exact ih2 _ _ _ _ _ _ _ _ _ _ _ _)
      | (with_reducible exact ih3 _ _ _ _ _ _ _ _ _ _ _ _)
      | (with_reducible exact ih4 _ _ _ _ _ _ _)
      | (with_reducible exact ih5 _ _ _ _ _)
      | (with_reducible exact ih6 _ _ _ _ _ _ _)
      | (with_reducible exact ih7 _ _ _ _ _ _ _ _)
      | (with_reducible exact ih8 _ _ _ _ _ _)
      | (with_reducible exact interregnumref05_Covers.mono _ _ _ _ _)
      | (with_reducible exact interregnumref05_Right.mono _ _ _)
      | (with_reducible exact interregnumref05_SamePrefixes.mono _ _ _)
      | (with_reducible exact LeO.refl _)
      | (with_reducible exact LeO.none _)
      | (with_reducible refine LeO.ite ?_ ?_)
      | (with_reducible refine LeO.bind ?_ (fun _ => ?_))
      | exact ih0 _ _ _
      | exact ih1 _ _ _ _ _ _
      | exact ih2 _ _ _ _ _ _ _ _ _ _ _ _
      | exact ih3 _ _ _ _ _ _ _ _ _ _ _ _
      | exact ih4 _ _ _ _ _ _ _
      | exact ih5 _ _ _ _ _
      | exact ih6 _ _ _ _ _ _ _
      | exact ih7 _ _ _ _ _ _ _ _
      | exact ih8 _ _ _ _ _ _
      | exact interregnumref05_Covers.mono _ _ _ _ _
      | exact interregnumref05_Right.mono _ _ _
      | exact interregnumref05_SamePrefixes.mono _ _ _
      | exact LeO.none _
      | refine LeO.ite ?_ ?_
      | refine LeO.bind ?_ (fun _ => ?_)
def TR.T23 : Bool × List (List Nat × List Nat) := (true, [([], []), ([], []), ([], []), ([1, 2], [1, 2]), ([0, 3], [0, 3]), ([], []), ([], []), ([6], [6]), ([5, 7], [5, 7]), ([4, 8, 4], [4, 8]), ([], []), ([], []), ([], []), ([11, 12], [11, 12]), ([10, 13, 9], [10, 13]), ([], []), ([], []), ([16], [16]), ([15, 17], [15, 17]), ([14, 18, 14], [14, 18]), ([9, 19, 0, 1, 2, 3, 4, 5, 6, 7, 8, 9], [1, 5, 9]), ([19, 20, 0, 1, 2, 3, 4, 5, 6, 7, 8, 9, 10, 11, 12, 13, 14, 15, 16, 17, 18, 19, 20], [11, 15, 19])])
def TR.B23 : List Nat := [0, 0, 0, 6, 15, 0, 0, 64, 224, 511, 0, 0, 0, 6144, 16383, 0, 0, 65536, 229376, 524287, 1048575, 2097151]
theorem TR.tab23 : rtab .any (opsOf Try.f8 23) = TR.T23 := by kernel_rfl
theorem TR.bits23 : waitsOk TR.T23.2 TR.B23 = true := by kernel_rfl
def TR.T24 : Bool × List (List Nat × List Nat) := (true, [([], []), ([], []), ([1], [1]), ([], []), ([3], [3]), ([0, 2, 4], [0, 2, 4]), ([], []), ([6], [6]), ([7, 5], [7]), ([5, 8], [5, 8])])
def TR.B24 : List Nat := [0, 0, 2, 0, 8, 31, 0, 64, 255, 511]
theorem TR.tab24 : rtab .any (opsOf Try.f8 24) = TR.T24 := by kernel_rfl
theorem TR.bits24 : waitsOk TR.T24.2 TR.B24 = true := by kernel_rfl
def TR.T29 : Bool × List (List Nat × List Nat) := (true, [([], []), ([], []), ([1], [1]), ([2], [2]), ([0, 3], [0, 3]), ([], []), ([], []), ([6], [6]), ([7], [7]), ([5, 8, 4], [5, 8]), ([4, 9, 0, 1, 2, 3, 4], [0, 4]), ([9, 10, 0, 1, 2, 3, 4, 5, 6, 7, 8, 9, 10], [5, 9])])
def TR.B29 : List Nat := [0, 0, 2, 6, 15, 0, 0, 64, 192, 511, 1023, 2047]
theorem TR.tab29 : rtab .any (opsOf Try.f8 29) = TR.T29 := by kernel_rfl
theorem TR.bits29 : waitsOk TR.T29.2 TR.B29 = true := by kernel_rfl
def TR.T31 : Bool × List (List Nat × List Nat) := (true, [([], []), ([0], [0]), ([1], [1]), ([2], [2]), ([2], [2]), ([3, 4, 2], [2, 3, 4]), ([5, 2], [2, 5]), ([2], [2]), ([2], [2]), ([8, 2], [2, 8]), ([7, 9, 2], [2, 7, 9]), ([10, 2], [2, 10]), ([6, 11, 2, 2], [2, 6, 11]), ([2, 12], [2, 12])])
def TR.B31 : List Nat := [0, 1, 3, 7, 7, 31, 63, 7, 7, 263, 903, 1927, 4095, 8191]
theorem TR.tab31 : rtab .any (opsOf Try.f8 31) = TR.T31 := by kernel_rfl
theorem TR.bits31 : waitsOk TR.T31.2 TR.B31 = true := by kernel_rfl
def TR.T33 : Bool × List (List Nat × List Nat) := (true, [([], []), ([], []), ([], []), ([], []), ([3], [3]), ([], []), ([], []), ([6], [6]), ([5, 7], [5, 7]), ([8], [8]), ([], []), ([], []), ([10, 11], [10, 11]), ([12], [12]), ([0, 1, 0, 1, 5, 6, 7, 8, 9, 13], [0, 1]), ([14, 9, 0, 1, 5, 6, 7, 8, 9, 13], [9, 14]), ([2, 4, 0, 1, 2, 3, 4, 5, 6, 7, 8, 9, 10, 11, 12, 13, 14, 15], [2, 4]), ([16, 13, 15, 0, 1, 2, 3, 4, 5, 6, 7, 8, 9, 10, 11, 12, 13, 14, 15], [13, 16])])
def TR.B33 : List Nat := [0, 0, 0, 0, 8, 0, 0, 64, 224, 480, 0, 0, 3072, 7168, 16355, 32739, 65535, 131071]
theorem TR.tab33 : rtab .any (opsOf Try.f8 33) = TR.T33 := by kernel_rfl
theorem TR.bits33 : waitsOk TR.T33.2 TR.B33 = true := by kernel_rfl
def TR.T34 : Bool × List (List Nat × List Nat) := (true, [([], []), ([], []), ([], []), ([], []), ([3], [3]), ([], []), ([], []), ([6], [6]), ([5, 7], [5, 7]), ([8], [8]), ([], []), ([], []), ([10, 11], [10, 11]), ([12], [12]), ([0, 1, 0, 1, 5, 6, 7, 8, 9, 13], [0, 1]), ([14, 9, 0, 1, 5, 6, 7, 8, 9, 13], [9, 14]), ([2, 4, 0, 1, 2, 3, 4, 5, 6, 7, 8, 9, 10, 11, 12, 13, 14, 15], [2, 4]), ([16, 13, 15, 0, 1, 2, 3, 4, 5, 6, 7, 8, 9, 10, 11, 12, 13, 14, 15], [13, 16])])
def TR.B34 : List Nat := [0, 0, 0, 0, 8, 0, 0, 64, 224, 480, 0, 0, 3072, 7168, 16355, 32739, 65535, 131071]
theorem TR.tab34 : rtab .any (opsOf Try.f8 34) = TR.T34 := by kernel_rfl
theorem TR.bits34 : waitsOk TR.T34.2 TR.B34 = true := by kernel_rfl
def TR.T42 : Bool × List (List Nat × List Nat) := (true, [([], []), ([], []), ([0, 1], [0, 1]), ([2], [2]), ([], []), ([], []), ([4, 5], [4, 5]), ([6], [6]), ([7], [7]), ([3, 8], [3, 8]), ([9, 9], [9]), ([10], [10]), ([11, 10], [10, 11]), ([12, 10, 10], [10, 12]), ([13], [13]), ([13], [13]), ([14, 15, 13], [13, 14, 15]), ([16, 13], [13, 16]), ([17, 13], [13, 17]), ([13], [13]), ([13], [13]), ([19, 20, 13], [13, 19, 20]), ([21, 13], [13, 21]), ([22, 13], [13, 22]), ([18, 23, 13], [13, 18, 23]), ([13, 24, 10], [10, 13, 24]), ([10, 25], [10, 25])])
def TR.B42 : List Nat := [0, 0, 3, 7, 0, 0, 48, 112, 240, 511, 1023, 2047, 4095, 8191, 16383, 16383, 65535, 131071, 262143, 16383, 16383, 1589247, 3686399, 7880703, 16777215, 33554431, 67108863]
theorem TR.tab42 : rtab .any (opsOf Try.f8 42) = TR.T42 := by kernel_rfl
theorem TR.bits42 : waitsOk TR.T42.2 TR.B42 = true := by kernel_rfl
def TR.T45 : Bool × List (List Nat × List Nat) := (true, [([], []), ([], []), ([1], [1]), ([0, 2], [0, 2]), ([3], [3]), ([4], [4]), ([5, 4, 4], [4, 5]), ([6], [6]), ([6], [6]), ([6], [6]), ([8, 9, 6], [6, 8, 9]), ([10, 6], [6, 10]), ([7, 11, 6], [6, 7, 11]), ([12, 6, 6], [6, 12]), ([13], [13]), ([13], [13]), ([13], [13]), ([15, 16, 13], [13, 15, 16]), ([17, 13], [13, 17]), ([14, 18, 13], [13, 14, 18]), ([13, 19, 6], [6, 13, 19]), ([6, 20, 4], [4, 6, 20]), ([4, 21], [4, 21]), ([22, 13], [22]), ([23], [23]), ([24, 23], [23, 24]), ([25, 23, 23], [23, 25]), ([26], [26]), ([26], [26]), ([27, 28, 26], [26, 27, 28]), ([29, 26, 26], [26, 29]), ([30], [30]), ([31, 30], [30, 31]), ([30, 32, 26], [26, 30, 32]), ([26, 33, 23], [23, 26, 33]), ([23, 34], [23, 34])])
def TR.B45 : List Nat := [0, 0, 2, 7, 15, 31, 63, 127, 127, 127, 895, 1919, 4095, 8191, 16383, 16383, 16383, 114687, 245759, 524287, 1048575, 2097151, 4194303, 8388607, 16777215, 33554431, 67108863, 134217727, 134217727, 536870911, 1073741823, 2147483647, 4294967295, 8589934591, 17179869183, 34359738367]
theorem TR.tab45 : rtab .any (opsOf Try.f8 45) = TR.T45 := by kernel_rfl
theorem TR.bits45 : waitsOk TR.T45.2 TR.B45 = true := by kernel_rfl
theorem TR.neJ {x j : Int} (h1 : 0 ≤ x) (h2 : 0 ≤ j) (h3 : wrap64 (x - 1) = j) : ¬ (x.toNat = j.toNat) := by
  intro e
  unfold wrap64 at h3
  omega
set_option maxHeartbeats 8000000 in
set_option maxRecDepth 100000 in
def TR.part : PSigma fun P_1 : Prop => PSigma fun P_2 : Prop => Aside0 P_1 → Aside0 P_2 → ∀ (k : Nat) (A0 : Option Addr) (c0 : Nat) (l0 : List (S62)) (A1 : Option Addr) (c1 : Nat) (l1 : List Int) (r : Bool) (w : World) (hr0 : Kd.C k62 w A0 l0.length l0) (hc0 : l0.length ≤ c0) (hr1 : Kd.C (Kd.int .u32) w A1 l1.length l1) (hc1 : l1.length ≤ c1) (h : TR.f k l0 l1 = some r), Calls Try.prog 8 #[.slice A0 l0.length c0, .slice A1 l1.length c1] w fun e w' => e = .returned (.bool r) ∧ Below w.heap.size w w' := by
 apply PSigma.mk
 apply PSigma.mk
 intro hP_1 hP_2
 intro k A0 c0 l0 A1 c1 l1 r w hr0 hc0 hr1 hc1 h
 focus
 have hu62 := Try.underlying62
 have hu47 := Try.underlying47
 have HR0 := Aside0.mk hr0
 have HC0 := Aside0.mk hc0
 clear hr0 hc0
 have HR1 := Aside0.mk hr1
 have HC1 := Aside0.mk hc1
 clear hr1 hc1
 have HB := Aside0.mk (Below.refl w.heap.size w)
 have H : (if (l0.length : Int) > 60 then (TR.j0 k l0 l1 true) else (TR.j0 k l0 l1 (decide ((l1.length : Int) > 60)))) = some r := h
 clear h
 have HC3 := Aside0.mk H
 clear H
 go_enter Try.func8, Try.ntmps8
 go_upto_region 1 with (fail)
 go_cut [28] (fun v28 wc => ∃ (kq : Nat) (x28_2 : Bool), v28 = .bool x28_2 ∧ Aside0 (TR.j0 kq l0 l1 x28_2 = some r) ∧ Aside0 (kq ≤ k) ∧ Aside0 (Below w.heap.size w wc))
 case first => as_aux_lemma =>
  have H := HC3.out
  clear HC3
  by_cases c4 : (l0.length : Int) > 60
  ·rw [if_pos c4] at H
   have c4b0 : decide (60 < (l0.length : Int)) = true := decide_eq_true c4
   have c4b1 : decide (60 < l0.length) = true := decide_eq_true (by omega)
   clear c4
   (first | rw [c4b0] | (simp only [i64_w, i32_w]; rw [c4b0]) | skip)
   have H' := Aside0.mk H
   clear H
   go_wp2
   go_meet
   case rel => exact ⟨_, (true), (by first | rfl | (simp; done) | (simp [*]; done)), H', ⟨by first | omega | exact Nat.le_refl _⟩, ⟨by repeat (first | (with_reducible first | exact HB.out | apply below_alloc | apply pw_below_drewN | apply below_drew1) | exact HB.out)⟩⟩
  rw [if_neg c4] at H
  have c4b0 : decide (60 < (l0.length : Int)) = false := decide_eq_false c4
  have c4b1 : decide (60 < l0.length) = false := decide_eq_false (by omega)
  clear c4
  (first | rw [c4b0] | (simp only [i64_w, i32_w]; rw [c4b0]) | skip)
  have H' := Aside0.mk H
  clear H
  go_wp2
  go_meet
  case rel => exact ⟨_, (decide ((l1.length : Int) > 60)), (by first | rfl | (simp; done) | (simp [*]; done)), H', ⟨by first | omega | exact Nat.le_refl _⟩, ⟨by repeat (first | (with_reducible first | exact HB.out | apply below_alloc | apply pw_below_drewN | apply below_drew1) | exact HB.out)⟩⟩
 case rest => as_aux_lemma =>
  clear HC3
  try clear c1
  try clear p2
  try clear c4
  try clear c4b0
  try clear c4b1
  obtain ⟨kq, x28_2, rfl, HA, HJ2, HB⟩ := hcut
  cases kq with
  | zero => exact absurd HA.out (by simp [TR.j0])
  | succ kj2 =>
  have H := HA.out
  clear HA
  simp only [TR.j0] at H
  by_cases c5 : x28_2 = true
  ·subst c5
   have H1 : ((interregnumlaw11_answers.f).bind fun t133 => (some t133)) = some r := by rw [if_pos rfl] at H; exact H
   clear H
   have H := H1
   clear H1
   replace H := Option.bind_eq_some_iff.mp H
   obtain ⟨t133, A60, H⟩ := H
   replace H : (some t133) = some r := H
   have A6 := Aside0.mk A60
   clear A60
   obtain rfl := Option.some.inj H
   go_wp2_with (first | ((with_reducible refine gate_callee (f := 20) rfl ?_); refine goesL_ (some 29) rfl rfl Try.func20 (by kernel_rfl) rfl #[] rfl (by (try simp only [List.map_toArray, List.map_cons, List.map_nil]); first | done | rfl | (simp only [List.length_drop, List.length_take]; rfl)) ?_; (with_reducible refine (interregnumlaw11_answers.calls  t133 _ A6.out).mono ?_); rintro e w7 ⟨rfl, hb⟩; refine ⟨_, rfl, ?_⟩; have n0_ := Aside0.mk (below_step (by repeat (first | (with_reducible first | exact HB.out | apply below_alloc | apply pw_below_drewN | apply below_drew1) | exact HB.out)) hb); clear HB; have HB := n0_; clear n0_; (try clear hb); (try clear hb2); (try clear hk); (try clear hi)))
   go_ret
   exact ⟨by first | rfl | (simp [errW_none, errW_some] <;> rfl) | (simp [*, errW_none, errW_some] <;> rfl), by repeat (first | (with_reducible first | exact HB.out | apply below_alloc | apply pw_below_drewN | apply below_drew1) | exact HB.out)⟩
  replace c5 := Bool.eq_false_iff.mpr c5
  subst c5
  have H1 : ((trie_New.f).bind fun t134 => (TR.l0 kj2 l0 l1 ([] : List (S47)) ([] : List Int) 0 t134)) = some r := by rw [if_neg (show ¬ (false = true) by decide)] at H; exact H
  clear H
  have H := H1
  clear H1
  replace H := Option.bind_eq_some_iff.mp H
  obtain ⟨t134, A80, H⟩ := H
  replace H : (TR.l0 kj2 l0 l1 ([] : List (S47)) ([] : List Int) 0 t134) = some r := H
  have A8 := Aside0.mk A80
  clear A80
  have H' := Aside0.mk H
  clear H
  go_wp2_with (first | ((with_reducible refine gate_callee (f := 16) rfl ?_); refine goesL_ (some 30) rfl rfl Try.func16 (by kernel_rfl) rfl #[] rfl (by (try simp only [List.map_toArray, List.map_cons, List.map_nil]); first | done | rfl | (simp only [List.length_drop, List.length_take]; rfl)) ?_; (with_reducible refine (trie_New.calls  t134 w _ ?side1 A8.out).mono ?_); (case side1 => repeat (first | (with_reducible first | exact HB.out | apply below_alloc | apply pw_below_drewN | apply below_drew1) | exact HB.out)); rintro e w9 ⟨g135, rfl, hi, hb, hb2⟩; refine ⟨_, rfl, ?_⟩; have n0_ := Aside0.mk (hb); have n1_ := Aside0.mk (hi); clear HB; have HB := n0_; have HI135 := n1_; clear n0_ n1_; (try clear hb); (try clear hb2); (try clear hk); (try clear hi)))
  go_loopg [6, 7, 8] kj2 (fun kq v6 v7 v8 w' => ∃ (x6_2 : List (S47)) (x7_2 : List Int) (x8_2 : Int) (x136000_2 : Trie.TrieM), v8 = .int .i64 x8_2 ∧ Aside0 (TR.l0 kq l0 l1 x6_2 x7_2 x8_2 x136000_2 = some r) ∧ Aside0 (kq ≤ kj2) ∧ Aside0 (Kd.R k47 47 w' w.heap.size (fun _ => True) v6 x6_2) ∧ Aside0 (Kd.R (Kd.int .i64) 3 w' w.heap.size (fun _ => True) v7 x7_2) ∧ Aside0 (IsS75 w w' g135 x136000_2) ∧ Aside0 (Below w.heap.size w w'))
  case atStart => exact ⟨(([] : List (S47))), (([] : List Int)), (0), (t134), (by first | rfl | (simp; done) | (simp [*]; done)), H', ⟨Nat.le_refl _⟩, ⟨by first | exact Kd.R_nil _ _ _ _ _ | exact Kd.N_nil _ _ _ _ _ | exact Kd.V_nil _ _ _ _ _ | exact Kd.Q_nil _ _ _ _ _ | exact Kd.S_nil _ _ _ _ _⟩, ⟨by first | exact Kd.R_nil _ _ _ _ _ | exact Kd.N_nil _ _ _ _ _ | exact Kd.V_nil _ _ _ _ _ | exact Kd.Q_nil _ _ _ _ _ | exact Kd.S_nil _ _ _ _ _⟩, ⟨by repeat (first | (with_reducible first | exact HI135.out | apply IsS75.alloc | apply IsS75.drewN | apply IsS75.drew) | exact HI135.out)⟩, ⟨by repeat (first | (with_reducible first | exact HB.out | apply below_alloc | apply pw_below_drewN | apply below_drew1 | refine below_set ?_ (IsS75.ge HI135.out)) | exact HB.out)⟩⟩
  clear H'
  try clear c1
  try clear c2
  try clear p2
  try clear c4
  try clear c4b0
  try clear c4b1
  try clear c5
  try clear c8
  try clear p2
  obtain ⟨x6_2, x7_2, x8_2, x136000_2, rfl, HA, HK2, HO_6, HO_7, HI135, HB⟩ := hrel
  cases gk with
  | zero => exact absurd HA.out (by simp [TR.l0])
  | succ k2 =>
  have H := HA.out
  clear HA
  simp only [TR.l0] at H
  by_cases c10 : x8_2 < (l0.length : Int)
  rotate_left
  ·rename_i z1_ z2_ z3_ z4_ z5_ z6_ z7_ z8_ z9_ z10_ z11_ z12_ z13_ z14_ z15_ z16_ z17_ z18_ z19_ z20_ z21_ z22_ z23_ z24_ z25_ z26_ z27_ z28_ z29_ z30_ z31_ z32_ z33_ z34_ z35_ z36_ z37_ z38_ z39_ z40_ z41_ z42_ z43_ z44_ z45_ z46_ z47_ z48_ z49_ z50_ z51_ z52_ z53_ z54_ z55_ z56_ z57_ z58_ z59_ z60_ z61_ z62_ z63_ z64_ z65_ z66_ z67_ z68_ z69_ z70_ z71_ z72_ z73_ z74_ z75_ z76_ z77_ z78_ z79_ z80_ z81_ z82_ z83_ z84_ z85_ z86_ z87_ z88_ z89_ z90_ z91_ z92_ z93_ z94_ z95_ z96_ z97_ z98_ z99_ z100_ z101_ z102_ z103_ z104_ z105_ z106_ z107_ z108_ z109_ z110_ z111_ z112_ z113_ z114_ z115_ z116_ z117_ z118_ z119_ z120_ z121_ z122_ z123_ z124_ z125_ z126_ z127_ z128_ z129_ z130_ z131_ z132_ z133_ z134_ z135_ z136_ z137_ z138_ z139_ z140_ z141_ z142_ z143_ z144_ z145_ z146_ z147_ z148_ z149_ z150_ z151_ z152_ z153_ z154_ z155_ z156_ z157_ z158_ z159_ z160_ z161_ z162_ z163_ z164_ z165_ z166_ z167_ z168_ z169_ z170_ z171_ z172_ z173_ z174_ z175_ z176_
   revert k A0 c0 l0 A1 c1 l1 r w hu62 hu47 HR0 HC0 HR1 HC1 z1_ z2_ wc u21 u22 u23 u24 u25 u26 u27 u29 u30 z3_ z4_ z5_ z6_ z7_ z8_ z9_ z10_ z11_ z12_ z13_ z14_ z15_ z16_ z17_ z18_ z19_ z20_ z21_ z22_ z23_ z24_ z25_ z26_ z27_ z28_ z29_ z30_ z31_ z32_ z33_ z34_ z35_ z36_ z37_ z38_ z39_ z40_ z41_ z42_ z43_ z44_ z45_ z46_ z47_ z48_ z49_ z50_ z51_ z52_ z53_ z54_ z55_ z56_ z57_ z58_ z59_ z60_ z61_ z62_ z63_ z64_ z65_ z66_ z67_ z68_ z69_ z70_ z71_ z72_ z73_ z74_ z75_ z76_ z77_ z78_ z79_ z80_ z81_ z82_ z83_ z84_ z85_ z86_ z87_ z88_ z89_ z90_ z91_ z92_ z93_ z94_ z95_ z96_ z97_ z98_ z99_ z100_ z101_ z102_ z103_ z104_ z105_ z106_ z107_ z108_ z109_ z110_ z111_ z112_ z113_ z114_ z115_ z116_ z117_ z118_ z119_ z120_ z121_ z122_ z123_ z124_ z125_ z126_ z127_ z128_ z129_ z130_ z131_ z132_ z133_ z134_ z135_ z136_ z137_ z138_ z139_ z140_ z141_ z142_ z143_ z144_ z145_ z146_ z147_ z148_ z149_ z150_ z151_ z152_ z153_ z154_ z155_ z156_ z157_ z158_ z159_ z160_ z161_ z162_ z163_ z164_ z165_ z166_ z167_ z168_ u197 u198 u199 u200 u201 u202 u203 u204 u205 u206 u207 u208 u209 u210 u211 u212 u213 u214 u215 u216 u217 u218 u219 u220 u221 u222 u223 u224 u225 u226 u227 u228 u229 u230 u231 u232 u233 u234 u235 u236 u237 u238 u239 u240 u241 u242 u243 u244 u245 u246 u247 u248 u249 u250 u251 u252 u253 u254 u255 u256 u257 u258 u259 u260 u261 u262 u263 u264 u265 u266 u267 u268 u269 u270 u271 u272 u273 u274 u275 u276 u277 u278 u279 u280 u281 u282 u283 u284 u285 u286 u287 u288 u289 kj2 HJ2 t134 A8 w9 g135 z169_ z170_ z171_ z172_ wr u4 u6 u7 u9 u10 u11 u12 u13 u14 u31 u32 u33 u34 u35 u36 u37 u38 u39 u40 u41 u42 u43 u44 u45 u46 u47 u48 u49 u50 u51 u52 u53 u54 u55 u56 u57 u58 u59 u60 u61 u62 u63 u64 u65 u66 u67 u68 u69 u70 u71 u72 u73 u74 u75 u76 u77 u78 u79 u80 u81 u82 u83 u84 u85 u86 u87 u88 u89 u90 u91 u92 u93 u94 u95 u96 u97 u98 u99 u100 u101 u102 u103 u104 u105 u106 u107 u108 u109 u110 u111 u112 u113 u114 u115 u116 u117 u118 u119 u120 u121 u122 u123 u124 u125 u126 u127 u128 u129 u130 u131 u132 u133 u134 u135 u136 u137 u138 u139 u140 u141 u142 u143 u144 u145 u146 u147 u148 u149 u150 u151 u152 u153 u154 u155 u156 u157 u158 u159 u160 u161 u162 u163 u164 u165 u166 u167 u168 u169 u170 u171 u172 u173 u174 u175 u176 u177 u178 u179 u180 u181 u182 u183 u184 u185 u186 u187 u188 u189 u190 u191 u192 u193 u194 u195 u196 z173_ z174_ z175_ x6_2 x7_2 x8_2 x136000_2 HO_6 HO_7 HI135 HB k2 z176_ HK2 H c10
   exact hP_1.out
  rw [if_pos c10] at H
  have c10b0 : decide (x8_2 < (l0.length : Int)) = true := decide_eq_true c10
  clear c10
  by_cases c11 : 0 ≤ x8_2
  rotate_left
  ·rw [if_neg c11] at H
   exact absurd H (by simp)
  rw [if_pos c11] at H
  have c11b0 : decide (0 ≤ x8_2) = true := decide_eq_true c11
  clear c11
  have H' := Aside0.mk H
  clear H
  have p136 : 0 ≤ (x8_2 : Int) := of_decide_eq_true (by first | (with_reducible assumption) | assumption)
  have q136 : x8_2 < (l0.length : Int) := of_decide_eq_true (by first | (with_reducible assumption) | assumption)
  obtain ⟨ad136, e136, hx136_0, hx136_1, hx136_2, hx136_3⟩ := at_T62 HR0.out x8_2 p136 q136
  cases e136
  replace hx136_0 := (HB.out.cell (World.block_lt_of_cell? w _ hx136_0)).trans hx136_0
  replace hx136_1 := (HB.out.cell (World.block_lt_of_cell? w _ hx136_1)).trans hx136_1
  replace hx136_2 := (HB.out.cell (World.block_lt_of_cell? w _ hx136_2)).trans hx136_2
  replace hx136_3 := (HB.out.cell (World.block_lt_of_cell? w _ hx136_3)).trans hx136_3
  replace p136 := eq_true p136
  replace q136 := eq_true q136
  go_wp2_with (first | ((with_reducible refine gate_dst (N := 9) rfl ?_); (try (refine gate_guard (by rfl) ?_; dsimp only)); refine box_event ?hg (N := 9) ?hd (cs := #[.bool false, .int .u32 0, .int .i64 0, .int .i64 0]) (t := 62) ?hr ?_; (case hd => rfl); (case hg => rfl); (case hr => first | (go_simp; done) | (go_simp; rfl) | (go_simp; simp [IntKind.wrap_u8, IntKind.wrap_u32]; done)); intro gb137 hg w12 hbox hb; have n0_ := Aside0.mk (Kd.R_below (by (with_reducible repeat (first|apply Kd.R_alloc|apply Kd.R_drewN|apply Kd.R_drew)); exact HO_6.out) hb); have n1_ := Aside0.mk (Kd.R_below (by (with_reducible repeat (first|apply Kd.R_alloc|apply Kd.R_drewN|apply Kd.R_drew)); exact HO_7.out) hb); have n2_ := Aside0.mk (IsS75.below (by repeat (first | (with_reducible first | exact HI135.out | apply IsS75.alloc | apply IsS75.drewN | apply IsS75.drew) | exact HI135.out)) hb); have n3_ := Aside0.mk (below_step (by repeat (first | (with_reducible first | exact HB.out | apply below_alloc | apply pw_below_drewN | apply below_drew1 | refine below_set ?_ (IsS75.ge HI135.out)) | exact HB.out)) hb); have n4_ := Aside0.mk (hbox); have n5_ := Aside0.mk ((by rw [hg]; exact (below_size (by repeat (first | (with_reducible first | exact HB.out | apply below_alloc | apply pw_below_drewN | apply below_drew1 | refine below_set ?_ (IsS75.ge HI135.out)) | exact HB.out))) : w.heap.size ≤ gb137)); have n6_ := Aside0.mk ((by rw [hg]; exact (below_size (by repeat (first | (with_reducible first | exact HB.out | apply below_alloc | apply pw_below_drewN | apply below_drew1 | refine below_set ?_ (IsS75.ge HI135.out)) | exact HB.out))) : w.heap.size ≤ gb137)); have n7_ := Aside0.mk ((by rw [hg]; exact Nat.ne_of_lt (IsS75.lt (show IsS75 w _ g135 x136000_2 from by repeat (first | (with_reducible first | exact HI135.out | apply IsS75.alloc | apply IsS75.drewN | apply IsS75.drew) | exact HI135.out))) : g135 ≠ gb137)); have n8_ := Aside0.mk ((by rw [hg]; exact Nat.ne_of_gt (IsS75.lt (show IsS75 w _ g135 x136000_2 from by repeat (first | (with_reducible first | exact HI135.out | apply IsS75.alloc | apply IsS75.drewN | apply IsS75.drew) | exact HI135.out))) : gb137 ≠ g135)); clear HO_6; clear HO_7; clear HI135; clear HB; have HO_6 := n0_; have HO_7 := n1_; have HI135 := n2_; have HB := n3_; have BK137 := n4_; have GW137 := n5_; have GE137 := n6_; have NB135_137 := n7_; have NB137_135 := n8_; clear n0_ n1_ n2_ n3_ n4_ n5_ n6_ n7_ n8_; clear hb hbox hg; have hnb13 := NB137_135.out; have hnc13 := NB135_137.out; have hcz14_0 : w12.cell? ⟨gb137, 0, none⟩ = some (.bool false) := (blk_cell BK137.out 0).trans rfl; have hcz14_1 : w12.cell? ⟨gb137, 1, none⟩ = some (.int .u32 0) := (blk_cell BK137.out 1).trans rfl; have hcz14_2 : w12.cell? ⟨gb137, 2, none⟩ = some (.int .i64 0) := (blk_cell BK137.out 2).trans rfl; have hcz14_3 : w12.cell? ⟨gb137, 3, none⟩ = some (.int .i64 0) := (blk_cell BK137.out 3).trans rfl; have hfz14_0 := blk_frozen BK137.out 0; have hfz14_1 := blk_frozen BK137.out 1; have hfz14_2 := blk_frozen BK137.out 2; have hfz14_3 := blk_frozen BK137.out 3))
  go_loopg [10, 11] k2 (fun kq v10 v11 w' => ∃ (x10_3 : Int) (x11_3 : Int), v10 = .int .i64 x10_3 ∧ v11 = .int .i64 x11_3 ∧ Aside0 (TR.l1 kq l0 l1 x6_2 x7_2 x8_2 x10_3 x11_3 x136000_2 ((rd_T62 l0 x8_2).f0) ((rd_T62 l0 x8_2).f1.f0) ((rd_T62 l0 x8_2).f1.f1) ((rd_T62 l0 x8_2).f2) = some r) ∧ Aside0 (kq ≤ k2) ∧ Aside0 (Kd.R k47 47 w' w.heap.size (fun _ => True) u6 x6_2) ∧ Aside0 (Kd.R (Kd.int .i64) 3 w' w.heap.size (fun _ => True) u7 x7_2) ∧ Aside0 (w'.heap[gb137]? = some (.cells #[.bool ((rd_T62 l0 x8_2).f0), .int .u32 ((rd_T62 l0 x8_2).f1.f0), .int .i64 ((rd_T62 l0 x8_2).f1.f1), .int .i64 ((rd_T62 l0 x8_2).f2)] 62 (0, 0))) ∧ Aside0 (IsS75 w w' g135 x136000_2) ∧ Aside0 (Below w.heap.size w w'))
  case atStart => exact ⟨((-1)), (0), (by first | rfl | (simp; done) | (simp [*]; done)), (by first | rfl | (simp; done) | (simp [*]; done)), H', ⟨Nat.le_refl _⟩, ⟨by (with_reducible repeat (first | apply Kd.R_alloc | apply Kd.R_drewN | apply Kd.R_drew)); exact Kd.R_mono (Kd.R_far (p := ⟨gb137, 3, none⟩) (Kd.R_far (p := ⟨gb137, 2, none⟩) (Kd.R_far (p := ⟨gb137, 1, none⟩) (Kd.R_far (p := ⟨gb137, 0, none⟩) (Kd.R_types HO_6.out BK137.out (by decide)) (fun _ hk => hk.2) (.bool ((rd_T62 l0 x8_2).f0))) (fun _ hk => hk.2) (.int .u32 ((rd_T62 l0 x8_2).f1.f0))) (fun _ hk => hk.2) (.int .i64 ((rd_T62 l0 x8_2).f1.f1))) (fun _ hk => hk.2) (.int .i64 ((rd_T62 l0 x8_2).f2))) (fun _ hk => trivial)⟩, ⟨by (with_reducible repeat (first | apply Kd.R_alloc | apply Kd.R_drewN | apply Kd.R_drew)); exact Kd.R_mono (Kd.R_far (p := ⟨gb137, 3, none⟩) (Kd.R_far (p := ⟨gb137, 2, none⟩) (Kd.R_far (p := ⟨gb137, 1, none⟩) (Kd.R_far (p := ⟨gb137, 0, none⟩) (Kd.R_types HO_7.out BK137.out (by decide)) (fun _ hk => hk.2) (.bool ((rd_T62 l0 x8_2).f0))) (fun _ hk => hk.2) (.int .u32 ((rd_T62 l0 x8_2).f1.f0))) (fun _ hk => hk.2) (.int .i64 ((rd_T62 l0 x8_2).f1.f1))) (fun _ hk => hk.2) (.int .i64 ((rd_T62 l0 x8_2).f2))) (fun _ hk => trivial)⟩, ⟨by (with_reducible repeat (first | refine blk_drewN ?_ _ | refine blk_drew ?_ | refine blk_alloc ?_ _)); refine blk_put (cs := #[.bool ((rd_T62 l0 x8_2).f0), .int .u32 ((rd_T62 l0 x8_2).f1.f0), .int .i64 ((rd_T62 l0 x8_2).f1.f1), .int .i64 0]) ?_ 3 _ rfl; (with_reducible repeat (first | refine blk_drewN ?_ _ | refine blk_drew ?_ | refine blk_alloc ?_ _)); refine blk_put (cs := #[.bool ((rd_T62 l0 x8_2).f0), .int .u32 ((rd_T62 l0 x8_2).f1.f0), .int .i64 0, .int .i64 0]) ?_ 2 _ rfl; (with_reducible repeat (first | refine blk_drewN ?_ _ | refine blk_drew ?_ | refine blk_alloc ?_ _)); refine blk_put (cs := #[.bool ((rd_T62 l0 x8_2).f0), .int .u32 0, .int .i64 0, .int .i64 0]) ?_ 1 _ rfl; (with_reducible repeat (first | refine blk_drewN ?_ _ | refine blk_drew ?_ | refine blk_alloc ?_ _)); refine blk_put (cs := #[.bool false, .int .u32 0, .int .i64 0, .int .i64 0]) ?_ 0 _ rfl; (with_reducible repeat (first | refine blk_drewN ?_ _ | refine blk_drew ?_ | refine blk_alloc ?_ _)); exact BK137.out⟩, ⟨by repeat (first | (with_reducible first | exact HI135.out | apply IsS75.alloc | apply IsS75.drewN | apply IsS75.drew | refine IsS75.far ?_ (by (repeat (first | exact (Opq.NP.blk BK137.out (by decide)) | (with_reducible apply Opq.NP.setCell) | (with_reducible apply Opq.NP.drewN) | (with_reducible apply Opq.NP.drew) | (with_reducible apply Opq.NP.alloc))); done) _) | exact HI135.out)⟩, ⟨by repeat (first | (with_reducible first | exact HB.out | apply below_alloc | apply pw_below_drewN | apply below_drew1 | refine below_set ?_ (IsS75.ge HI135.out) | refine below_set ?_ GE137.out) | exact HB.out)⟩⟩
  clear H'
  try clear c1
  try clear p1
  try clear q1
  try clear hx1
  try clear c2
  try clear p2
  try clear c4
  try clear c4b0
  try clear c4b1
  try clear c5
  try clear c8
  try clear c10
  try clear c10b0
  try clear c11
  try clear c11b0
  try clear c13
  try clear p13
  try clear q13
  try clear hx13
  try clear hcz14_0
  try clear hcz14_1
  try clear hcz14_2
  try clear hcz14_3
  try clear hfz14_0
  try clear hfz14_1
  try clear hfz14_2
  try clear hfz14_3
  try clear hx136_0
  try clear hx136_1
  try clear hx136_2
  try clear hx136_3
  try clear p136
  try clear p2
  try clear q136
  obtain ⟨x10_3, x11_3, rfl, rfl, HA, HK3, HO_6, HO_7, BK137, HI135, HB⟩ := hrel
  cases gk with
  | zero => exact absurd HA.out (by simp [TR.l1])
  | succ k3 =>
  have H := HA.out
  clear HA
  simp only [TR.l1] at H
  by_cases c15 : x11_3 < (x6_2.length : Int)
  ·rw [if_pos c15] at H
   have c15b0 : decide (x11_3 < (x6_2.length : Int)) = true := decide_eq_true c15
   clear c15
   by_cases c16 : 0 ≤ x11_3
   rotate_left
   ·rw [if_neg c16] at H
    exact absurd H (by simp)
   rw [if_pos c16] at H
   have c16b0 : decide (0 ≤ x11_3) = true := decide_eq_true c16
   clear c16
   by_cases c17 : (((rd_T47 x6_2 x11_3).f0) == ((rd_T62 l0 x8_2).f1.f0) && (((rd_T47 x6_2 x11_3).f1) == ((rd_T62 l0 x8_2).f1.f1))) = true
   ·rw [if_pos c17] at H
    have c17b0 : (((rd_T47 x6_2 x11_3).f0) == ((rd_T62 l0 x8_2).f1.f0) && (((rd_T47 x6_2 x11_3).f1) == ((rd_T62 l0 x8_2).f1.f1))) = true := c17
    (try (have c17b1 : decide (((rd_T47 x6_2 x11_3).f0) = ((rd_T62 l0 x8_2).f1.f0) && (((rd_T47 x6_2 x11_3).f1) == ((rd_T62 l0 x8_2).f1.f1))) = true := by simpa using c17))
    (try (have c17b2 : (((rd_T47 x6_2 x11_3).f0) == ((rd_T62 l0 x8_2).f1.f0) && (((rd_T47 x6_2 x11_3).f1) == ((rd_T62 l0 x8_2).f1.f1))) = true := by simpa using c17))
    clear c17
    have H' := Aside0.mk H
    clear H
    obtain ⟨Ao18, co18, eo18⟩ := Kd.R_slice HO_6.out
    subst eo18
    try go_wp2
    have n0_ := Aside0.mk (Kd.R_drew HO_6.out)
    have n1_ := Aside0.mk (Kd.R_drew HO_7.out)
    have n2_ := Aside0.mk (blk_drew BK137.out)
    have n3_ := Aside0.mk (IsS75.drew HI135.out)
    have n4_ := Aside0.mk (below_drew1 HB.out)
    clear HO_6 HO_7 BK137 HI135 HB
    have HO_6 := n0_; have HO_7 := n1_; have BK137 := n2_; have HI135 := n3_; have HB := n4_
    clear n0_ n1_ n2_ n3_ n4_
    have p138 : 0 ≤ (x11_3 : Int) := of_decide_eq_true (by first | (with_reducible assumption) | assumption)
    have q138 : x11_3 < (x6_2.length : Int) := of_decide_eq_true (by first | (with_reducible assumption) | assumption)
    obtain ⟨ad138, e138, hx138_0, hx138_1⟩ := at_T47 (Kd.R_reads' HO_6.out).2.2 x11_3 p138 q138
    cases e138
    replace p138 := eq_true p138
    replace q138 := eq_true q138
    go_region_held3 (fun w' => w'.cell? ⟨gb137, 0, none⟩ = some (.bool ((rd_T62 l0 x8_2).f0)) ∧ w'.cell? ⟨gb137, 1, none⟩ = some (.int .u32 ((rd_T62 l0 x8_2).f1.f0)) ∧ w'.cell? ⟨gb137, 2, none⟩ = some (.int .i64 ((rd_T62 l0 x8_2).f1.f1)) ∧ w'.cell? ⟨gb137, 3, none⟩ = some (.int .i64 ((rd_T62 l0 x8_2).f2)) ∧ w'.cell? (ad138.add ((x11_3).toNat * 2)) = some (.int .u32 ((rd_T47 x6_2 x11_3).f0)) ∧ w'.cell? ⟨(ad138.add ((x11_3).toNat * 2)).block, (ad138.add ((x11_3).toNat * 2)).off + 1, none⟩ = some (.int .i64 ((rd_T47 x6_2 x11_3).f1))) (exact ⟨(blk_cell BK137.out 0).trans rfl, (blk_cell BK137.out 1).trans rfl, (blk_cell BK137.out 2).trans rfl, (blk_cell BK137.out 3).trans rfl, hx138_0, hx138_1⟩) (fail)
    try go_wp2
    go_roundg k3
    case measure => have := HJ2.out; have := HK2.out; have := HK3.out; omega
    case rel => exact ⟨(x11_3), (wrap64 (x11_3 + 1)), (by first | rfl | (simp; done) | (simp [*]; done)), (by first | rfl | (simp; done) | (simp [*]; done)), H', ⟨by have := HJ2.out; have := HK2.out; have := HK3.out; omega⟩, ⟨by (with_reducible repeat (first | apply Kd.R_alloc | apply Kd.R_drewN | apply Kd.R_drew)); exact HO_6.out⟩, ⟨by (with_reducible repeat (first | apply Kd.R_alloc | apply Kd.R_drewN | apply Kd.R_drew)); exact HO_7.out⟩, ⟨by (with_reducible repeat (first | refine blk_drewN ?_ _ | refine blk_drew ?_ | refine blk_alloc ?_ _)); exact BK137.out⟩, ⟨by repeat (first | (with_reducible first | exact HI135.out | apply IsS75.alloc | apply IsS75.drewN | apply IsS75.drew | refine IsS75.far ?_ (by (repeat (first | exact (Opq.NP.blk BK137.out (by decide)) | (with_reducible apply Opq.NP.setCell) | (with_reducible apply Opq.NP.drewN) | (with_reducible apply Opq.NP.drew) | (with_reducible apply Opq.NP.alloc))); done) _) | exact HI135.out)⟩, ⟨by repeat (first | (with_reducible first | exact HB.out | apply below_alloc | apply pw_below_drewN | apply below_drew1 | refine below_set ?_ (IsS75.ge HI135.out) | refine below_set ?_ GE137.out) | exact HB.out)⟩⟩
   rw [if_neg c17] at H
   have c17b0 : (((rd_T47 x6_2 x11_3).f0) == ((rd_T62 l0 x8_2).f1.f0) && (((rd_T47 x6_2 x11_3).f1) == ((rd_T62 l0 x8_2).f1.f1))) = false := by simpa using c17
   (try (have c17b1 : decide (((rd_T47 x6_2 x11_3).f0) = ((rd_T62 l0 x8_2).f1.f0) && (((rd_T47 x6_2 x11_3).f1) == ((rd_T62 l0 x8_2).f1.f1))) = false := by simpa using c17))
   (try (have c17b2 : (((rd_T47 x6_2 x11_3).f0) == ((rd_T62 l0 x8_2).f1.f0) && (((rd_T47 x6_2 x11_3).f1) == ((rd_T62 l0 x8_2).f1.f1))) = false := by simpa using c17))
   (try (have c17b3 : ¬ (((rd_T47 x6_2 x11_3).f0) = ((rd_T62 l0 x8_2).f1.f0) && (((rd_T47 x6_2 x11_3).f1) == ((rd_T62 l0 x8_2).f1.f1))) := by simpa using c17))
   clear c17
   have H' := Aside0.mk H
   clear H
   obtain ⟨Ao20, co20, eo20⟩ := Kd.R_slice HO_6.out
   subst eo20
   try go_wp2
   have n0_ := Aside0.mk (Kd.R_drew HO_6.out)
   have n1_ := Aside0.mk (Kd.R_drew HO_7.out)
   have n2_ := Aside0.mk (blk_drew BK137.out)
   have n3_ := Aside0.mk (IsS75.drew HI135.out)
   have n4_ := Aside0.mk (below_drew1 HB.out)
   clear HO_6 HO_7 BK137 HI135 HB
   have HO_6 := n0_; have HO_7 := n1_; have BK137 := n2_; have HI135 := n3_; have HB := n4_
   clear n0_ n1_ n2_ n3_ n4_
   have p138 : 0 ≤ (x11_3 : Int) := of_decide_eq_true (by first | (with_reducible assumption) | assumption)
   have q138 : x11_3 < (x6_2.length : Int) := of_decide_eq_true (by first | (with_reducible assumption) | assumption)
   obtain ⟨ad138, e138, hx138_0, hx138_1⟩ := at_T47 (Kd.R_reads' HO_6.out).2.2 x11_3 p138 q138
   cases e138
   replace p138 := eq_true p138
   replace q138 := eq_true q138
   go_region_held3 (fun w' => w'.cell? ⟨gb137, 0, none⟩ = some (.bool ((rd_T62 l0 x8_2).f0)) ∧ w'.cell? ⟨gb137, 1, none⟩ = some (.int .u32 ((rd_T62 l0 x8_2).f1.f0)) ∧ w'.cell? ⟨gb137, 2, none⟩ = some (.int .i64 ((rd_T62 l0 x8_2).f1.f1)) ∧ w'.cell? ⟨gb137, 3, none⟩ = some (.int .i64 ((rd_T62 l0 x8_2).f2)) ∧ w'.cell? (ad138.add ((x11_3).toNat * 2)) = some (.int .u32 ((rd_T47 x6_2 x11_3).f0)) ∧ w'.cell? ⟨(ad138.add ((x11_3).toNat * 2)).block, (ad138.add ((x11_3).toNat * 2)).off + 1, none⟩ = some (.int .i64 ((rd_T47 x6_2 x11_3).f1))) (exact ⟨(blk_cell BK137.out 0).trans rfl, (blk_cell BK137.out 1).trans rfl, (blk_cell BK137.out 2).trans rfl, (blk_cell BK137.out 3).trans rfl, hx138_0, hx138_1⟩) (fail)
   try go_wp2
   go_roundg k3
   case measure => have := HJ2.out; have := HK2.out; have := HK3.out; omega
   case rel => exact ⟨(x10_3), (wrap64 (x11_3 + 1)), (by first | rfl | (simp; done) | (simp [*]; done)), (by first | rfl | (simp; done) | (simp [*]; done)), H', ⟨by have := HJ2.out; have := HK2.out; have := HK3.out; omega⟩, ⟨by (with_reducible repeat (first | apply Kd.R_alloc | apply Kd.R_drewN | apply Kd.R_drew)); exact HO_6.out⟩, ⟨by (with_reducible repeat (first | apply Kd.R_alloc | apply Kd.R_drewN | apply Kd.R_drew)); exact HO_7.out⟩, ⟨by (with_reducible repeat (first | refine blk_drewN ?_ _ | refine blk_drew ?_ | refine blk_alloc ?_ _)); exact BK137.out⟩, ⟨by repeat (first | (with_reducible first | exact HI135.out | apply IsS75.alloc | apply IsS75.drewN | apply IsS75.drew | refine IsS75.far ?_ (by (repeat (first | exact (Opq.NP.blk BK137.out (by decide)) | (with_reducible apply Opq.NP.setCell) | (with_reducible apply Opq.NP.drewN) | (with_reducible apply Opq.NP.drew) | (with_reducible apply Opq.NP.alloc))); done) _) | exact HI135.out)⟩, ⟨by repeat (first | (with_reducible first | exact HB.out | apply below_alloc | apply pw_below_drewN | apply below_drew1 | refine below_set ?_ (IsS75.ge HI135.out) | refine below_set ?_ GE137.out) | exact HB.out)⟩⟩
  rw [if_neg c15] at H
  have c15b0 : decide (x11_3 < (x6_2.length : Int)) = false := decide_eq_false c15
  clear c15
  replace H := Option.bind_eq_some_iff.mp H
  obtain ⟨⟨t139, t140, t141⟩, A220, H⟩ := H
  replace H : (if (t140 != (decide (x10_3 ≥ 0))) = true then (TR.j3 k3 l0 l1 x6_2 x7_2 x8_2 x10_3 true t141 ((rd_T62 l0 x8_2).f0) ((rd_T62 l0 x8_2).f1.f0) ((rd_T62 l0 x8_2).f1.f1) ((rd_T62 l0 x8_2).f2)) else (if t140 = true then (if 0 ≤ x10_3 then (if x10_3 < (x7_2.length : Int) then (if t139 = (rd x7_2 x10_3) then (TR.j3 k3 l0 l1 x6_2 x7_2 x8_2 x10_3 false t141 ((rd_T62 l0 x8_2).f0) ((rd_T62 l0 x8_2).f1.f0) ((rd_T62 l0 x8_2).f1.f1) ((rd_T62 l0 x8_2).f2)) else (TR.j3 k3 l0 l1 x6_2 x7_2 x8_2 x10_3 true t141 ((rd_T62 l0 x8_2).f0) ((rd_T62 l0 x8_2).f1.f0) ((rd_T62 l0 x8_2).f1.f1) ((rd_T62 l0 x8_2).f2))) else (none)) else (none)) else (TR.j3 k3 l0 l1 x6_2 x7_2 x8_2 x10_3 (t139 != 0) t141 ((rd_T62 l0 x8_2).f0) ((rd_T62 l0 x8_2).f1.f0) ((rd_T62 l0 x8_2).f1.f1) ((rd_T62 l0 x8_2).f2)))) = some r := H
  have A22 := Aside0.mk A220
  clear A220
  have HC23 := Aside0.mk H
  clear H
  obtain ⟨Ao24, co24, eo24⟩ := Kd.R_slice HO_6.out
  subst eo24
  have hnb25 := NB137_135.out
  have hnc25 := NB135_137.out
  have hcz26_0 : wr.cell? ⟨gb137, 0, none⟩ = some (.bool ((rd_T62 l0 x8_2).f0)) := (blk_cell BK137.out 0).trans rfl
  have hcz26_1 : wr.cell? ⟨gb137, 1, none⟩ = some (.int .u32 ((rd_T62 l0 x8_2).f1.f0)) := (blk_cell BK137.out 1).trans rfl
  have hcz26_2 : wr.cell? ⟨gb137, 2, none⟩ = some (.int .i64 ((rd_T62 l0 x8_2).f1.f1)) := (blk_cell BK137.out 2).trans rfl
  have hcz26_3 : wr.cell? ⟨gb137, 3, none⟩ = some (.int .i64 ((rd_T62 l0 x8_2).f2)) := (blk_cell BK137.out 3).trans rfl
  have hfz26_0 := blk_frozen BK137.out 0
  have hfz26_1 := blk_frozen BK137.out 1
  have hfz26_2 := blk_frozen BK137.out 2
  have hfz26_3 := blk_frozen BK137.out 3
  go_upto_region 17 with (first | ((with_reducible refine gate_callee (f := 24) rfl ?_); refine goesL_ (some 59) rfl rfl Try.func24 (by kernel_rfl) rfl #[.pointer (some ⟨g135, 0, none⟩), .agg #[.int .u32 ((rd_T62 l0 x8_2).f1.f0), .int .i64 ((rd_T62 l0 x8_2).f1.f1)]] rfl (by (try simp only [List.map_toArray, List.map_cons, List.map_nil]); first | done | rfl | (simp only [List.length_drop, List.length_take]; rfl)) ?_; (with_reducible refine (trie_Trie_Get.calls g135 x136000_2 ((rd_T62 l0 x8_2).f1.f0) ((rd_T62 l0 x8_2).f1.f1) t139 t140 t141 w _ ?side1 ?side2 A22.out).mono ?_); (case side1 => repeat (first | (with_reducible first | exact HI135.out | apply IsS75.alloc | apply IsS75.drewN | apply IsS75.drew | refine IsS75.far ?_ (by (repeat (first | exact (Opq.NP.blk BK137.out (by decide)) | (with_reducible apply Opq.NP.setCell) | (with_reducible apply Opq.NP.drewN) | (with_reducible apply Opq.NP.drew) | (with_reducible apply Opq.NP.alloc))); done) _) | exact HI135.out)); (case side2 => repeat (first | (with_reducible first | exact HB.out | apply below_alloc | apply pw_below_drewN | apply below_drew1 | refine below_set ?_ (IsS75.ge HI135.out) | refine below_set ?_ GE137.out) | exact HB.out)); rintro e w27 ⟨rfl, hi, hb, hk⟩; refine ⟨_, rfl, ?_⟩; have n0_ := Aside0.mk (Opq.R_keep (by (with_reducible repeat (first|apply Kd.R_alloc|apply Kd.R_drewN|apply Kd.R_drew)); exact HO_6.out) hk (by decide)); have n1_ := Aside0.mk (Opq.R_keep (by (with_reducible repeat (first|apply Kd.R_alloc|apply Kd.R_drewN|apply Kd.R_drew)); exact HO_7.out) hk (by decide)); have n2_ := Aside0.mk (Opq.KeepO.blk2 hk (g := gb137) (o := .cells #[.bool ((rd_T62 l0 x8_2).f0), .int .u32 ((rd_T62 l0 x8_2).f1.f0), .int .i64 ((rd_T62 l0 x8_2).f1.f1), .int .i64 ((rd_T62 l0 x8_2).f2)] 62 (0, 0)) (by (with_reducible repeat (first | refine blk_drewN ?_ _ | refine blk_drew ?_ | refine blk_alloc ?_ _)); exact BK137.out) (by rfl)); have n3_ := Aside0.mk (hb); have n4_ := Aside0.mk (hi); clear HO_6; clear HO_7; clear BK137; clear HB; clear HI135; have HO_6 := n0_; have HO_7 := n1_; have BK137 := n2_; have HB := n3_; have HI135 := n4_; clear n0_ n1_ n2_ n3_ n4_; (try clear hb); (try clear hb2); (try clear hk); (try clear hi)))
  (try simp only [Act.put, q1_, q2_, q3_])
  go_cut [84] (fun v84 wc => ∃ (kq : Nat) (x84_22 : Bool), v84 = .bool x84_22 ∧ Aside0 (TR.j3 kq l0 l1 x6_2 x7_2 x8_2 x10_3 x84_22 t141 ((rd_T62 l0 x8_2).f0) ((rd_T62 l0 x8_2).f1.f0) ((rd_T62 l0 x8_2).f1.f1) ((rd_T62 l0 x8_2).f2) = some r) ∧ Aside0 (kq ≤ k3) ∧ Aside0 (Kd.R k47 47 wc w.heap.size (fun _ => True) (.slice Ao24 x6_2.length co24) x6_2) ∧ Aside0 (Kd.R (Kd.int .i64) 3 wc w.heap.size (fun _ => True) u7 x7_2) ∧ Aside0 (wc.heap[gb137]? = some (.cells #[.bool ((rd_T62 l0 x8_2).f0), .int .u32 ((rd_T62 l0 x8_2).f1.f0), .int .i64 ((rd_T62 l0 x8_2).f1.f1), .int .i64 ((rd_T62 l0 x8_2).f2)] 62 (0, 0))) ∧ Aside0 (IsS75 w wc g135 t141) ∧ Aside0 (Below w.heap.size w wc))
  case first => as_aux_lemma =>
   have H := HC23.out
   clear HC23
   by_cases c28 : (t140 != (decide (x10_3 ≥ 0))) = true
   ·rw [if_pos c28] at H
    have c28b0 : (t140 != (decide (x10_3 ≥ 0))) = true := c28
    (try (have c28b1 : decide (t140 = (decide (x10_3 ≥ 0))) = false := by simpa using c28))
    (try (have c28b2 : (t140 == (decide (x10_3 ≥ 0))) = false := by simpa using c28))
    (try (have c28b3 : ¬ (t140 = (decide (x10_3 ≥ 0))) := by simpa using c28))
    clear c28
    (first | rw [c28b0] | (simp only [i64_w, i32_w]; rw [c28b0]) | skip)
    have H' := Aside0.mk H
    clear H
    go_wp2
    go_meet
    case rel => exact ⟨_, (true), (by first | rfl | (simp; done) | (simp [*]; done)), H', ⟨by have := HJ2.out; have := HK2.out; have := HK3.out; first | omega | exact Nat.le_refl _⟩, ⟨by (with_reducible repeat (first | apply Kd.R_alloc | apply Kd.R_drewN | apply Kd.R_drew)); exact HO_6.out⟩, ⟨by (with_reducible repeat (first | apply Kd.R_alloc | apply Kd.R_drewN | apply Kd.R_drew)); exact HO_7.out⟩, ⟨by (with_reducible repeat (first | refine blk_drewN ?_ _ | refine blk_drew ?_ | refine blk_alloc ?_ _)); exact BK137.out⟩, ⟨by repeat (first | (with_reducible first | exact HI135.out | apply IsS75.alloc | apply IsS75.drewN | apply IsS75.drew | refine IsS75.far ?_ (by (repeat (first | exact (Opq.NP.blk BK137.out (by decide)) | (with_reducible apply Opq.NP.setCell) | (with_reducible apply Opq.NP.drewN) | (with_reducible apply Opq.NP.drew) | (with_reducible apply Opq.NP.alloc))); done) _) | exact HI135.out)⟩, ⟨by repeat (first | (with_reducible first | exact HB.out | apply below_alloc | apply pw_below_drewN | apply below_drew1 | refine below_set ?_ (IsS75.ge HI135.out) | refine below_set ?_ GE137.out) | exact HB.out)⟩⟩
   rw [if_neg c28] at H
   have c28b0 : (t140 != (decide (x10_3 ≥ 0))) = false := by simpa using c28
   (try (have c28b1 : decide (t140 = (decide (x10_3 ≥ 0))) = true := by simpa using c28))
   (try (have c28b2 : (t140 == (decide (x10_3 ≥ 0))) = true := by simpa using c28))
   clear c28
   (first | rw [c28b0] | (simp only [i64_w, i32_w]; rw [c28b0]) | skip)
   by_cases c29 : t140 = true
   rotate_left
   ·replace c29 := Bool.eq_false_iff.mpr c29
    subst c29
    have H1 : (TR.j3 k3 l0 l1 x6_2 x7_2 x8_2 x10_3 (t139 != 0) t141 ((rd_T62 l0 x8_2).f0) ((rd_T62 l0 x8_2).f1.f0) ((rd_T62 l0 x8_2).f1.f1) ((rd_T62 l0 x8_2).f2)) = some r := by rw [if_neg (show ¬ (false = true) by decide)] at H; exact H
    clear H
    have H := H1
    clear H1
    have H' := Aside0.mk H
    clear H
    go_wp2
    go_meet
    case rel => exact ⟨_, ((t139 != 0)), (by first | rfl | (simp; done) | (simp [*]; done)), H', ⟨by have := HJ2.out; have := HK2.out; have := HK3.out; first | omega | exact Nat.le_refl _⟩, ⟨by (with_reducible repeat (first | apply Kd.R_alloc | apply Kd.R_drewN | apply Kd.R_drew)); exact HO_6.out⟩, ⟨by (with_reducible repeat (first | apply Kd.R_alloc | apply Kd.R_drewN | apply Kd.R_drew)); exact HO_7.out⟩, ⟨by (with_reducible repeat (first | refine blk_drewN ?_ _ | refine blk_drew ?_ | refine blk_alloc ?_ _)); exact BK137.out⟩, ⟨by repeat (first | (with_reducible first | exact HI135.out | apply IsS75.alloc | apply IsS75.drewN | apply IsS75.drew | refine IsS75.far ?_ (by (repeat (first | exact (Opq.NP.blk BK137.out (by decide)) | (with_reducible apply Opq.NP.setCell) | (with_reducible apply Opq.NP.drewN) | (with_reducible apply Opq.NP.drew) | (with_reducible apply Opq.NP.alloc))); done) _) | exact HI135.out)⟩, ⟨by repeat (first | (with_reducible first | exact HB.out | apply below_alloc | apply pw_below_drewN | apply below_drew1 | refine below_set ?_ (IsS75.ge HI135.out) | refine below_set ?_ GE137.out) | exact HB.out)⟩⟩
   subst c29
   have H1 : (if 0 ≤ x10_3 then (if x10_3 < (x7_2.length : Int) then (if t139 = (rd x7_2 x10_3) then (TR.j3 k3 l0 l1 x6_2 x7_2 x8_2 x10_3 false t141 ((rd_T62 l0 x8_2).f0) ((rd_T62 l0 x8_2).f1.f0) ((rd_T62 l0 x8_2).f1.f1) ((rd_T62 l0 x8_2).f2)) else (TR.j3 k3 l0 l1 x6_2 x7_2 x8_2 x10_3 true t141 ((rd_T62 l0 x8_2).f0) ((rd_T62 l0 x8_2).f1.f0) ((rd_T62 l0 x8_2).f1.f1) ((rd_T62 l0 x8_2).f2))) else (none)) else (none)) = some r := by rw [if_pos rfl] at H; exact H
   clear H
   have H := H1
   clear H1
   by_cases c30 : 0 ≤ x10_3
   rotate_left
   ·rw [if_neg c30] at H
    exact absurd H (by simp)
   rw [if_pos c30] at H
   have c30b0 : decide (0 ≤ x10_3) = true := decide_eq_true c30
   clear c30
   by_cases c31 : x10_3 < (x7_2.length : Int)
   rotate_left
   ·rw [if_neg c31] at H
    exact absurd H (by simp)
   rw [if_pos c31] at H
   have c31b0 : decide (x10_3 < (x7_2.length : Int)) = true := decide_eq_true c31
   clear c31
   by_cases c32 : t139 = (rd x7_2 x10_3)
   rotate_left
   ·rw [if_neg c32] at H
    have c32b0 : (t139 == (rd x7_2 x10_3)) = false := beq_eq_false_iff_ne.mpr c32
    have c32b1 : (t139 != (rd x7_2 x10_3)) = true := bne_iff_ne.mpr c32
    have H' := Aside0.mk H
    clear H
    obtain ⟨Ao34, co34, eo34⟩ := Kd.R_slice HO_7.out
    subst eo34
    have p142 : 0 ≤ (x10_3 : Int) := of_decide_eq_true (by first | (with_reducible assumption) | assumption)
    have q142 : x10_3 < (x7_2.length : Int) := of_decide_eq_true (by first | (with_reducible assumption) | assumption)
    obtain ⟨ad142, e142, hx142_0⟩ := Kd.at_int (Kd.R_reads' HO_7.out).2.2 x10_3 p142 q142
    cases e142
    replace p142 := eq_true p142
    replace q142 := eq_true q142
    go_wp2
    go_meet
    case rel => exact ⟨_, (true), (by first | rfl | (simp; done) | (simp [*]; done)), H', ⟨by have := HJ2.out; have := HK2.out; have := HK3.out; first | omega | exact Nat.le_refl _⟩, ⟨by (with_reducible repeat (first | apply Kd.R_alloc | apply Kd.R_drewN | apply Kd.R_drew)); exact HO_6.out⟩, ⟨by (with_reducible repeat (first | apply Kd.R_alloc | apply Kd.R_drewN | apply Kd.R_drew)); exact HO_7.out⟩, ⟨by (with_reducible repeat (first | refine blk_drewN ?_ _ | refine blk_drew ?_ | refine blk_alloc ?_ _)); exact BK137.out⟩, ⟨by repeat (first | (with_reducible first | exact HI135.out | apply IsS75.alloc | apply IsS75.drewN | apply IsS75.drew | refine IsS75.far ?_ (by (repeat (first | exact (Opq.NP.blk BK137.out (by decide)) | (with_reducible apply Opq.NP.setCell) | (with_reducible apply Opq.NP.drewN) | (with_reducible apply Opq.NP.drew) | (with_reducible apply Opq.NP.alloc))); done) _) | exact HI135.out)⟩, ⟨by repeat (first | (with_reducible first | exact HB.out | apply below_alloc | apply pw_below_drewN | apply below_drew1 | refine below_set ?_ (IsS75.ge HI135.out) | refine below_set ?_ GE137.out) | exact HB.out)⟩⟩
   rw [if_pos c32] at H
   have c32b0 : (t139 == (rd x7_2 x10_3)) = true := beq_iff_eq.mpr c32
   have c32b1 : (t139 != (rd x7_2 x10_3)) = false := bne_eq_false_iff_eq.mpr c32
   clear c32
   have H' := Aside0.mk H
   clear H
   obtain ⟨Ao33, co33, eo33⟩ := Kd.R_slice HO_7.out
   subst eo33
   have p142 : 0 ≤ (x10_3 : Int) := of_decide_eq_true (by first | (with_reducible assumption) | assumption)
   have q142 : x10_3 < (x7_2.length : Int) := of_decide_eq_true (by first | (with_reducible assumption) | assumption)
   obtain ⟨ad142, e142, hx142_0⟩ := Kd.at_int (Kd.R_reads' HO_7.out).2.2 x10_3 p142 q142
   cases e142
   replace p142 := eq_true p142
   replace q142 := eq_true q142
   go_wp2
   go_meet
   case rel => exact ⟨_, (false), (by first | rfl | (simp; done) | (simp [*]; done)), H', ⟨by have := HJ2.out; have := HK2.out; have := HK3.out; first | omega | exact Nat.le_refl _⟩, ⟨by (with_reducible repeat (first | apply Kd.R_alloc | apply Kd.R_drewN | apply Kd.R_drew)); exact HO_6.out⟩, ⟨by (with_reducible repeat (first | apply Kd.R_alloc | apply Kd.R_drewN | apply Kd.R_drew)); exact HO_7.out⟩, ⟨by (with_reducible repeat (first | refine blk_drewN ?_ _ | refine blk_drew ?_ | refine blk_alloc ?_ _)); exact BK137.out⟩, ⟨by repeat (first | (with_reducible first | exact HI135.out | apply IsS75.alloc | apply IsS75.drewN | apply IsS75.drew | refine IsS75.far ?_ (by (repeat (first | exact (Opq.NP.blk BK137.out (by decide)) | (with_reducible apply Opq.NP.setCell) | (with_reducible apply Opq.NP.drewN) | (with_reducible apply Opq.NP.drew) | (with_reducible apply Opq.NP.alloc))); done) _) | exact HI135.out)⟩, ⟨by repeat (first | (with_reducible first | exact HB.out | apply below_alloc | apply pw_below_drewN | apply below_drew1 | refine below_set ?_ (IsS75.ge HI135.out) | refine below_set ?_ GE137.out) | exact HB.out)⟩⟩
  case rest => as_aux_lemma =>
   clear HC23
   try clear c1
   try clear p1
   try clear q1
   try clear hx1
   try clear c2
   try clear p2
   try clear c3
   try clear c4
   try clear c4b0
   try clear c4b1
   try clear c5
   try clear p6
   try clear c8
   try clear c10
   try clear c10b0
   try clear c11
   try clear c11b0
   try clear c13
   try clear p13
   try clear q13
   try clear hx13
   try clear p14
   try clear q14
   try clear hx14
   try clear c15
   try clear c15b0
   try clear c16
   try clear c16b0
   try clear c17
   try clear c17b0
   try clear c17b1
   try clear c17b2
   try clear c20
   try clear c24
   try clear c25
   try clear c28
   try clear c28b0
   try clear c28b1
   try clear c28b2
   try clear c29
   try clear c30
   try clear c30b0
   try clear c31
   try clear c31b0
   try clear c32
   try clear c32b0
   try clear c32b1
   try clear hcz14_0
   try clear hcz14_1
   try clear hcz14_2
   try clear hcz14_3
   try clear hcz26_0
   try clear hcz26_1
   try clear hcz26_2
   try clear hcz26_3
   try clear hfz14_0
   try clear hfz14_1
   try clear hfz14_2
   try clear hfz14_3
   try clear hfz26_0
   try clear hfz26_1
   try clear hfz26_2
   try clear hfz26_3
   try clear hx136_0
   try clear hx136_1
   try clear hx136_2
   try clear hx136_3
   try clear hx138_0
   try clear hx138_1
   try clear hx142_0
   try clear p1
   try clear p13
   try clear p136
   try clear p138
   try clear p142
   try clear p2
   try clear q1
   try clear q13
   try clear q136
   try clear q138
   try clear q142
   obtain ⟨kq, x84_22, rfl, HA, HJ22, HO_6, HO_7, BK137, HI135, HB⟩ := hcut
   cases kq with
   | zero => exact absurd HA.out (by simp [TR.j3])
   | succ kj22 =>
   have H := HA.out
   clear HA
   simp only [TR.j3] at H
   by_cases c35 : x84_22 = true
   ·subst c35
    have H1 : (some false) = some r := by rw [if_pos rfl] at H; exact H
    clear H
    have H := H1
    clear H1
    obtain rfl := Option.some.inj H
    go_wp2
    go_ret
    exact ⟨by first | rfl | (simp [errW_none, errW_some] <;> rfl) | (simp [*, errW_none, errW_some] <;> rfl), by repeat (first | (with_reducible first | exact HB.out | apply below_alloc | apply pw_below_drewN | apply below_drew1 | refine below_set ?_ (IsS75.ge HI135.out) | refine below_set ?_ GE137.out) | exact HB.out)⟩
   replace c35 := Bool.eq_false_iff.mpr c35
   subst c35
   have H1 : (if ((rd_T62 l0 x8_2).f0) = true then ((trie_Trie_Drop.f t141 ((rd_T62 l0 x8_2).f1.f0) ((rd_T62 l0 x8_2).f1.f1)).bind fun bt143 => (if (bt143.1 != (decide (x10_3 ≥ 0))) = true then (some false) else (if x10_3 ≥ 0 then ((some (([] : List (S47)) : List (S47))).bind fun y145 => (if 0 ≤ x10_3 then (if x10_3 ≤ (x6_2.length : Int) then ((some (x6_2.take (x10_3 : Int).toNat : List (S47))).bind fun y148 => (if y145.length + y148.length < 8796093022208 then ((some (y145 ++ y148 : List (S47))).bind fun y152 => (if 0 ≤ (wrap64 (x10_3 + 1)) then (if (wrap64 (x10_3 + 1)) ≤ (x6_2.length : Int) then ((some (x6_2.drop ((wrap64 (x10_3 + 1)) : Int).toNat : List (S47))).bind fun y155 => (if y152.length + y155.length < 8796093022208 then ((some (([] : List Int) : List Int)).bind fun y162 => (if x10_3 ≤ (x7_2.length : Int) then ((some (x7_2.take (x10_3 : Int).toNat : List Int)).bind fun y165 => (if y162.length + y165.length < 17592186044416 then ((some (y162 ++ y165 : List Int)).bind fun y169 => (if (wrap64 (x10_3 + 1)) ≤ (x7_2.length : Int) then ((some (x7_2.drop ((wrap64 (x10_3 + 1)) : Int).toNat : List Int)).bind fun y172 => (if y169.length + y172.length < 17592186044416 then (TR.l0 kj22 l0 l1 (y152 ++ y155) (y169 ++ y172) (wrap64 (x8_2 + 1)) bt143.2) else (none))) else (none))) else (none))) else (none))) else (none))) else (none)) else (none))) else (none))) else (none)) else (none))) else (TR.l0 kj22 l0 l1 x6_2 x7_2 (wrap64 (x8_2 + 1)) bt143.2)))) else ((trie_Trie_Set.f t141 ((rd_T62 l0 x8_2).f1.f0) ((rd_T62 l0 x8_2).f1.f1) ((rd_T62 l0 x8_2).f2)).bind fun bt179 => ((interregnumref05_Right.f kj22 ((rd_T62 l0 x8_2).f1.f0) ((rd_T62 l0 x8_2).f1.f1)).bind fun t181 => (if (bt179.1 != t181) = true then (some false) else (if x10_3 ≥ 0 then (if 0 ≤ x10_3 then (if x10_3 < (x7_2.length : Int) then (TR.l0 kj22 l0 l1 x6_2 (x7_2.set (x10_3 : Int).toNat ((rd_T62 l0 x8_2).f2)) (wrap64 (x8_2 + 1)) bt179.2) else (none)) else (none)) else ((interregnumref05_Right.f kj22 ((rd_T62 l0 x8_2).f1.f0) ((rd_T62 l0 x8_2).f1.f1)).bind fun t183 => (if t183 = true then ((some (([(⟨((rd_T62 l0 x8_2).f1.f0), ((rd_T62 l0 x8_2).f1.f1)⟩ : S47)] : List (S47)) : List (S47))).bind fun y184 => (if x6_2.length + y184.length < 8796093022208 then ((some (x6_2 ++ y184 : List (S47))).bind fun y187 => ((some (([((rd_T62 l0 x8_2).f2)] : List Int) : List Int)).bind fun y190 => (if x7_2.length + y190.length < 17592186044416 then (TR.l2 kj22 l0 l1 y187 (x7_2 ++ y190) x8_2 (wrap64 ((y187.length : Int) - 1)) bt179.2) else (none)))) else (none))) else (TR.l0 kj22 l0 l1 x6_2 x7_2 (wrap64 (x8_2 + 1)) bt179.2)))))))) = some r := by rw [if_neg (show ¬ (false = true) by decide)] at H; exact H
   clear H
   have H := H1
   clear H1
   by_cases c36 : ((rd_T62 l0 x8_2).f0) = true
   ·rename_i z1_ z2_ z3_ z4_ z5_ z6_ z7_ z8_ z9_ z10_ z11_ z12_ z13_ z14_ z15_ z16_ z17_ z18_ z19_ z20_ z21_ z22_ z23_ z24_ z25_ z26_ z27_ z28_ z29_ z30_ z31_ z32_ z33_ z34_ z35_ z36_ z37_ z38_ z39_ z40_ z41_ z42_ z43_ z44_ z45_ z46_ z47_ z48_ z49_ z50_ z51_ z52_ z53_ z54_ z55_ z56_ z57_ z58_ z59_ z60_ z61_ z62_ z63_ z64_ z65_ z66_ z67_ z68_ z69_ z70_ z71_ z72_ z73_ z74_ z75_ z76_ z77_ z78_ z79_ z80_ z81_ z82_ z83_ z84_ z85_ z86_ z87_ z88_ z89_ z90_ z91_ z92_ z93_ z94_ z95_ z96_ z97_ z98_ z99_ z100_ z101_ z102_ z103_ z104_ z105_ z106_ z107_ z108_ z109_ z110_ z111_ z112_ z113_ z114_ z115_ z116_ z117_ z118_ z119_ z120_ z121_ z122_ z123_ z124_ z125_ z126_ z127_ z128_ z129_ z130_ z131_ z132_ z133_ z134_ z135_ z136_ z137_ z138_ z139_ z140_ z141_ z142_ z143_ z144_ z145_ z146_ z147_ z148_ z149_ z150_ z151_ z152_ z153_ z154_ z155_ z156_ z157_ z158_ z159_ z160_ z161_ z162_ z163_ z164_ z165_ z166_ z167_ z168_ z169_ z170_ z171_ z172_ z173_ z174_ z175_ z176_ z177_ z178_ z179_ z180_ z181_ z182_ z183_ z184_ z185_ z186_ z187_ z188_ z189_ z190_ z191_ z192_ z193_ z194_ z195_ z196_ z197_ z198_ z199_ z200_ z201_ z202_ z203_ z204_ z205_ z206_ z207_ z208_ z209_ z210_ z211_ z212_ z213_ z214_ z215_ z216_ z217_ z218_ z219_ z220_ z221_ z222_ z223_ z224_ z225_ z226_ z227_ z228_ z229_ z230_ z231_ z232_ z233_ z234_ z235_ z236_ z237_ z238_ z239_ z240_ z241_ z242_ z243_ z244_ z245_ z246_ z247_ z248_ z249_ z250_ z251_ z252_ z253_ z254_ z255_ z256_ z257_ z258_ z259_ z260_ z261_ z262_ z263_ z264_ z265_ z266_ z267_ z268_ z269_ z270_ z271_ z272_ z273_ z274_ z275_ z276_ z277_ z278_ z279_ z280_ z281_ z282_ z283_ z284_ z285_ z286_ z287_ z288_ z289_ z290_ z291_ z292_ z293_ z294_ z295_ z296_ z297_ z298_ z299_ z300_ z301_ z302_ z303_ z304_ z305_ z306_ z307_ z308_ z309_ z310_ z311_ z312_ z313_ z314_ z315_ z316_ z317_ z318_ z319_ z320_ z321_ z322_ z323_ z324_ z325_ z326_ z327_ z328_ z329_ z330_ z331_ z332_ z333_ z334_ z335_ z336_ z337_ z338_ z339_ z340_ z341_ z342_ z343_ z344_ z345_ z346_ z347_ z348_ z349_ z350_ z351_ z352_ z353_ z354_ z355_ z356_ z357_ z358_ z359_ z360_ z361_ z362_ z363_ z364_ z365_ z366_ z367_ z368_ z369_ z370_ z371_ z372_ z373_ z374_ z375_ z376_ z377_ z378_ z379_ z380_
    revert k c0 l0 A1 c1 l1 r w hu62 hu47 HC0 HR1 HC1 z1_ z2_ z3_ u21 u22 u23 u24 u25 u26 u27 u29 u30 z4_ z5_ z6_ z7_ z8_ z9_ z10_ z11_ z12_ z13_ z14_ z15_ z16_ z17_ z18_ z19_ z20_ z21_ z22_ z23_ z24_ z25_ z26_ z27_ z28_ z29_ z30_ z31_ z32_ z33_ z34_ z35_ z36_ z37_ z38_ z39_ z40_ z41_ z42_ z43_ z44_ z45_ z46_ z47_ z48_ z49_ z50_ z51_ z52_ z53_ z54_ z55_ z56_ z57_ z58_ z59_ z60_ z61_ z62_ z63_ z64_ z65_ z66_ z67_ z68_ z69_ z70_ z71_ z72_ z73_ z74_ z75_ z76_ z77_ z78_ z79_ z80_ z81_ z82_ z83_ z84_ z85_ z86_ z87_ z88_ z89_ z90_ z91_ z92_ z93_ z94_ z95_ z96_ z97_ z98_ z99_ z100_ z101_ z102_ z103_ z104_ z105_ z106_ z107_ z108_ z109_ z110_ z111_ z112_ z113_ z114_ z115_ z116_ z117_ z118_ z119_ z120_ z121_ z122_ z123_ z124_ z125_ z126_ z127_ z128_ z129_ z130_ z131_ z132_ z133_ z134_ z135_ z136_ z137_ z138_ z139_ z140_ z141_ z142_ z143_ z144_ z145_ z146_ z147_ z148_ z149_ z150_ z151_ z152_ z153_ z154_ z155_ z156_ z157_ z158_ z159_ z160_ z161_ z162_ z163_ z164_ z165_ z166_ z167_ z168_ z169_ u197 u198 u199 u200 u201 u202 u203 u204 u205 u206 u207 u208 u209 u210 u211 u212 u213 u214 u215 u216 u217 u218 u219 u220 u221 u222 u223 u224 u225 u226 u227 u228 u229 u230 u231 u232 u233 u234 u235 u236 u237 u238 u239 u240 u241 u242 u243 u244 u245 u246 u247 u248 u249 u250 u251 u252 u253 u254 u255 u256 u257 u258 u259 u260 u261 u262 u263 u264 u265 u266 u267 u268 u269 u270 u271 u272 u273 u274 u275 u276 u277 u278 u279 u280 u281 u282 u283 u284 u285 u286 u287 u288 u289 kj2 HJ2 t134 A8 w9 g135 z170_ z171_ z172_ z173_ z174_ u4 u7 u9 u10 u11 u12 u13 u14 z175_ z176_ z177_ z178_ z179_ z180_ z181_ z182_ z183_ z184_ z185_ z186_ z187_ z188_ z189_ z190_ z191_ z192_ z193_ z194_ z195_ z196_ z197_ z198_ z199_ z200_ z201_ z202_ z203_ z204_ z205_ z206_ z207_ z208_ z209_ z210_ z211_ z212_ z213_ z214_ z215_ z216_ z217_ z218_ z219_ z220_ z221_ z222_ z223_ z224_ z225_ z226_ z227_ u84 z228_ z229_ z230_ z231_ z232_ z233_ z234_ z235_ z236_ z237_ z238_ z239_ z240_ z241_ z242_ z243_ z244_ z245_ z246_ z247_ z248_ z249_ z250_ z251_ z252_ z253_ z254_ z255_ z256_ z257_ z258_ z259_ z260_ z261_ z262_ z263_ z264_ z265_ z266_ z267_ z268_ z269_ z270_ z271_ z272_ z273_ z274_ z275_ z276_ z277_ z278_ z279_ z280_ z281_ z282_ z283_ z284_ z285_ z286_ z287_ z288_ z289_ z290_ z291_ z292_ z293_ z294_ z295_ z296_ z297_ z298_ z299_ z300_ z301_ z302_ z303_ z304_ z305_ z306_ z307_ z308_ z309_ z310_ z311_ z312_ z313_ z314_ z315_ z316_ z317_ z318_ z319_ z320_ z321_ z322_ z323_ z324_ z325_ z326_ z327_ z328_ z329_ z330_ z331_ z332_ z333_ z334_ z335_ z336_ z337_ z338_ z339_ z340_ z341_ x6_2 x7_2 x8_2 x136000_2 k2 z342_ HK2 ad136 HR0 z343_ z344_ z345_ gb137 w12 z346_ z347_ z348_ z349_ GW137 GE137 NB135_137 NB137_135 hnb13 hnc13 z350_ wr z351_ z352_ z353_ z354_ z355_ z356_ z357_ z358_ z359_ z360_ z361_ z362_ z363_ z364_ z365_ z366_ x10_3 x11_3 k3 z367_ HK3 t139 t140 t141 A22 Ao24 co24 z368_ z369_ hnb25 hnc25 z370_ z371_ w27 z372_ z373_ z374_ z375_ z376_ z377_ z378_ z379_ z380_ wc u31 u32 u33 u34 u35 u36 u37 u38 u39 u40 u41 u42 u43 u44 u45 u46 u47 u48 u49 u50 u51 u52 u53 u54 u55 u56 u57 u58 u59 u60 u61 u62 u63 u64 u65 u66 u67 u68 u69 u70 u71 u72 u73 u74 u75 u76 u77 u78 u79 u80 u81 u82 u83 u85 u86 u87 u88 u89 u90 u91 u92 u93 u94 u95 u96 u97 u98 u99 u100 u101 u102 u103 u104 u105 u106 u107 u108 u109 u110 u111 u112 u113 u114 u115 u116 u117 u118 u119 u120 u121 u122 u123 u124 u125 u126 u127 u128 u129 u130 u131 u132 u133 u134 u135 u136 u137 u138 u139 u140 u141 u142 u143 u144 u145 u146 u147 u148 u149 u150 u151 u152 u153 u154 u155 u156 u157 u158 u159 u160 u161 u162 u163 u164 u165 u166 u167 u168 u169 u170 u171 u172 u173 u174 u175 u176 u177 u178 u179 u180 u181 u182 u183 u184 u185 u186 u187 u188 u189 u190 u191 u192 u193 u194 u195 u196 HO_6 HO_7 BK137 HI135 HB kj22 HJ22 H c36
    exact hP_2.out
   rw [if_neg c36] at H
   have c36b0 : ((rd_T62 l0 x8_2).f0) = false := by simpa using c36
   clear c36
   replace H := Option.bind_eq_some_iff.mp H
   obtain ⟨⟨t179, t180⟩, A770, H⟩ := H
   replace H : ((interregnumref05_Right.f kj22 ((rd_T62 l0 x8_2).f1.f0) ((rd_T62 l0 x8_2).f1.f1)).bind fun t181 => (if (t179 != t181) = true then (some false) else (if x10_3 ≥ 0 then (if 0 ≤ x10_3 then (if x10_3 < (x7_2.length : Int) then (TR.l0 kj22 l0 l1 x6_2 (x7_2.set (x10_3 : Int).toNat ((rd_T62 l0 x8_2).f2)) (wrap64 (x8_2 + 1)) t180) else (none)) else (none)) else ((interregnumref05_Right.f kj22 ((rd_T62 l0 x8_2).f1.f0) ((rd_T62 l0 x8_2).f1.f1)).bind fun t183 => (if t183 = true then ((some (([(⟨((rd_T62 l0 x8_2).f1.f0), ((rd_T62 l0 x8_2).f1.f1)⟩ : S47)] : List (S47)) : List (S47))).bind fun y184 => (if x6_2.length + y184.length < 8796093022208 then ((some (x6_2 ++ y184 : List (S47))).bind fun y187 => ((some (([((rd_T62 l0 x8_2).f2)] : List Int) : List Int)).bind fun y190 => (if x7_2.length + y190.length < 17592186044416 then (TR.l2 kj22 l0 l1 y187 (x7_2 ++ y190) x8_2 (wrap64 ((y187.length : Int) - 1)) t180) else (none)))) else (none))) else (TR.l0 kj22 l0 l1 x6_2 x7_2 (wrap64 (x8_2 + 1)) t180)))))) = some r := H
   have A77 := Aside0.mk A770
   clear A770
   replace H := Option.bind_eq_some_iff.mp H
   obtain ⟨t181, A780, H⟩ := H
   replace H : (if (t179 != t181) = true then (some false) else (if x10_3 ≥ 0 then (if 0 ≤ x10_3 then (if x10_3 < (x7_2.length : Int) then (TR.l0 kj22 l0 l1 x6_2 (x7_2.set (x10_3 : Int).toNat ((rd_T62 l0 x8_2).f2)) (wrap64 (x8_2 + 1)) t180) else (none)) else (none)) else ((interregnumref05_Right.f kj22 ((rd_T62 l0 x8_2).f1.f0) ((rd_T62 l0 x8_2).f1.f1)).bind fun t183 => (if t183 = true then ((some (([(⟨((rd_T62 l0 x8_2).f1.f0), ((rd_T62 l0 x8_2).f1.f1)⟩ : S47)] : List (S47)) : List (S47))).bind fun y184 => (if x6_2.length + y184.length < 8796093022208 then ((some (x6_2 ++ y184 : List (S47))).bind fun y187 => ((some (([((rd_T62 l0 x8_2).f2)] : List Int) : List Int)).bind fun y190 => (if x7_2.length + y190.length < 17592186044416 then (TR.l2 kj22 l0 l1 y187 (x7_2 ++ y190) x8_2 (wrap64 ((y187.length : Int) - 1)) t180) else (none)))) else (none))) else (TR.l0 kj22 l0 l1 x6_2 x7_2 (wrap64 (x8_2 + 1)) t180))))) = some r := H
   have A78 := Aside0.mk A780
   clear A780
   by_cases c79 : (t179 != t181) = true
   ·rw [if_pos c79] at H
    have c79b0 : (t179 != t181) = true := c79
    (try (have c79b1 : decide (t179 = t181) = false := by simpa using c79))
    (try (have c79b2 : (t179 == t181) = false := by simpa using c79))
    (try (have c79b3 : ¬ (t179 = t181) := by simpa using c79))
    clear c79
    obtain rfl := Option.some.inj H
    have hnb80 := NB137_135.out
    have hnc80 := NB135_137.out
    have hcz81_0 : wc.cell? ⟨gb137, 0, none⟩ = some (.bool ((rd_T62 l0 x8_2).f0)) := (blk_cell BK137.out 0).trans rfl
    have hcz81_1 : wc.cell? ⟨gb137, 1, none⟩ = some (.int .u32 ((rd_T62 l0 x8_2).f1.f0)) := (blk_cell BK137.out 1).trans rfl
    have hcz81_2 : wc.cell? ⟨gb137, 2, none⟩ = some (.int .i64 ((rd_T62 l0 x8_2).f1.f1)) := (blk_cell BK137.out 2).trans rfl
    have hcz81_3 : wc.cell? ⟨gb137, 3, none⟩ = some (.int .i64 ((rd_T62 l0 x8_2).f2)) := (blk_cell BK137.out 3).trans rfl
    have hfz81_0 := blk_frozen BK137.out 0
    have hfz81_1 := blk_frozen BK137.out 1
    have hfz81_2 := blk_frozen BK137.out 2
    have hfz81_3 := blk_frozen BK137.out 3
    try go_wp2
    have n0_ := Aside0.mk (Kd.R_drew HO_6.out)
    have n1_ := Aside0.mk (Kd.R_drew HO_7.out)
    have n2_ := Aside0.mk (blk_drew BK137.out)
    have n3_ := Aside0.mk (IsS75.drew HI135.out)
    have n4_ := Aside0.mk (below_drew1 HB.out)
    clear HO_6 HO_7 BK137 HI135 HB
    have HO_6 := n0_; have HO_7 := n1_; have BK137 := n2_; have HI135 := n3_; have HB := n4_
    clear n0_ n1_ n2_ n3_ n4_
    refine start_ (n := 10) (S := fun w' => w'.cell? ⟨gb137, 0, none⟩ = some (.bool ((rd_T62 l0 x8_2).f0)) ∧ w'.cell? ⟨gb137, 1, none⟩ = some (.int .u32 ((rd_T62 l0 x8_2).f1.f0)) ∧ w'.cell? ⟨gb137, 2, none⟩ = some (.int .i64 ((rd_T62 l0 x8_2).f1.f1)) ∧ w'.cell? ⟨gb137, 3, none⟩ = some (.int .i64 ((rd_T62 l0 x8_2).f2))) (ds := []) #[F_,F_,F_,F_,F_,F_,F_,F_,F_,F_] (by kernel_rfl) rfl rfl ⟨(blk_cell BK137.out 0).trans rfl, (blk_cell BK137.out 1).trans rfl, (blk_cell BK137.out 2).trans rfl, (blk_cell BK137.out 3).trans rfl⟩ (fun hHeld => ?_); refine with_tabW TR.tab24 TR.bits24 (fun HT_ HW_ => ?_)
    generalize wc.drew = w82 at HO_6 HO_7 BK137 HI135 HB hHeld ⊢
    refine pure_ (i := 0) (N := some 116) (v := ?_) (a' := ?_) #[T_,F_,F_,F_,F_,F_,F_,F_,F_,F_] rfl rfl (any_of HT_.out (by kernel_rfl)) (fun _ _ _ h => h) (Or.inl ⟨by rfl, ?_⟩) ?_ ?_
    rotate_left
    ·intro w'
     go_simp
     with_reducible rfl
    rotate_left
    ·simp only [Act.put, q1_, q2_, q3_, i64_w, i32_w]
     rfl
    refine pure_ (i := 1) (N := some 117) (v := ?_) (a' := ?_) #[T_,T_,F_,F_,F_,F_,F_,F_,F_,F_] rfl rfl (any_of HT_.out (by kernel_rfl)) (fun _ _ _ h => h) (Or.inl ⟨by rfl, ?_⟩) ?_ ?_
    rotate_left
    ·intro w'
     go_simp
     with_reducible rfl
    rotate_left
    ·simp only [Act.put, q1_, q2_, q3_, i64_w, i32_w]
     rfl
    refine pure_ (i := 3) (N := some 119) (v := ?_) (a' := ?_) #[T_,T_,F_,T_,F_,F_,F_,F_,F_,F_] rfl rfl (any_of HT_.out (by kernel_rfl)) (fun _ _ _ h => h) (Or.inl ⟨by rfl, ?_⟩) ?_ ?_
    rotate_left
    ·intro w'
     go_simp
     with_reducible rfl
    rotate_left
    ·simp only [Act.put, q1_, q2_, q3_, i64_w, i32_w]
     rfl
    refine pure_ (i := 6) (N := some 122) (v := ?_) (a' := ?_) #[T_,T_,F_,T_,F_,F_,T_,F_,F_,F_] rfl rfl (any_of HT_.out (by kernel_rfl)) (fun _ _ _ h => h) (Or.inl ⟨by rfl, ?_⟩) ?_ ?_
    rotate_left
    ·intro w'
     go_simp
     with_reducible rfl
    rotate_left
    ·simp only [Act.put, q1_, q2_, q3_, i64_w, i32_w]
     rfl
    refine take_ (i := 2) (N := some 118) (v := ?_) (a' := ?_) #[T_,T_,T_,T_,F_,F_,T_,F_,F_,F_] rfl rfl (take_ofW HT_.out HW_.out (by kernel_rfl)) (fun _ _ _ h => h) (Or.inl ⟨by rfl, ?_⟩) hHeld ?_ ?_
    rotate_left
    ·rintro w' ⟨s0, s1, s2, s3⟩
     go_simp
     with_reducible rfl
    rotate_left
    ·simp only [Act.put, q1_, q2_, q3_, i64_w, i32_w]
     rfl
    refine take_ (i := 4) (N := some 120) (v := ?_) (a' := ?_) #[T_,T_,T_,T_,T_,F_,T_,F_,F_,F_] rfl rfl (take_ofW HT_.out HW_.out (by kernel_rfl)) (fun _ _ _ h => h) (Or.inl ⟨by rfl, ?_⟩) hHeld ?_ ?_
    rotate_left
    ·rintro w' ⟨s0, s1, s2, s3⟩
     go_simp
     with_reducible rfl
    rotate_left
    ·simp only [Act.put, q1_, q2_, q3_, i64_w, i32_w]
     rfl
    refine take_ (i := 7) (N := some 123) (v := ?_) (a' := ?_) #[T_,T_,T_,T_,T_,F_,T_,T_,F_,F_] rfl rfl (take_ofW HT_.out HW_.out (by kernel_rfl)) (fun _ _ _ h => h) (Or.inl ⟨by rfl, ?_⟩) hHeld ?_ ?_
    rotate_left
    ·rintro w' ⟨s0, s1, s2, s3⟩
     go_simp
     with_reducible rfl
    rotate_left
    ·simp only [Act.put, q1_, q2_, q3_, i64_w, i32_w]
     rfl
    refine one_ (i := 5) (N := some 121) #[T_,T_,T_,T_,T_,T_,T_,T_,F_,F_] rfl rfl (one_of HT_.out (by kernel_rfl)) (by decide) (fun K hK => ?_)
    refine goes_ Try.func17 (by kernel_rfl) rfl #[.pointer (some ⟨g135, 0, none⟩), .agg #[.int .u32 ((rd_T62 l0 x8_2).f1.f0), .int .i64 ((rd_T62 l0 x8_2).f1.f1)], .int .i64 ((rd_T62 l0 x8_2).f2)] (by rfl) rfl rfl (by (try simp only [List.map_toArray, List.map_cons, List.map_nil]); first | done | rfl | (simp only [List.length_drop, List.length_take]; rfl)) ?_
    with_reducible refine (trie_Trie_Set.calls g135 t141 ((rd_T62 l0 x8_2).f1.f0) ((rd_T62 l0 x8_2).f1.f1) ((rd_T62 l0 x8_2).f2) t179 t180 w _ ?side1 ?side2 A77.out).mono ?_
    (case side1 => repeat (first | (with_reducible first | exact HI135.out | apply IsS75.alloc | apply IsS75.drewN | apply IsS75.drew | refine IsS75.far ?_ (by (repeat (first | exact (Opq.NP.blk BK137.out (by decide)) | (with_reducible apply Opq.NP.setCell) | (with_reducible apply Opq.NP.drewN) | (with_reducible apply Opq.NP.drew) | (with_reducible apply Opq.NP.alloc))); done) _) | exact HI135.out))
    (case side2 => repeat (first | (with_reducible first | exact HB.out | apply below_alloc | apply pw_below_drewN | apply below_drew1 | refine below_set ?_ (IsS75.ge HI135.out) | refine below_set ?_ GE137.out) | exact HB.out))
    rintro e w83 ⟨rfl, hi, hb, hk⟩
    refine ⟨_, rfl, ?_⟩
    have n0_ := Aside0.mk (Opq.R_keep (by (with_reducible repeat (first|apply Kd.R_alloc|apply Kd.R_drewN|apply Kd.R_drew)); exact HO_6.out) hk (by decide))
    have n1_ := Aside0.mk (Opq.R_keep (by (with_reducible repeat (first|apply Kd.R_alloc|apply Kd.R_drewN|apply Kd.R_drew)); exact HO_7.out) hk (by decide))
    have n2_ := Aside0.mk (Opq.KeepO.blk2 hk (g := gb137) (o := .cells #[.bool ((rd_T62 l0 x8_2).f0), .int .u32 ((rd_T62 l0 x8_2).f1.f0), .int .i64 ((rd_T62 l0 x8_2).f1.f1), .int .i64 ((rd_T62 l0 x8_2).f2)] 62 (0, 0)) (by (with_reducible repeat (first | refine blk_drewN ?_ _ | refine blk_drew ?_ | refine blk_alloc ?_ _)); exact BK137.out) (by rfl))
    have n3_ := Aside0.mk (hb)
    have n4_ := Aside0.mk (hi)
    clear HO_6 HO_7 BK137 HB HI135
    have HO_6 := n0_; have HO_7 := n1_; have BK137 := n2_; have HB := n3_; have HI135 := n4_
    clear n0_ n1_ n2_ n3_ n4_
    (try clear hb)
    (try clear hb2)
    (try clear hk)
    (try clear hi)
    refine hK.out _ _ ⟨(blk_cell BK137.out 0).trans rfl, (blk_cell BK137.out 1).trans rfl, (blk_cell BK137.out 2).trans rfl, (blk_cell BK137.out 3).trans rfl⟩ (fun hHeld => ?_)
    clear hK K
    refine norm_ (a' := ?_) ?_ ?_
    rotate_left
    ·show Act.put _ (some 121) _ = _
     simp only [Act.put, q1_, q2_, q3_, i64_w, i32_w]
     rfl
    refine one_ (i := 8) (N := some 124) #[T_,T_,T_,T_,T_,T_,T_,T_,T_,F_] rfl rfl (one_of HT_.out (by kernel_rfl)) (by decide) (fun K hK => ?_)
    refine goes_ Try.func25 (by kernel_rfl) rfl #[.agg #[.int .u32 ((rd_T62 l0 x8_2).f1.f0), .int .i64 ((rd_T62 l0 x8_2).f1.f1)]] (by rfl) rfl rfl (by (try simp only [List.map_toArray, List.map_cons, List.map_nil]); first | done | rfl | (simp only [List.length_drop, List.length_take]; rfl)) ?_
    with_reducible refine (interregnumref05_Right.calls kj22 ((rd_T62 l0 x8_2).f1.f0) ((rd_T62 l0 x8_2).f1.f1) t181 _ A78.out).mono ?_
    rintro e w84 ⟨rfl, hb⟩
    refine ⟨_, rfl, ?_⟩
    have n0_ := Aside0.mk (Kd.R_below (by (with_reducible repeat (first|apply Kd.R_alloc|apply Kd.R_drewN|apply Kd.R_drew)); exact HO_6.out) hb)
    have n1_ := Aside0.mk (Kd.R_below (by (with_reducible repeat (first|apply Kd.R_alloc|apply Kd.R_drewN|apply Kd.R_drew)); exact HO_7.out) hb)
    have n2_ := Aside0.mk (blk_below (g := gb137) (o := .cells #[.bool ((rd_T62 l0 x8_2).f0), .int .u32 ((rd_T62 l0 x8_2).f1.f0), .int .i64 ((rd_T62 l0 x8_2).f1.f1), .int .i64 ((rd_T62 l0 x8_2).f2)] 62 (0, 0)) (by (with_reducible repeat (first | refine blk_drewN ?_ _ | refine blk_drew ?_ | refine blk_alloc ?_ _)); exact BK137.out) hb)
    have n3_ := Aside0.mk (IsS75.below (by repeat (first | (with_reducible first | exact HI135.out | apply IsS75.alloc | apply IsS75.drewN | apply IsS75.drew | refine IsS75.far ?_ (by (repeat (first | exact (Opq.NP.blk BK137.out (by decide)) | (with_reducible apply Opq.NP.setCell) | (with_reducible apply Opq.NP.drewN) | (with_reducible apply Opq.NP.drew) | (with_reducible apply Opq.NP.alloc))); done) _) | exact HI135.out)) hb)
    have n4_ := Aside0.mk (below_step (by repeat (first | (with_reducible first | exact HB.out | apply below_alloc | apply pw_below_drewN | apply below_drew1 | refine below_set ?_ (IsS75.ge HI135.out) | refine below_set ?_ GE137.out) | exact HB.out)) hb)
    clear HO_6 HO_7 BK137 HI135 HB
    have HO_6 := n0_; have HO_7 := n1_; have BK137 := n2_; have HI135 := n3_; have HB := n4_
    clear n0_ n1_ n2_ n3_ n4_
    (try clear hb)
    (try clear hb2)
    (try clear hk)
    (try clear hi)
    refine hK.out _ _ ⟨(blk_cell BK137.out 0).trans rfl, (blk_cell BK137.out 1).trans rfl, (blk_cell BK137.out 2).trans rfl, (blk_cell BK137.out 3).trans rfl⟩ (fun hHeld => ?_)
    clear hK K
    refine norm_ (a' := ?_) ?_ ?_
    rotate_left
    ·show Act.put _ (some 124) _ = _
     simp only [Act.put, q1_, q2_, q3_, i64_w, i32_w]
     rfl
    refine pure_ (i := 9) (N := some 125) (v := ?_) (a' := ?_) #[T_,T_,T_,T_,T_,T_,T_,T_,T_,T_] rfl rfl (any_of HT_.out (by kernel_rfl)) (fun _ _ _ h => h) (Or.inl ⟨by rfl, ?_⟩) ?_ ?_
    rotate_left
    ·intro w'
     go_simp
     with_reducible rfl
    rotate_left
    ·simp only [Act.put, q1_, q2_, q3_, i64_w, i32_w]
     rfl
    refine done_ (done_of HT_.out (by kernel_rfl)) ?_
    try go_wp2
    go_ret
    exact ⟨by first | rfl | (simp [errW_none, errW_some] <;> rfl) | (simp [*, errW_none, errW_some] <;> rfl), by repeat (first | (with_reducible first | exact HB.out | apply below_alloc | apply pw_below_drewN | apply below_drew1 | refine below_set ?_ (IsS75.ge HI135.out) | refine below_set ?_ GE137.out) | exact HB.out)⟩
   rw [if_neg c79] at H
   have c79b0 : (t179 != t181) = false := by simpa using c79
   (try (have c79b1 : decide (t179 = t181) = true := by simpa using c79))
   (try (have c79b2 : (t179 == t181) = true := by simpa using c79))
   clear c79
   by_cases c85 : x10_3 ≥ 0
   ·rw [if_pos c85] at H
    have c85b0 : decide (0 ≤ x10_3) = true := decide_eq_true c85
    clear c85
    by_cases c86 : 0 ≤ x10_3
    rotate_left
    ·rw [if_neg c86] at H
     exact absurd H (by simp)
    rw [if_pos c86] at H
    have c86b0 : decide (0 ≤ x10_3) = true := decide_eq_true c86
    clear c86
    by_cases c87 : x10_3 < (x7_2.length : Int)
    rotate_left
    ·rw [if_neg c87] at H
     exact absurd H (by simp)
    rw [if_pos c87] at H
    have c87b0 : decide (x10_3 < (x7_2.length : Int)) = true := decide_eq_true c87
    clear c87
    obtain ⟨y182, hy182⟩ : ∃ y_ : List Int, y_ = (x7_2.set (x10_3 : Int).toNat ((rd_T62 l0 x8_2).f2)) := ⟨_, rfl⟩
    replace H : (TR.l0 kj22 l0 l1 x6_2 y182 (wrap64 (x8_2 + 1)) t180) = some r := by first | (rw [hy182]; with_reducible exact H) | (have H2_ := (Option.bind_some _ _).symm.trans H; rw [hy182]; with_reducible exact H2_) | (have H2_ := (Option.bind_some _ _).symm.trans H; with_reducible exact H2_) | with_reducible exact H | (rw [hy182]; exact H) | exact H
    have Ny182 := Aside0.mk hy182
    clear hy182
    have H' := Aside0.mk H
    clear H
    have hnb89 := NB137_135.out
    have hnc89 := NB135_137.out
    have hcz90_0 : wc.cell? ⟨gb137, 0, none⟩ = some (.bool ((rd_T62 l0 x8_2).f0)) := (blk_cell BK137.out 0).trans rfl
    have hcz90_1 : wc.cell? ⟨gb137, 1, none⟩ = some (.int .u32 ((rd_T62 l0 x8_2).f1.f0)) := (blk_cell BK137.out 1).trans rfl
    have hcz90_2 : wc.cell? ⟨gb137, 2, none⟩ = some (.int .i64 ((rd_T62 l0 x8_2).f1.f1)) := (blk_cell BK137.out 2).trans rfl
    have hcz90_3 : wc.cell? ⟨gb137, 3, none⟩ = some (.int .i64 ((rd_T62 l0 x8_2).f2)) := (blk_cell BK137.out 3).trans rfl
    have hfz90_0 := blk_frozen BK137.out 0
    have hfz90_1 := blk_frozen BK137.out 1
    have hfz90_2 := blk_frozen BK137.out 2
    have hfz90_3 := blk_frozen BK137.out 3
    try go_wp2
    have n0_ := Aside0.mk (Kd.R_drew HO_6.out)
    have n1_ := Aside0.mk (Kd.R_drew HO_7.out)
    have n2_ := Aside0.mk (blk_drew BK137.out)
    have n3_ := Aside0.mk (IsS75.drew HI135.out)
    have n4_ := Aside0.mk (below_drew1 HB.out)
    clear HO_6 HO_7 BK137 HI135 HB
    have HO_6 := n0_; have HO_7 := n1_; have BK137 := n2_; have HI135 := n3_; have HB := n4_
    clear n0_ n1_ n2_ n3_ n4_
    refine start_ (n := 10) (S := fun w' => w'.cell? ⟨gb137, 0, none⟩ = some (.bool ((rd_T62 l0 x8_2).f0)) ∧ w'.cell? ⟨gb137, 1, none⟩ = some (.int .u32 ((rd_T62 l0 x8_2).f1.f0)) ∧ w'.cell? ⟨gb137, 2, none⟩ = some (.int .i64 ((rd_T62 l0 x8_2).f1.f1)) ∧ w'.cell? ⟨gb137, 3, none⟩ = some (.int .i64 ((rd_T62 l0 x8_2).f2))) (ds := []) #[F_,F_,F_,F_,F_,F_,F_,F_,F_,F_] (by kernel_rfl) rfl rfl ⟨(blk_cell BK137.out 0).trans rfl, (blk_cell BK137.out 1).trans rfl, (blk_cell BK137.out 2).trans rfl, (blk_cell BK137.out 3).trans rfl⟩ (fun hHeld => ?_); refine with_tabW TR.tab24 TR.bits24 (fun HT_ HW_ => ?_)
    generalize wc.drew = w91 at HO_6 HO_7 BK137 HI135 HB hHeld ⊢
    refine pure_ (i := 0) (N := some 116) (v := ?_) (a' := ?_) #[T_,F_,F_,F_,F_,F_,F_,F_,F_,F_] rfl rfl (any_of HT_.out (by kernel_rfl)) (fun _ _ _ h => h) (Or.inl ⟨by rfl, ?_⟩) ?_ ?_
    rotate_left
    ·intro w'
     go_simp
     with_reducible rfl
    rotate_left
    ·simp only [Act.put, q1_, q2_, q3_, i64_w, i32_w]
     rfl
    refine pure_ (i := 1) (N := some 117) (v := ?_) (a' := ?_) #[T_,T_,F_,F_,F_,F_,F_,F_,F_,F_] rfl rfl (any_of HT_.out (by kernel_rfl)) (fun _ _ _ h => h) (Or.inl ⟨by rfl, ?_⟩) ?_ ?_
    rotate_left
    ·intro w'
     go_simp
     with_reducible rfl
    rotate_left
    ·simp only [Act.put, q1_, q2_, q3_, i64_w, i32_w]
     rfl
    refine pure_ (i := 3) (N := some 119) (v := ?_) (a' := ?_) #[T_,T_,F_,T_,F_,F_,F_,F_,F_,F_] rfl rfl (any_of HT_.out (by kernel_rfl)) (fun _ _ _ h => h) (Or.inl ⟨by rfl, ?_⟩) ?_ ?_
    rotate_left
    ·intro w'
     go_simp
     with_reducible rfl
    rotate_left
    ·simp only [Act.put, q1_, q2_, q3_, i64_w, i32_w]
     rfl
    refine pure_ (i := 6) (N := some 122) (v := ?_) (a' := ?_) #[T_,T_,F_,T_,F_,F_,T_,F_,F_,F_] rfl rfl (any_of HT_.out (by kernel_rfl)) (fun _ _ _ h => h) (Or.inl ⟨by rfl, ?_⟩) ?_ ?_
    rotate_left
    ·intro w'
     go_simp
     with_reducible rfl
    rotate_left
    ·simp only [Act.put, q1_, q2_, q3_, i64_w, i32_w]
     rfl
    refine take_ (i := 2) (N := some 118) (v := ?_) (a' := ?_) #[T_,T_,T_,T_,F_,F_,T_,F_,F_,F_] rfl rfl (take_ofW HT_.out HW_.out (by kernel_rfl)) (fun _ _ _ h => h) (Or.inl ⟨by rfl, ?_⟩) hHeld ?_ ?_
    rotate_left
    ·rintro w' ⟨s0, s1, s2, s3⟩
     go_simp
     with_reducible rfl
    rotate_left
    ·simp only [Act.put, q1_, q2_, q3_, i64_w, i32_w]
     rfl
    refine take_ (i := 4) (N := some 120) (v := ?_) (a' := ?_) #[T_,T_,T_,T_,T_,F_,T_,F_,F_,F_] rfl rfl (take_ofW HT_.out HW_.out (by kernel_rfl)) (fun _ _ _ h => h) (Or.inl ⟨by rfl, ?_⟩) hHeld ?_ ?_
    rotate_left
    ·rintro w' ⟨s0, s1, s2, s3⟩
     go_simp
     with_reducible rfl
    rotate_left
    ·simp only [Act.put, q1_, q2_, q3_, i64_w, i32_w]
     rfl
    refine take_ (i := 7) (N := some 123) (v := ?_) (a' := ?_) #[T_,T_,T_,T_,T_,F_,T_,T_,F_,F_] rfl rfl (take_ofW HT_.out HW_.out (by kernel_rfl)) (fun _ _ _ h => h) (Or.inl ⟨by rfl, ?_⟩) hHeld ?_ ?_
    rotate_left
    ·rintro w' ⟨s0, s1, s2, s3⟩
     go_simp
     with_reducible rfl
    rotate_left
    ·simp only [Act.put, q1_, q2_, q3_, i64_w, i32_w]
     rfl
    refine one_ (i := 5) (N := some 121) #[T_,T_,T_,T_,T_,T_,T_,T_,F_,F_] rfl rfl (one_of HT_.out (by kernel_rfl)) (by decide) (fun K hK => ?_)
    refine goes_ Try.func17 (by kernel_rfl) rfl #[.pointer (some ⟨g135, 0, none⟩), .agg #[.int .u32 ((rd_T62 l0 x8_2).f1.f0), .int .i64 ((rd_T62 l0 x8_2).f1.f1)], .int .i64 ((rd_T62 l0 x8_2).f2)] (by rfl) rfl rfl (by (try simp only [List.map_toArray, List.map_cons, List.map_nil]); first | done | rfl | (simp only [List.length_drop, List.length_take]; rfl)) ?_
    with_reducible refine (trie_Trie_Set.calls g135 t141 ((rd_T62 l0 x8_2).f1.f0) ((rd_T62 l0 x8_2).f1.f1) ((rd_T62 l0 x8_2).f2) t179 t180 w _ ?side1 ?side2 A77.out).mono ?_
    (case side1 => repeat (first | (with_reducible first | exact HI135.out | apply IsS75.alloc | apply IsS75.drewN | apply IsS75.drew | refine IsS75.far ?_ (by (repeat (first | exact (Opq.NP.blk BK137.out (by decide)) | (with_reducible apply Opq.NP.setCell) | (with_reducible apply Opq.NP.drewN) | (with_reducible apply Opq.NP.drew) | (with_reducible apply Opq.NP.alloc))); done) _) | exact HI135.out))
    (case side2 => repeat (first | (with_reducible first | exact HB.out | apply below_alloc | apply pw_below_drewN | apply below_drew1 | refine below_set ?_ (IsS75.ge HI135.out) | refine below_set ?_ GE137.out) | exact HB.out))
    rintro e w92 ⟨rfl, hi, hb, hk⟩
    refine ⟨_, rfl, ?_⟩
    have n0_ := Aside0.mk (Opq.R_keep (by (with_reducible repeat (first|apply Kd.R_alloc|apply Kd.R_drewN|apply Kd.R_drew)); exact HO_6.out) hk (by decide))
    have n1_ := Aside0.mk (Opq.R_keep (by (with_reducible repeat (first|apply Kd.R_alloc|apply Kd.R_drewN|apply Kd.R_drew)); exact HO_7.out) hk (by decide))
    have n2_ := Aside0.mk (Opq.KeepO.blk2 hk (g := gb137) (o := .cells #[.bool ((rd_T62 l0 x8_2).f0), .int .u32 ((rd_T62 l0 x8_2).f1.f0), .int .i64 ((rd_T62 l0 x8_2).f1.f1), .int .i64 ((rd_T62 l0 x8_2).f2)] 62 (0, 0)) (by (with_reducible repeat (first | refine blk_drewN ?_ _ | refine blk_drew ?_ | refine blk_alloc ?_ _)); exact BK137.out) (by rfl))
    have n3_ := Aside0.mk (hb)
    have n4_ := Aside0.mk (hi)
    clear HO_6 HO_7 BK137 HB HI135
    have HO_6 := n0_; have HO_7 := n1_; have BK137 := n2_; have HB := n3_; have HI135 := n4_
    clear n0_ n1_ n2_ n3_ n4_
    (try clear hb)
    (try clear hb2)
    (try clear hk)
    (try clear hi)
    refine hK.out _ _ ⟨(blk_cell BK137.out 0).trans rfl, (blk_cell BK137.out 1).trans rfl, (blk_cell BK137.out 2).trans rfl, (blk_cell BK137.out 3).trans rfl⟩ (fun hHeld => ?_)
    clear hK K
    refine norm_ (a' := ?_) ?_ ?_
    rotate_left
    ·show Act.put _ (some 121) _ = _
     simp only [Act.put, q1_, q2_, q3_, i64_w, i32_w]
     rfl
    refine one_ (i := 8) (N := some 124) #[T_,T_,T_,T_,T_,T_,T_,T_,T_,F_] rfl rfl (one_of HT_.out (by kernel_rfl)) (by decide) (fun K hK => ?_)
    refine goes_ Try.func25 (by kernel_rfl) rfl #[.agg #[.int .u32 ((rd_T62 l0 x8_2).f1.f0), .int .i64 ((rd_T62 l0 x8_2).f1.f1)]] (by rfl) rfl rfl (by (try simp only [List.map_toArray, List.map_cons, List.map_nil]); first | done | rfl | (simp only [List.length_drop, List.length_take]; rfl)) ?_
    with_reducible refine (interregnumref05_Right.calls kj22 ((rd_T62 l0 x8_2).f1.f0) ((rd_T62 l0 x8_2).f1.f1) t181 _ A78.out).mono ?_
    rintro e w93 ⟨rfl, hb⟩
    refine ⟨_, rfl, ?_⟩
    have n0_ := Aside0.mk (Kd.R_below (by (with_reducible repeat (first|apply Kd.R_alloc|apply Kd.R_drewN|apply Kd.R_drew)); exact HO_6.out) hb)
    have n1_ := Aside0.mk (Kd.R_below (by (with_reducible repeat (first|apply Kd.R_alloc|apply Kd.R_drewN|apply Kd.R_drew)); exact HO_7.out) hb)
    have n2_ := Aside0.mk (blk_below (g := gb137) (o := .cells #[.bool ((rd_T62 l0 x8_2).f0), .int .u32 ((rd_T62 l0 x8_2).f1.f0), .int .i64 ((rd_T62 l0 x8_2).f1.f1), .int .i64 ((rd_T62 l0 x8_2).f2)] 62 (0, 0)) (by (with_reducible repeat (first | refine blk_drewN ?_ _ | refine blk_drew ?_ | refine blk_alloc ?_ _)); exact BK137.out) hb)
    have n3_ := Aside0.mk (IsS75.below (by repeat (first | (with_reducible first | exact HI135.out | apply IsS75.alloc | apply IsS75.drewN | apply IsS75.drew | refine IsS75.far ?_ (by (repeat (first | exact (Opq.NP.blk BK137.out (by decide)) | (with_reducible apply Opq.NP.setCell) | (with_reducible apply Opq.NP.drewN) | (with_reducible apply Opq.NP.drew) | (with_reducible apply Opq.NP.alloc))); done) _) | exact HI135.out)) hb)
    have n4_ := Aside0.mk (below_step (by repeat (first | (with_reducible first | exact HB.out | apply below_alloc | apply pw_below_drewN | apply below_drew1 | refine below_set ?_ (IsS75.ge HI135.out) | refine below_set ?_ GE137.out) | exact HB.out)) hb)
    clear HO_6 HO_7 BK137 HI135 HB
    have HO_6 := n0_; have HO_7 := n1_; have BK137 := n2_; have HI135 := n3_; have HB := n4_
    clear n0_ n1_ n2_ n3_ n4_
    (try clear hb)
    (try clear hb2)
    (try clear hk)
    (try clear hi)
    refine hK.out _ _ ⟨(blk_cell BK137.out 0).trans rfl, (blk_cell BK137.out 1).trans rfl, (blk_cell BK137.out 2).trans rfl, (blk_cell BK137.out 3).trans rfl⟩ (fun hHeld => ?_)
    clear hK K
    refine norm_ (a' := ?_) ?_ ?_
    rotate_left
    ·show Act.put _ (some 124) _ = _
     simp only [Act.put, q1_, q2_, q3_, i64_w, i32_w]
     rfl
    refine pure_ (i := 9) (N := some 125) (v := ?_) (a' := ?_) #[T_,T_,T_,T_,T_,T_,T_,T_,T_,T_] rfl rfl (any_of HT_.out (by kernel_rfl)) (fun _ _ _ h => h) (Or.inl ⟨by rfl, ?_⟩) ?_ ?_
    rotate_left
    ·intro w'
     go_simp
     with_reducible rfl
    rotate_left
    ·simp only [Act.put, q1_, q2_, q3_, i64_w, i32_w]
     rfl
    refine done_ (done_of HT_.out (by kernel_rfl)) ?_
    have hcz94_0 : w93.cell? ⟨gb137, 0, none⟩ = some (.bool ((rd_T62 l0 x8_2).f0)) := (blk_cell BK137.out 0).trans rfl
    have hcz94_1 : w93.cell? ⟨gb137, 1, none⟩ = some (.int .u32 ((rd_T62 l0 x8_2).f1.f0)) := (blk_cell BK137.out 1).trans rfl
    have hcz94_2 : w93.cell? ⟨gb137, 2, none⟩ = some (.int .i64 ((rd_T62 l0 x8_2).f1.f1)) := (blk_cell BK137.out 2).trans rfl
    have hcz94_3 : w93.cell? ⟨gb137, 3, none⟩ = some (.int .i64 ((rd_T62 l0 x8_2).f2)) := (blk_cell BK137.out 3).trans rfl
    have hfz94_0 := blk_frozen BK137.out 0
    have hfz94_1 := blk_frozen BK137.out 1
    have hfz94_2 := blk_frozen BK137.out 2
    have hfz94_3 := blk_frozen BK137.out 3
    have p88 : 0 ≤ (x10_3 : Int) := of_decide_eq_true (by first | (with_reducible assumption) | assumption)
    have q88 : (x10_3 : Int) < ((x7_2.length : Int) : Int) := of_decide_eq_true (by first | (with_reducible assumption) | assumption)
    obtain ⟨go88, co88, eo88, gb88, gl88, cl88, HG88⟩ := Kd.R_form HO_7.out (by omega)
    (first | cases eo88 | (injection eo88 with ea_ en_ ec_; (first | subst ea_ | (injection ea_ with ea_; subst ea_)); subst ec_; clear en_))
    have GB88 := Aside0.mk gb88
    have GG88 := Aside0.mk HG88
    clear gb88 gl88 HG88
    obtain ⟨hx88_0, hf88_0⟩ := Kd.R_celln 0 HO_7.out (x10_3 : Int) p88 q88
    replace p88 := eq_true p88
    replace q88 := eq_true q88
    obtain ⟨hy95_, hz95_⟩ := Kd.R_celln 0 HO_7.out (x10_3 : Int) (of_decide_eq_true (by first | (with_reducible assumption) | assumption)) (of_decide_eq_true (by first | (with_reducible assumption) | assumption))
    have HP95 := Kd.R_putg HO_7.out (x10_3 : Int) ((rd_T62 l0 x8_2).f2)
    try go_wp2_with (first | ((with_reducible refine gate_store (t := 3) (p := 132) rfl ?_); refine store_event (t := 3) (p := 132) (v := ?vo_w96) (w1 := (w93.setCell ⟨go88, (x10_3 : Int).toNat, none⟩ (.int .i64 ((rd_T62 l0 x8_2).f2)))) ?hg ?ho ?hn ?hr ?_; (case ho => rfl); (case hg => rfl); (case hn => rfl); (case hr => first | (go_simp; done) | (go_simp; rfl) | (go_simp; simp [IntKind.wrap_u8, IntKind.wrap_u32]; done)); intro w96 hw; have hg : w93.grownBy w96 (some go88) := (by rw [hw]; exact HP95.2); have hp_ : Kd.R (Kd.int .i64) 3 w96 w.heap.size (fun _ => True) (.slice (some ⟨go88, 0, none⟩) x7_2.length co88) y182 := (by rw [hw, Ny182.out]; exact HP95.1); clear HP95; have n0_ := Aside0.mk (Kd.R_over' (v := (.slice (some ⟨go88, 0, none⟩) x7_2.length co88)) (by (with_reducible repeat (first|apply Kd.R_alloc|apply Kd.R_drewN|apply Kd.R_drew)); exact HO_6.out) (Kd.R_typed HO_7.out) (by decide) hg); have n1_ := Aside0.mk (hp_); have n2_ := Aside0.mk (blk_grown (g := gb137) (o := .cells #[.bool ((rd_T62 l0 x8_2).f0), .int .u32 ((rd_T62 l0 x8_2).f1.f0), .int .i64 ((rd_T62 l0 x8_2).f1.f1), .int .i64 ((rd_T62 l0 x8_2).f2)] 62 (0, 0)) (by (with_reducible repeat (first | refine blk_drewN ?_ _ | refine blk_drew ?_ | refine blk_alloc ?_ _)); exact BK137.out) hg (Kd.R_ne HO_7.out BK137.out (by decide))); have n3_ := Aside0.mk (IsS75.grown (by repeat (first | (with_reducible first | exact HI135.out | apply IsS75.alloc | apply IsS75.drewN | apply IsS75.drew | refine IsS75.far ?_ (by (repeat (first | exact (Opq.NP.blk BK137.out (by decide)) | (with_reducible apply Opq.NP.setCell) | (with_reducible apply Opq.NP.drewN) | (with_reducible apply Opq.NP.drew) | (with_reducible apply Opq.NP.alloc))); done) _) | exact HI135.out)) hg (by (repeat (first | exact (Opq.NPr.typed (Kd.R_typed HO_7.out) (by decide)) | (with_reducible apply Opq.NPr.setCell) | (with_reducible apply Opq.NPr.drewN) | (with_reducible apply Opq.NPr.drew) | (with_reducible apply Opq.NPr.alloc))); done)); have n4_ := Aside0.mk ((by rw [hw]; exact below_set (HB.out) GB88.out : Below w.heap.size w w96)); clear HO_6; clear HO_7; clear BK137; clear HI135; clear HB; have HO_6 := n0_; have HO_7 := n1_; have BK137 := n2_; have HI135 := n3_; have HB := n4_; clear n0_ n1_ n2_ n3_ n4_; clear hg hw hp_))
    go_roundg kj22
    case measure => have := HJ2.out; have := HK2.out; have := HK3.out; have := HJ22.out; omega
    case rel => exact ⟨(x6_2), (y182), (wrap64 (x8_2 + 1)), (t180), (by first | rfl | (simp; done) | (simp [*]; done)), H', ⟨by have := HJ2.out; have := HK2.out; have := HK3.out; have := HJ22.out; omega⟩, ⟨by (with_reducible repeat (first | apply Kd.R_alloc | apply Kd.R_drewN | apply Kd.R_drew)); exact HO_6.out⟩, ⟨by (with_reducible repeat (first | apply Kd.R_alloc | apply Kd.R_drewN | apply Kd.R_drew)); exact HO_7.out⟩, ⟨by repeat (first | (with_reducible first | exact HI135.out | apply IsS75.alloc | apply IsS75.drewN | apply IsS75.drew | refine IsS75.far ?_ (by (repeat (first | exact (Opq.NP.blk BK137.out (by decide)) | (with_reducible apply Opq.NP.setCell) | (with_reducible apply Opq.NP.drewN) | (with_reducible apply Opq.NP.drew) | (with_reducible apply Opq.NP.alloc))); done) _) | exact HI135.out)⟩, ⟨by repeat (first | (with_reducible first | exact HB.out | apply below_alloc | apply pw_below_drewN | apply below_drew1 | refine below_set ?_ (IsS75.ge HI135.out) | refine below_set ?_ GE137.out) | exact HB.out)⟩⟩
   rw [if_neg c85] at H
   have c85b0 : decide (0 ≤ x10_3) = false := decide_eq_false c85
   clear c85
   replace H := Option.bind_eq_some_iff.mp H
   obtain ⟨t183, A970, H⟩ := H
   replace H : (if t183 = true then ((some (([(⟨((rd_T62 l0 x8_2).f1.f0), ((rd_T62 l0 x8_2).f1.f1)⟩ : S47)] : List (S47)) : List (S47))).bind fun y184 => (if x6_2.length + y184.length < 8796093022208 then ((some (x6_2 ++ y184 : List (S47))).bind fun y187 => ((some (([((rd_T62 l0 x8_2).f2)] : List Int) : List Int)).bind fun y190 => (if x7_2.length + y190.length < 17592186044416 then (TR.l2 kj22 l0 l1 y187 (x7_2 ++ y190) x8_2 (wrap64 ((y187.length : Int) - 1)) t180) else (none)))) else (none))) else (TR.l0 kj22 l0 l1 x6_2 x7_2 (wrap64 (x8_2 + 1)) t180)) = some r := H
   have A97 := Aside0.mk A970
   clear A970
   by_cases c98 : t183 = true
   rotate_left
   ·replace c98 := Bool.eq_false_iff.mpr c98
    subst c98
    have H1 : (TR.l0 kj22 l0 l1 x6_2 x7_2 (wrap64 (x8_2 + 1)) t180) = some r := by rw [if_neg (show ¬ (false = true) by decide)] at H; exact H
    clear H
    have H := H1
    clear H1
    have H' := Aside0.mk H
    clear H
    have hnb147 := NB137_135.out
    have hnc147 := NB135_137.out
    have hcz148_0 : wc.cell? ⟨gb137, 0, none⟩ = some (.bool ((rd_T62 l0 x8_2).f0)) := (blk_cell BK137.out 0).trans rfl
    have hcz148_1 : wc.cell? ⟨gb137, 1, none⟩ = some (.int .u32 ((rd_T62 l0 x8_2).f1.f0)) := (blk_cell BK137.out 1).trans rfl
    have hcz148_2 : wc.cell? ⟨gb137, 2, none⟩ = some (.int .i64 ((rd_T62 l0 x8_2).f1.f1)) := (blk_cell BK137.out 2).trans rfl
    have hcz148_3 : wc.cell? ⟨gb137, 3, none⟩ = some (.int .i64 ((rd_T62 l0 x8_2).f2)) := (blk_cell BK137.out 3).trans rfl
    have hfz148_0 := blk_frozen BK137.out 0
    have hfz148_1 := blk_frozen BK137.out 1
    have hfz148_2 := blk_frozen BK137.out 2
    have hfz148_3 := blk_frozen BK137.out 3
    try go_wp2
    have n0_ := Aside0.mk (Kd.R_drew HO_6.out)
    have n1_ := Aside0.mk (Kd.R_drew HO_7.out)
    have n2_ := Aside0.mk (blk_drew BK137.out)
    have n3_ := Aside0.mk (IsS75.drew HI135.out)
    have n4_ := Aside0.mk (below_drew1 HB.out)
    clear HO_6 HO_7 BK137 HI135 HB
    have HO_6 := n0_; have HO_7 := n1_; have BK137 := n2_; have HI135 := n3_; have HB := n4_
    clear n0_ n1_ n2_ n3_ n4_
    refine start_ (n := 10) (S := fun w' => w'.cell? ⟨gb137, 0, none⟩ = some (.bool ((rd_T62 l0 x8_2).f0)) ∧ w'.cell? ⟨gb137, 1, none⟩ = some (.int .u32 ((rd_T62 l0 x8_2).f1.f0)) ∧ w'.cell? ⟨gb137, 2, none⟩ = some (.int .i64 ((rd_T62 l0 x8_2).f1.f1)) ∧ w'.cell? ⟨gb137, 3, none⟩ = some (.int .i64 ((rd_T62 l0 x8_2).f2))) (ds := []) #[F_,F_,F_,F_,F_,F_,F_,F_,F_,F_] (by kernel_rfl) rfl rfl ⟨(blk_cell BK137.out 0).trans rfl, (blk_cell BK137.out 1).trans rfl, (blk_cell BK137.out 2).trans rfl, (blk_cell BK137.out 3).trans rfl⟩ (fun hHeld => ?_); refine with_tabW TR.tab24 TR.bits24 (fun HT_ HW_ => ?_)
    generalize wc.drew = w149 at HO_6 HO_7 BK137 HI135 HB hHeld ⊢
    refine pure_ (i := 0) (N := some 116) (v := ?_) (a' := ?_) #[T_,F_,F_,F_,F_,F_,F_,F_,F_,F_] rfl rfl (any_of HT_.out (by kernel_rfl)) (fun _ _ _ h => h) (Or.inl ⟨by rfl, ?_⟩) ?_ ?_
    rotate_left
    ·intro w'
     go_simp
     with_reducible rfl
    rotate_left
    ·simp only [Act.put, q1_, q2_, q3_, i64_w, i32_w]
     rfl
    refine pure_ (i := 1) (N := some 117) (v := ?_) (a' := ?_) #[T_,T_,F_,F_,F_,F_,F_,F_,F_,F_] rfl rfl (any_of HT_.out (by kernel_rfl)) (fun _ _ _ h => h) (Or.inl ⟨by rfl, ?_⟩) ?_ ?_
    rotate_left
    ·intro w'
     go_simp
     with_reducible rfl
    rotate_left
    ·simp only [Act.put, q1_, q2_, q3_, i64_w, i32_w]
     rfl
    refine pure_ (i := 3) (N := some 119) (v := ?_) (a' := ?_) #[T_,T_,F_,T_,F_,F_,F_,F_,F_,F_] rfl rfl (any_of HT_.out (by kernel_rfl)) (fun _ _ _ h => h) (Or.inl ⟨by rfl, ?_⟩) ?_ ?_
    rotate_left
    ·intro w'
     go_simp
     with_reducible rfl
    rotate_left
    ·simp only [Act.put, q1_, q2_, q3_, i64_w, i32_w]
     rfl
    refine pure_ (i := 6) (N := some 122) (v := ?_) (a' := ?_) #[T_,T_,F_,T_,F_,F_,T_,F_,F_,F_] rfl rfl (any_of HT_.out (by kernel_rfl)) (fun _ _ _ h => h) (Or.inl ⟨by rfl, ?_⟩) ?_ ?_
    rotate_left
    ·intro w'
     go_simp
     with_reducible rfl
    rotate_left
    ·simp only [Act.put, q1_, q2_, q3_, i64_w, i32_w]
     rfl
    refine take_ (i := 2) (N := some 118) (v := ?_) (a' := ?_) #[T_,T_,T_,T_,F_,F_,T_,F_,F_,F_] rfl rfl (take_ofW HT_.out HW_.out (by kernel_rfl)) (fun _ _ _ h => h) (Or.inl ⟨by rfl, ?_⟩) hHeld ?_ ?_
    rotate_left
    ·rintro w' ⟨s0, s1, s2, s3⟩
     go_simp
     with_reducible rfl
    rotate_left
    ·simp only [Act.put, q1_, q2_, q3_, i64_w, i32_w]
     rfl
    refine take_ (i := 4) (N := some 120) (v := ?_) (a' := ?_) #[T_,T_,T_,T_,T_,F_,T_,F_,F_,F_] rfl rfl (take_ofW HT_.out HW_.out (by kernel_rfl)) (fun _ _ _ h => h) (Or.inl ⟨by rfl, ?_⟩) hHeld ?_ ?_
    rotate_left
    ·rintro w' ⟨s0, s1, s2, s3⟩
     go_simp
     with_reducible rfl
    rotate_left
    ·simp only [Act.put, q1_, q2_, q3_, i64_w, i32_w]
     rfl
    refine take_ (i := 7) (N := some 123) (v := ?_) (a' := ?_) #[T_,T_,T_,T_,T_,F_,T_,T_,F_,F_] rfl rfl (take_ofW HT_.out HW_.out (by kernel_rfl)) (fun _ _ _ h => h) (Or.inl ⟨by rfl, ?_⟩) hHeld ?_ ?_
    rotate_left
    ·rintro w' ⟨s0, s1, s2, s3⟩
     go_simp
     with_reducible rfl
    rotate_left
    ·simp only [Act.put, q1_, q2_, q3_, i64_w, i32_w]
     rfl
    refine one_ (i := 5) (N := some 121) #[T_,T_,T_,T_,T_,T_,T_,T_,F_,F_] rfl rfl (one_of HT_.out (by kernel_rfl)) (by decide) (fun K hK => ?_)
    refine goes_ Try.func17 (by kernel_rfl) rfl #[.pointer (some ⟨g135, 0, none⟩), .agg #[.int .u32 ((rd_T62 l0 x8_2).f1.f0), .int .i64 ((rd_T62 l0 x8_2).f1.f1)], .int .i64 ((rd_T62 l0 x8_2).f2)] (by rfl) rfl rfl (by (try simp only [List.map_toArray, List.map_cons, List.map_nil]); first | done | rfl | (simp only [List.length_drop, List.length_take]; rfl)) ?_
    with_reducible refine (trie_Trie_Set.calls g135 t141 ((rd_T62 l0 x8_2).f1.f0) ((rd_T62 l0 x8_2).f1.f1) ((rd_T62 l0 x8_2).f2) t179 t180 w _ ?side1 ?side2 A77.out).mono ?_
    (case side1 => repeat (first | (with_reducible first | exact HI135.out | apply IsS75.alloc | apply IsS75.drewN | apply IsS75.drew | refine IsS75.far ?_ (by (repeat (first | exact (Opq.NP.blk BK137.out (by decide)) | (with_reducible apply Opq.NP.setCell) | (with_reducible apply Opq.NP.drewN) | (with_reducible apply Opq.NP.drew) | (with_reducible apply Opq.NP.alloc))); done) _) | exact HI135.out))
    (case side2 => repeat (first | (with_reducible first | exact HB.out | apply below_alloc | apply pw_below_drewN | apply below_drew1 | refine below_set ?_ (IsS75.ge HI135.out) | refine below_set ?_ GE137.out) | exact HB.out))
    rintro e w150 ⟨rfl, hi, hb, hk⟩
    refine ⟨_, rfl, ?_⟩
    have n0_ := Aside0.mk (Opq.R_keep (by (with_reducible repeat (first|apply Kd.R_alloc|apply Kd.R_drewN|apply Kd.R_drew)); exact HO_6.out) hk (by decide))
    have n1_ := Aside0.mk (Opq.R_keep (by (with_reducible repeat (first|apply Kd.R_alloc|apply Kd.R_drewN|apply Kd.R_drew)); exact HO_7.out) hk (by decide))
    have n2_ := Aside0.mk (Opq.KeepO.blk2 hk (g := gb137) (o := .cells #[.bool ((rd_T62 l0 x8_2).f0), .int .u32 ((rd_T62 l0 x8_2).f1.f0), .int .i64 ((rd_T62 l0 x8_2).f1.f1), .int .i64 ((rd_T62 l0 x8_2).f2)] 62 (0, 0)) (by (with_reducible repeat (first | refine blk_drewN ?_ _ | refine blk_drew ?_ | refine blk_alloc ?_ _)); exact BK137.out) (by rfl))
    have n3_ := Aside0.mk (hb)
    have n4_ := Aside0.mk (hi)
    clear HO_6 HO_7 BK137 HB HI135
    have HO_6 := n0_; have HO_7 := n1_; have BK137 := n2_; have HB := n3_; have HI135 := n4_
    clear n0_ n1_ n2_ n3_ n4_
    (try clear hb)
    (try clear hb2)
    (try clear hk)
    (try clear hi)
    refine hK.out _ _ ⟨(blk_cell BK137.out 0).trans rfl, (blk_cell BK137.out 1).trans rfl, (blk_cell BK137.out 2).trans rfl, (blk_cell BK137.out 3).trans rfl⟩ (fun hHeld => ?_)
    clear hK K
    refine norm_ (a' := ?_) ?_ ?_
    rotate_left
    ·show Act.put _ (some 121) _ = _
     simp only [Act.put, q1_, q2_, q3_, i64_w, i32_w]
     rfl
    refine one_ (i := 8) (N := some 124) #[T_,T_,T_,T_,T_,T_,T_,T_,T_,F_] rfl rfl (one_of HT_.out (by kernel_rfl)) (by decide) (fun K hK => ?_)
    refine goes_ Try.func25 (by kernel_rfl) rfl #[.agg #[.int .u32 ((rd_T62 l0 x8_2).f1.f0), .int .i64 ((rd_T62 l0 x8_2).f1.f1)]] (by rfl) rfl rfl (by (try simp only [List.map_toArray, List.map_cons, List.map_nil]); first | done | rfl | (simp only [List.length_drop, List.length_take]; rfl)) ?_
    with_reducible refine (interregnumref05_Right.calls kj22 ((rd_T62 l0 x8_2).f1.f0) ((rd_T62 l0 x8_2).f1.f1) t181 _ A78.out).mono ?_
    rintro e w151 ⟨rfl, hb⟩
    refine ⟨_, rfl, ?_⟩
    have n0_ := Aside0.mk (Kd.R_below (by (with_reducible repeat (first|apply Kd.R_alloc|apply Kd.R_drewN|apply Kd.R_drew)); exact HO_6.out) hb)
    have n1_ := Aside0.mk (Kd.R_below (by (with_reducible repeat (first|apply Kd.R_alloc|apply Kd.R_drewN|apply Kd.R_drew)); exact HO_7.out) hb)
    have n2_ := Aside0.mk (blk_below (g := gb137) (o := .cells #[.bool ((rd_T62 l0 x8_2).f0), .int .u32 ((rd_T62 l0 x8_2).f1.f0), .int .i64 ((rd_T62 l0 x8_2).f1.f1), .int .i64 ((rd_T62 l0 x8_2).f2)] 62 (0, 0)) (by (with_reducible repeat (first | refine blk_drewN ?_ _ | refine blk_drew ?_ | refine blk_alloc ?_ _)); exact BK137.out) hb)
    have n3_ := Aside0.mk (IsS75.below (by repeat (first | (with_reducible first | exact HI135.out | apply IsS75.alloc | apply IsS75.drewN | apply IsS75.drew | refine IsS75.far ?_ (by (repeat (first | exact (Opq.NP.blk BK137.out (by decide)) | (with_reducible apply Opq.NP.setCell) | (with_reducible apply Opq.NP.drewN) | (with_reducible apply Opq.NP.drew) | (with_reducible apply Opq.NP.alloc))); done) _) | exact HI135.out)) hb)
    have n4_ := Aside0.mk (below_step (by repeat (first | (with_reducible first | exact HB.out | apply below_alloc | apply pw_below_drewN | apply below_drew1 | refine below_set ?_ (IsS75.ge HI135.out) | refine below_set ?_ GE137.out) | exact HB.out)) hb)
    clear HO_6 HO_7 BK137 HI135 HB
    have HO_6 := n0_; have HO_7 := n1_; have BK137 := n2_; have HI135 := n3_; have HB := n4_
    clear n0_ n1_ n2_ n3_ n4_
    (try clear hb)
    (try clear hb2)
    (try clear hk)
    (try clear hi)
    refine hK.out _ _ ⟨(blk_cell BK137.out 0).trans rfl, (blk_cell BK137.out 1).trans rfl, (blk_cell BK137.out 2).trans rfl, (blk_cell BK137.out 3).trans rfl⟩ (fun hHeld => ?_)
    clear hK K
    refine norm_ (a' := ?_) ?_ ?_
    rotate_left
    ·show Act.put _ (some 124) _ = _
     simp only [Act.put, q1_, q2_, q3_, i64_w, i32_w]
     rfl
    refine pure_ (i := 9) (N := some 125) (v := ?_) (a' := ?_) #[T_,T_,T_,T_,T_,T_,T_,T_,T_,T_] rfl rfl (any_of HT_.out (by kernel_rfl)) (fun _ _ _ h => h) (Or.inl ⟨by rfl, ?_⟩) ?_ ?_
    rotate_left
    ·intro w'
     go_simp
     with_reducible rfl
    rotate_left
    ·simp only [Act.put, q1_, q2_, q3_, i64_w, i32_w]
     rfl
    refine done_ (done_of HT_.out (by kernel_rfl)) ?_
    have hcz152_0 : w151.cell? ⟨gb137, 0, none⟩ = some (.bool ((rd_T62 l0 x8_2).f0)) := (blk_cell BK137.out 0).trans rfl
    have hcz152_1 : w151.cell? ⟨gb137, 1, none⟩ = some (.int .u32 ((rd_T62 l0 x8_2).f1.f0)) := (blk_cell BK137.out 1).trans rfl
    have hcz152_2 : w151.cell? ⟨gb137, 2, none⟩ = some (.int .i64 ((rd_T62 l0 x8_2).f1.f1)) := (blk_cell BK137.out 2).trans rfl
    have hcz152_3 : w151.cell? ⟨gb137, 3, none⟩ = some (.int .i64 ((rd_T62 l0 x8_2).f2)) := (blk_cell BK137.out 3).trans rfl
    have hfz152_0 := blk_frozen BK137.out 0
    have hfz152_1 := blk_frozen BK137.out 1
    have hfz152_2 := blk_frozen BK137.out 2
    have hfz152_3 := blk_frozen BK137.out 3
    try go_wp2_with (first | ((with_reducible refine gate_callee (f := 25) rfl ?_); refine goesL_ (some 135) rfl rfl Try.func25 (by kernel_rfl) rfl #[.agg #[.int .u32 ((rd_T62 l0 x8_2).f1.f0), .int .i64 ((rd_T62 l0 x8_2).f1.f1)]] rfl (by (try simp only [List.map_toArray, List.map_cons, List.map_nil]); first | done | rfl | (simp only [List.length_drop, List.length_take]; rfl)) ?_; (with_reducible refine (interregnumref05_Right.calls kj22 ((rd_T62 l0 x8_2).f1.f0) ((rd_T62 l0 x8_2).f1.f1) false _ A97.out).mono ?_); rintro e w153 ⟨rfl, hb⟩; refine ⟨_, rfl, ?_⟩; have n0_ := Aside0.mk (Kd.R_below (by (with_reducible repeat (first|apply Kd.R_alloc|apply Kd.R_drewN|apply Kd.R_drew)); exact HO_6.out) hb); have n1_ := Aside0.mk (Kd.R_below (by (with_reducible repeat (first|apply Kd.R_alloc|apply Kd.R_drewN|apply Kd.R_drew)); exact HO_7.out) hb); have n2_ := Aside0.mk (blk_below (g := gb137) (o := .cells #[.bool ((rd_T62 l0 x8_2).f0), .int .u32 ((rd_T62 l0 x8_2).f1.f0), .int .i64 ((rd_T62 l0 x8_2).f1.f1), .int .i64 ((rd_T62 l0 x8_2).f2)] 62 (0, 0)) (by (with_reducible repeat (first | refine blk_drewN ?_ _ | refine blk_drew ?_ | refine blk_alloc ?_ _)); exact BK137.out) hb); have n3_ := Aside0.mk (IsS75.below (by repeat (first | (with_reducible first | exact HI135.out | apply IsS75.alloc | apply IsS75.drewN | apply IsS75.drew | refine IsS75.far ?_ (by (repeat (first | exact (Opq.NP.blk BK137.out (by decide)) | (with_reducible apply Opq.NP.setCell) | (with_reducible apply Opq.NP.drewN) | (with_reducible apply Opq.NP.drew) | (with_reducible apply Opq.NP.alloc))); done) _) | exact HI135.out)) hb); have n4_ := Aside0.mk (below_step (by repeat (first | (with_reducible first | exact HB.out | apply below_alloc | apply pw_below_drewN | apply below_drew1 | refine below_set ?_ (IsS75.ge HI135.out) | refine below_set ?_ GE137.out) | exact HB.out)) hb); clear HO_6; clear HO_7; clear BK137; clear HI135; clear HB; have HO_6 := n0_; have HO_7 := n1_; have BK137 := n2_; have HI135 := n3_; have HB := n4_; clear n0_ n1_ n2_ n3_ n4_; (try clear hb); (try clear hb2); (try clear hk); (try clear hi)))
    go_roundg kj22
    case measure => have := HJ2.out; have := HK2.out; have := HK3.out; have := HJ22.out; omega
    case rel => exact ⟨(x6_2), (x7_2), (wrap64 (x8_2 + 1)), (t180), (by first | rfl | (simp; done) | (simp [*]; done)), H', ⟨by have := HJ2.out; have := HK2.out; have := HK3.out; have := HJ22.out; omega⟩, ⟨by (with_reducible repeat (first | apply Kd.R_alloc | apply Kd.R_drewN | apply Kd.R_drew)); exact HO_6.out⟩, ⟨by (with_reducible repeat (first | apply Kd.R_alloc | apply Kd.R_drewN | apply Kd.R_drew)); exact HO_7.out⟩, ⟨by repeat (first | (with_reducible first | exact HI135.out | apply IsS75.alloc | apply IsS75.drewN | apply IsS75.drew | refine IsS75.far ?_ (by (repeat (first | exact (Opq.NP.blk BK137.out (by decide)) | (with_reducible apply Opq.NP.setCell) | (with_reducible apply Opq.NP.drewN) | (with_reducible apply Opq.NP.drew) | (with_reducible apply Opq.NP.alloc))); done) _) | exact HI135.out)⟩, ⟨by repeat (first | (with_reducible first | exact HB.out | apply below_alloc | apply pw_below_drewN | apply below_drew1 | refine below_set ?_ (IsS75.ge HI135.out) | refine below_set ?_ GE137.out) | exact HB.out)⟩⟩
   subst c98
   have H1 : ((some (([(⟨((rd_T62 l0 x8_2).f1.f0), ((rd_T62 l0 x8_2).f1.f1)⟩ : S47)] : List (S47)) : List (S47))).bind fun y184 => (if x6_2.length + y184.length < 8796093022208 then ((some (x6_2 ++ y184 : List (S47))).bind fun y187 => ((some (([((rd_T62 l0 x8_2).f2)] : List Int) : List Int)).bind fun y190 => (if x7_2.length + y190.length < 17592186044416 then (TR.l2 kj22 l0 l1 y187 (x7_2 ++ y190) x8_2 (wrap64 ((y187.length : Int) - 1)) t180) else (none)))) else (none))) = some r := by rw [if_pos rfl] at H; exact H
   clear H
   have H := H1
   clear H1
   obtain ⟨y184, hy184⟩ : ∃ y_ : List (S47), y_ = (([(⟨((rd_T62 l0 x8_2).f1.f0), ((rd_T62 l0 x8_2).f1.f1)⟩ : S47)] : List (S47))) := ⟨_, rfl⟩
   replace H : (if x6_2.length + y184.length < 8796093022208 then ((some (x6_2 ++ y184 : List (S47))).bind fun y187 => ((some (([((rd_T62 l0 x8_2).f2)] : List Int) : List Int)).bind fun y190 => (if x7_2.length + y190.length < 17592186044416 then (TR.l2 kj22 l0 l1 y187 (x7_2 ++ y190) x8_2 (wrap64 ((y187.length : Int) - 1)) t180) else (none)))) else (none)) = some r := by first | (rw [hy184]; with_reducible exact H) | (have H2_ := (Option.bind_some _ _).symm.trans H; rw [hy184]; with_reducible exact H2_) | (have H2_ := (Option.bind_some _ _).symm.trans H; with_reducible exact H2_) | with_reducible exact H | (rw [hy184]; exact H) | exact H
   have Ny184 := Aside0.mk hy184
   clear hy184
   by_cases c99 : x6_2.length + y184.length < 8796093022208
   rotate_left
   ·rw [if_neg c99] at H
    exact absurd H (by simp)
   rw [if_pos c99] at H
   have LMc99 := Aside0.mk c99
   clear c99
   obtain ⟨y187, hy187⟩ : ∃ y_ : List (S47), y_ = (x6_2 ++ y184) := ⟨_, rfl⟩
   replace H : ((some (([((rd_T62 l0 x8_2).f2)] : List Int) : List Int)).bind fun y190 => (if x7_2.length + y190.length < 17592186044416 then (TR.l2 kj22 l0 l1 y187 (x7_2 ++ y190) x8_2 (wrap64 ((y187.length : Int) - 1)) t180) else (none))) = some r := by first | (rw [hy187]; with_reducible exact H) | (have H2_ := (Option.bind_some _ _).symm.trans H; rw [hy187]; with_reducible exact H2_) | (have H2_ := (Option.bind_some _ _).symm.trans H; with_reducible exact H2_) | with_reducible exact H | (rw [hy187]; exact H) | exact H
   have Ny187 := Aside0.mk hy187
   clear hy187
   obtain ⟨y190, hy190⟩ : ∃ y_ : List Int, y_ = (([((rd_T62 l0 x8_2).f2)] : List Int)) := ⟨_, rfl⟩
   replace H : (if x7_2.length + y190.length < 17592186044416 then (TR.l2 kj22 l0 l1 y187 (x7_2 ++ y190) x8_2 (wrap64 ((y187.length : Int) - 1)) t180) else (none)) = some r := by first | (rw [hy190]; with_reducible exact H) | (have H2_ := (Option.bind_some _ _).symm.trans H; rw [hy190]; with_reducible exact H2_) | (have H2_ := (Option.bind_some _ _).symm.trans H; with_reducible exact H2_) | with_reducible exact H | (rw [hy190]; exact H) | exact H
   have Ny190 := Aside0.mk hy190
   clear hy190
   by_cases c100 : x7_2.length + y190.length < 17592186044416
   rotate_left
   ·rw [if_neg c100] at H
    exact absurd H (by simp)
   rw [if_pos c100] at H
   have LMc100 := Aside0.mk c100
   clear c100
   obtain ⟨y193, hy193⟩ : ∃ y_ : List Int, y_ = (x7_2 ++ y190) := ⟨_, rfl⟩
   replace H : (TR.l2 kj22 l0 l1 y187 y193 x8_2 (wrap64 ((y187.length : Int) - 1)) t180) = some r := by first | (rw [hy193]; with_reducible exact H) | (have H2_ := (Option.bind_some _ _).symm.trans H; rw [hy193]; with_reducible exact H2_) | (have H2_ := (Option.bind_some _ _).symm.trans H; with_reducible exact H2_) | with_reducible exact H | (rw [hy193]; exact H) | exact H
   have Ny193 := Aside0.mk hy193
   clear hy193
   have H' := Aside0.mk H
   clear H
   have hnb101 := NB137_135.out
   have hnc101 := NB135_137.out
   have hcz102_0 : wc.cell? ⟨gb137, 0, none⟩ = some (.bool ((rd_T62 l0 x8_2).f0)) := (blk_cell BK137.out 0).trans rfl
   have hcz102_1 : wc.cell? ⟨gb137, 1, none⟩ = some (.int .u32 ((rd_T62 l0 x8_2).f1.f0)) := (blk_cell BK137.out 1).trans rfl
   have hcz102_2 : wc.cell? ⟨gb137, 2, none⟩ = some (.int .i64 ((rd_T62 l0 x8_2).f1.f1)) := (blk_cell BK137.out 2).trans rfl
   have hcz102_3 : wc.cell? ⟨gb137, 3, none⟩ = some (.int .i64 ((rd_T62 l0 x8_2).f2)) := (blk_cell BK137.out 3).trans rfl
   have hfz102_0 := blk_frozen BK137.out 0
   have hfz102_1 := blk_frozen BK137.out 1
   have hfz102_2 := blk_frozen BK137.out 2
   have hfz102_3 := blk_frozen BK137.out 3
   try go_wp2
   have n0_ := Aside0.mk (Kd.R_drew HO_6.out)
   have n1_ := Aside0.mk (Kd.R_drew HO_7.out)
   have n2_ := Aside0.mk (blk_drew BK137.out)
   have n3_ := Aside0.mk (IsS75.drew HI135.out)
   have n4_ := Aside0.mk (below_drew1 HB.out)
   clear HO_6 HO_7 BK137 HI135 HB
   have HO_6 := n0_; have HO_7 := n1_; have BK137 := n2_; have HI135 := n3_; have HB := n4_
   clear n0_ n1_ n2_ n3_ n4_
   refine start_ (n := 10) (S := fun w' => w'.cell? ⟨gb137, 0, none⟩ = some (.bool ((rd_T62 l0 x8_2).f0)) ∧ w'.cell? ⟨gb137, 1, none⟩ = some (.int .u32 ((rd_T62 l0 x8_2).f1.f0)) ∧ w'.cell? ⟨gb137, 2, none⟩ = some (.int .i64 ((rd_T62 l0 x8_2).f1.f1)) ∧ w'.cell? ⟨gb137, 3, none⟩ = some (.int .i64 ((rd_T62 l0 x8_2).f2))) (ds := []) #[F_,F_,F_,F_,F_,F_,F_,F_,F_,F_] (by kernel_rfl) rfl rfl ⟨(blk_cell BK137.out 0).trans rfl, (blk_cell BK137.out 1).trans rfl, (blk_cell BK137.out 2).trans rfl, (blk_cell BK137.out 3).trans rfl⟩ (fun hHeld => ?_); refine with_tabW TR.tab24 TR.bits24 (fun HT_ HW_ => ?_)
   generalize wc.drew = w103 at HO_6 HO_7 BK137 HI135 HB hHeld ⊢
   refine pure_ (i := 0) (N := some 116) (v := ?_) (a' := ?_) #[T_,F_,F_,F_,F_,F_,F_,F_,F_,F_] rfl rfl (any_of HT_.out (by kernel_rfl)) (fun _ _ _ h => h) (Or.inl ⟨by rfl, ?_⟩) ?_ ?_
   rotate_left
   ·intro w'
    go_simp
    with_reducible rfl
   rotate_left
   ·simp only [Act.put, q1_, q2_, q3_, i64_w, i32_w]
    rfl
   refine pure_ (i := 1) (N := some 117) (v := ?_) (a' := ?_) #[T_,T_,F_,F_,F_,F_,F_,F_,F_,F_] rfl rfl (any_of HT_.out (by kernel_rfl)) (fun _ _ _ h => h) (Or.inl ⟨by rfl, ?_⟩) ?_ ?_
   rotate_left
   ·intro w'
    go_simp
    with_reducible rfl
   rotate_left
   ·simp only [Act.put, q1_, q2_, q3_, i64_w, i32_w]
    rfl
   refine pure_ (i := 3) (N := some 119) (v := ?_) (a' := ?_) #[T_,T_,F_,T_,F_,F_,F_,F_,F_,F_] rfl rfl (any_of HT_.out (by kernel_rfl)) (fun _ _ _ h => h) (Or.inl ⟨by rfl, ?_⟩) ?_ ?_
   rotate_left
   ·intro w'
    go_simp
    with_reducible rfl
   rotate_left
   ·simp only [Act.put, q1_, q2_, q3_, i64_w, i32_w]
    rfl
   refine pure_ (i := 6) (N := some 122) (v := ?_) (a' := ?_) #[T_,T_,F_,T_,F_,F_,T_,F_,F_,F_] rfl rfl (any_of HT_.out (by kernel_rfl)) (fun _ _ _ h => h) (Or.inl ⟨by rfl, ?_⟩) ?_ ?_
   rotate_left
   ·intro w'
    go_simp
    with_reducible rfl
   rotate_left
   ·simp only [Act.put, q1_, q2_, q3_, i64_w, i32_w]
    rfl
   refine take_ (i := 2) (N := some 118) (v := ?_) (a' := ?_) #[T_,T_,T_,T_,F_,F_,T_,F_,F_,F_] rfl rfl (take_ofW HT_.out HW_.out (by kernel_rfl)) (fun _ _ _ h => h) (Or.inl ⟨by rfl, ?_⟩) hHeld ?_ ?_
   rotate_left
   ·rintro w' ⟨s0, s1, s2, s3⟩
    go_simp
    with_reducible rfl
   rotate_left
   ·simp only [Act.put, q1_, q2_, q3_, i64_w, i32_w]
    rfl
   refine take_ (i := 4) (N := some 120) (v := ?_) (a' := ?_) #[T_,T_,T_,T_,T_,F_,T_,F_,F_,F_] rfl rfl (take_ofW HT_.out HW_.out (by kernel_rfl)) (fun _ _ _ h => h) (Or.inl ⟨by rfl, ?_⟩) hHeld ?_ ?_
   rotate_left
   ·rintro w' ⟨s0, s1, s2, s3⟩
    go_simp
    with_reducible rfl
   rotate_left
   ·simp only [Act.put, q1_, q2_, q3_, i64_w, i32_w]
    rfl
   refine take_ (i := 7) (N := some 123) (v := ?_) (a' := ?_) #[T_,T_,T_,T_,T_,F_,T_,T_,F_,F_] rfl rfl (take_ofW HT_.out HW_.out (by kernel_rfl)) (fun _ _ _ h => h) (Or.inl ⟨by rfl, ?_⟩) hHeld ?_ ?_
   rotate_left
   ·rintro w' ⟨s0, s1, s2, s3⟩
    go_simp
    with_reducible rfl
   rotate_left
   ·simp only [Act.put, q1_, q2_, q3_, i64_w, i32_w]
    rfl
   refine one_ (i := 5) (N := some 121) #[T_,T_,T_,T_,T_,T_,T_,T_,F_,F_] rfl rfl (one_of HT_.out (by kernel_rfl)) (by decide) (fun K hK => ?_)
   refine goes_ Try.func17 (by kernel_rfl) rfl #[.pointer (some ⟨g135, 0, none⟩), .agg #[.int .u32 ((rd_T62 l0 x8_2).f1.f0), .int .i64 ((rd_T62 l0 x8_2).f1.f1)], .int .i64 ((rd_T62 l0 x8_2).f2)] (by rfl) rfl rfl (by (try simp only [List.map_toArray, List.map_cons, List.map_nil]); first | done | rfl | (simp only [List.length_drop, List.length_take]; rfl)) ?_
   with_reducible refine (trie_Trie_Set.calls g135 t141 ((rd_T62 l0 x8_2).f1.f0) ((rd_T62 l0 x8_2).f1.f1) ((rd_T62 l0 x8_2).f2) t179 t180 w _ ?side1 ?side2 A77.out).mono ?_
   (case side1 => repeat (first | (with_reducible first | exact HI135.out | apply IsS75.alloc | apply IsS75.drewN | apply IsS75.drew | refine IsS75.far ?_ (by (repeat (first | exact (Opq.NP.blk BK137.out (by decide)) | (with_reducible apply Opq.NP.setCell) | (with_reducible apply Opq.NP.drewN) | (with_reducible apply Opq.NP.drew) | (with_reducible apply Opq.NP.alloc))); done) _) | exact HI135.out))
   (case side2 => repeat (first | (with_reducible first | exact HB.out | apply below_alloc | apply pw_below_drewN | apply below_drew1 | refine below_set ?_ (IsS75.ge HI135.out) | refine below_set ?_ GE137.out) | exact HB.out))
   rintro e w104 ⟨rfl, hi, hb, hk⟩
   refine ⟨_, rfl, ?_⟩
   have n0_ := Aside0.mk (Opq.R_keep (by (with_reducible repeat (first|apply Kd.R_alloc|apply Kd.R_drewN|apply Kd.R_drew)); exact HO_6.out) hk (by decide))
   have n1_ := Aside0.mk (Opq.R_keep (by (with_reducible repeat (first|apply Kd.R_alloc|apply Kd.R_drewN|apply Kd.R_drew)); exact HO_7.out) hk (by decide))
   have n2_ := Aside0.mk (Opq.KeepO.blk2 hk (g := gb137) (o := .cells #[.bool ((rd_T62 l0 x8_2).f0), .int .u32 ((rd_T62 l0 x8_2).f1.f0), .int .i64 ((rd_T62 l0 x8_2).f1.f1), .int .i64 ((rd_T62 l0 x8_2).f2)] 62 (0, 0)) (by (with_reducible repeat (first | refine blk_drewN ?_ _ | refine blk_drew ?_ | refine blk_alloc ?_ _)); exact BK137.out) (by rfl))
   have n3_ := Aside0.mk (hb)
   have n4_ := Aside0.mk (hi)
   clear HO_6 HO_7 BK137 HB HI135
   have HO_6 := n0_; have HO_7 := n1_; have BK137 := n2_; have HB := n3_; have HI135 := n4_
   clear n0_ n1_ n2_ n3_ n4_
   (try clear hb)
   (try clear hb2)
   (try clear hk)
   (try clear hi)
   refine hK.out _ _ ⟨(blk_cell BK137.out 0).trans rfl, (blk_cell BK137.out 1).trans rfl, (blk_cell BK137.out 2).trans rfl, (blk_cell BK137.out 3).trans rfl⟩ (fun hHeld => ?_)
   clear hK K
   refine norm_ (a' := ?_) ?_ ?_
   rotate_left
   ·show Act.put _ (some 121) _ = _
    simp only [Act.put, q1_, q2_, q3_, i64_w, i32_w]
    rfl
   refine one_ (i := 8) (N := some 124) #[T_,T_,T_,T_,T_,T_,T_,T_,T_,F_] rfl rfl (one_of HT_.out (by kernel_rfl)) (by decide) (fun K hK => ?_)
   refine goes_ Try.func25 (by kernel_rfl) rfl #[.agg #[.int .u32 ((rd_T62 l0 x8_2).f1.f0), .int .i64 ((rd_T62 l0 x8_2).f1.f1)]] (by rfl) rfl rfl (by (try simp only [List.map_toArray, List.map_cons, List.map_nil]); first | done | rfl | (simp only [List.length_drop, List.length_take]; rfl)) ?_
   with_reducible refine (interregnumref05_Right.calls kj22 ((rd_T62 l0 x8_2).f1.f0) ((rd_T62 l0 x8_2).f1.f1) t181 _ A78.out).mono ?_
   rintro e w105 ⟨rfl, hb⟩
   refine ⟨_, rfl, ?_⟩
   have n0_ := Aside0.mk (Kd.R_below (by (with_reducible repeat (first|apply Kd.R_alloc|apply Kd.R_drewN|apply Kd.R_drew)); exact HO_6.out) hb)
   have n1_ := Aside0.mk (Kd.R_below (by (with_reducible repeat (first|apply Kd.R_alloc|apply Kd.R_drewN|apply Kd.R_drew)); exact HO_7.out) hb)
   have n2_ := Aside0.mk (blk_below (g := gb137) (o := .cells #[.bool ((rd_T62 l0 x8_2).f0), .int .u32 ((rd_T62 l0 x8_2).f1.f0), .int .i64 ((rd_T62 l0 x8_2).f1.f1), .int .i64 ((rd_T62 l0 x8_2).f2)] 62 (0, 0)) (by (with_reducible repeat (first | refine blk_drewN ?_ _ | refine blk_drew ?_ | refine blk_alloc ?_ _)); exact BK137.out) hb)
   have n3_ := Aside0.mk (IsS75.below (by repeat (first | (with_reducible first | exact HI135.out | apply IsS75.alloc | apply IsS75.drewN | apply IsS75.drew | refine IsS75.far ?_ (by (repeat (first | exact (Opq.NP.blk BK137.out (by decide)) | (with_reducible apply Opq.NP.setCell) | (with_reducible apply Opq.NP.drewN) | (with_reducible apply Opq.NP.drew) | (with_reducible apply Opq.NP.alloc))); done) _) | exact HI135.out)) hb)
   have n4_ := Aside0.mk (below_step (by repeat (first | (with_reducible first | exact HB.out | apply below_alloc | apply pw_below_drewN | apply below_drew1 | refine below_set ?_ (IsS75.ge HI135.out) | refine below_set ?_ GE137.out) | exact HB.out)) hb)
   clear HO_6 HO_7 BK137 HI135 HB
   have HO_6 := n0_; have HO_7 := n1_; have BK137 := n2_; have HI135 := n3_; have HB := n4_
   clear n0_ n1_ n2_ n3_ n4_
   (try clear hb)
   (try clear hb2)
   (try clear hk)
   (try clear hi)
   refine hK.out _ _ ⟨(blk_cell BK137.out 0).trans rfl, (blk_cell BK137.out 1).trans rfl, (blk_cell BK137.out 2).trans rfl, (blk_cell BK137.out 3).trans rfl⟩ (fun hHeld => ?_)
   clear hK K
   refine norm_ (a' := ?_) ?_ ?_
   rotate_left
   ·show Act.put _ (some 124) _ = _
    simp only [Act.put, q1_, q2_, q3_, i64_w, i32_w]
    rfl
   refine pure_ (i := 9) (N := some 125) (v := ?_) (a' := ?_) #[T_,T_,T_,T_,T_,T_,T_,T_,T_,T_] rfl rfl (any_of HT_.out (by kernel_rfl)) (fun _ _ _ h => h) (Or.inl ⟨by rfl, ?_⟩) ?_ ?_
   rotate_left
   ·intro w'
    go_simp
    with_reducible rfl
   rotate_left
   ·simp only [Act.put, q1_, q2_, q3_, i64_w, i32_w]
    rfl
   refine done_ (done_of HT_.out (by kernel_rfl)) ?_
   have hcz106_0 : w105.cell? ⟨gb137, 0, none⟩ = some (.bool ((rd_T62 l0 x8_2).f0)) := (blk_cell BK137.out 0).trans rfl
   have hcz106_1 : w105.cell? ⟨gb137, 1, none⟩ = some (.int .u32 ((rd_T62 l0 x8_2).f1.f0)) := (blk_cell BK137.out 1).trans rfl
   have hcz106_2 : w105.cell? ⟨gb137, 2, none⟩ = some (.int .i64 ((rd_T62 l0 x8_2).f1.f1)) := (blk_cell BK137.out 2).trans rfl
   have hcz106_3 : w105.cell? ⟨gb137, 3, none⟩ = some (.int .i64 ((rd_T62 l0 x8_2).f2)) := (blk_cell BK137.out 3).trans rfl
   have hfz106_0 := blk_frozen BK137.out 0
   have hfz106_1 := blk_frozen BK137.out 1
   have hfz106_2 := blk_frozen BK137.out 2
   have hfz106_3 := blk_frozen BK137.out 3
   try go_wp2_with (first | ((with_reducible refine gate_callee (f := 25) rfl ?_); refine goesL_ (some 135) rfl rfl Try.func25 (by kernel_rfl) rfl #[.agg #[.int .u32 ((rd_T62 l0 x8_2).f1.f0), .int .i64 ((rd_T62 l0 x8_2).f1.f1)]] rfl (by (try simp only [List.map_toArray, List.map_cons, List.map_nil]); first | done | rfl | (simp only [List.length_drop, List.length_take]; rfl)) ?_; (with_reducible refine (interregnumref05_Right.calls kj22 ((rd_T62 l0 x8_2).f1.f0) ((rd_T62 l0 x8_2).f1.f1) true _ A97.out).mono ?_); rintro e w107 ⟨rfl, hb⟩; refine ⟨_, rfl, ?_⟩; have n0_ := Aside0.mk (Kd.R_below (by (with_reducible repeat (first|apply Kd.R_alloc|apply Kd.R_drewN|apply Kd.R_drew)); exact HO_6.out) hb); have n1_ := Aside0.mk (Kd.R_below (by (with_reducible repeat (first|apply Kd.R_alloc|apply Kd.R_drewN|apply Kd.R_drew)); exact HO_7.out) hb); have n2_ := Aside0.mk (blk_below (g := gb137) (o := .cells #[.bool ((rd_T62 l0 x8_2).f0), .int .u32 ((rd_T62 l0 x8_2).f1.f0), .int .i64 ((rd_T62 l0 x8_2).f1.f1), .int .i64 ((rd_T62 l0 x8_2).f2)] 62 (0, 0)) (by (with_reducible repeat (first | refine blk_drewN ?_ _ | refine blk_drew ?_ | refine blk_alloc ?_ _)); exact BK137.out) hb); have n3_ := Aside0.mk (IsS75.below (by repeat (first | (with_reducible first | exact HI135.out | apply IsS75.alloc | apply IsS75.drewN | apply IsS75.drew | refine IsS75.far ?_ (by (repeat (first | exact (Opq.NP.blk BK137.out (by decide)) | (with_reducible apply Opq.NP.setCell) | (with_reducible apply Opq.NP.drewN) | (with_reducible apply Opq.NP.drew) | (with_reducible apply Opq.NP.alloc))); done) _) | exact HI135.out)) hb); have n4_ := Aside0.mk (below_step (by repeat (first | (with_reducible first | exact HB.out | apply below_alloc | apply pw_below_drewN | apply below_drew1 | refine below_set ?_ (IsS75.ge HI135.out) | refine below_set ?_ GE137.out) | exact HB.out)) hb); clear HO_6; clear HO_7; clear BK137; clear HI135; clear HB; have HO_6 := n0_; have HO_7 := n1_; have BK137 := n2_; have HI135 := n3_; have HB := n4_; clear n0_ n1_ n2_ n3_ n4_; (try clear hb); (try clear hb2); (try clear hk); (try clear hi); obtain ⟨Ao108, co108, eo108⟩ := Kd.R_slice HO_7.out; subst eo108))
   have n0_ := Aside0.mk (Kd.R_drew HO_6.out)
   have n1_ := Aside0.mk (Kd.R_drew HO_7.out)
   have n2_ := Aside0.mk (blk_drew BK137.out)
   have n3_ := Aside0.mk (IsS75.drew HI135.out)
   have n4_ := Aside0.mk (below_drew1 HB.out)
   clear HO_6 HO_7 BK137 HI135 HB
   have HO_6 := n0_; have HO_7 := n1_; have BK137 := n2_; have HI135 := n3_; have HB := n4_
   clear n0_ n1_ n2_ n3_ n4_
   refine start_ (n := 12) (S := fun w' => w'.cell? ⟨gb137, 0, none⟩ = some (.bool ((rd_T62 l0 x8_2).f0)) ∧ w'.cell? ⟨gb137, 1, none⟩ = some (.int .u32 ((rd_T62 l0 x8_2).f1.f0)) ∧ w'.cell? ⟨gb137, 2, none⟩ = some (.int .i64 ((rd_T62 l0 x8_2).f1.f1)) ∧ w'.cell? ⟨gb137, 3, none⟩ = some (.int .i64 ((rd_T62 l0 x8_2).f2))) (ds := []) #[F_,F_,F_,F_,F_,F_,F_,F_,F_,F_,F_,F_] (by kernel_rfl) rfl rfl ⟨(blk_cell BK137.out 0).trans rfl, (blk_cell BK137.out 1).trans rfl, (blk_cell BK137.out 2).trans rfl, (blk_cell BK137.out 3).trans rfl⟩ (fun hHeld => ?_); refine with_tabW TR.tab29 TR.bits29 (fun HT_ HW_ => ?_)
   generalize w107.drew = w109 at HO_6 HO_7 BK137 HI135 HB hHeld ⊢
   refine pure_ (i := 0) (N := some 136) (v := ?_) (a' := ?_) #[T_,F_,F_,F_,F_,F_,F_,F_,F_,F_,F_,F_] rfl rfl (any_of HT_.out (by kernel_rfl)) (fun _ _ _ h => h) (Or.inl ⟨by rfl, ?_⟩) ?_ ?_
   rotate_left
   ·intro w'
    go_simp
    with_reducible rfl
   rotate_left
   ·simp only [Act.put, q1_, q2_, q3_, i64_w, i32_w]
    rfl
   refine pure_ (i := 1) (N := some 137) (v := ?_) (a' := ?_) #[T_,T_,F_,F_,F_,F_,F_,F_,F_,F_,F_,F_] rfl rfl (any_of HT_.out (by kernel_rfl)) (fun _ _ _ h => h) (Or.inl ⟨by rfl, ?_⟩) ?_ ?_
   rotate_left
   ·intro w'
    go_simp
    with_reducible rfl
   rotate_left
   ·simp only [Act.put, q1_, q2_, q3_, i64_w, i32_w]
    rfl
   refine pure_ (i := 5) (N := some 141) (v := ?_) (a' := ?_) #[T_,T_,F_,F_,F_,T_,F_,F_,F_,F_,F_,F_] rfl rfl (any_of HT_.out (by kernel_rfl)) (fun _ _ _ h => h) (Or.inl ⟨by rfl, ?_⟩) ?_ ?_
   rotate_left
   ·intro w'
    go_simp
    with_reducible rfl
   rotate_left
   ·simp only [Act.put, q1_, q2_, q3_, i64_w, i32_w]
    rfl
   refine pure_ (i := 6) (N := some 142) (v := ?_) (a' := ?_) #[T_,T_,F_,F_,F_,T_,T_,F_,F_,F_,F_,F_] rfl rfl (any_of HT_.out (by kernel_rfl)) (fun _ _ _ h => h) (Or.inl ⟨by rfl, ?_⟩) ?_ ?_
   rotate_left
   ·intro w'
    go_simp
    with_reducible rfl
   rotate_left
   ·simp only [Act.put, q1_, q2_, q3_, i64_w, i32_w]
    rfl
   refine take_ (i := 2) (N := some 138) (v := ?_) (a' := ?_) #[T_,T_,T_,F_,F_,T_,T_,F_,F_,F_,F_,F_] rfl rfl (take_ofW HT_.out HW_.out (by kernel_rfl)) (fun _ _ _ h => h) (Or.inl ⟨by rfl, ?_⟩) hHeld ?_ ?_
   rotate_left
   ·rintro w' ⟨s0, s1, s2, s3⟩
    go_simp
    with_reducible rfl
   rotate_left
   ·simp only [Act.put, q1_, q2_, q3_, i64_w, i32_w]
    rfl
   refine take_ (i := 7) (N := some 143) (v := ?_) (a' := ?_) #[T_,T_,T_,F_,F_,T_,T_,T_,F_,F_,F_,F_] rfl rfl (take_ofW HT_.out HW_.out (by kernel_rfl)) (fun _ _ _ h => h) (Or.inl ⟨by rfl, ?_⟩) hHeld ?_ ?_
   rotate_left
   ·rintro w' ⟨s0, s1, s2, s3⟩
    go_simp
    with_reducible rfl
   rotate_left
   ·simp only [Act.put, q1_, q2_, q3_, i64_w, i32_w]
    rfl
   refine join_ (σ := Value × Value × Value) 3 #[T_,T_,T_,T_,T_,T_,T_,T_,T_,F_,F_,F_] (fun s_ => [(139, s_.1), (140, s_.2.1), (144, s_.2.2)]) (fun s_ w' => (w'.cell? ⟨gb137, 0, none⟩ = some (.bool ((rd_T62 l0 x8_2).f0)) ∧ w'.cell? ⟨gb137, 1, none⟩ = some (.int .u32 ((rd_T62 l0 x8_2).f1.f0)) ∧ w'.cell? ⟨gb137, 2, none⟩ = some (.int .i64 ((rd_T62 l0 x8_2).f1.f1)) ∧ w'.cell? ⟨gb137, 3, none⟩ = some (.int .i64 ((rd_T62 l0 x8_2).f2))) ∧ (Kd.R k47 47 w' w.heap.size (fun k_ => some k_ ≠ (s_.2.1 : Value).ownBlock) s_.1 y184) ∧ (Kd.R k47 47 w' w.heap.size (fun k_ => some k_ ≠ (s_.1 : Value).ownBlock) s_.2.1 y187) ∧ (Kd.R (Kd.int .i64) 3 w' w.heap.size (fun k_ => some k_ ≠ (.slice Ao108 x7_2.length co108 : Value).ownBlock) s_.2.2 y190) ∧ (Kd.R (Kd.int .i64) 3 w' w.heap.size (fun k_ => some k_ ≠ (s_.2.2 : Value).ownBlock) (.slice Ao108 x7_2.length co108) x7_2) ∧ (w'.heap[gb137]? = some (.cells #[.bool ((rd_T62 l0 x8_2).f0), .int .u32 ((rd_T62 l0 x8_2).f1.f0), .int .i64 ((rd_T62 l0 x8_2).f1.f1), .int .i64 ((rd_T62 l0 x8_2).f2)] 62 (0, 0))) ∧ (IsS75 w w' g135 t180) ∧ (Below w.heap.size w w')) ?_ ?_
   rotate_left
   ·intro hCont
    refine two_ (i := 3) (j := 8) (Ni := some 139) (Nj := some 144) #[T_,T_,T_,T_,F_,T_,T_,T_,F_,F_,F_,F_] #[T_,T_,T_,F_,F_,T_,T_,T_,T_,F_,F_,F_] rfl rfl rfl rfl (two_of HT_.out (by kernel_rfl)) (by decide) (by decide) (fun K hK => ?_) (fun K hK => ?_)
    ·skip
     refine Kd.R_lit_step k47 _ 47 ?hg (N := 139) ?hd (xs := ([(⟨((rd_T62 l0 x8_2).f1.f0), ((rd_T62 l0 x8_2).f1.f1)⟩ : S47)] : List (S47))) (inner := [.int .u32 ((rd_T62 l0 x8_2).f1.f0), .int .i64 ((rd_T62 l0 x8_2).f1.f1)]) (ok := fun _ => True) (okp := fun _ => True) ?hr ?hp (fun _ hk => hk) trivial (Below.refl _ _) (Nat.le_refl _) (by simp) ?_; (case hd => rfl); (case hg => rfl); (case hr => first | (go_simp; done) | (go_simp; rfl) | (go_simp; simp [IntKind.wrap_u8, IntKind.wrap_u32]; done)); (case hp => exact (Reps.c2 (show Kd.M k47 _ _ _ (⟨((rd_T62 l0 x8_2).f1.f0), ((rd_T62 l0 x8_2).f1.f1)⟩ : S47) [.int .u32 ((rd_T62 l0 x8_2).f1.f0), .int .i64 ((rd_T62 l0 x8_2).f1.f1)] from (k47_mkM _ _ _ (⟨((rd_T62 l0 x8_2).f1.f0), ((rd_T62 l0 x8_2).f1.f1)⟩ : S47) )) (Reps.none _ _)))
     intro v185 w110 ho111 hb hg_ hnew_
     clear hg_ hnew_
     (first | rw [← Ny184.out] at ho111 | (simp only [Int.reduceToNat] at ho111; rw [← Ny184.out] at ho111))
     have n0_ := Aside0.mk (Kd.R_elder' (by (with_reducible repeat (first|apply Kd.R_alloc|apply Kd.R_drewN|apply Kd.R_drew)); exact HO_6.out) (Kd.R_base ho111) hb)
     have n1_ := Aside0.mk (Kd.R_below (by (with_reducible repeat (first|apply Kd.R_alloc|apply Kd.R_drewN|apply Kd.R_drew)); exact HO_7.out) hb)
     have n2_ := Aside0.mk (Kd.R_lower (Kd.R_new' ho111 (Kd.R_lt (by (with_reducible repeat (first|apply Kd.R_alloc|apply Kd.R_drewN|apply Kd.R_drew)); exact HO_6.out))) (below_size (by repeat (first | (with_reducible first | exact HB.out | apply below_alloc | apply pw_below_drewN | apply below_drew1 | refine below_set ?_ (IsS75.ge HI135.out) | refine below_set ?_ GE137.out) | exact HB.out))))
     have n3_ := Aside0.mk (blk_below (g := gb137) (o := .cells #[.bool ((rd_T62 l0 x8_2).f0), .int .u32 ((rd_T62 l0 x8_2).f1.f0), .int .i64 ((rd_T62 l0 x8_2).f1.f1), .int .i64 ((rd_T62 l0 x8_2).f2)] 62 (0, 0)) (by (with_reducible repeat (first | refine blk_drewN ?_ _ | refine blk_drew ?_ | refine blk_alloc ?_ _)); exact BK137.out) hb)
     have n4_ := Aside0.mk (IsS75.below (by repeat (first | (with_reducible first | exact HI135.out | apply IsS75.alloc | apply IsS75.drewN | apply IsS75.drew | refine IsS75.far ?_ (by (repeat (first | exact (Opq.NP.blk BK137.out (by decide)) | (with_reducible apply Opq.NP.setCell) | (with_reducible apply Opq.NP.drewN) | (with_reducible apply Opq.NP.drew) | (with_reducible apply Opq.NP.alloc))); done) _) | exact HI135.out)) hb)
     have n5_ := Aside0.mk (below_step (by repeat (first | (with_reducible first | exact HB.out | apply below_alloc | apply pw_below_drewN | apply below_drew1 | refine below_set ?_ (IsS75.ge HI135.out) | refine below_set ?_ GE137.out) | exact HB.out)) hb)
     clear HO_6 HO_7 BK137 HI135 HB
     have HO_6 := n0_; have HO_7 := n1_; have HO186 := n2_; have BK137 := n3_; have HI135 := n4_; have HB := n5_
     clear n0_ n1_ n2_ n3_ n4_ n5_ hb ho111
     obtain ⟨Ao113, co113, eo113⟩ := Kd.R_slice HO186.out
     (first | subst eo113 | (injection eo113 with f1_ f2_ f3_; have f4_ := f1_.symm; have f5_ := f3_.symm; clear f1_ f2_ f3_; subst f4_; subst f5_))
     refine hK.out _ _ ⟨(blk_cell BK137.out 0).trans rfl, (blk_cell BK137.out 1).trans rfl, (blk_cell BK137.out 2).trans rfl, (blk_cell BK137.out 3).trans rfl⟩ (fun hHeld => ?_)
     clear hK K
     refine norm_ (a' := ?_) ?_ ?_
     rotate_left
     ·show Act.put _ (some 139) _ = _
      simp only [Act.put, q1_, q2_, q3_, i64_w, i32_w]
      rfl
     refine two_ (i := 4) (j := 8) (Ni := some 140) (Nj := some 144) #[T_,T_,T_,T_,T_,T_,T_,T_,F_,F_,F_,F_] #[T_,T_,T_,T_,F_,T_,T_,T_,T_,F_,F_,F_] rfl rfl rfl rfl (two_of HT_.out (by kernel_rfl)) (by decide) (by decide) (fun K hK => ?_) (fun K hK => ?_)
     ·skip
      refine Kd.R_append_rows_step k47 (w0 := w) w.heap.size (by rfl) (.tmp 136) (.tmp 139) 54 47 (.agg #[(.int .u32 0), (.int .i64 0)]) 16 rfl Try.underlying54 info47 rfl (by decide) (by omega) (.slice Ao24 x6_2.length co24) x6_2 y184 _ _ _ (fun k_ => some k_ ≠ (.slice Ao113 y184.length co113 : Value).ownBlock) (fun _ => False) rfl rfl ?aO ?aR (fun _ _ h => h) (fun _ h => h.elim) ?aF ?aB ?aS ?aL ?_
      (case aR => repeat (first | exact (Kd.R_reads' HO186.out).2.2 | (with_reducible refine Kd.C_alloc ?_ _) | (with_reducible refine Kd.C_drewN ?_ _) | (with_reducible refine Kd.C_drew ?_)))
      (case aB => exact (by repeat (first | (with_reducible first | exact HB.out | apply below_alloc | apply pw_below_drewN | apply below_drew1 | refine below_set ?_ (IsS75.ge HI135.out) | refine below_set ?_ GE137.out) | exact HB.out)))
      (case aF => exact (fun k_ hk => Kd.fresh' (Kd.R_lt (by (with_reducible repeat (first|apply Kd.R_alloc|apply Kd.R_drewN|apply Kd.R_drew)); exact HO186.out)) k_ hk))
      (case aO => exact (by (with_reducible repeat (first|apply Kd.R_alloc|apply Kd.R_drewN|apply Kd.R_drew)); exact Kd.R_mono HO_6.out (fun _ hk => hk.2)))
      (case aS => exact (below_size (by repeat (first | (with_reducible first | exact HB.out | apply below_alloc | apply pw_below_drewN | apply below_drew1 | refine below_set ?_ (IsS75.ge HI135.out) | refine below_set ?_ GE137.out) | exact HB.out))))
      (case aL => have := LMc99.out; omega)
      intro v188 w112 ho hb hg hat
      rw [← Ny187.out] at ho
      have n0_ := Aside0.mk (Kd.R_over' (by (with_reducible repeat (first|apply Kd.R_alloc|apply Kd.R_drewN|apply Kd.R_drew)); exact HO_7.out) (Kd.R_typed (by (with_reducible repeat (first|apply Kd.R_alloc|apply Kd.R_drewN|apply Kd.R_drew)); exact HO_6.out)) (by decide) hg)
      have n1_ := Aside0.mk (blk_grown (g := gb137) (o := .cells #[.bool ((rd_T62 l0 x8_2).f0), .int .u32 ((rd_T62 l0 x8_2).f1.f0), .int .i64 ((rd_T62 l0 x8_2).f1.f1), .int .i64 ((rd_T62 l0 x8_2).f2)] 62 (0, 0)) (by (with_reducible repeat (first | refine blk_drewN ?_ _ | refine blk_drew ?_ | refine blk_alloc ?_ _)); exact BK137.out) hg (Kd.R_ne HO_6.out BK137.out (by decide)))
      have n2_ := Aside0.mk (IsS75.grown (by repeat (first | (with_reducible first | exact HI135.out | apply IsS75.alloc | apply IsS75.drewN | apply IsS75.drew | refine IsS75.far ?_ (by (repeat (first | exact (Opq.NP.blk BK137.out (by decide)) | (with_reducible apply Opq.NP.setCell) | (with_reducible apply Opq.NP.drewN) | (with_reducible apply Opq.NP.drew) | (with_reducible apply Opq.NP.alloc))); done) _) | exact HI135.out)) hg (by (repeat (first | exact (Opq.NPr.typed (Kd.R_typed HO_6.out) (by decide)) | (with_reducible apply Opq.NPr.setCell) | (with_reducible apply Opq.NPr.drewN) | (with_reducible apply Opq.NPr.drew) | (with_reducible apply Opq.NPr.alloc))); done))
      have n3_ := Aside0.mk (Kd.R_after (ok := (fun _ => True)) (by (with_reducible repeat (first|apply Kd.R_alloc|apply Kd.R_drewN|apply Kd.R_drew)); exact HO186.out) hg hat)
      have n4_ := Aside0.mk (hb)
      have n5_ := Aside0.mk (ho)
      clear HO_7 BK137 HI135 HO186 HB HO_6
      have HO_7 := n0_; have BK137 := n1_; have HI135 := n2_; have HO186 := n3_; have HB := n4_; have HO189 := n5_
      clear n0_ n1_ n2_ n3_ n4_ n5_ ho hb hg hat
      refine hK.out _ _ ⟨(blk_cell BK137.out 0).trans rfl, (blk_cell BK137.out 1).trans rfl, (blk_cell BK137.out 2).trans rfl, (blk_cell BK137.out 3).trans rfl⟩ (fun hHeld => ?_)
      clear hK K
      refine norm_ (a' := ?_) ?_ ?_
      rotate_left
      ·show Act.put _ (some 140) _ = _
       simp only [Act.put, q1_, q2_, q3_, i64_w, i32_w]
       rfl
      refine one_ (i := 8) (N := some 144) #[T_,T_,T_,T_,T_,T_,T_,T_,T_,F_,F_,F_] rfl rfl (one_of HT_.out (by kernel_rfl)) (by decide) (fun K hK => ?_)
      refine Kd.R_lit_step (Kd.int .i64) _ 3 ?hg (N := 144) ?hd (xs := ([((rd_T62 l0 x8_2).f2)] : List Int)) (inner := [.int .i64 ((rd_T62 l0 x8_2).f2)]) (ok := fun _ => True) (okp := fun _ => True) ?hr ?hp (fun _ hk => hk) trivial (Below.refl _ _) (Nat.le_refl _) (by simp) ?_; (case hd => rfl); (case hg => rfl); (case hr => first | (go_simp; done) | (go_simp; rfl) | (go_simp; simp [IntKind.wrap_u8, IntKind.wrap_u32]; done)); (case hp => exact (Reps.one (show Kd.M (Kd.int .i64) _ _ _ ((rd_T62 l0 x8_2).f2) [.int .i64 ((rd_T62 l0 x8_2).f2)] from rfl) (Reps.none _ _)))
      intro v191 w114 ho115 hb hg_ hnew_
      clear hg_ hnew_
      (first | rw [← Ny190.out] at ho115 | (simp only [Int.reduceToNat] at ho115; rw [← Ny190.out] at ho115))
      have n0_ := Aside0.mk (Kd.R_elder' (by (with_reducible repeat (first|apply Kd.R_alloc|apply Kd.R_drewN|apply Kd.R_drew)); exact HO_7.out) (Kd.R_base ho115) hb)
      have n1_ := Aside0.mk (Kd.R_below (by (with_reducible repeat (first|apply Kd.R_alloc|apply Kd.R_drewN|apply Kd.R_drew)); exact HO186.out) hb)
      have n2_ := Aside0.mk (Kd.R_below (by (with_reducible repeat (first|apply Kd.R_alloc|apply Kd.R_drewN|apply Kd.R_drew)); exact HO189.out) hb)
      have n3_ := Aside0.mk (Kd.R_lower (Kd.R_new' ho115 (Kd.R_lt (by (with_reducible repeat (first|apply Kd.R_alloc|apply Kd.R_drewN|apply Kd.R_drew)); exact HO_7.out))) (below_size (by repeat (first | (with_reducible first | exact HB.out | apply below_alloc | apply pw_below_drewN | apply below_drew1 | refine below_set ?_ (IsS75.ge HI135.out) | refine below_set ?_ GE137.out) | exact HB.out))))
      have n4_ := Aside0.mk (blk_below (g := gb137) (o := .cells #[.bool ((rd_T62 l0 x8_2).f0), .int .u32 ((rd_T62 l0 x8_2).f1.f0), .int .i64 ((rd_T62 l0 x8_2).f1.f1), .int .i64 ((rd_T62 l0 x8_2).f2)] 62 (0, 0)) (by (with_reducible repeat (first | refine blk_drewN ?_ _ | refine blk_drew ?_ | refine blk_alloc ?_ _)); exact BK137.out) hb)
      have n5_ := Aside0.mk (IsS75.below (by repeat (first | (with_reducible first | exact HI135.out | apply IsS75.alloc | apply IsS75.drewN | apply IsS75.drew | refine IsS75.far ?_ (by (repeat (first | exact (Opq.NP.blk BK137.out (by decide)) | (with_reducible apply Opq.NP.setCell) | (with_reducible apply Opq.NP.drewN) | (with_reducible apply Opq.NP.drew) | (with_reducible apply Opq.NP.alloc))); done) _) | exact HI135.out)) hb)
      have n6_ := Aside0.mk (below_step (by repeat (first | (with_reducible first | exact HB.out | apply below_alloc | apply pw_below_drewN | apply below_drew1 | refine below_set ?_ (IsS75.ge HI135.out) | refine below_set ?_ GE137.out) | exact HB.out)) hb)
      clear HO_7 HO186 HO189 BK137 HI135 HB
      have HO_7 := n0_; have HO186 := n1_; have HO189 := n2_; have HO192 := n3_; have BK137 := n4_; have HI135 := n5_; have HB := n6_
      clear n0_ n1_ n2_ n3_ n4_ n5_ n6_ hb ho115
      refine hK.out _ _ ⟨(blk_cell BK137.out 0).trans rfl, (blk_cell BK137.out 1).trans rfl, (blk_cell BK137.out 2).trans rfl, (blk_cell BK137.out 3).trans rfl⟩ (fun hHeld => ?_)
      clear hK K
      refine norm_ (a' := ?_) ?_ ?_
      rotate_left
      ·show Act.put _ (some 144) _ = _
       simp only [Act.put, q1_, q2_, q3_, i64_w, i32_w]
       rfl
      exact norm_ (by simp only [putAll, Act.put, List.setIfInBounds_toArray, List.set_cons_zero, List.set_cons_succ]) (hCont (.slice Ao113 y184.length co113, v188, v191) _ ⟨hHeld, (by (with_reducible repeat (first|apply Kd.R_alloc|apply Kd.R_drewN|apply Kd.R_drew)); exact Kd.R_mono HO186.out (fun _ hk => hk.2)), (by (with_reducible repeat (first|apply Kd.R_alloc|apply Kd.R_drewN|apply Kd.R_drew)); exact HO189.out), (by (with_reducible repeat (first|apply Kd.R_alloc|apply Kd.R_drewN|apply Kd.R_drew)); exact Kd.R_mono HO192.out (fun _ hk => hk.2)), (by (with_reducible repeat (first|apply Kd.R_alloc|apply Kd.R_drewN|apply Kd.R_drew)); exact Kd.R_mono HO_7.out (fun _ hk => hk.2)), (by (with_reducible repeat (first | refine blk_drewN ?_ _ | refine blk_drew ?_ | refine blk_alloc ?_ _)); exact BK137.out), (by repeat (first | (with_reducible first | exact HI135.out | apply IsS75.alloc | apply IsS75.drewN | apply IsS75.drew | refine IsS75.far ?_ (by (repeat (first | exact (Opq.NP.blk BK137.out (by decide)) | (with_reducible apply Opq.NP.setCell) | (with_reducible apply Opq.NP.drewN) | (with_reducible apply Opq.NP.drew) | (with_reducible apply Opq.NP.alloc))); done) _) | exact HI135.out)), (by repeat (first | (with_reducible first | exact HB.out | apply below_alloc | apply pw_below_drewN | apply below_drew1 | refine below_set ?_ (IsS75.ge HI135.out) | refine below_set ?_ GE137.out) | exact HB.out))⟩)
     skip
     refine Kd.R_lit_step (Kd.int .i64) _ 3 ?hg (N := 144) ?hd (xs := ([((rd_T62 l0 x8_2).f2)] : List Int)) (inner := [.int .i64 ((rd_T62 l0 x8_2).f2)]) (ok := fun _ => True) (okp := fun _ => True) ?hr ?hp (fun _ hk => hk) trivial (Below.refl _ _) (Nat.le_refl _) (by simp) ?_; (case hd => rfl); (case hg => rfl); (case hr => first | (go_simp; done) | (go_simp; rfl) | (go_simp; simp [IntKind.wrap_u8, IntKind.wrap_u32]; done)); (case hp => exact (Reps.one (show Kd.M (Kd.int .i64) _ _ _ ((rd_T62 l0 x8_2).f2) [.int .i64 ((rd_T62 l0 x8_2).f2)] from rfl) (Reps.none _ _)))
     intro v191 w112 ho113 hb hg_ hnew_
     clear hg_ hnew_
     (first | rw [← Ny190.out] at ho113 | (simp only [Int.reduceToNat] at ho113; rw [← Ny190.out] at ho113))
     have n0_ := Aside0.mk (Kd.R_below (by (with_reducible repeat (first|apply Kd.R_alloc|apply Kd.R_drewN|apply Kd.R_drew)); exact HO_6.out) hb)
     have n1_ := Aside0.mk (Kd.R_elder' (by (with_reducible repeat (first|apply Kd.R_alloc|apply Kd.R_drewN|apply Kd.R_drew)); exact HO_7.out) (Kd.R_base ho113) hb)
     have n2_ := Aside0.mk (Kd.R_below (by (with_reducible repeat (first|apply Kd.R_alloc|apply Kd.R_drewN|apply Kd.R_drew)); exact HO186.out) hb)
     have n3_ := Aside0.mk (Kd.R_lower (Kd.R_new' ho113 (Kd.R_lt (by (with_reducible repeat (first|apply Kd.R_alloc|apply Kd.R_drewN|apply Kd.R_drew)); exact HO_7.out))) (below_size (by repeat (first | (with_reducible first | exact HB.out | apply below_alloc | apply pw_below_drewN | apply below_drew1 | refine below_set ?_ (IsS75.ge HI135.out) | refine below_set ?_ GE137.out) | exact HB.out))))
     have n4_ := Aside0.mk (blk_below (g := gb137) (o := .cells #[.bool ((rd_T62 l0 x8_2).f0), .int .u32 ((rd_T62 l0 x8_2).f1.f0), .int .i64 ((rd_T62 l0 x8_2).f1.f1), .int .i64 ((rd_T62 l0 x8_2).f2)] 62 (0, 0)) (by (with_reducible repeat (first | refine blk_drewN ?_ _ | refine blk_drew ?_ | refine blk_alloc ?_ _)); exact BK137.out) hb)
     have n5_ := Aside0.mk (IsS75.below (by repeat (first | (with_reducible first | exact HI135.out | apply IsS75.alloc | apply IsS75.drewN | apply IsS75.drew | refine IsS75.far ?_ (by (repeat (first | exact (Opq.NP.blk BK137.out (by decide)) | (with_reducible apply Opq.NP.setCell) | (with_reducible apply Opq.NP.drewN) | (with_reducible apply Opq.NP.drew) | (with_reducible apply Opq.NP.alloc))); done) _) | exact HI135.out)) hb)
     have n6_ := Aside0.mk (below_step (by repeat (first | (with_reducible first | exact HB.out | apply below_alloc | apply pw_below_drewN | apply below_drew1 | refine below_set ?_ (IsS75.ge HI135.out) | refine below_set ?_ GE137.out) | exact HB.out)) hb)
     clear HO_6 HO_7 HO186 BK137 HI135 HB
     have HO_6 := n0_; have HO_7 := n1_; have HO186 := n2_; have HO192 := n3_; have BK137 := n4_; have HI135 := n5_; have HB := n6_
     clear n0_ n1_ n2_ n3_ n4_ n5_ n6_ hb ho113
     obtain ⟨Ao115, co115, eo115⟩ := Kd.R_slice HO186.out
     (first | subst eo115 | (injection eo115 with f1_ f2_ f3_; have f4_ := f1_.symm; have f5_ := f3_.symm; clear f1_ f2_ f3_; subst f4_; subst f5_))
     refine hK.out _ _ ⟨(blk_cell BK137.out 0).trans rfl, (blk_cell BK137.out 1).trans rfl, (blk_cell BK137.out 2).trans rfl, (blk_cell BK137.out 3).trans rfl⟩ (fun hHeld => ?_)
     clear hK K
     refine norm_ (a' := ?_) ?_ ?_
     rotate_left
     ·show Act.put _ (some 144) _ = _
      simp only [Act.put, q1_, q2_, q3_, i64_w, i32_w]
      rfl
     refine one_ (i := 4) (N := some 140) #[T_,T_,T_,T_,T_,T_,T_,T_,T_,F_,F_,F_] rfl rfl (one_of HT_.out (by kernel_rfl)) (by decide) (fun K hK => ?_)
     refine Kd.R_append_rows_step k47 (w0 := w) w.heap.size (by rfl) (.tmp 136) (.tmp 139) 54 47 (.agg #[(.int .u32 0), (.int .i64 0)]) 16 rfl Try.underlying54 info47 rfl (by decide) (by omega) (.slice Ao24 x6_2.length co24) x6_2 y184 _ _ _ (fun k_ => some k_ ≠ (.slice Ao115 y184.length co115 : Value).ownBlock) (fun _ => False) rfl rfl ?aO ?aR (fun _ _ h => h) (fun _ h => h.elim) ?aF ?aB ?aS ?aL ?_
     (case aR => repeat (first | exact (Kd.R_reads' HO186.out).2.2 | (with_reducible refine Kd.C_alloc ?_ _) | (with_reducible refine Kd.C_drewN ?_ _) | (with_reducible refine Kd.C_drew ?_)))
     (case aB => exact (by repeat (first | (with_reducible first | exact HB.out | apply below_alloc | apply pw_below_drewN | apply below_drew1 | refine below_set ?_ (IsS75.ge HI135.out) | refine below_set ?_ GE137.out) | exact HB.out)))
     (case aF => exact (fun k_ hk => Kd.fresh' (Kd.R_lt (by (with_reducible repeat (first|apply Kd.R_alloc|apply Kd.R_drewN|apply Kd.R_drew)); exact HO186.out)) k_ hk))
     (case aO => exact (by (with_reducible repeat (first|apply Kd.R_alloc|apply Kd.R_drewN|apply Kd.R_drew)); exact Kd.R_mono HO_6.out (fun _ hk => hk.2)))
     (case aS => exact (below_size (by repeat (first | (with_reducible first | exact HB.out | apply below_alloc | apply pw_below_drewN | apply below_drew1 | refine below_set ?_ (IsS75.ge HI135.out) | refine below_set ?_ GE137.out) | exact HB.out))))
     (case aL => have := LMc99.out; omega)
     intro v188 w114 ho hb hg hat
     rw [← Ny187.out] at ho
     have n0_ := Aside0.mk (Kd.R_over' (by (with_reducible repeat (first|apply Kd.R_alloc|apply Kd.R_drewN|apply Kd.R_drew)); exact HO_7.out) (Kd.R_typed (by (with_reducible repeat (first|apply Kd.R_alloc|apply Kd.R_drewN|apply Kd.R_drew)); exact HO_6.out)) (by decide) hg)
     have n1_ := Aside0.mk (blk_grown (g := gb137) (o := .cells #[.bool ((rd_T62 l0 x8_2).f0), .int .u32 ((rd_T62 l0 x8_2).f1.f0), .int .i64 ((rd_T62 l0 x8_2).f1.f1), .int .i64 ((rd_T62 l0 x8_2).f2)] 62 (0, 0)) (by (with_reducible repeat (first | refine blk_drewN ?_ _ | refine blk_drew ?_ | refine blk_alloc ?_ _)); exact BK137.out) hg (Kd.R_ne HO_6.out BK137.out (by decide)))
     have n2_ := Aside0.mk (IsS75.grown (by repeat (first | (with_reducible first | exact HI135.out | apply IsS75.alloc | apply IsS75.drewN | apply IsS75.drew | refine IsS75.far ?_ (by (repeat (first | exact (Opq.NP.blk BK137.out (by decide)) | (with_reducible apply Opq.NP.setCell) | (with_reducible apply Opq.NP.drewN) | (with_reducible apply Opq.NP.drew) | (with_reducible apply Opq.NP.alloc))); done) _) | exact HI135.out)) hg (by (repeat (first | exact (Opq.NPr.typed (Kd.R_typed HO_6.out) (by decide)) | (with_reducible apply Opq.NPr.setCell) | (with_reducible apply Opq.NPr.drewN) | (with_reducible apply Opq.NPr.drew) | (with_reducible apply Opq.NPr.alloc))); done))
     have n3_ := Aside0.mk (Kd.R_after (ok := (fun _ => True)) (by (with_reducible repeat (first|apply Kd.R_alloc|apply Kd.R_drewN|apply Kd.R_drew)); exact HO186.out) hg hat)
     have n4_ := Aside0.mk (Kd.R_over' (by (with_reducible repeat (first|apply Kd.R_alloc|apply Kd.R_drewN|apply Kd.R_drew)); exact HO192.out) (Kd.R_typed (by (with_reducible repeat (first|apply Kd.R_alloc|apply Kd.R_drewN|apply Kd.R_drew)); exact HO_6.out)) (by decide) hg)
     have n5_ := Aside0.mk (hb)
     have n6_ := Aside0.mk (ho)
     clear HO_7 BK137 HI135 HO186 HO192 HB HO_6
     have HO_7 := n0_; have BK137 := n1_; have HI135 := n2_; have HO186 := n3_; have HO192 := n4_; have HB := n5_; have HO189 := n6_
     clear n0_ n1_ n2_ n3_ n4_ n5_ n6_ ho hb hg hat
     refine hK.out _ _ ⟨(blk_cell BK137.out 0).trans rfl, (blk_cell BK137.out 1).trans rfl, (blk_cell BK137.out 2).trans rfl, (blk_cell BK137.out 3).trans rfl⟩ (fun hHeld => ?_)
     clear hK K
     refine norm_ (a' := ?_) ?_ ?_
     rotate_left
     ·show Act.put _ (some 140) _ = _
      simp only [Act.put, q1_, q2_, q3_, i64_w, i32_w]
      rfl
     exact norm_ (by simp only [putAll, Act.put, List.setIfInBounds_toArray, List.set_cons_zero, List.set_cons_succ]) (hCont (.slice Ao115 y184.length co115, v188, v191) _ ⟨hHeld, (by (with_reducible repeat (first|apply Kd.R_alloc|apply Kd.R_drewN|apply Kd.R_drew)); exact Kd.R_mono HO186.out (fun _ hk => hk.2)), (by (with_reducible repeat (first|apply Kd.R_alloc|apply Kd.R_drewN|apply Kd.R_drew)); exact HO189.out), (by (with_reducible repeat (first|apply Kd.R_alloc|apply Kd.R_drewN|apply Kd.R_drew)); exact Kd.R_mono HO192.out (fun _ hk => hk.2)), (by (with_reducible repeat (first|apply Kd.R_alloc|apply Kd.R_drewN|apply Kd.R_drew)); exact Kd.R_mono HO_7.out (fun _ hk => hk.2)), (by (with_reducible repeat (first | refine blk_drewN ?_ _ | refine blk_drew ?_ | refine blk_alloc ?_ _)); exact BK137.out), (by repeat (first | (with_reducible first | exact HI135.out | apply IsS75.alloc | apply IsS75.drewN | apply IsS75.drew | refine IsS75.far ?_ (by (repeat (first | exact (Opq.NP.blk BK137.out (by decide)) | (with_reducible apply Opq.NP.setCell) | (with_reducible apply Opq.NP.drewN) | (with_reducible apply Opq.NP.drew) | (with_reducible apply Opq.NP.alloc))); done) _) | exact HI135.out)), (by repeat (first | (with_reducible first | exact HB.out | apply below_alloc | apply pw_below_drewN | apply below_drew1 | refine below_set ?_ (IsS75.ge HI135.out) | refine below_set ?_ GE137.out) | exact HB.out))⟩)
    skip
    refine Kd.R_lit_step (Kd.int .i64) _ 3 ?hg (N := 144) ?hd (xs := ([((rd_T62 l0 x8_2).f2)] : List Int)) (inner := [.int .i64 ((rd_T62 l0 x8_2).f2)]) (ok := fun _ => True) (okp := fun _ => True) ?hr ?hp (fun _ hk => hk) trivial (Below.refl _ _) (Nat.le_refl _) (by simp) ?_; (case hd => rfl); (case hg => rfl); (case hr => first | (go_simp; done) | (go_simp; rfl) | (go_simp; simp [IntKind.wrap_u8, IntKind.wrap_u32]; done)); (case hp => exact (Reps.one (show Kd.M (Kd.int .i64) _ _ _ ((rd_T62 l0 x8_2).f2) [.int .i64 ((rd_T62 l0 x8_2).f2)] from rfl) (Reps.none _ _)))
    intro v191 w110 ho111 hb hg_ hnew_
    clear hg_ hnew_
    (first | rw [← Ny190.out] at ho111 | (simp only [Int.reduceToNat] at ho111; rw [← Ny190.out] at ho111))
    have n0_ := Aside0.mk (Kd.R_below (by (with_reducible repeat (first|apply Kd.R_alloc|apply Kd.R_drewN|apply Kd.R_drew)); exact HO_6.out) hb)
    have n1_ := Aside0.mk (Kd.R_elder' (by (with_reducible repeat (first|apply Kd.R_alloc|apply Kd.R_drewN|apply Kd.R_drew)); exact HO_7.out) (Kd.R_base ho111) hb)
    have n2_ := Aside0.mk (Kd.R_lower (Kd.R_new' ho111 (Kd.R_lt (by (with_reducible repeat (first|apply Kd.R_alloc|apply Kd.R_drewN|apply Kd.R_drew)); exact HO_7.out))) (below_size (by repeat (first | (with_reducible first | exact HB.out | apply below_alloc | apply pw_below_drewN | apply below_drew1 | refine below_set ?_ (IsS75.ge HI135.out) | refine below_set ?_ GE137.out) | exact HB.out))))
    have n3_ := Aside0.mk (blk_below (g := gb137) (o := .cells #[.bool ((rd_T62 l0 x8_2).f0), .int .u32 ((rd_T62 l0 x8_2).f1.f0), .int .i64 ((rd_T62 l0 x8_2).f1.f1), .int .i64 ((rd_T62 l0 x8_2).f2)] 62 (0, 0)) (by (with_reducible repeat (first | refine blk_drewN ?_ _ | refine blk_drew ?_ | refine blk_alloc ?_ _)); exact BK137.out) hb)
    have n4_ := Aside0.mk (IsS75.below (by repeat (first | (with_reducible first | exact HI135.out | apply IsS75.alloc | apply IsS75.drewN | apply IsS75.drew | refine IsS75.far ?_ (by (repeat (first | exact (Opq.NP.blk BK137.out (by decide)) | (with_reducible apply Opq.NP.setCell) | (with_reducible apply Opq.NP.drewN) | (with_reducible apply Opq.NP.drew) | (with_reducible apply Opq.NP.alloc))); done) _) | exact HI135.out)) hb)
    have n5_ := Aside0.mk (below_step (by repeat (first | (with_reducible first | exact HB.out | apply below_alloc | apply pw_below_drewN | apply below_drew1 | refine below_set ?_ (IsS75.ge HI135.out) | refine below_set ?_ GE137.out) | exact HB.out)) hb)
    clear HO_6 HO_7 BK137 HI135 HB
    have HO_6 := n0_; have HO_7 := n1_; have HO192 := n2_; have BK137 := n3_; have HI135 := n4_; have HB := n5_
    clear n0_ n1_ n2_ n3_ n4_ n5_ hb ho111
    refine hK.out _ _ ⟨(blk_cell BK137.out 0).trans rfl, (blk_cell BK137.out 1).trans rfl, (blk_cell BK137.out 2).trans rfl, (blk_cell BK137.out 3).trans rfl⟩ (fun hHeld => ?_)
    clear hK K
    refine norm_ (a' := ?_) ?_ ?_
    rotate_left
    ·show Act.put _ (some 144) _ = _
     simp only [Act.put, q1_, q2_, q3_, i64_w, i32_w]
     rfl
    refine one_ (i := 3) (N := some 139) #[T_,T_,T_,T_,F_,T_,T_,T_,T_,F_,F_,F_] rfl rfl (one_of HT_.out (by kernel_rfl)) (by decide) (fun K hK => ?_)
    refine Kd.R_lit_step k47 _ 47 ?hg (N := 139) ?hd (xs := ([(⟨((rd_T62 l0 x8_2).f1.f0), ((rd_T62 l0 x8_2).f1.f1)⟩ : S47)] : List (S47))) (inner := [.int .u32 ((rd_T62 l0 x8_2).f1.f0), .int .i64 ((rd_T62 l0 x8_2).f1.f1)]) (ok := fun _ => True) (okp := fun _ => True) ?hr ?hp (fun _ hk => hk) trivial (Below.refl _ _) (Nat.le_refl _) (by simp) ?_; (case hd => rfl); (case hg => rfl); (case hr => first | (go_simp; done) | (go_simp; rfl) | (go_simp; simp [IntKind.wrap_u8, IntKind.wrap_u32]; done)); (case hp => exact (Reps.c2 (show Kd.M k47 _ _ _ (⟨((rd_T62 l0 x8_2).f1.f0), ((rd_T62 l0 x8_2).f1.f1)⟩ : S47) [.int .u32 ((rd_T62 l0 x8_2).f1.f0), .int .i64 ((rd_T62 l0 x8_2).f1.f1)] from (k47_mkM _ _ _ (⟨((rd_T62 l0 x8_2).f1.f0), ((rd_T62 l0 x8_2).f1.f1)⟩ : S47) )) (Reps.none _ _)))
    intro v185 w112 ho113 hb hg_ hnew_
    clear hg_ hnew_
    (first | rw [← Ny184.out] at ho113 | (simp only [Int.reduceToNat] at ho113; rw [← Ny184.out] at ho113))
    have n0_ := Aside0.mk (Kd.R_elder' (by (with_reducible repeat (first|apply Kd.R_alloc|apply Kd.R_drewN|apply Kd.R_drew)); exact HO_6.out) (Kd.R_base ho113) hb)
    have n1_ := Aside0.mk (Kd.R_below (by (with_reducible repeat (first|apply Kd.R_alloc|apply Kd.R_drewN|apply Kd.R_drew)); exact HO_7.out) hb)
    have n2_ := Aside0.mk (Kd.R_below (by (with_reducible repeat (first|apply Kd.R_alloc|apply Kd.R_drewN|apply Kd.R_drew)); exact HO192.out) hb)
    have n3_ := Aside0.mk (Kd.R_lower (Kd.R_new' ho113 (Kd.R_lt (by (with_reducible repeat (first|apply Kd.R_alloc|apply Kd.R_drewN|apply Kd.R_drew)); exact HO_6.out))) (below_size (by repeat (first | (with_reducible first | exact HB.out | apply below_alloc | apply pw_below_drewN | apply below_drew1 | refine below_set ?_ (IsS75.ge HI135.out) | refine below_set ?_ GE137.out) | exact HB.out))))
    have n4_ := Aside0.mk (blk_below (g := gb137) (o := .cells #[.bool ((rd_T62 l0 x8_2).f0), .int .u32 ((rd_T62 l0 x8_2).f1.f0), .int .i64 ((rd_T62 l0 x8_2).f1.f1), .int .i64 ((rd_T62 l0 x8_2).f2)] 62 (0, 0)) (by (with_reducible repeat (first | refine blk_drewN ?_ _ | refine blk_drew ?_ | refine blk_alloc ?_ _)); exact BK137.out) hb)
    have n5_ := Aside0.mk (IsS75.below (by repeat (first | (with_reducible first | exact HI135.out | apply IsS75.alloc | apply IsS75.drewN | apply IsS75.drew | refine IsS75.far ?_ (by (repeat (first | exact (Opq.NP.blk BK137.out (by decide)) | (with_reducible apply Opq.NP.setCell) | (with_reducible apply Opq.NP.drewN) | (with_reducible apply Opq.NP.drew) | (with_reducible apply Opq.NP.alloc))); done) _) | exact HI135.out)) hb)
    have n6_ := Aside0.mk (below_step (by repeat (first | (with_reducible first | exact HB.out | apply below_alloc | apply pw_below_drewN | apply below_drew1 | refine below_set ?_ (IsS75.ge HI135.out) | refine below_set ?_ GE137.out) | exact HB.out)) hb)
    clear HO_6 HO_7 HO192 BK137 HI135 HB
    have HO_6 := n0_; have HO_7 := n1_; have HO192 := n2_; have HO186 := n3_; have BK137 := n4_; have HI135 := n5_; have HB := n6_
    clear n0_ n1_ n2_ n3_ n4_ n5_ n6_ hb ho113
    obtain ⟨Ao115, co115, eo115⟩ := Kd.R_slice HO186.out
    (first | subst eo115 | (injection eo115 with f1_ f2_ f3_; have f4_ := f1_.symm; have f5_ := f3_.symm; clear f1_ f2_ f3_; subst f4_; subst f5_))
    refine hK.out _ _ ⟨(blk_cell BK137.out 0).trans rfl, (blk_cell BK137.out 1).trans rfl, (blk_cell BK137.out 2).trans rfl, (blk_cell BK137.out 3).trans rfl⟩ (fun hHeld => ?_)
    clear hK K
    refine norm_ (a' := ?_) ?_ ?_
    rotate_left
    ·show Act.put _ (some 139) _ = _
     simp only [Act.put, q1_, q2_, q3_, i64_w, i32_w]
     rfl
    refine one_ (i := 4) (N := some 140) #[T_,T_,T_,T_,T_,T_,T_,T_,T_,F_,F_,F_] rfl rfl (one_of HT_.out (by kernel_rfl)) (by decide) (fun K hK => ?_)
    refine Kd.R_append_rows_step k47 (w0 := w) w.heap.size (by rfl) (.tmp 136) (.tmp 139) 54 47 (.agg #[(.int .u32 0), (.int .i64 0)]) 16 rfl Try.underlying54 info47 rfl (by decide) (by omega) (.slice Ao24 x6_2.length co24) x6_2 y184 _ _ _ (fun k_ => some k_ ≠ (.slice Ao115 y184.length co115 : Value).ownBlock) (fun _ => False) rfl rfl ?aO ?aR (fun _ _ h => h) (fun _ h => h.elim) ?aF ?aB ?aS ?aL ?_
    (case aR => repeat (first | exact (Kd.R_reads' HO186.out).2.2 | (with_reducible refine Kd.C_alloc ?_ _) | (with_reducible refine Kd.C_drewN ?_ _) | (with_reducible refine Kd.C_drew ?_)))
    (case aB => exact (by repeat (first | (with_reducible first | exact HB.out | apply below_alloc | apply pw_below_drewN | apply below_drew1 | refine below_set ?_ (IsS75.ge HI135.out) | refine below_set ?_ GE137.out) | exact HB.out)))
    (case aF => exact (fun k_ hk => Kd.fresh' (Kd.R_lt (by (with_reducible repeat (first|apply Kd.R_alloc|apply Kd.R_drewN|apply Kd.R_drew)); exact HO186.out)) k_ hk))
    (case aO => exact (by (with_reducible repeat (first|apply Kd.R_alloc|apply Kd.R_drewN|apply Kd.R_drew)); exact Kd.R_mono HO_6.out (fun _ hk => hk.2)))
    (case aS => exact (below_size (by repeat (first | (with_reducible first | exact HB.out | apply below_alloc | apply pw_below_drewN | apply below_drew1 | refine below_set ?_ (IsS75.ge HI135.out) | refine below_set ?_ GE137.out) | exact HB.out))))
    (case aL => have := LMc99.out; omega)
    intro v188 w114 ho hb hg hat
    rw [← Ny187.out] at ho
    have n0_ := Aside0.mk (Kd.R_over' (by (with_reducible repeat (first|apply Kd.R_alloc|apply Kd.R_drewN|apply Kd.R_drew)); exact HO_7.out) (Kd.R_typed (by (with_reducible repeat (first|apply Kd.R_alloc|apply Kd.R_drewN|apply Kd.R_drew)); exact HO_6.out)) (by decide) hg)
    have n1_ := Aside0.mk (blk_grown (g := gb137) (o := .cells #[.bool ((rd_T62 l0 x8_2).f0), .int .u32 ((rd_T62 l0 x8_2).f1.f0), .int .i64 ((rd_T62 l0 x8_2).f1.f1), .int .i64 ((rd_T62 l0 x8_2).f2)] 62 (0, 0)) (by (with_reducible repeat (first | refine blk_drewN ?_ _ | refine blk_drew ?_ | refine blk_alloc ?_ _)); exact BK137.out) hg (Kd.R_ne HO_6.out BK137.out (by decide)))
    have n2_ := Aside0.mk (IsS75.grown (by repeat (first | (with_reducible first | exact HI135.out | apply IsS75.alloc | apply IsS75.drewN | apply IsS75.drew | refine IsS75.far ?_ (by (repeat (first | exact (Opq.NP.blk BK137.out (by decide)) | (with_reducible apply Opq.NP.setCell) | (with_reducible apply Opq.NP.drewN) | (with_reducible apply Opq.NP.drew) | (with_reducible apply Opq.NP.alloc))); done) _) | exact HI135.out)) hg (by (repeat (first | exact (Opq.NPr.typed (Kd.R_typed HO_6.out) (by decide)) | (with_reducible apply Opq.NPr.setCell) | (with_reducible apply Opq.NPr.drewN) | (with_reducible apply Opq.NPr.drew) | (with_reducible apply Opq.NPr.alloc))); done))
    have n3_ := Aside0.mk (Kd.R_over' (by (with_reducible repeat (first|apply Kd.R_alloc|apply Kd.R_drewN|apply Kd.R_drew)); exact HO192.out) (Kd.R_typed (by (with_reducible repeat (first|apply Kd.R_alloc|apply Kd.R_drewN|apply Kd.R_drew)); exact HO_6.out)) (by decide) hg)
    have n4_ := Aside0.mk (Kd.R_after (ok := (fun _ => True)) (by (with_reducible repeat (first|apply Kd.R_alloc|apply Kd.R_drewN|apply Kd.R_drew)); exact HO186.out) hg hat)
    have n5_ := Aside0.mk (hb)
    have n6_ := Aside0.mk (ho)
    clear HO_7 BK137 HI135 HO192 HO186 HB HO_6
    have HO_7 := n0_; have BK137 := n1_; have HI135 := n2_; have HO192 := n3_; have HO186 := n4_; have HB := n5_; have HO189 := n6_
    clear n0_ n1_ n2_ n3_ n4_ n5_ n6_ ho hb hg hat
    refine hK.out _ _ ⟨(blk_cell BK137.out 0).trans rfl, (blk_cell BK137.out 1).trans rfl, (blk_cell BK137.out 2).trans rfl, (blk_cell BK137.out 3).trans rfl⟩ (fun hHeld => ?_)
    clear hK K
    refine norm_ (a' := ?_) ?_ ?_
    rotate_left
    ·show Act.put _ (some 140) _ = _
     simp only [Act.put, q1_, q2_, q3_, i64_w, i32_w]
     rfl
    exact norm_ (by simp only [putAll, Act.put, List.setIfInBounds_toArray, List.set_cons_zero, List.set_cons_succ]) (hCont (.slice Ao115 y184.length co115, v188, v191) _ ⟨hHeld, (by (with_reducible repeat (first|apply Kd.R_alloc|apply Kd.R_drewN|apply Kd.R_drew)); exact Kd.R_mono HO186.out (fun _ hk => hk.2)), (by (with_reducible repeat (first|apply Kd.R_alloc|apply Kd.R_drewN|apply Kd.R_drew)); exact HO189.out), (by (with_reducible repeat (first|apply Kd.R_alloc|apply Kd.R_drewN|apply Kd.R_drew)); exact Kd.R_mono HO192.out (fun _ hk => hk.2)), (by (with_reducible repeat (first|apply Kd.R_alloc|apply Kd.R_drewN|apply Kd.R_drew)); exact Kd.R_mono HO_7.out (fun _ hk => hk.2)), (by (with_reducible repeat (first | refine blk_drewN ?_ _ | refine blk_drew ?_ | refine blk_alloc ?_ _)); exact BK137.out), (by repeat (first | (with_reducible first | exact HI135.out | apply IsS75.alloc | apply IsS75.drewN | apply IsS75.drew | refine IsS75.far ?_ (by (repeat (first | exact (Opq.NP.blk BK137.out (by decide)) | (with_reducible apply Opq.NP.setCell) | (with_reducible apply Opq.NP.drewN) | (with_reducible apply Opq.NP.drew) | (with_reducible apply Opq.NP.alloc))); done) _) | exact HI135.out)), (by repeat (first | (with_reducible first | exact HB.out | apply below_alloc | apply pw_below_drewN | apply below_drew1 | refine below_set ?_ (IsS75.ge HI135.out) | refine below_set ?_ GE137.out) | exact HB.out))⟩)
   rintro ⟨v185, v188, v191⟩ w116 ⟨hS_, h0_, h1_, h2_, h3_, h4_, h5_, h6_⟩
   have n0_ : Aside0 (Kd.R k47 47 w116 w.heap.size (fun k_ => some k_ ≠ (v188 : Value).ownBlock) v185 y184) := ⟨h0_⟩
   have n1_ : Aside0 (Kd.R k47 47 w116 w.heap.size (fun k_ => some k_ ≠ (v185 : Value).ownBlock) v188 y187) := ⟨h1_⟩
   have n2_ : Aside0 (Kd.R (Kd.int .i64) 3 w116 w.heap.size (fun k_ => some k_ ≠ (.slice Ao108 x7_2.length co108 : Value).ownBlock) v191 y190) := ⟨h2_⟩
   have n3_ : Aside0 (Kd.R (Kd.int .i64) 3 w116 w.heap.size (fun k_ => some k_ ≠ (v191 : Value).ownBlock) (.slice Ao108 x7_2.length co108) x7_2) := ⟨h3_⟩
   have n4_ : Aside0 (w116.heap[gb137]? = some (.cells #[.bool ((rd_T62 l0 x8_2).f0), .int .u32 ((rd_T62 l0 x8_2).f1.f0), .int .i64 ((rd_T62 l0 x8_2).f1.f1), .int .i64 ((rd_T62 l0 x8_2).f2)] 62 (0, 0))) := ⟨h4_⟩
   have n5_ : Aside0 (IsS75 w w116 g135 t180) := ⟨h5_⟩
   have n6_ : Aside0 (Below w.heap.size w w116) := ⟨h6_⟩
   clear HO_6 HO_7 BK137 HI135 HB h0_ h1_ h2_ h3_ h4_ h5_ h6_
   have HO186 := n0_; have HO189 := n1_; have HO192 := n2_; have HO_7 := n3_; have BK137 := n4_; have HI135 := n5_; have HB := n6_
   clear n0_ n1_ n2_ n3_ n4_ n5_ n6_
   have hHeld : w116.cell? ⟨gb137, 0, none⟩ = some (.bool ((rd_T62 l0 x8_2).f0)) ∧ w116.cell? ⟨gb137, 1, none⟩ = some (.int .u32 ((rd_T62 l0 x8_2).f1.f0)) ∧ w116.cell? ⟨gb137, 2, none⟩ = some (.int .i64 ((rd_T62 l0 x8_2).f1.f1)) ∧ w116.cell? ⟨gb137, 3, none⟩ = some (.int .i64 ((rd_T62 l0 x8_2).f2)) := hS_
   obtain ⟨Ao118, co118, eo118⟩ := Kd.R_slice HO192.out
   (first | subst eo118 | (injection eo118 with f1_ f2_ f3_; have f4_ := f1_.symm; have f5_ := f3_.symm; clear f1_ f2_ f3_; subst f4_; subst f5_))
   refine norm_ (a' := ?_) ?_ ?_
   rotate_left
   ·simp only [putAll, Act.put, List.setIfInBounds_toArray, List.set_cons_zero, List.set_cons_succ]
    rfl
   refine one_ (i := 9) (N := some 145) #[T_,T_,T_,T_,T_,T_,T_,T_,T_,T_,F_,F_] rfl rfl (one_of HT_.out (by kernel_rfl)) (by decide) (fun K hK => ?_)
   refine Kd.R_append_rows_step (Kd.int .i64) (w0 := w) w.heap.size (by rfl) (.tmp 141) (.tmp 144) 34 3 (.int .i64 0) 8 rfl Try.underlying34 info3 rfl (by decide) (by omega) (.slice Ao108 x7_2.length co108) x7_2 y190 _ _ _ (fun k_ => some k_ ≠ (.slice Ao118 y190.length co118 : Value).ownBlock) (fun _ => False) rfl rfl ?aO ?aR (fun _ _ h => h) (fun _ h => h.elim) ?aF ?aB ?aS ?aL ?_
   (case aR => repeat (first | exact (Kd.R_reads' HO192.out).2.2 | (with_reducible refine Kd.C_alloc ?_ _) | (with_reducible refine Kd.C_drewN ?_ _) | (with_reducible refine Kd.C_drew ?_)))
   (case aB => exact (by repeat (first | (with_reducible first | exact HB.out | apply below_alloc | apply pw_below_drewN | apply below_drew1 | refine below_set ?_ (IsS75.ge HI135.out) | refine below_set ?_ GE137.out) | exact HB.out)))
   (case aF => exact (fun k_ hk => Kd.fresh' (Kd.R_lt (by (with_reducible repeat (first|apply Kd.R_alloc|apply Kd.R_drewN|apply Kd.R_drew)); exact HO192.out)) k_ hk))
   (case aO => exact (by (with_reducible repeat (first|apply Kd.R_alloc|apply Kd.R_drewN|apply Kd.R_drew)); exact HO_7.out))
   (case aS => exact (below_size (by repeat (first | (with_reducible first | exact HB.out | apply below_alloc | apply pw_below_drewN | apply below_drew1 | refine below_set ?_ (IsS75.ge HI135.out) | refine below_set ?_ GE137.out) | exact HB.out))))
   (case aL => have := LMc100.out; omega)
   intro v194 w117 ho hb hg hat
   rw [← Ny193.out] at ho
   have n0_ := Aside0.mk (blk_grown (g := gb137) (o := .cells #[.bool ((rd_T62 l0 x8_2).f0), .int .u32 ((rd_T62 l0 x8_2).f1.f0), .int .i64 ((rd_T62 l0 x8_2).f1.f1), .int .i64 ((rd_T62 l0 x8_2).f2)] 62 (0, 0)) (by (with_reducible repeat (first | refine blk_drewN ?_ _ | refine blk_drew ?_ | refine blk_alloc ?_ _)); exact BK137.out) hg (Kd.R_ne HO_7.out BK137.out (by decide)))
   have n1_ := Aside0.mk (IsS75.grown (by repeat (first | (with_reducible first | exact HI135.out | apply IsS75.alloc | apply IsS75.drewN | apply IsS75.drew | refine IsS75.far ?_ (by (repeat (first | exact (Opq.NP.blk BK137.out (by decide)) | (with_reducible apply Opq.NP.setCell) | (with_reducible apply Opq.NP.drewN) | (with_reducible apply Opq.NP.drew) | (with_reducible apply Opq.NP.alloc))); done) _) | exact HI135.out)) hg (by (repeat (first | exact (Opq.NPr.typed (Kd.R_typed HO_7.out) (by decide)) | (with_reducible apply Opq.NPr.setCell) | (with_reducible apply Opq.NPr.drewN) | (with_reducible apply Opq.NPr.drew) | (with_reducible apply Opq.NPr.alloc))); done))
   have n2_ := Aside0.mk (Kd.R_over' (by (with_reducible repeat (first|apply Kd.R_alloc|apply Kd.R_drewN|apply Kd.R_drew)); exact HO186.out) (Kd.R_typed (by (with_reducible repeat (first|apply Kd.R_alloc|apply Kd.R_drewN|apply Kd.R_drew)); exact HO_7.out)) (by decide) hg)
   have n3_ := Aside0.mk (Kd.R_over' (by (with_reducible repeat (first|apply Kd.R_alloc|apply Kd.R_drewN|apply Kd.R_drew)); exact HO189.out) (Kd.R_typed (by (with_reducible repeat (first|apply Kd.R_alloc|apply Kd.R_drewN|apply Kd.R_drew)); exact HO_7.out)) (by decide) hg)
   have n4_ := Aside0.mk (Kd.R_after (ok := (fun _ => True)) (by (with_reducible repeat (first|apply Kd.R_alloc|apply Kd.R_drewN|apply Kd.R_drew)); exact Kd.R_mono HO192.out (fun _ hk => ⟨trivial, hk⟩)) hg hat)
   have n5_ := Aside0.mk (hb)
   have n6_ := Aside0.mk (ho)
   clear BK137 HI135 HO186 HO189 HO192 HB HO_7
   have BK137 := n0_; have HI135 := n1_; have HO186 := n2_; have HO189 := n3_; have HO192 := n4_; have HB := n5_; have HO195 := n6_
   clear n0_ n1_ n2_ n3_ n4_ n5_ n6_ ho hb hg hat
   refine hK.out _ _ ⟨(blk_cell BK137.out 0).trans rfl, (blk_cell BK137.out 1).trans rfl, (blk_cell BK137.out 2).trans rfl, (blk_cell BK137.out 3).trans rfl⟩ (fun hHeld => ?_)
   clear hK K
   refine norm_ (a' := ?_) ?_ ?_
   rotate_left
   ·show Act.put _ (some 145) _ = _
    simp only [Act.put, q1_, q2_, q3_, i64_w, i32_w]
    rfl
   refine pure_ (i := 10) (N := some 6) (v := ?_) (a' := ?_) #[T_,T_,T_,T_,T_,T_,T_,T_,T_,T_,T_,F_] rfl rfl (any_of HT_.out (by kernel_rfl)) (fun _ _ _ h => h) (Or.inl ⟨by rfl, ?_⟩) ?_ ?_
   rotate_left
   ·intro w'
    go_simp
    with_reducible rfl
   rotate_left
   ·simp only [Act.put, q1_, q2_, q3_, i64_w, i32_w]
    rfl
   refine pure_ (i := 11) (N := some 7) (v := ?_) (a' := ?_) #[T_,T_,T_,T_,T_,T_,T_,T_,T_,T_,T_,T_] rfl rfl (any_of HT_.out (by kernel_rfl)) (fun _ _ _ h => h) (Or.inl ⟨by rfl, ?_⟩) ?_ ?_
   rotate_left
   ·intro w'
    go_simp
    with_reducible rfl
   rotate_left
   ·simp only [Act.put, q1_, q2_, q3_, i64_w, i32_w]
    rfl
   refine done_ (done_of HT_.out (by kernel_rfl)) ?_
   obtain ⟨Ao119, co119, eo119⟩ := Kd.R_slice HO189.out
   subst eo119
   try go_wp2
   go_loopg [14] kj22 (fun kq v14 w' => ∃ (x6_5 : List (S47)) (x7_5 : List Int) (x14_5 : Int), v14 = .int .i64 x14_5 ∧ Aside0 (TR.l2 kq l0 l1 x6_5 x7_5 x8_2 x14_5 t180 = some r) ∧ Aside0 (kq ≤ kj22) ∧ Aside0 (Kd.R k47 47 w' w.heap.size (fun _ => True) (.slice Ao119 y187.length co119) x6_5) ∧ Aside0 (Kd.R (Kd.int .i64) 3 w' w.heap.size (fun _ => True) v194 x7_5) ∧ Aside0 (w'.heap[gb137]? = some (.cells #[.bool ((rd_T62 l0 x8_2).f0), .int .u32 ((rd_T62 l0 x8_2).f1.f0), .int .i64 ((rd_T62 l0 x8_2).f1.f1), .int .i64 ((rd_T62 l0 x8_2).f2)] 62 (0, 0))) ∧ Aside0 (IsS75 w w' g135 t180) ∧ Aside0 (Below w.heap.size w w'))
   case atStart => exact ⟨(y187), (y193), (wrap64 ((y187.length : Int) - 1)), (by first | rfl | (simp; done) | (simp [*]; done)), H', ⟨Nat.le_refl _⟩, ⟨by (with_reducible repeat (first | apply Kd.R_alloc | apply Kd.R_drewN | apply Kd.R_drew)); exact Kd.R_mono HO189.out (fun _ hk => trivial)⟩, ⟨by (with_reducible repeat (first | apply Kd.R_alloc | apply Kd.R_drewN | apply Kd.R_drew)); exact Kd.R_mono HO195.out (fun _ hk => trivial)⟩, ⟨by (with_reducible repeat (first | refine blk_drewN ?_ _ | refine blk_drew ?_ | refine blk_alloc ?_ _)); exact BK137.out⟩, ⟨by repeat (first | (with_reducible first | exact HI135.out | apply IsS75.alloc | apply IsS75.drewN | apply IsS75.drew | refine IsS75.far ?_ (by (repeat (first | exact (Opq.NP.blk BK137.out (by decide)) | (with_reducible apply Opq.NP.setCell) | (with_reducible apply Opq.NP.drewN) | (with_reducible apply Opq.NP.drew) | (with_reducible apply Opq.NP.alloc))); done) _) | exact HI135.out)⟩, ⟨by repeat (first | (with_reducible first | exact HB.out | apply below_alloc | apply pw_below_drewN | apply below_drew1 | refine below_set ?_ (IsS75.ge HI135.out) | refine below_set ?_ GE137.out) | exact HB.out)⟩⟩
   clear H'
   try clear c1
   try clear c2
   try clear p2
   try clear p6
   try clear c9
   try clear c10
   try clear c17
   try clear c25
   try clear p64
   try clear c99
   try clear c100
   try clear hcz106_0
   try clear hcz106_1
   try clear hcz106_2
   try clear hcz106_3
   try clear hfz106_0
   try clear hfz106_1
   try clear hfz106_2
   try clear hfz106_3
   obtain ⟨x6_5, x7_5, x14_5, rfl, HA, HK5, HO_6, HO_7, BK137, HI135, HB⟩ := hrel
   have hl6_5 := (Kd.R_reads' HO_6.out).1
   rw [hl6_5] at HO_6
   (try simp only [hl6_5])
   (try simp only [hl6_5] at BK137)
   (try simp only [hl6_5] at HO_7)
   cases gk with
   | zero => exact absurd HA.out (by simp [TR.l2])
   | succ k5 =>
   have H := HA.out
   clear HA
   simp only [TR.l2] at H
   by_cases c120 : x14_5 > 0
   rotate_left
   ·rw [if_neg c120] at H
    have c120b0 : decide (0 < x14_5) = false := decide_eq_false c120
    clear c120
    have H' := Aside0.mk H
    clear H
    try go_wp2
    have n0_ := Aside0.mk (Kd.R_drew HO_6.out)
    have n1_ := Aside0.mk (Kd.R_drew HO_7.out)
    have n2_ := Aside0.mk (blk_drew BK137.out)
    have n3_ := Aside0.mk (IsS75.drew HI135.out)
    have n4_ := Aside0.mk (below_drew1 HB.out)
    clear HO_6 HO_7 BK137 HI135 HB
    have HO_6 := n0_; have HO_7 := n1_; have BK137 := n2_; have HI135 := n3_; have HB := n4_
    clear n0_ n1_ n2_ n3_ n4_
    refine start_ (n := 14) (S := fun w' => True) (ds := []) #[F_,F_,F_,F_,F_,F_,F_,F_,F_,F_,F_,F_,F_,F_] (by kernel_rfl) rfl rfl trivial (fun hHeld => ?_); refine with_tabW TR.tab31 TR.bits31 (fun HT_ HW_ => ?_)
    generalize wr.drew = w146 at HO_6 HO_7 BK137 HI135 HB hHeld ⊢
    refine pure_ (i := 0) (N := some 149) (v := ?_) (a' := ?_) #[T_,F_,F_,F_,F_,F_,F_,F_,F_,F_,F_,F_,F_,F_] rfl rfl (any_of HT_.out (by kernel_rfl)) (fun _ _ _ h => h) (Or.inl ⟨by rfl, ?_⟩) ?_ ?_
    rotate_left
    ·intro w'
     go_simp
     with_reducible rfl
    rotate_left
    ·simp only [Act.put, q1_, q2_, q3_, i64_w, i32_w]
     rfl
    refine pure_ (i := 1) (N := some 150) (v := ?_) (a' := ?_) #[T_,T_,F_,F_,F_,F_,F_,F_,F_,F_,F_,F_,F_,F_] rfl rfl (any_of HT_.out (by kernel_rfl)) (fun _ _ _ h => h) (Or.inl ⟨by rfl, ?_⟩) ?_ ?_
    rotate_left
    ·intro w'
     go_simp
     with_reducible rfl
    rotate_left
    ·simp only [Act.put, q1_, q2_, q3_, i64_w, i32_w]
     rfl
    refine pure_ (i := 2) (N := some 151) (v := ?_) (a' := ?_) #[T_,T_,T_,F_,F_,F_,F_,F_,F_,F_,F_,F_,F_,F_] rfl rfl (any_of HT_.out (by kernel_rfl)) (fun _ _ _ h => h) (Or.inl ⟨by rfl, ?_⟩) ?_ ?_
    rotate_left
    ·intro w'
     go_simp
     with_reducible rfl
    rotate_left
    ·simp only [Act.put, q1_, q2_, q3_, i64_w, i32_w]
     rfl
    refine pure_ (i := 3) (N := some 152) (v := undef) (a' := ?_) #[T_,T_,T_,T_,F_,F_,F_,F_,F_,F_,F_,F_,F_,F_] rfl rfl (any_of HT_.out (by kernel_rfl)) (fun _ _ _ h => h) (Or.inr ⟨by rfl, rfl⟩) ?_ ?_
    rotate_left
    ·simp only [Act.put, q1_, q2_, q3_, i64_w, i32_w]
     rfl
    refine pure_ (i := 4) (N := some 153) (v := undef) (a' := ?_) #[T_,T_,T_,T_,T_,F_,F_,F_,F_,F_,F_,F_,F_,F_] rfl rfl (any_of HT_.out (by kernel_rfl)) (fun _ _ _ h => h) (Or.inr ⟨by rfl, rfl⟩) ?_ ?_
    rotate_left
    ·simp only [Act.put, q1_, q2_, q3_, i64_w, i32_w]
     rfl
    refine pure_ (i := 5) (N := some 154) (v := undef) (a' := ?_) #[T_,T_,T_,T_,T_,T_,F_,F_,F_,F_,F_,F_,F_,F_] rfl rfl (any_of HT_.out (by kernel_rfl)) (fun _ _ _ h => h) (Or.inr ⟨by rfl, rfl⟩) ?_ ?_
    rotate_left
    ·simp only [Act.put, q1_, q2_, q3_, i64_w, i32_w]
     rfl
    refine pure_ (i := 6) (N := some 155) (v := undef) (a' := ?_) #[T_,T_,T_,T_,T_,T_,T_,F_,F_,F_,F_,F_,F_,F_] rfl rfl (any_of HT_.out (by kernel_rfl)) (fun _ _ _ h => h) (Or.inr ⟨by rfl, rfl⟩) ?_ ?_
    rotate_left
    ·simp only [Act.put, q1_, q2_, q3_, i64_w, i32_w]
     rfl
    refine pure_ (i := 7) (N := some 156) (v := undef) (a' := ?_) #[T_,T_,T_,T_,T_,T_,T_,T_,F_,F_,F_,F_,F_,F_] rfl rfl (any_of HT_.out (by kernel_rfl)) (fun _ _ _ h => h) (Or.inr ⟨by rfl, rfl⟩) ?_ ?_
    rotate_left
    ·simp only [Act.put, q1_, q2_, q3_, i64_w, i32_w]
     rfl
    refine pure_ (i := 8) (N := some 157) (v := undef) (a' := ?_) #[T_,T_,T_,T_,T_,T_,T_,T_,T_,F_,F_,F_,F_,F_] rfl rfl (any_of HT_.out (by kernel_rfl)) (fun _ _ _ h => h) (Or.inr ⟨by rfl, rfl⟩) ?_ ?_
    rotate_left
    ·simp only [Act.put, q1_, q2_, q3_, i64_w, i32_w]
     rfl
    refine pure_ (i := 9) (N := some 158) (v := undef) (a' := ?_) #[T_,T_,T_,T_,T_,T_,T_,T_,T_,T_,F_,F_,F_,F_] rfl rfl (any_of HT_.out (by kernel_rfl)) (fun _ _ _ h => h) (Or.inr ⟨by rfl, rfl⟩) ?_ ?_
    rotate_left
    ·simp only [Act.put, q1_, q2_, q3_, i64_w, i32_w]
     rfl
    refine pure_ (i := 10) (N := some 159) (v := undef) (a' := ?_) #[T_,T_,T_,T_,T_,T_,T_,T_,T_,T_,T_,F_,F_,F_] rfl rfl (any_of HT_.out (by kernel_rfl)) (fun _ _ _ h => h) (Or.inr ⟨by rfl, rfl⟩) ?_ ?_
    rotate_left
    ·simp only [Act.put, q1_, q2_, q3_, i64_w, i32_w]
     rfl
    refine pure_ (i := 11) (N := some 160) (v := undef) (a' := ?_) #[T_,T_,T_,T_,T_,T_,T_,T_,T_,T_,T_,T_,F_,F_] rfl rfl (any_of HT_.out (by kernel_rfl)) (fun _ _ _ h => h) (Or.inr ⟨by rfl, rfl⟩) ?_ ?_
    rotate_left
    ·simp only [Act.put, q1_, q2_, q3_, i64_w, i32_w]
     rfl
    refine pure_ (i := 12) (N := some 161) (v := undef) (a' := ?_) #[T_,T_,T_,T_,T_,T_,T_,T_,T_,T_,T_,T_,T_,F_] rfl rfl (any_of HT_.out (by kernel_rfl)) (fun _ _ _ h => h) (Or.inr ⟨by rfl, rfl⟩) ?_ ?_
    rotate_left
    ·simp only [Act.put, q1_, q2_, q3_, i64_w, i32_w]
     rfl
    refine pure_ (i := 13) (N := some 162) (v := ?_) (a' := ?_) #[T_,T_,T_,T_,T_,T_,T_,T_,T_,T_,T_,T_,T_,T_] rfl rfl (any_of HT_.out (by kernel_rfl)) (fun _ _ _ h => h) (Or.inl ⟨by rfl, ?_⟩) ?_ ?_
    rotate_left
    ·intro w'
     go_simp
     with_reducible rfl
    rotate_left
    ·simp only [Act.put, q1_, q2_, q3_, i64_w, i32_w]
     rfl
    refine done_ (done_of HT_.out (by kernel_rfl)) ?_
    try go_wp2
    (try simp only [← hl6_5])
    go_roundg k5
    case measure => have := HJ2.out; have := HK2.out; have := HK3.out; have := HJ22.out; have := HK5.out; omega
    case rel => exact ⟨(x6_5), (x7_5), (wrap64 (x8_2 + 1)), (t180), (by first | rfl | (simp; done) | (simp [*]; done)), H', ⟨by have := HJ2.out; have := HK2.out; have := HK3.out; have := HJ22.out; have := HK5.out; omega⟩, ⟨by (try simp only [hl6_5]); (with_reducible repeat (first | apply Kd.R_alloc | apply Kd.R_drewN | apply Kd.R_drew)); exact HO_6.out⟩, ⟨by (try simp only [hl6_5]); (with_reducible repeat (first | apply Kd.R_alloc | apply Kd.R_drewN | apply Kd.R_drew)); exact HO_7.out⟩, ⟨by repeat (first | (with_reducible first | exact HI135.out | apply IsS75.alloc | apply IsS75.drewN | apply IsS75.drew | refine IsS75.far ?_ (by (repeat (first | exact (Opq.NP.blk BK137.out (by decide)) | (with_reducible apply Opq.NP.setCell) | (with_reducible apply Opq.NP.drewN) | (with_reducible apply Opq.NP.drew) | (with_reducible apply Opq.NP.alloc))); done) _) | exact HI135.out)⟩, ⟨by repeat (first | (with_reducible first | exact HB.out | apply below_alloc | apply pw_below_drewN | apply below_drew1 | refine below_set ?_ (IsS75.ge HI135.out) | refine below_set ?_ GE137.out) | exact HB.out)⟩⟩
   rw [if_pos c120] at H
   have c120b0 : decide (0 < x14_5) = true := decide_eq_true c120
   clear c120
   by_cases c121 : 0 ≤ x14_5
   rotate_left
   ·rw [if_neg c121] at H
    exact absurd H (by simp)
   rw [if_pos c121] at H
   have c121b0 : decide (0 ≤ x14_5) = true := decide_eq_true c121
   clear c121
   by_cases c122 : x14_5 < (x6_5.length : Int)
   rotate_left
   ·rw [if_neg c122] at H
    exact absurd H (by simp)
   rw [if_pos c122] at H
   have c122b0 : decide (x14_5 < (x6_5.length : Int)) = true := decide_eq_true c122
   clear c122
   obtain ⟨ji123, hji123⟩ : ∃ j_ : Int, (wrap64 (x14_5 - 1)) = j_ := ⟨_, rfl⟩
   replace H : (if 0 ≤ (ji123) then (if (ji123) < (x6_5.length : Int) then ((interregnumref05_Less.f ((rd_T47 x6_5 x14_5).f0) ((rd_T47 x6_5 x14_5).f1) ((rd_T47 x6_5 (ji123)).f0) ((rd_T47 x6_5 (ji123)).f1)).bind fun t198 => (if t198 = true then (if (ji123) < (x7_5.length : Int) then (if x14_5 < (x7_5.length : Int) then (TR.l2 k5 l0 l1 ((x6_5.set (x14_5 : Int).toNat (⟨(rd_T47 x6_5 (ji123)).f0, (rd_T47 x6_5 (ji123)).f1⟩ : S47)).set ((ji123) : Int).toNat (⟨(rd_T47 x6_5 x14_5).f0, (rd_T47 x6_5 x14_5).f1⟩ : S47)) ((x7_5.set (x14_5 : Int).toNat (rd x7_5 (ji123))).set ((ji123) : Int).toNat (rd x7_5 x14_5)) x8_2 ji123 t180) else (none)) else (none)) else (TR.l0 k5 l0 l1 x6_5 x7_5 (wrap64 (x8_2 + 1)) t180))) else (none)) else (none)) = some r := by first | (rw [hji123] at H; exact H) | (simp only [hji123] at H ⊢; exact H)
   have hji123w : (IntKind.i64.wrap (x14_5 - 1)) = ji123 := (i64_w _).trans hji123
   by_cases c124 : 0 ≤ (ji123)
   rotate_left
   ·rw [if_neg c124] at H
    exact absurd H (by simp)
   rw [if_pos c124] at H
   have c124b0 : decide (0 ≤ (ji123)) = true := decide_eq_true c124
   clear c124
   by_cases c125 : (ji123) < (x6_5.length : Int)
   rotate_left
   ·rw [if_neg c125] at H
    exact absurd H (by simp)
   rw [if_pos c125] at H
   have c125b0 : decide ((ji123) < (x6_5.length : Int)) = true := decide_eq_true c125
   clear c125
   replace H := Option.bind_eq_some_iff.mp H
   obtain ⟨t198, A1260, H⟩ := H
   replace H : (if t198 = true then (if (ji123) < (x7_5.length : Int) then (if x14_5 < (x7_5.length : Int) then (TR.l2 k5 l0 l1 ((x6_5.set (x14_5 : Int).toNat (⟨(rd_T47 x6_5 (ji123)).f0, (rd_T47 x6_5 (ji123)).f1⟩ : S47)).set ((ji123) : Int).toNat (⟨(rd_T47 x6_5 x14_5).f0, (rd_T47 x6_5 x14_5).f1⟩ : S47)) ((x7_5.set (x14_5 : Int).toNat (rd x7_5 (ji123))).set ((ji123) : Int).toNat (rd x7_5 x14_5)) x8_2 ji123 t180) else (none)) else (none)) else (TR.l0 k5 l0 l1 x6_5 x7_5 (wrap64 (x8_2 + 1)) t180)) = some r := H
   have A126 := Aside0.mk A1260
   clear A1260
   by_cases c127 : t198 = true
   rotate_left
   ·replace c127 := Bool.eq_false_iff.mpr c127
    subst c127
    have H1 : (TR.l0 k5 l0 l1 x6_5 x7_5 (wrap64 (x8_2 + 1)) t180) = some r := by rw [if_neg (show ¬ (false = true) by decide)] at H; exact H
    clear H
    have H := H1
    clear H1
    have H' := Aside0.mk H
    clear H
    try go_wp2
    have n0_ := Aside0.mk (Kd.R_drew HO_6.out)
    have n1_ := Aside0.mk (Kd.R_drew HO_7.out)
    have n2_ := Aside0.mk (blk_drew BK137.out)
    have n3_ := Aside0.mk (IsS75.drew HI135.out)
    have n4_ := Aside0.mk (below_drew1 HB.out)
    clear HO_6 HO_7 BK137 HI135 HB
    have HO_6 := n0_; have HO_7 := n1_; have BK137 := n2_; have HI135 := n3_; have HB := n4_
    clear n0_ n1_ n2_ n3_ n4_
    have p196 : 0 ≤ (x14_5 : Int) := of_decide_eq_true (by first | (with_reducible assumption) | assumption)
    have q196 : x14_5 < (x6_5.length : Int) := of_decide_eq_true (by first | (with_reducible assumption) | assumption)
    obtain ⟨ad196, e196, hx196_0, hx196_1⟩ := at_T47 (Kd.R_reads' HO_6.out).2.2 x14_5 p196 q196
    cases e196
    replace p196 := eq_true p196
    replace q196 := eq_true q196
    have p197 : 0 ≤ ((ji123) : Int) := of_decide_eq_true (by first | (with_reducible assumption) | assumption)
    have q197 : (ji123) < (x6_5.length : Int) := of_decide_eq_true (by first | (with_reducible assumption) | assumption)
    obtain ⟨ad197, e197, hx197_0, hx197_1⟩ := at_T47 (Kd.R_reads' HO_6.out).2.2 (ji123) p197 q197
    obtain rfl : ad196 = ad197 := (by injection e197)
    replace p197 := eq_true p197
    replace q197 := eq_true q197
    refine start_ (n := 14) (S := fun w' => w'.cell? (ad196.add ((x14_5).toNat * 2)) = some (.int .u32 ((rd_T47 x6_5 x14_5).f0)) ∧ w'.cell? ⟨(ad196.add ((x14_5).toNat * 2)).block, (ad196.add ((x14_5).toNat * 2)).off + 1, none⟩ = some (.int .i64 ((rd_T47 x6_5 x14_5).f1)) ∧ w'.cell? (ad196.add (((ji123)).toNat * 2)) = some (.int .u32 ((rd_T47 x6_5 (ji123)).f0)) ∧ w'.cell? ⟨(ad196.add (((ji123)).toNat * 2)).block, (ad196.add (((ji123)).toNat * 2)).off + 1, none⟩ = some (.int .i64 ((rd_T47 x6_5 (ji123)).f1))) (ds := []) #[F_,F_,F_,F_,F_,F_,F_,F_,F_,F_,F_,F_,F_,F_] (by kernel_rfl) rfl rfl ⟨hx196_0, hx196_1, hx197_0, hx197_1⟩ (fun hHeld => ?_); refine with_tabW TR.tab31 TR.bits31 (fun HT_ HW_ => ?_)
    generalize wr.drew = w144 at HO_6 HO_7 BK137 HI135 HB hx196_0 hx196_1 hx197_0 hx197_1 hHeld ⊢
    refine pure_ (i := 0) (N := some 149) (v := ?_) (a' := ?_) #[T_,F_,F_,F_,F_,F_,F_,F_,F_,F_,F_,F_,F_,F_] rfl rfl (any_of HT_.out (by kernel_rfl)) (fun _ _ _ h => h) (Or.inl ⟨by rfl, ?_⟩) ?_ ?_
    rotate_left
    ·intro w'
     go_simp
     with_reducible rfl
    rotate_left
    ·simp only [Act.put, q1_, q2_, q3_, i64_w, i32_w]
     rfl
    refine pure_ (i := 1) (N := some 150) (v := ?_) (a' := ?_) #[T_,T_,F_,F_,F_,F_,F_,F_,F_,F_,F_,F_,F_,F_] rfl rfl (any_of HT_.out (by kernel_rfl)) (fun _ _ _ h => h) (Or.inl ⟨by rfl, ?_⟩) ?_ ?_
    rotate_left
    ·intro w'
     go_simp
     with_reducible rfl
    rotate_left
    ·simp only [Act.put, q1_, q2_, q3_, i64_w, i32_w]
     rfl
    refine pure_ (i := 2) (N := some 151) (v := ?_) (a' := ?_) #[T_,T_,T_,F_,F_,F_,F_,F_,F_,F_,F_,F_,F_,F_] rfl rfl (any_of HT_.out (by kernel_rfl)) (fun _ _ _ h => h) (Or.inl ⟨by rfl, ?_⟩) ?_ ?_
    rotate_left
    ·intro w'
     go_simp
     with_reducible rfl
    rotate_left
    ·simp only [Act.put, q1_, q2_, q3_, i64_w, i32_w]
     rfl
    refine pure_ (i := 3) (N := some 152) (v := ?_) (a' := ?_) #[T_,T_,T_,T_,F_,F_,F_,F_,F_,F_,F_,F_,F_,F_] rfl rfl (any_of HT_.out (by kernel_rfl)) (fun _ _ _ h => h) (Or.inl ⟨by rfl, ?_⟩) ?_ ?_
    rotate_left
    ·intro w'
     go_simp
     with_reducible rfl
    rotate_left
    ·simp only [Act.put, q1_, q2_, q3_, i64_w, i32_w]
     rfl
    refine pure_ (i := 4) (N := some 153) (v := ?_) (a' := ?_) #[T_,T_,T_,T_,T_,F_,F_,F_,F_,F_,F_,F_,F_,F_] rfl rfl (any_of HT_.out (by kernel_rfl)) (fun _ _ _ h => h) (Or.inl ⟨by rfl, ?_⟩) ?_ ?_
    rotate_left
    ·intro w'
     go_simp
     with_reducible rfl
    rotate_left
    ·simp only [Act.put, q1_, q2_, q3_, i64_w, i32_w]
     rfl
    refine pure_ (i := 5) (N := some 154) (v := ?_) (a' := ?_) #[T_,T_,T_,T_,T_,T_,F_,F_,F_,F_,F_,F_,F_,F_] rfl rfl (any_of HT_.out (by kernel_rfl)) (fun _ _ _ h => h) (Or.inl ⟨by rfl, ?_⟩) ?_ ?_
    rotate_left
    ·intro w'
     go_simp
     with_reducible rfl
    rotate_left
    ·simp only [Act.put, q1_, q2_, q3_, i64_w, i32_w]
     rfl
    refine pure_ (i := 7) (N := some 156) (v := ?_) (a' := ?_) #[T_,T_,T_,T_,T_,T_,F_,T_,F_,F_,F_,F_,F_,F_] rfl rfl (any_of HT_.out (by kernel_rfl)) (fun _ _ _ h => h) (Or.inl ⟨by rfl, ?_⟩) ?_ ?_
    rotate_left
    ·intro w'
     go_simp
     with_reducible rfl
    rotate_left
    ·simp only [Act.put, q1_, q2_, q3_, i64_w, i32_w]
     rfl
    refine pure_ (i := 8) (N := some 157) (v := ?_) (a' := ?_) #[T_,T_,T_,T_,T_,T_,F_,T_,T_,F_,F_,F_,F_,F_] rfl rfl (any_of HT_.out (by kernel_rfl)) (fun _ _ _ h => h) (Or.inl ⟨by rfl, ?_⟩) ?_ ?_
    rotate_left
    ·intro w'
     go_simp
     with_reducible rfl
    rotate_left
    ·simp only [Act.put, q1_, q2_, q3_, i64_w, i32_w]
     rfl
    refine pure_ (i := 9) (N := some 158) (v := ?_) (a' := ?_) #[T_,T_,T_,T_,T_,T_,F_,T_,T_,T_,F_,F_,F_,F_] rfl rfl (any_of HT_.out (by kernel_rfl)) (fun _ _ _ h => h) (Or.inl ⟨by rfl, ?_⟩) ?_ ?_
    rotate_left
    ·intro w'
     go_simp
     with_reducible rfl
    rotate_left
    ·simp only [Act.put, q1_, q2_, q3_, i64_w, i32_w]
     rfl
    refine pure_ (i := 10) (N := some 159) (v := ?_) (a' := ?_) #[T_,T_,T_,T_,T_,T_,F_,T_,T_,T_,T_,F_,F_,F_] rfl rfl (any_of HT_.out (by kernel_rfl)) (fun _ _ _ h => h) (Or.inl ⟨by rfl, ?_⟩) ?_ ?_
    rotate_left
    ·intro w'
     go_simp
     with_reducible rfl
    rotate_left
    ·simp only [Act.put, q1_, q2_, q3_, i64_w, i32_w]
     rfl
    refine take_ (i := 6) (N := some 155) (v := ?_) (a' := ?_) #[T_,T_,T_,T_,T_,T_,T_,T_,T_,T_,T_,F_,F_,F_] rfl rfl (take_ofW HT_.out HW_.out (by kernel_rfl)) (fun _ _ _ h => h) (Or.inl ⟨by rfl, ?_⟩) hHeld ?_ ?_
    rotate_left
    ·rintro w' ⟨s0, s1, s2, s3⟩
     go_simp
     with_reducible rfl
    rotate_left
    ·simp only [Act.put, q1_, q2_, q3_, i64_w, i32_w]
     rfl
    refine take_ (i := 11) (N := some 160) (v := ?_) (a' := ?_) #[T_,T_,T_,T_,T_,T_,T_,T_,T_,T_,T_,T_,F_,F_] rfl rfl (take_ofW HT_.out HW_.out (by kernel_rfl)) (fun _ _ _ h => h) (Or.inl ⟨by rfl, ?_⟩) hHeld ?_ ?_
    rotate_left
    ·rintro w' ⟨s0, s1, s2, s3⟩
     go_simp
     with_reducible rfl
    rotate_left
    ·simp only [Act.put, q1_, q2_, q3_, i64_w, i32_w]
     rfl
    refine one_ (i := 12) (N := some 161) #[T_,T_,T_,T_,T_,T_,T_,T_,T_,T_,T_,T_,T_,F_] rfl rfl (one_of HT_.out (by kernel_rfl)) (by decide) (fun K hK => ?_)
    refine goes_ Try.func22 (by kernel_rfl) rfl #[.agg #[.int .u32 ((rd_T47 x6_5 x14_5).f0), .int .i64 ((rd_T47 x6_5 x14_5).f1)], .agg #[.int .u32 ((rd_T47 x6_5 (ji123)).f0), .int .i64 ((rd_T47 x6_5 (ji123)).f1)]] (by rfl) rfl rfl (by (try simp only [List.map_toArray, List.map_cons, List.map_nil]); first | done | (simp only [hji123]; rfl) | rfl | (simp only [List.length_drop, List.length_take]; rfl)) ?_
    with_reducible refine (interregnumref05_Less.calls ((rd_T47 x6_5 x14_5).f0) ((rd_T47 x6_5 x14_5).f1) ((rd_T47 x6_5 (ji123)).f0) ((rd_T47 x6_5 (ji123)).f1) false _ A126.out).mono ?_
    rintro e w145 ⟨rfl, hb⟩
    have HS0_ := (hb.cell (World.block_lt_of_cell? _ _ (hHeld.1))).trans (hHeld.1)
    have HS1_ := (hb.cell (World.block_lt_of_cell? _ _ (hHeld.2.1))).trans (hHeld.2.1)
    have HS2_ := (hb.cell (World.block_lt_of_cell? _ _ (hHeld.2.2.1))).trans (hHeld.2.2.1)
    have HS3_ := (hb.cell (World.block_lt_of_cell? _ _ (hHeld.2.2.2))).trans (hHeld.2.2.2)
    refine ⟨_, rfl, ?_⟩
    have n0_ := Aside0.mk (Kd.R_below (by (with_reducible repeat (first|apply Kd.R_alloc|apply Kd.R_drewN|apply Kd.R_drew)); exact HO_6.out) hb)
    have n1_ := Aside0.mk (Kd.R_below (by (with_reducible repeat (first|apply Kd.R_alloc|apply Kd.R_drewN|apply Kd.R_drew)); exact HO_7.out) hb)
    have n2_ := Aside0.mk (blk_below (g := gb137) (o := .cells #[.bool ((rd_T62 l0 x8_2).f0), .int .u32 ((rd_T62 l0 x8_2).f1.f0), .int .i64 ((rd_T62 l0 x8_2).f1.f1), .int .i64 ((rd_T62 l0 x8_2).f2)] 62 (0, 0)) (by (with_reducible repeat (first | refine blk_drewN ?_ _ | refine blk_drew ?_ | refine blk_alloc ?_ _)); exact BK137.out) hb)
    have n3_ := Aside0.mk (IsS75.below (by repeat (first | (with_reducible first | exact HI135.out | apply IsS75.alloc | apply IsS75.drewN | apply IsS75.drew | refine IsS75.far ?_ (by (repeat (first | exact (Opq.NP.blk BK137.out (by decide)) | (with_reducible apply Opq.NP.setCell) | (with_reducible apply Opq.NP.drewN) | (with_reducible apply Opq.NP.drew) | (with_reducible apply Opq.NP.alloc))); done) _) | exact HI135.out)) hb)
    have n4_ := Aside0.mk (below_step (by repeat (first | (with_reducible first | exact HB.out | apply below_alloc | apply pw_below_drewN | apply below_drew1 | refine below_set ?_ (IsS75.ge HI135.out) | refine below_set ?_ GE137.out) | exact HB.out)) hb)
    clear HO_6 HO_7 BK137 HI135 HB
    have HO_6 := n0_; have HO_7 := n1_; have BK137 := n2_; have HI135 := n3_; have HB := n4_
    clear n0_ n1_ n2_ n3_ n4_
    (try clear hb)
    (try clear hb2)
    (try clear hk)
    (try clear hi)
    refine hK.out _ _ ⟨HS0_, HS1_, HS2_, HS3_⟩ (fun hHeld => ?_)
    clear hK K
    refine norm_ (a' := ?_) ?_ ?_
    rotate_left
    ·show Act.put _ (some 161) _ = _
     simp only [Act.put, q1_, q2_, q3_, i64_w, i32_w]
     rfl
    refine pure_ (i := 13) (N := some 162) (v := ?_) (a' := ?_) #[T_,T_,T_,T_,T_,T_,T_,T_,T_,T_,T_,T_,T_,T_] rfl rfl (any_of HT_.out (by kernel_rfl)) (fun _ _ _ h => h) (Or.inl ⟨by rfl, ?_⟩) ?_ ?_
    rotate_left
    ·intro w'
     go_simp
     with_reducible rfl
    rotate_left
    ·simp only [Act.put, q1_, q2_, q3_, i64_w, i32_w]
     rfl
    refine done_ (done_of HT_.out (by kernel_rfl)) ?_
    try go_wp2
    (try simp only [← hl6_5])
    go_roundg k5
    case measure => have := HJ2.out; have := HK2.out; have := HK3.out; have := HJ22.out; have := HK5.out; omega
    case rel => exact ⟨(x6_5), (x7_5), (wrap64 (x8_2 + 1)), (t180), (by first | rfl | (simp; done) | (simp [*]; done)), H', ⟨by have := HJ2.out; have := HK2.out; have := HK3.out; have := HJ22.out; have := HK5.out; omega⟩, ⟨by (try simp only [hl6_5]); (with_reducible repeat (first | apply Kd.R_alloc | apply Kd.R_drewN | apply Kd.R_drew)); exact HO_6.out⟩, ⟨by (try simp only [hl6_5]); (with_reducible repeat (first | apply Kd.R_alloc | apply Kd.R_drewN | apply Kd.R_drew)); exact HO_7.out⟩, ⟨by repeat (first | (with_reducible first | exact HI135.out | apply IsS75.alloc | apply IsS75.drewN | apply IsS75.drew | refine IsS75.far ?_ (by (repeat (first | exact (Opq.NP.blk BK137.out (by decide)) | (with_reducible apply Opq.NP.setCell) | (with_reducible apply Opq.NP.drewN) | (with_reducible apply Opq.NP.drew) | (with_reducible apply Opq.NP.alloc))); done) _) | exact HI135.out)⟩, ⟨by repeat (first | (with_reducible first | exact HB.out | apply below_alloc | apply pw_below_drewN | apply below_drew1 | refine below_set ?_ (IsS75.ge HI135.out) | refine below_set ?_ GE137.out) | exact HB.out)⟩⟩
   subst c127
   have H1 : (if (ji123) < (x7_5.length : Int) then (if x14_5 < (x7_5.length : Int) then (TR.l2 k5 l0 l1 ((x6_5.set (x14_5 : Int).toNat (⟨(rd_T47 x6_5 (ji123)).f0, (rd_T47 x6_5 (ji123)).f1⟩ : S47)).set ((ji123) : Int).toNat (⟨(rd_T47 x6_5 x14_5).f0, (rd_T47 x6_5 x14_5).f1⟩ : S47)) ((x7_5.set (x14_5 : Int).toNat (rd x7_5 (ji123))).set ((ji123) : Int).toNat (rd x7_5 x14_5)) x8_2 ji123 t180) else (none)) else (none)) = some r := by rw [if_pos rfl] at H; exact H
   clear H
   have H := H1
   clear H1
   obtain ⟨y201, hy201⟩ : ∃ y_ : List (S47), y_ = (x6_5.set (x14_5 : Int).toNat (⟨(rd_T47 x6_5 (ji123)).f0, (rd_T47 x6_5 (ji123)).f1⟩ : S47)) := ⟨_, rfl⟩
   replace H : (if (ji123) < (x7_5.length : Int) then (if x14_5 < (x7_5.length : Int) then (TR.l2 k5 l0 l1 (y201.set ((ji123) : Int).toNat (⟨(rd_T47 x6_5 x14_5).f0, (rd_T47 x6_5 x14_5).f1⟩ : S47)) ((x7_5.set (x14_5 : Int).toNat (rd x7_5 (ji123))).set ((ji123) : Int).toNat (rd x7_5 x14_5)) x8_2 ji123 t180) else (none)) else (none)) = some r := by first | (rw [hy201]; with_reducible exact H) | (have H2_ := (Option.bind_some _ _).symm.trans H; rw [hy201]; with_reducible exact H2_) | (have H2_ := (Option.bind_some _ _).symm.trans H; with_reducible exact H2_) | with_reducible exact H | (rw [hy201]; exact H) | exact H
   have Ny201 := Aside0.mk hy201
   clear hy201
   obtain ⟨y202, hy202⟩ : ∃ y_ : List (S47), y_ = (y201.set ((ji123) : Int).toNat (⟨(rd_T47 x6_5 x14_5).f0, (rd_T47 x6_5 x14_5).f1⟩ : S47)) := ⟨_, rfl⟩
   replace H : (if (ji123) < (x7_5.length : Int) then (if x14_5 < (x7_5.length : Int) then (TR.l2 k5 l0 l1 y202 ((x7_5.set (x14_5 : Int).toNat (rd x7_5 (ji123))).set ((ji123) : Int).toNat (rd x7_5 x14_5)) x8_2 ji123 t180) else (none)) else (none)) = some r := by first | (rw [hy202]; with_reducible exact H) | (have H2_ := (Option.bind_some _ _).symm.trans H; rw [hy202]; with_reducible exact H2_) | (have H2_ := (Option.bind_some _ _).symm.trans H; with_reducible exact H2_) | with_reducible exact H | (rw [hy202]; exact H) | exact H
   have Ny202 := Aside0.mk hy202
   clear hy202
   by_cases c130 : (ji123) < (x7_5.length : Int)
   rotate_left
   ·rw [if_neg c130] at H
    exact absurd H (by simp)
   rw [if_pos c130] at H
   have c130b0 : decide ((ji123) < (x7_5.length : Int)) = true := decide_eq_true c130
   clear c130
   by_cases c131 : x14_5 < (x7_5.length : Int)
   rotate_left
   ·rw [if_neg c131] at H
    exact absurd H (by simp)
   rw [if_pos c131] at H
   have c131b0 : decide (x14_5 < (x7_5.length : Int)) = true := decide_eq_true c131
   clear c131
   obtain ⟨y205, hy205⟩ : ∃ y_ : List Int, y_ = (x7_5.set (x14_5 : Int).toNat (rd x7_5 (ji123))) := ⟨_, rfl⟩
   replace H : (TR.l2 k5 l0 l1 y202 (y205.set ((ji123) : Int).toNat (rd x7_5 x14_5)) x8_2 ji123 t180) = some r := by first | (rw [hy205]; with_reducible exact H) | (have H2_ := (Option.bind_some _ _).symm.trans H; rw [hy205]; with_reducible exact H2_) | (have H2_ := (Option.bind_some _ _).symm.trans H; with_reducible exact H2_) | with_reducible exact H | (rw [hy205]; exact H) | exact H
   have Ny205 := Aside0.mk hy205
   clear hy205
   obtain ⟨y206, hy206⟩ : ∃ y_ : List Int, y_ = (y205.set ((ji123) : Int).toNat (rd x7_5 x14_5)) := ⟨_, rfl⟩
   replace H : (TR.l2 k5 l0 l1 y202 y206 x8_2 ji123 t180) = some r := by first | (rw [hy206]; with_reducible exact H) | (have H2_ := (Option.bind_some _ _).symm.trans H; rw [hy206]; with_reducible exact H2_) | (have H2_ := (Option.bind_some _ _).symm.trans H; with_reducible exact H2_) | with_reducible exact H | (rw [hy206]; exact H) | exact H
   have Ny206 := Aside0.mk hy206
   clear hy206
   have H' := Aside0.mk H
   clear H
   try go_wp2
   have n0_ := Aside0.mk (Kd.R_drew HO_6.out)
   have n1_ := Aside0.mk (Kd.R_drew HO_7.out)
   have n2_ := Aside0.mk (blk_drew BK137.out)
   have n3_ := Aside0.mk (IsS75.drew HI135.out)
   have n4_ := Aside0.mk (below_drew1 HB.out)
   clear HO_6 HO_7 BK137 HI135 HB
   have HO_6 := n0_; have HO_7 := n1_; have BK137 := n2_; have HI135 := n3_; have HB := n4_
   clear n0_ n1_ n2_ n3_ n4_
   have p196 : 0 ≤ (x14_5 : Int) := of_decide_eq_true (by first | (with_reducible assumption) | assumption)
   have q196 : x14_5 < (x6_5.length : Int) := of_decide_eq_true (by first | (with_reducible assumption) | assumption)
   obtain ⟨ad196, e196, hx196_0, hx196_1⟩ := at_T47 (Kd.R_reads' HO_6.out).2.2 x14_5 p196 q196
   cases e196
   replace p196 := eq_true p196
   replace q196 := eq_true q196
   have p197 : 0 ≤ ((ji123) : Int) := of_decide_eq_true (by first | (with_reducible assumption) | assumption)
   have q197 : (ji123) < (x6_5.length : Int) := of_decide_eq_true (by first | (with_reducible assumption) | assumption)
   obtain ⟨ad197, e197, hx197_0, hx197_1⟩ := at_T47 (Kd.R_reads' HO_6.out).2.2 (ji123) p197 q197
   obtain rfl : ad196 = ad197 := (by injection e197)
   replace p197 := eq_true p197
   replace q197 := eq_true q197
   refine start_ (n := 14) (S := fun w' => w'.cell? (ad196.add ((x14_5).toNat * 2)) = some (.int .u32 ((rd_T47 x6_5 x14_5).f0)) ∧ w'.cell? ⟨(ad196.add ((x14_5).toNat * 2)).block, (ad196.add ((x14_5).toNat * 2)).off + 1, none⟩ = some (.int .i64 ((rd_T47 x6_5 x14_5).f1)) ∧ w'.cell? (ad196.add (((ji123)).toNat * 2)) = some (.int .u32 ((rd_T47 x6_5 (ji123)).f0)) ∧ w'.cell? ⟨(ad196.add (((ji123)).toNat * 2)).block, (ad196.add (((ji123)).toNat * 2)).off + 1, none⟩ = some (.int .i64 ((rd_T47 x6_5 (ji123)).f1))) (ds := []) #[F_,F_,F_,F_,F_,F_,F_,F_,F_,F_,F_,F_,F_,F_] (by kernel_rfl) rfl rfl ⟨hx196_0, hx196_1, hx197_0, hx197_1⟩ (fun hHeld => ?_); refine with_tabW TR.tab31 TR.bits31 (fun HT_ HW_ => ?_)
   generalize wr.drew = w134 at HO_6 HO_7 BK137 HI135 HB hx196_0 hx196_1 hx197_0 hx197_1 hHeld ⊢
   refine pure_ (i := 0) (N := some 149) (v := ?_) (a' := ?_) #[T_,F_,F_,F_,F_,F_,F_,F_,F_,F_,F_,F_,F_,F_] rfl rfl (any_of HT_.out (by kernel_rfl)) (fun _ _ _ h => h) (Or.inl ⟨by rfl, ?_⟩) ?_ ?_
   rotate_left
   ·intro w'
    go_simp
    with_reducible rfl
   rotate_left
   ·simp only [Act.put, q1_, q2_, q3_, i64_w, i32_w]
    rfl
   refine pure_ (i := 1) (N := some 150) (v := ?_) (a' := ?_) #[T_,T_,F_,F_,F_,F_,F_,F_,F_,F_,F_,F_,F_,F_] rfl rfl (any_of HT_.out (by kernel_rfl)) (fun _ _ _ h => h) (Or.inl ⟨by rfl, ?_⟩) ?_ ?_
   rotate_left
   ·intro w'
    go_simp
    with_reducible rfl
   rotate_left
   ·simp only [Act.put, q1_, q2_, q3_, i64_w, i32_w]
    rfl
   refine pure_ (i := 2) (N := some 151) (v := ?_) (a' := ?_) #[T_,T_,T_,F_,F_,F_,F_,F_,F_,F_,F_,F_,F_,F_] rfl rfl (any_of HT_.out (by kernel_rfl)) (fun _ _ _ h => h) (Or.inl ⟨by rfl, ?_⟩) ?_ ?_
   rotate_left
   ·intro w'
    go_simp
    with_reducible rfl
   rotate_left
   ·simp only [Act.put, q1_, q2_, q3_, i64_w, i32_w]
    rfl
   refine pure_ (i := 3) (N := some 152) (v := ?_) (a' := ?_) #[T_,T_,T_,T_,F_,F_,F_,F_,F_,F_,F_,F_,F_,F_] rfl rfl (any_of HT_.out (by kernel_rfl)) (fun _ _ _ h => h) (Or.inl ⟨by rfl, ?_⟩) ?_ ?_
   rotate_left
   ·intro w'
    go_simp
    with_reducible rfl
   rotate_left
   ·simp only [Act.put, q1_, q2_, q3_, i64_w, i32_w]
    rfl
   refine pure_ (i := 4) (N := some 153) (v := ?_) (a' := ?_) #[T_,T_,T_,T_,T_,F_,F_,F_,F_,F_,F_,F_,F_,F_] rfl rfl (any_of HT_.out (by kernel_rfl)) (fun _ _ _ h => h) (Or.inl ⟨by rfl, ?_⟩) ?_ ?_
   rotate_left
   ·intro w'
    go_simp
    with_reducible rfl
   rotate_left
   ·simp only [Act.put, q1_, q2_, q3_, i64_w, i32_w]
    rfl
   refine pure_ (i := 5) (N := some 154) (v := ?_) (a' := ?_) #[T_,T_,T_,T_,T_,T_,F_,F_,F_,F_,F_,F_,F_,F_] rfl rfl (any_of HT_.out (by kernel_rfl)) (fun _ _ _ h => h) (Or.inl ⟨by rfl, ?_⟩) ?_ ?_
   rotate_left
   ·intro w'
    go_simp
    with_reducible rfl
   rotate_left
   ·simp only [Act.put, q1_, q2_, q3_, i64_w, i32_w]
    rfl
   refine pure_ (i := 7) (N := some 156) (v := ?_) (a' := ?_) #[T_,T_,T_,T_,T_,T_,F_,T_,F_,F_,F_,F_,F_,F_] rfl rfl (any_of HT_.out (by kernel_rfl)) (fun _ _ _ h => h) (Or.inl ⟨by rfl, ?_⟩) ?_ ?_
   rotate_left
   ·intro w'
    go_simp
    with_reducible rfl
   rotate_left
   ·simp only [Act.put, q1_, q2_, q3_, i64_w, i32_w]
    rfl
   refine pure_ (i := 8) (N := some 157) (v := ?_) (a' := ?_) #[T_,T_,T_,T_,T_,T_,F_,T_,T_,F_,F_,F_,F_,F_] rfl rfl (any_of HT_.out (by kernel_rfl)) (fun _ _ _ h => h) (Or.inl ⟨by rfl, ?_⟩) ?_ ?_
   rotate_left
   ·intro w'
    go_simp
    with_reducible rfl
   rotate_left
   ·simp only [Act.put, q1_, q2_, q3_, i64_w, i32_w]
    rfl
   refine pure_ (i := 9) (N := some 158) (v := ?_) (a' := ?_) #[T_,T_,T_,T_,T_,T_,F_,T_,T_,T_,F_,F_,F_,F_] rfl rfl (any_of HT_.out (by kernel_rfl)) (fun _ _ _ h => h) (Or.inl ⟨by rfl, ?_⟩) ?_ ?_
   rotate_left
   ·intro w'
    go_simp
    with_reducible rfl
   rotate_left
   ·simp only [Act.put, q1_, q2_, q3_, i64_w, i32_w]
    rfl
   refine pure_ (i := 10) (N := some 159) (v := ?_) (a' := ?_) #[T_,T_,T_,T_,T_,T_,F_,T_,T_,T_,T_,F_,F_,F_] rfl rfl (any_of HT_.out (by kernel_rfl)) (fun _ _ _ h => h) (Or.inl ⟨by rfl, ?_⟩) ?_ ?_
   rotate_left
   ·intro w'
    go_simp
    with_reducible rfl
   rotate_left
   ·simp only [Act.put, q1_, q2_, q3_, i64_w, i32_w]
    rfl
   refine take_ (i := 6) (N := some 155) (v := ?_) (a' := ?_) #[T_,T_,T_,T_,T_,T_,T_,T_,T_,T_,T_,F_,F_,F_] rfl rfl (take_ofW HT_.out HW_.out (by kernel_rfl)) (fun _ _ _ h => h) (Or.inl ⟨by rfl, ?_⟩) hHeld ?_ ?_
   rotate_left
   ·rintro w' ⟨s0, s1, s2, s3⟩
    go_simp
    with_reducible rfl
   rotate_left
   ·simp only [Act.put, q1_, q2_, q3_, i64_w, i32_w]
    rfl
   refine take_ (i := 11) (N := some 160) (v := ?_) (a' := ?_) #[T_,T_,T_,T_,T_,T_,T_,T_,T_,T_,T_,T_,F_,F_] rfl rfl (take_ofW HT_.out HW_.out (by kernel_rfl)) (fun _ _ _ h => h) (Or.inl ⟨by rfl, ?_⟩) hHeld ?_ ?_
   rotate_left
   ·rintro w' ⟨s0, s1, s2, s3⟩
    go_simp
    with_reducible rfl
   rotate_left
   ·simp only [Act.put, q1_, q2_, q3_, i64_w, i32_w]
    rfl
   refine one_ (i := 12) (N := some 161) #[T_,T_,T_,T_,T_,T_,T_,T_,T_,T_,T_,T_,T_,F_] rfl rfl (one_of HT_.out (by kernel_rfl)) (by decide) (fun K hK => ?_)
   refine goes_ Try.func22 (by kernel_rfl) rfl #[.agg #[.int .u32 ((rd_T47 x6_5 x14_5).f0), .int .i64 ((rd_T47 x6_5 x14_5).f1)], .agg #[.int .u32 ((rd_T47 x6_5 (ji123)).f0), .int .i64 ((rd_T47 x6_5 (ji123)).f1)]] (by rfl) rfl rfl (by (try simp only [List.map_toArray, List.map_cons, List.map_nil]); first | done | (simp only [hji123]; rfl) | rfl | (simp only [List.length_drop, List.length_take]; rfl)) ?_
   with_reducible refine (interregnumref05_Less.calls ((rd_T47 x6_5 x14_5).f0) ((rd_T47 x6_5 x14_5).f1) ((rd_T47 x6_5 (ji123)).f0) ((rd_T47 x6_5 (ji123)).f1) true _ A126.out).mono ?_
   rintro e w135 ⟨rfl, hb⟩
   have HS0_ := (hb.cell (World.block_lt_of_cell? _ _ (hHeld.1))).trans (hHeld.1)
   have HS1_ := (hb.cell (World.block_lt_of_cell? _ _ (hHeld.2.1))).trans (hHeld.2.1)
   have HS2_ := (hb.cell (World.block_lt_of_cell? _ _ (hHeld.2.2.1))).trans (hHeld.2.2.1)
   have HS3_ := (hb.cell (World.block_lt_of_cell? _ _ (hHeld.2.2.2))).trans (hHeld.2.2.2)
   refine ⟨_, rfl, ?_⟩
   have n0_ := Aside0.mk (Kd.R_below (by (with_reducible repeat (first|apply Kd.R_alloc|apply Kd.R_drewN|apply Kd.R_drew)); exact HO_6.out) hb)
   have n1_ := Aside0.mk (Kd.R_below (by (with_reducible repeat (first|apply Kd.R_alloc|apply Kd.R_drewN|apply Kd.R_drew)); exact HO_7.out) hb)
   have n2_ := Aside0.mk (blk_below (g := gb137) (o := .cells #[.bool ((rd_T62 l0 x8_2).f0), .int .u32 ((rd_T62 l0 x8_2).f1.f0), .int .i64 ((rd_T62 l0 x8_2).f1.f1), .int .i64 ((rd_T62 l0 x8_2).f2)] 62 (0, 0)) (by (with_reducible repeat (first | refine blk_drewN ?_ _ | refine blk_drew ?_ | refine blk_alloc ?_ _)); exact BK137.out) hb)
   have n3_ := Aside0.mk (IsS75.below (by repeat (first | (with_reducible first | exact HI135.out | apply IsS75.alloc | apply IsS75.drewN | apply IsS75.drew | refine IsS75.far ?_ (by (repeat (first | exact (Opq.NP.blk BK137.out (by decide)) | (with_reducible apply Opq.NP.setCell) | (with_reducible apply Opq.NP.drewN) | (with_reducible apply Opq.NP.drew) | (with_reducible apply Opq.NP.alloc))); done) _) | exact HI135.out)) hb)
   have n4_ := Aside0.mk (below_step (by repeat (first | (with_reducible first | exact HB.out | apply below_alloc | apply pw_below_drewN | apply below_drew1 | refine below_set ?_ (IsS75.ge HI135.out) | refine below_set ?_ GE137.out) | exact HB.out)) hb)
   clear HO_6 HO_7 BK137 HI135 HB
   have HO_6 := n0_; have HO_7 := n1_; have BK137 := n2_; have HI135 := n3_; have HB := n4_
   clear n0_ n1_ n2_ n3_ n4_
   (try clear hb)
   (try clear hb2)
   (try clear hk)
   (try clear hi)
   refine hK.out _ _ ⟨HS0_, HS1_, HS2_, HS3_⟩ (fun hHeld => ?_)
   clear hK K
   refine norm_ (a' := ?_) ?_ ?_
   rotate_left
   ·show Act.put _ (some 161) _ = _
    simp only [Act.put, q1_, q2_, q3_, i64_w, i32_w]
    rfl
   refine pure_ (i := 13) (N := some 162) (v := ?_) (a' := ?_) #[T_,T_,T_,T_,T_,T_,T_,T_,T_,T_,T_,T_,T_,T_] rfl rfl (any_of HT_.out (by kernel_rfl)) (fun _ _ _ h => h) (Or.inl ⟨by rfl, ?_⟩) ?_ ?_
   rotate_left
   ·intro w'
    go_simp
    with_reducible rfl
   rotate_left
   ·simp only [Act.put, q1_, q2_, q3_, i64_w, i32_w]
    rfl
   refine done_ (done_of HT_.out (by kernel_rfl)) ?_
   try go_wp2
   have n0_ := Aside0.mk (Kd.R_drew HO_6.out)
   have n1_ := Aside0.mk (Kd.R_drew HO_7.out)
   have n2_ := Aside0.mk (blk_drew BK137.out)
   have n3_ := Aside0.mk (IsS75.drew HI135.out)
   have n4_ := Aside0.mk (below_drew1 HB.out)
   clear HO_6 HO_7 BK137 HI135 HB
   have HO_6 := n0_; have HO_7 := n1_; have BK137 := n2_; have HI135 := n3_; have HB := n4_
   clear n0_ n1_ n2_ n3_ n4_
   have p199 : 0 ≤ ((ji123) : Int) := of_decide_eq_true (by first | (with_reducible assumption) | assumption)
   have q199 : (ji123) < (x6_5.length : Int) := of_decide_eq_true (by first | (with_reducible assumption) | assumption)
   obtain ⟨ad199, e199, hx199_0, hx199_1⟩ := at_T47 (Kd.R_reads' HO_6.out).2.2 (ji123) p199 q199
   obtain rfl : ad196 = ad199 := (by injection e199)
   replace p199 := eq_true p199
   replace q199 := eq_true q199
   have p200 : 0 ≤ (x14_5 : Int) := of_decide_eq_true (by first | (with_reducible assumption) | assumption)
   have q200 : x14_5 < (x6_5.length : Int) := of_decide_eq_true (by first | (with_reducible assumption) | assumption)
   obtain ⟨ad200, e200, hx200_0, hx200_1⟩ := at_T47 (Kd.R_reads' HO_6.out).2.2 x14_5 p200 q200
   obtain rfl : ad196 = ad200 := (by injection e200)
   replace p200 := eq_true p200
   replace q200 := eq_true q200
   have p128 : 0 ≤ (x14_5 : Int) := of_decide_eq_true (by first | (with_reducible assumption) | assumption)
   have q128 : (x14_5 : Int) < ((x6_5.length : Int) : Int) := of_decide_eq_true (by first | (with_reducible assumption) | assumption)
   obtain ⟨go128, co128, eo128, gb128, gl128, cl128, HG128⟩ := Kd.R_form HO_6.out (by omega)
   (first | cases eo128 | (injection eo128 with ea_ en_ ec_; (first | subst ea_ | (injection ea_ with ea_; subst ea_)); subst ec_; clear en_))
   have GB128 := Aside0.mk gb128
   have GG128 := Aside0.mk HG128
   clear gb128 gl128 HG128
   (first | simp only [add_plain] at hx196_0 | skip)
   (first | simp only [add_plain] at hx196_1 | skip)
   (first | simp only [add_plain] at hx197_0 | skip)
   (first | simp only [add_plain] at hx197_1 | skip)
   (first | simp only [add_plain] at hx199_0 | skip)
   (first | simp only [add_plain] at hx199_1 | skip)
   (first | simp only [add_plain] at hx200_0 | skip)
   (first | simp only [add_plain] at hx200_1 | skip)
   obtain ⟨ce128, hcl128, hM128, hcc128, hfr128⟩ := Kd.R_elem HO_6.out z47 (x14_5 : Int) p128 q128
   obtain rfl := k47_openM hM128
   have hx128_0 : World.cell? _ ⟨go128, (x14_5 : Int).toNat * 2, none⟩ = some (.int .u32 ((rd_T47 x6_5 x14_5).f0)) := hcc128 0 _ rfl
   have hx128_1 : World.cell? _ ⟨go128, (x14_5 : Int).toNat * 2 + 1, none⟩ = some (.int .i64 ((rd_T47 x6_5 x14_5).f1)) := hcc128 1 _ rfl
   have hf128_0 : World.frozen? _ ⟨go128, (x14_5 : Int).toNat * 2, none⟩ = false := hfr128 0
   have hf128_1 : World.frozen? _ ⟨go128, (x14_5 : Int).toNat * 2 + 1, none⟩ = false := hfr128 1
   clear hcl128 hcc128 hfr128 hM128
   replace p128 := eq_true p128
   replace q128 := eq_true q128
   have HN135_go128 := Aside0.mk (show Opq.NP ts75 _ go128 from Opq.NPr.typed (Kd.R_typed HO_6.out) (by decide) _ rfl)
   obtain ⟨ce137, hcl137, hM137, hcc137, hfr137⟩ := Kd.R_elem HO_6.out z47 (x14_5 : Int) (of_decide_eq_true (by first | (with_reducible assumption) | assumption)) (by have h_ : (x14_5 : Int) < ((x6_5.length : Int) : Int) := of_decide_eq_true (by first | (with_reducible assumption) | assumption); first | exact h_ | (have e_ := (Kd.R_reads' HO_6.out).1; omega) | simpa using h_)
   obtain rfl := k47_openM hM137
   have HP137 := (Kd.R_seg HO_6.out (x14_5 : Int) (of_decide_eq_true (by first | (with_reducible assumption) | assumption)) (by have h_ : (x14_5 : Int) < ((x6_5.length : Int) : Int) := of_decide_eq_true (by first | (with_reducible assumption) | assumption); first | exact h_ | (have e_ := (Kd.R_reads' HO_6.out).1; omega) | simpa using h_) (seg := [.int .u32 ((rd_T47 x6_5 (ji123)).f0), .int .i64 ((rd_T47 x6_5 (ji123)).f1)]) (j := 0) hcl137 hcc137 (show 2 ≤ 2 from by decide) (x' := (⟨(rd_T47 x6_5 (ji123)).f0, (rd_T47 x6_5 (ji123)).f1⟩ : S47)) (k47_mkM _ _ _ (⟨(rd_T47 x6_5 (ji123)).f0, (rd_T47 x6_5 (ji123)).f1⟩ : S47) ) (fun _ hk => hk)).1
   rw [← Ny201.out] at HP137
   have HQ137 := Aside0.mk HP137
   clear hcl137 hcc137 hfr137 hM137 HP137
   have p129 : 0 ≤ ((ji123) : Int) := of_decide_eq_true (by first | (with_reducible assumption) | assumption)
   have q129 : ((ji123) : Int) < ((x6_5.length : Int) : Int) := of_decide_eq_true (by first | (with_reducible assumption) | assumption)
   obtain ⟨ce129, hcl129, hM129, hcc129, hfr129⟩ := Kd.R_elem HQ137.out z47 ((ji123) : Int) p129 q129
   obtain rfl := k47_openM hM129
   have hx129_0 : World.cell? _ ⟨go128, ((ji123) : Int).toNat * 2, none⟩ = some (.int .u32 ((rd_T47 y201 (ji123)).f0)) := hcc129 0 _ rfl
   have hx129_1 : World.cell? _ ⟨go128, ((ji123) : Int).toNat * 2 + 1, none⟩ = some (.int .i64 ((rd_T47 y201 (ji123)).f1)) := hcc129 1 _ rfl
   have hf129_0 : World.frozen? _ ⟨go128, ((ji123) : Int).toNat * 2, none⟩ = false := hfr129 0
   have hf129_1 : World.frozen? _ ⟨go128, ((ji123) : Int).toNat * 2 + 1, none⟩ = false := hfr129 1
   clear hcl129 hcc129 hfr129 hM129
   replace p129 := eq_true p129
   replace q129 := eq_true q129
   have HN135_go128 := Aside0.mk (show Opq.NP ts75 _ go128 from Opq.NPr.typed (Kd.R_typed HO_6.out) (by decide) _ rfl)
   obtain ⟨ce138, hcl138, hM138, hcc138, hfr138⟩ := Kd.R_elem HQ137.out z47 ((ji123) : Int) (of_decide_eq_true (by first | (with_reducible assumption) | assumption)) (by have h_ : ((ji123) : Int) < ((x6_5.length : Int) : Int) := of_decide_eq_true (by first | (with_reducible assumption) | assumption); first | exact h_ | (have e_ := (Kd.R_reads' HO_6.out).1; omega) | simpa using h_)
   obtain rfl := k47_openM hM138
   have HP138 := (Kd.R_seg HQ137.out ((ji123) : Int) (of_decide_eq_true (by first | (with_reducible assumption) | assumption)) (by have h_ : ((ji123) : Int) < ((x6_5.length : Int) : Int) := of_decide_eq_true (by first | (with_reducible assumption) | assumption); first | exact h_ | (have e_ := (Kd.R_reads' HO_6.out).1; omega) | simpa using h_) (seg := [.int .u32 ((rd_T47 x6_5 x14_5).f0), .int .i64 ((rd_T47 x6_5 x14_5).f1)]) (j := 0) hcl138 hcc138 (show 2 ≤ 2 from by decide) (x' := (⟨(rd_T47 x6_5 x14_5).f0, (rd_T47 x6_5 x14_5).f1⟩ : S47)) (k47_mkM _ _ _ (⟨(rd_T47 x6_5 x14_5).f0, (rd_T47 x6_5 x14_5).f1⟩ : S47) ) (fun _ hk => hk)).1
   rw [← Ny202.out] at HP138
   have HQ138 := Aside0.mk HP138
   clear hcl138 hcc138 hfr138 hM138 HP138
   have hne_ : ¬ (x14_5.toNat = ji123.toNat) := TR.neJ (of_decide_eq_true c121b0) (of_decide_eq_true c124b0) hji123
   have hne_' : ¬ (ji123.toNat = x14_5.toNat) := fun e => hne_ e.symm
   refine start_ (n := 18) (S := fun w' => w'.cell? ⟨go128, ((ji123).toNat * 2), none⟩ = some (.int .u32 ((rd_T47 x6_5 (ji123)).f0)) ∧ w'.cell? ⟨go128, ((ji123).toNat * 2) + 1, none⟩ = some (.int .i64 ((rd_T47 x6_5 (ji123)).f1)) ∧ w'.cell? ⟨go128, ((x14_5).toNat * 2), none⟩ = some (.int .u32 ((rd_T47 x6_5 x14_5).f0)) ∧ w'.cell? ⟨go128, ((x14_5).toNat * 2) + 1, none⟩ = some (.int .i64 ((rd_T47 x6_5 x14_5).f1))) (ds := [15, 17]) #[F_,F_,F_,F_,F_,F_,F_,F_,F_,F_,F_,F_,F_,F_,F_,F_,F_,F_] (by kernel_rfl) rfl rfl ⟨hx199_0, hx199_1, hx200_0, hx200_1⟩ (fun hHeld => ?_); refine with_tabW TR.tab33 TR.bits33 (fun HT_ HW_ => ?_)
   generalize w135.drew = w136 at HO_6 HO_7 BK137 HI135 HB GG128 HQ137 HQ138 hf128_0 hf128_1 hf129_0 hf129_1 hx128_0 hx128_1 hx129_0 hx129_1 hx196_0 hx196_1 hx197_0 hx197_1 hx199_0 hx199_1 hx200_0 hx200_1 hHeld ⊢
   have HN135_go128 := Aside0.mk (show Opq.NP ts75 w136 go128 from Opq.NPr.typed (Kd.R_typed HO_6.out) (by decide) _ rfl)
   obtain ⟨ceJ_, hclJ_, hMJ_, hccJ_, hfrJ_⟩ := Kd.R_elem HO_6.out z47 (ji123 : Int) (of_eq_true p199) (of_eq_true q199)
   have hfJ_0 : w136.frozen? ⟨go128, (ji123 : Int).toNat * 2, none⟩ = false := hfrJ_ 0
   have hfJ_1 : w136.frozen? ⟨go128, (ji123 : Int).toNat * 2 + 1, none⟩ = false := hfrJ_ 1
   clear hclJ_ hccJ_ hfrJ_ hMJ_
   refine pure_ (i := 0) (N := some 165) (v := ?_) (a' := ?_) #[T_,F_,F_,F_,F_,F_,F_,F_,F_,F_,F_,F_,F_,F_,F_,F_,F_,F_] rfl rfl (any_of HT_.out (by kernel_rfl)) (fun _ _ _ h => h) (Or.inl ⟨by rfl, ?_⟩) ?_ ?_
   rotate_left
   ·intro w'
    go_simp
    with_reducible rfl
   rotate_left
   ·simp only [Act.put, q1_, q2_, q3_, i64_w, i32_w]
    rfl
   refine pure_ (i := 1) (N := some 166) (v := ?_) (a' := ?_) #[T_,T_,F_,F_,F_,F_,F_,F_,F_,F_,F_,F_,F_,F_,F_,F_,F_,F_] rfl rfl (any_of HT_.out (by kernel_rfl)) (fun _ _ _ h => h) (Or.inl ⟨by rfl, ?_⟩) ?_ ?_
   rotate_left
   ·intro w'
    go_simp
    with_reducible rfl
   rotate_left
   ·simp only [Act.put, q1_, q2_, q3_, i64_w, i32_w]
    rfl
   refine pure_ (i := 2) (N := some 167) (v := ?_) (a' := ?_) #[T_,T_,T_,F_,F_,F_,F_,F_,F_,F_,F_,F_,F_,F_,F_,F_,F_,F_] rfl rfl (any_of HT_.out (by kernel_rfl)) (fun _ _ _ h => h) (Or.inl ⟨by rfl, ?_⟩) ?_ ?_
   rotate_left
   ·intro w'
    go_simp
    with_reducible rfl
   rotate_left
   ·simp only [Act.put, q1_, q2_, q3_, i64_w, i32_w]
    rfl
   refine pure_ (i := 3) (N := some 168) (v := ?_) (a' := ?_) #[T_,T_,T_,T_,F_,F_,F_,F_,F_,F_,F_,F_,F_,F_,F_,F_,F_,F_] rfl rfl (any_of HT_.out (by kernel_rfl)) (fun _ _ _ h => h) (Or.inl ⟨by rfl, ?_⟩) ?_ ?_
   rotate_left
   ·intro w'
    go_simp
    with_reducible rfl
   rotate_left
   ·simp only [Act.put, q1_, q2_, q3_, i64_w, i32_w]
    rfl
   refine pure_ (i := 4) (N := some 169) (v := ?_) (a' := ?_) #[T_,T_,T_,T_,T_,F_,F_,F_,F_,F_,F_,F_,F_,F_,F_,F_,F_,F_] rfl rfl (any_of HT_.out (by kernel_rfl)) (fun _ _ _ h => h) (Or.inl ⟨by rfl, ?_⟩) ?_ ?_
   rotate_left
   ·intro w'
    go_simp
    with_reducible rfl
   rotate_left
   ·simp only [Act.put, q1_, q2_, q3_, i64_w, i32_w]
    rfl
   refine pure_ (i := 5) (N := some 170) (v := ?_) (a' := ?_) #[T_,T_,T_,T_,T_,T_,F_,F_,F_,F_,F_,F_,F_,F_,F_,F_,F_,F_] rfl rfl (any_of HT_.out (by kernel_rfl)) (fun _ _ _ h => h) (Or.inl ⟨by rfl, ?_⟩) ?_ ?_
   rotate_left
   ·intro w'
    go_simp
    with_reducible rfl
   rotate_left
   ·simp only [Act.put, q1_, q2_, q3_, i64_w, i32_w]
    rfl
   refine pure_ (i := 6) (N := some 171) (v := ?_) (a' := ?_) #[T_,T_,T_,T_,T_,T_,T_,F_,F_,F_,F_,F_,F_,F_,F_,F_,F_,F_] rfl rfl (any_of HT_.out (by kernel_rfl)) (fun _ _ _ h => h) (Or.inl ⟨by rfl, ?_⟩) ?_ ?_
   rotate_left
   ·intro w'
    go_simp
    with_reducible rfl
   rotate_left
   ·simp only [Act.put, q1_, q2_, q3_, i64_w, i32_w]
    rfl
   refine pure_ (i := 7) (N := some 172) (v := ?_) (a' := ?_) #[T_,T_,T_,T_,T_,T_,T_,T_,F_,F_,F_,F_,F_,F_,F_,F_,F_,F_] rfl rfl (any_of HT_.out (by kernel_rfl)) (fun _ _ _ h => h) (Or.inl ⟨by rfl, ?_⟩) ?_ ?_
   rotate_left
   ·intro w'
    go_simp
    with_reducible rfl
   rotate_left
   ·simp only [Act.put, q1_, q2_, q3_, i64_w, i32_w]
    rfl
   refine pure_ (i := 8) (N := some 173) (v := ?_) (a' := ?_) #[T_,T_,T_,T_,T_,T_,T_,T_,T_,F_,F_,F_,F_,F_,F_,F_,F_,F_] rfl rfl (any_of HT_.out (by kernel_rfl)) (fun _ _ _ h => h) (Or.inl ⟨by rfl, ?_⟩) ?_ ?_
   rotate_left
   ·intro w'
    go_simp
    with_reducible rfl
   rotate_left
   ·simp only [Act.put, q1_, q2_, q3_, i64_w, i32_w]
    rfl
   refine pure_ (i := 10) (N := some 175) (v := ?_) (a' := ?_) #[T_,T_,T_,T_,T_,T_,T_,T_,T_,F_,T_,F_,F_,F_,F_,F_,F_,F_] rfl rfl (any_of HT_.out (by kernel_rfl)) (fun _ _ _ h => h) (Or.inl ⟨by rfl, ?_⟩) ?_ ?_
   rotate_left
   ·intro w'
    go_simp
    with_reducible rfl
   rotate_left
   ·simp only [Act.put, q1_, q2_, q3_, i64_w, i32_w]
    rfl
   refine pure_ (i := 11) (N := some 176) (v := ?_) (a' := ?_) #[T_,T_,T_,T_,T_,T_,T_,T_,T_,F_,T_,T_,F_,F_,F_,F_,F_,F_] rfl rfl (any_of HT_.out (by kernel_rfl)) (fun _ _ _ h => h) (Or.inl ⟨by rfl, ?_⟩) ?_ ?_
   rotate_left
   ·intro w'
    go_simp
    with_reducible rfl
   rotate_left
   ·simp only [Act.put, q1_, q2_, q3_, i64_w, i32_w]
    rfl
   refine pure_ (i := 12) (N := some 177) (v := ?_) (a' := ?_) #[T_,T_,T_,T_,T_,T_,T_,T_,T_,F_,T_,T_,T_,F_,F_,F_,F_,F_] rfl rfl (any_of HT_.out (by kernel_rfl)) (fun _ _ _ h => h) (Or.inl ⟨by rfl, ?_⟩) ?_ ?_
   rotate_left
   ·intro w'
    go_simp
    with_reducible rfl
   rotate_left
   ·simp only [Act.put, q1_, q2_, q3_, i64_w, i32_w]
    rfl
   refine take_ (i := 9) (N := some 174) (v := ?_) (a' := ?_) #[T_,T_,T_,T_,T_,T_,T_,T_,T_,T_,T_,T_,T_,F_,F_,F_,F_,F_] rfl rfl (take_ofW HT_.out HW_.out (by kernel_rfl)) (fun _ _ _ h => h) (Or.inl ⟨by rfl, ?_⟩) hHeld ?_ ?_
   rotate_left
   ·rintro w' ⟨s0, s1, s2, s3⟩
    go_simp
    with_reducible rfl
   rotate_left
   ·simp only [Act.put, q1_, q2_, q3_, i64_w, i32_w]
    rfl
   refine take_ (i := 13) (N := some 178) (v := ?_) (a' := ?_) #[T_,T_,T_,T_,T_,T_,T_,T_,T_,T_,T_,T_,T_,T_,F_,F_,F_,F_] rfl rfl (take_ofW HT_.out HW_.out (by kernel_rfl)) (fun _ _ _ h => h) (Or.inl ⟨by rfl, ?_⟩) hHeld ?_ ?_
   rotate_left
   ·rintro w' ⟨s0, s1, s2, s3⟩
    go_simp
    with_reducible rfl
   rotate_left
   ·simp only [Act.put, q1_, q2_, q3_, i64_w, i32_w]
    rfl
   refine pure_ (i := 14) (N := some 179) (v := ?_) (a' := ?_) #[T_,T_,T_,T_,T_,T_,T_,T_,T_,T_,T_,T_,T_,T_,T_,F_,F_,F_] rfl rfl (any_of HT_.out (by kernel_rfl)) (fun _ _ _ h => h) (Or.inl ⟨by rfl, ?_⟩) ?_ ?_
   rotate_left
   ·intro w'
    go_simp
    with_reducible rfl
   rotate_left
   ·simp only [Act.put, q1_, q2_, q3_, i64_w, i32_w]
    rfl
   refine last_ (i := 15) (N := none) #[T_,T_,T_,T_,T_,T_,T_,T_,T_,T_,T_,T_,T_,T_,T_,T_,F_,F_] rfl rfl (one_of HT_.out (by kernel_rfl)) (by decide) (fun K hK => ?_)
   refine skip_ (w1 := ?_) (by rfl) rfl ?_ ?_
   rotate_left
   ·go_simp
    rfl
   refine hK.out _ _ ?_
   clear hK K
   refine pure_ (i := 16) (N := some 180) (v := ?_) (a' := ?_) #[T_,T_,T_,T_,T_,T_,T_,T_,T_,T_,T_,T_,T_,T_,T_,T_,T_,F_] rfl rfl (any_of HT_.out (by kernel_rfl)) (fun _ _ _ h => h) (Or.inl ⟨by rfl, ?_⟩) ?_ ?_
   rotate_left
   ·intro w'
    go_simp
    with_reducible rfl
   rotate_left
   ·simp only [Act.put, q1_, q2_, q3_, i64_w, i32_w]
    rfl
   refine last_ (i := 17) (N := none) #[T_,T_,T_,T_,T_,T_,T_,T_,T_,T_,T_,T_,T_,T_,T_,T_,T_,T_] rfl rfl (one_of HT_.out (by kernel_rfl)) (by decide) (fun K hK => ?_)
   refine skip_ (w1 := ?_) (by rfl) rfl ?_ ?_
   rotate_left
   ·go_simp
    rfl
   refine hK.out _ _ ?_
   clear hK K
   refine done_ (done_of HT_.out (by kernel_rfl)) ?_
   try go_wp2
   have n0_ : Aside0 (Kd.R k47 47 ((((w136.setCell ⟨go128, (x14_5 : Int).toNat * 2, none⟩ (.int .u32 ((rd_T47 x6_5 (ji123)).f0))).setCell ⟨go128, (x14_5 : Int).toNat * 2 + 1, none⟩ (.int .i64 ((rd_T47 x6_5 (ji123)).f1))).setCell ⟨go128, ((ji123) : Int).toNat * 2, none⟩ (.int .u32 ((rd_T47 x6_5 x14_5).f0))).setCell ⟨go128, ((ji123) : Int).toNat * 2 + 1, none⟩ (.int .i64 ((rd_T47 x6_5 x14_5).f1))) w.heap.size (fun _ => True) (.slice (some ⟨go128, 0, none⟩) x6_5.length co119) y202) := ⟨by (with_reducible repeat (first | apply Kd.R_alloc | apply Kd.R_drewN | apply Kd.R_drew)); exact HQ138.out⟩
   have n1_ : Aside0 (Kd.R (Kd.int .i64) 3 ((((w136.setCell ⟨go128, (x14_5 : Int).toNat * 2, none⟩ (.int .u32 ((rd_T47 x6_5 (ji123)).f0))).setCell ⟨go128, (x14_5 : Int).toNat * 2 + 1, none⟩ (.int .i64 ((rd_T47 x6_5 (ji123)).f1))).setCell ⟨go128, ((ji123) : Int).toNat * 2, none⟩ (.int .u32 ((rd_T47 x6_5 x14_5).f0))).setCell ⟨go128, ((ji123) : Int).toNat * 2 + 1, none⟩ (.int .i64 ((rd_T47 x6_5 x14_5).f1))) w.heap.size (fun _ => True) v194 x7_5) := ⟨by (with_reducible repeat (first | apply Kd.R_alloc | apply Kd.R_drewN | apply Kd.R_drew)); exact Kd.R_mono (Kd.R_far (p := ⟨go128, ((ji123) : Int).toNat * 2 + 1, none⟩) (Kd.R_far (p := ⟨go128, ((ji123) : Int).toNat * 2, none⟩) (Kd.R_far (p := ⟨go128, (x14_5 : Int).toNat * 2 + 1, none⟩) (Kd.R_far (p := ⟨go128, (x14_5 : Int).toNat * 2, none⟩) (Kd.R_types HO_7.out GG128.out (by decide)) (fun _ hk => hk.2) (.int .u32 ((rd_T47 x6_5 (ji123)).f0))) (fun _ hk => hk.2) (.int .i64 ((rd_T47 x6_5 (ji123)).f1))) (fun _ hk => hk.2) (.int .u32 ((rd_T47 x6_5 x14_5).f0))) (fun _ hk => hk.2) (.int .i64 ((rd_T47 x6_5 x14_5).f1))) (fun _ hk => trivial)⟩
   have n2_ : Aside0 (((((w136.setCell ⟨go128, (x14_5 : Int).toNat * 2, none⟩ (.int .u32 ((rd_T47 x6_5 (ji123)).f0))).setCell ⟨go128, (x14_5 : Int).toNat * 2 + 1, none⟩ (.int .i64 ((rd_T47 x6_5 (ji123)).f1))).setCell ⟨go128, ((ji123) : Int).toNat * 2, none⟩ (.int .u32 ((rd_T47 x6_5 x14_5).f0))).setCell ⟨go128, ((ji123) : Int).toNat * 2 + 1, none⟩ (.int .i64 ((rd_T47 x6_5 x14_5).f1))).heap[gb137]? = some (.cells #[.bool ((rd_T62 l0 x8_2).f0), .int .u32 ((rd_T62 l0 x8_2).f1.f0), .int .i64 ((rd_T62 l0 x8_2).f1.f1), .int .i64 ((rd_T62 l0 x8_2).f2)] 62 (0, 0))) := ⟨by (with_reducible repeat (first | refine blk_drewN ?_ _ | refine blk_drew ?_ | refine blk_alloc ?_ _)); refine blk_far ?_ (by have h_ := Kd.R_ne HO_6.out BK137.out (by decide); intro e_; exact h_ (by rw [e_]; rfl)) _; (with_reducible repeat (first | refine blk_drewN ?_ _ | refine blk_drew ?_ | refine blk_alloc ?_ _)); refine blk_far ?_ (by have h_ := Kd.R_ne HO_6.out BK137.out (by decide); intro e_; exact h_ (by rw [e_]; rfl)) _; (with_reducible repeat (first | refine blk_drewN ?_ _ | refine blk_drew ?_ | refine blk_alloc ?_ _)); refine blk_far ?_ (by have h_ := Kd.R_ne HO_6.out BK137.out (by decide); intro e_; exact h_ (by rw [e_]; rfl)) _; (with_reducible repeat (first | refine blk_drewN ?_ _ | refine blk_drew ?_ | refine blk_alloc ?_ _)); refine blk_far ?_ (by have h_ := Kd.R_ne HO_6.out BK137.out (by decide); intro e_; exact h_ (by rw [e_]; rfl)) _; (with_reducible repeat (first | refine blk_drewN ?_ _ | refine blk_drew ?_ | refine blk_alloc ?_ _)); exact BK137.out⟩
   have n3_ : Aside0 (IsS75 w ((((w136.setCell ⟨go128, (x14_5 : Int).toNat * 2, none⟩ (.int .u32 ((rd_T47 x6_5 (ji123)).f0))).setCell ⟨go128, (x14_5 : Int).toNat * 2 + 1, none⟩ (.int .i64 ((rd_T47 x6_5 (ji123)).f1))).setCell ⟨go128, ((ji123) : Int).toNat * 2, none⟩ (.int .u32 ((rd_T47 x6_5 x14_5).f0))).setCell ⟨go128, ((ji123) : Int).toNat * 2 + 1, none⟩ (.int .i64 ((rd_T47 x6_5 x14_5).f1))) g135 t180) := ⟨by repeat (first | (with_reducible first | exact HI135.out | apply IsS75.alloc | apply IsS75.drewN | apply IsS75.drew | refine IsS75.far ?_ (by (repeat (first | exact HN135_go128.out | exact HN135_go128.out | exact HN135_go128.out | exact HN135_go128.out | exact (Opq.NP.blk BK137.out (by decide)) | (with_reducible apply Opq.NP.setCell) | (with_reducible apply Opq.NP.drewN) | (with_reducible apply Opq.NP.drew) | (with_reducible apply Opq.NP.alloc))); done) _) | exact HI135.out)⟩
   have n4_ : Aside0 (Below w.heap.size w ((((w136.setCell ⟨go128, (x14_5 : Int).toNat * 2, none⟩ (.int .u32 ((rd_T47 x6_5 (ji123)).f0))).setCell ⟨go128, (x14_5 : Int).toNat * 2 + 1, none⟩ (.int .i64 ((rd_T47 x6_5 (ji123)).f1))).setCell ⟨go128, ((ji123) : Int).toNat * 2, none⟩ (.int .u32 ((rd_T47 x6_5 x14_5).f0))).setCell ⟨go128, ((ji123) : Int).toNat * 2 + 1, none⟩ (.int .i64 ((rd_T47 x6_5 x14_5).f1)))) := ⟨by repeat (first | (with_reducible first | exact HB.out | apply below_alloc | apply pw_below_drewN | apply below_drew1 | refine below_set ?_ GB128.out | refine below_set ?_ GB128.out | refine below_set ?_ GB128.out | refine below_set ?_ GB128.out | refine below_set ?_ (IsS75.ge HI135.out) | refine below_set ?_ GE137.out) | exact HB.out)⟩
   (try clear HO_6)
   (try clear HO_7)
   (try clear BK137)
   (try clear HI135)
   (try clear HB)
   generalize ((((w136.setCell ⟨go128, (x14_5 : Int).toNat * 2, none⟩ (.int .u32 ((rd_T47 x6_5 (ji123)).f0))).setCell ⟨go128, (x14_5 : Int).toNat * 2 + 1, none⟩ (.int .i64 ((rd_T47 x6_5 (ji123)).f1))).setCell ⟨go128, ((ji123) : Int).toNat * 2, none⟩ (.int .u32 ((rd_T47 x6_5 x14_5).f0))).setCell ⟨go128, ((ji123) : Int).toNat * 2 + 1, none⟩ (.int .i64 ((rd_T47 x6_5 x14_5).f1))) = w139 at n0_ n1_ n2_ n3_ n4_ ⊢
   have HO_6 := n0_; have HO_7 := n1_; have BK137 := n2_; have HI135 := n3_; have HB := n4_
   clear n0_ n1_ n2_ n3_ n4_
   have n0_ := Aside0.mk (Kd.R_drew HO_6.out)
   have n1_ := Aside0.mk (Kd.R_drew HO_7.out)
   have n2_ := Aside0.mk (blk_drew BK137.out)
   have n3_ := Aside0.mk (IsS75.drew HI135.out)
   have n4_ := Aside0.mk (below_drew1 HB.out)
   clear HO_6 HO_7 BK137 HI135 HB
   have HO_6 := n0_; have HO_7 := n1_; have BK137 := n2_; have HI135 := n3_; have HB := n4_
   clear n0_ n1_ n2_ n3_ n4_
   obtain ⟨Ao141, co141, eo141⟩ := Kd.R_slice HO_7.out
   (first | subst eo141 | (injection eo141 with f1_ f2_ f3_; have f4_ := f1_.symm; have f5_ := f3_.symm; clear f1_ f2_ f3_; subst f4_; subst f5_))
   have p203 : 0 ≤ ((ji123) : Int) := of_decide_eq_true (by first | (with_reducible assumption) | assumption)
   have q203 : (ji123) < (x7_5.length : Int) := of_decide_eq_true (by first | (with_reducible assumption) | assumption)
   obtain ⟨ad203, e203, hx203_0⟩ := Kd.at_int (Kd.R_reads' HO_7.out).2.2 (ji123) p203 q203
   cases e203
   replace p203 := eq_true p203
   replace q203 := eq_true q203
   have p204 : 0 ≤ (x14_5 : Int) := of_decide_eq_true (by first | (with_reducible assumption) | assumption)
   have q204 : x14_5 < (x7_5.length : Int) := of_decide_eq_true (by first | (with_reducible assumption) | assumption)
   obtain ⟨ad204, e204, hx204_0⟩ := Kd.at_int (Kd.R_reads' HO_7.out).2.2 x14_5 p204 q204
   obtain rfl : ad203 = ad204 := (by injection e204)
   replace p204 := eq_true p204
   replace q204 := eq_true q204
   have p132 : 0 ≤ (x14_5 : Int) := of_decide_eq_true (by first | (with_reducible assumption) | assumption)
   have q132 : (x14_5 : Int) < ((x7_5.length : Int) : Int) := of_decide_eq_true (by first | (with_reducible assumption) | assumption)
   obtain ⟨go132, co132, eo132, gb132, gl132, cl132, HG132⟩ := Kd.R_form HO_7.out (by omega)
   (first | cases eo132 | (injection eo132 with ea_ en_ ec_; (first | subst ea_ | (injection ea_ with ea_; subst ea_)); subst ec_; clear en_))
   have GB132 := Aside0.mk gb132
   have GG132 := Aside0.mk HG132
   clear gb132 gl132 HG132
   (first | simp only [add_plain] at hx203_0 | skip)
   (first | simp only [add_plain] at hx204_0 | skip)
   obtain ⟨hx132_0, hf132_0⟩ := Kd.R_celln 0 HO_7.out (x14_5 : Int) p132 q132
   replace p132 := eq_true p132
   replace q132 := eq_true q132
   have HN135_go132 := Aside0.mk (show Opq.NP ts75 _ go132 from Opq.NPr.typed (Kd.R_typed HO_7.out) (by decide) _ rfl)
   have HP142 := Kd.R_putn HO_7.out (x14_5 : Int) (rd x7_5 (ji123))
   rw [← Ny205.out] at HP142
   have HQ142 := Aside0.mk HP142
   clear HP142
   have p133 : 0 ≤ ((ji123) : Int) := of_decide_eq_true (by first | (with_reducible assumption) | assumption)
   have q133 : ((ji123) : Int) < ((x7_5.length : Int) : Int) := of_decide_eq_true (by first | (with_reducible assumption) | assumption)
   obtain ⟨hx133_0, hf133_0⟩ := Kd.R_celln 0 HQ142.out ((ji123) : Int) p133 q133
   replace p133 := eq_true p133
   replace q133 := eq_true q133
   have HN135_go132 := Aside0.mk (show Opq.NP ts75 _ go132 from Opq.NPr.typed (Kd.R_typed HO_7.out) (by decide) _ rfl)
   have HP143 := Kd.R_putn HQ142.out ((ji123) : Int) (rd x7_5 x14_5)
   rw [← Ny206.out] at HP143
   have HQ143 := Aside0.mk HP143
   clear HP143
   refine start_ (n := 18) (S := fun w' => w'.cell? ⟨go132, ((ji123)).toNat, none⟩ = some (.int .i64 (rd x7_5 (ji123))) ∧ w'.cell? ⟨go132, (x14_5).toNat, none⟩ = some (.int .i64 (rd x7_5 x14_5))) (ds := [15, 17]) #[F_,F_,F_,F_,F_,F_,F_,F_,F_,F_,F_,F_,F_,F_,F_,F_,F_,F_] (by kernel_rfl) rfl rfl ⟨hx203_0, hx204_0⟩ (fun hHeld => ?_); refine with_tabW TR.tab34 TR.bits34 (fun HT_ HW_ => ?_)
   generalize w139.drew = w140 at HO_6 HO_7 BK137 HI135 HB GG132 HQ138 HQ142 HQ143 hf132_0 hf133_0 hx132_0 hx133_0 hx203_0 hx204_0 hHeld ⊢
   have HN135_go132 := Aside0.mk (show Opq.NP ts75 w140 go132 from Opq.NPr.typed (Kd.R_typed HO_7.out) (by decide) _ rfl)
   refine pure_ (i := 0) (N := some 181) (v := ?_) (a' := ?_) #[T_,F_,F_,F_,F_,F_,F_,F_,F_,F_,F_,F_,F_,F_,F_,F_,F_,F_] rfl rfl (any_of HT_.out (by kernel_rfl)) (fun _ _ _ h => h) (Or.inl ⟨by rfl, ?_⟩) ?_ ?_
   rotate_left
   ·intro w'
    go_simp
    with_reducible rfl
   rotate_left
   ·simp only [Act.put, q1_, q2_, q3_, i64_w, i32_w]
    rfl
   refine pure_ (i := 1) (N := some 182) (v := ?_) (a' := ?_) #[T_,T_,F_,F_,F_,F_,F_,F_,F_,F_,F_,F_,F_,F_,F_,F_,F_,F_] rfl rfl (any_of HT_.out (by kernel_rfl)) (fun _ _ _ h => h) (Or.inl ⟨by rfl, ?_⟩) ?_ ?_
   rotate_left
   ·intro w'
    go_simp
    with_reducible rfl
   rotate_left
   ·simp only [Act.put, q1_, q2_, q3_, i64_w, i32_w]
    rfl
   refine pure_ (i := 2) (N := some 183) (v := ?_) (a' := ?_) #[T_,T_,T_,F_,F_,F_,F_,F_,F_,F_,F_,F_,F_,F_,F_,F_,F_,F_] rfl rfl (any_of HT_.out (by kernel_rfl)) (fun _ _ _ h => h) (Or.inl ⟨by rfl, ?_⟩) ?_ ?_
   rotate_left
   ·intro w'
    go_simp
    with_reducible rfl
   rotate_left
   ·simp only [Act.put, q1_, q2_, q3_, i64_w, i32_w]
    rfl
   refine pure_ (i := 3) (N := some 184) (v := ?_) (a' := ?_) #[T_,T_,T_,T_,F_,F_,F_,F_,F_,F_,F_,F_,F_,F_,F_,F_,F_,F_] rfl rfl (any_of HT_.out (by kernel_rfl)) (fun _ _ _ h => h) (Or.inl ⟨by rfl, ?_⟩) ?_ ?_
   rotate_left
   ·intro w'
    go_simp
    with_reducible rfl
   rotate_left
   ·simp only [Act.put, q1_, q2_, q3_, i64_w, i32_w]
    rfl
   refine pure_ (i := 4) (N := some 185) (v := ?_) (a' := ?_) #[T_,T_,T_,T_,T_,F_,F_,F_,F_,F_,F_,F_,F_,F_,F_,F_,F_,F_] rfl rfl (any_of HT_.out (by kernel_rfl)) (fun _ _ _ h => h) (Or.inl ⟨by rfl, ?_⟩) ?_ ?_
   rotate_left
   ·intro w'
    go_simp
    with_reducible rfl
   rotate_left
   ·simp only [Act.put, q1_, q2_, q3_, i64_w, i32_w]
    rfl
   refine pure_ (i := 5) (N := some 186) (v := ?_) (a' := ?_) #[T_,T_,T_,T_,T_,T_,F_,F_,F_,F_,F_,F_,F_,F_,F_,F_,F_,F_] rfl rfl (any_of HT_.out (by kernel_rfl)) (fun _ _ _ h => h) (Or.inl ⟨by rfl, ?_⟩) ?_ ?_
   rotate_left
   ·intro w'
    go_simp
    with_reducible rfl
   rotate_left
   ·simp only [Act.put, q1_, q2_, q3_, i64_w, i32_w]
    rfl
   refine pure_ (i := 6) (N := some 187) (v := ?_) (a' := ?_) #[T_,T_,T_,T_,T_,T_,T_,F_,F_,F_,F_,F_,F_,F_,F_,F_,F_,F_] rfl rfl (any_of HT_.out (by kernel_rfl)) (fun _ _ _ h => h) (Or.inl ⟨by rfl, ?_⟩) ?_ ?_
   rotate_left
   ·intro w'
    go_simp
    with_reducible rfl
   rotate_left
   ·simp only [Act.put, q1_, q2_, q3_, i64_w, i32_w]
    rfl
   refine pure_ (i := 7) (N := some 188) (v := ?_) (a' := ?_) #[T_,T_,T_,T_,T_,T_,T_,T_,F_,F_,F_,F_,F_,F_,F_,F_,F_,F_] rfl rfl (any_of HT_.out (by kernel_rfl)) (fun _ _ _ h => h) (Or.inl ⟨by rfl, ?_⟩) ?_ ?_
   rotate_left
   ·intro w'
    go_simp
    with_reducible rfl
   rotate_left
   ·simp only [Act.put, q1_, q2_, q3_, i64_w, i32_w]
    rfl
   refine pure_ (i := 8) (N := some 189) (v := ?_) (a' := ?_) #[T_,T_,T_,T_,T_,T_,T_,T_,T_,F_,F_,F_,F_,F_,F_,F_,F_,F_] rfl rfl (any_of HT_.out (by kernel_rfl)) (fun _ _ _ h => h) (Or.inl ⟨by rfl, ?_⟩) ?_ ?_
   rotate_left
   ·intro w'
    go_simp
    with_reducible rfl
   rotate_left
   ·simp only [Act.put, q1_, q2_, q3_, i64_w, i32_w]
    rfl
   refine pure_ (i := 10) (N := some 191) (v := ?_) (a' := ?_) #[T_,T_,T_,T_,T_,T_,T_,T_,T_,F_,T_,F_,F_,F_,F_,F_,F_,F_] rfl rfl (any_of HT_.out (by kernel_rfl)) (fun _ _ _ h => h) (Or.inl ⟨by rfl, ?_⟩) ?_ ?_
   rotate_left
   ·intro w'
    go_simp
    with_reducible rfl
   rotate_left
   ·simp only [Act.put, q1_, q2_, q3_, i64_w, i32_w]
    rfl
   refine pure_ (i := 11) (N := some 192) (v := ?_) (a' := ?_) #[T_,T_,T_,T_,T_,T_,T_,T_,T_,F_,T_,T_,F_,F_,F_,F_,F_,F_] rfl rfl (any_of HT_.out (by kernel_rfl)) (fun _ _ _ h => h) (Or.inl ⟨by rfl, ?_⟩) ?_ ?_
   rotate_left
   ·intro w'
    go_simp
    with_reducible rfl
   rotate_left
   ·simp only [Act.put, q1_, q2_, q3_, i64_w, i32_w]
    rfl
   refine pure_ (i := 12) (N := some 193) (v := ?_) (a' := ?_) #[T_,T_,T_,T_,T_,T_,T_,T_,T_,F_,T_,T_,T_,F_,F_,F_,F_,F_] rfl rfl (any_of HT_.out (by kernel_rfl)) (fun _ _ _ h => h) (Or.inl ⟨by rfl, ?_⟩) ?_ ?_
   rotate_left
   ·intro w'
    go_simp
    with_reducible rfl
   rotate_left
   ·simp only [Act.put, q1_, q2_, q3_, i64_w, i32_w]
    rfl
   refine take_ (i := 9) (N := some 190) (v := ?_) (a' := ?_) #[T_,T_,T_,T_,T_,T_,T_,T_,T_,T_,T_,T_,T_,F_,F_,F_,F_,F_] rfl rfl (take_ofW HT_.out HW_.out (by kernel_rfl)) (fun _ _ _ h => h) (Or.inl ⟨by rfl, ?_⟩) hHeld ?_ ?_
   rotate_left
   ·rintro w' ⟨s0, s1⟩
    go_simp
    with_reducible rfl
   rotate_left
   ·simp only [Act.put, q1_, q2_, q3_, i64_w, i32_w]
    rfl
   refine take_ (i := 13) (N := some 194) (v := ?_) (a' := ?_) #[T_,T_,T_,T_,T_,T_,T_,T_,T_,T_,T_,T_,T_,T_,F_,F_,F_,F_] rfl rfl (take_ofW HT_.out HW_.out (by kernel_rfl)) (fun _ _ _ h => h) (Or.inl ⟨by rfl, ?_⟩) hHeld ?_ ?_
   rotate_left
   ·rintro w' ⟨s0, s1⟩
    go_simp
    with_reducible rfl
   rotate_left
   ·simp only [Act.put, q1_, q2_, q3_, i64_w, i32_w]
    rfl
   refine pure_ (i := 14) (N := some 195) (v := ?_) (a' := ?_) #[T_,T_,T_,T_,T_,T_,T_,T_,T_,T_,T_,T_,T_,T_,T_,F_,F_,F_] rfl rfl (any_of HT_.out (by kernel_rfl)) (fun _ _ _ h => h) (Or.inl ⟨by rfl, ?_⟩) ?_ ?_
   rotate_left
   ·intro w'
    go_simp
    with_reducible rfl
   rotate_left
   ·simp only [Act.put, q1_, q2_, q3_, i64_w, i32_w]
    rfl
   refine last_ (i := 15) (N := none) #[T_,T_,T_,T_,T_,T_,T_,T_,T_,T_,T_,T_,T_,T_,T_,T_,F_,F_] rfl rfl (one_of HT_.out (by kernel_rfl)) (by decide) (fun K hK => ?_)
   refine skip_ (w1 := ?_) (by rfl) rfl ?_ ?_
   rotate_left
   ·go_simp
    rfl
   refine hK.out _ _ ?_
   clear hK K
   refine pure_ (i := 16) (N := some 196) (v := ?_) (a' := ?_) #[T_,T_,T_,T_,T_,T_,T_,T_,T_,T_,T_,T_,T_,T_,T_,T_,T_,F_] rfl rfl (any_of HT_.out (by kernel_rfl)) (fun _ _ _ h => h) (Or.inl ⟨by rfl, ?_⟩) ?_ ?_
   rotate_left
   ·intro w'
    go_simp
    with_reducible rfl
   rotate_left
   ·simp only [Act.put, q1_, q2_, q3_, i64_w, i32_w]
    rfl
   refine last_ (i := 17) (N := none) #[T_,T_,T_,T_,T_,T_,T_,T_,T_,T_,T_,T_,T_,T_,T_,T_,T_,T_] rfl rfl (one_of HT_.out (by kernel_rfl)) (by decide) (fun K hK => ?_)
   refine skip_ (w1 := ?_) (by rfl) rfl ?_ ?_
   rotate_left
   ·go_simp
    rfl
   refine hK.out _ _ ?_
   clear hK K
   refine done_ (done_of HT_.out (by kernel_rfl)) ?_
   try go_wp2
   (try simp only [← hl6_5])
   go_roundg k5
   case measure => have := HJ2.out; have := HK2.out; have := HK3.out; have := HJ22.out; have := HK5.out; omega
   case rel => exact ⟨(y202), (y206), (ji123), (by first | rfl | (simp; done) | (simp only [← hji123] <;> (first | rfl | simp)) | (simp [*]; done)), H', ⟨by have := HJ2.out; have := HK2.out; have := HK3.out; have := HJ22.out; have := HK5.out; omega⟩, ⟨by (try simp only [hl6_5]); (with_reducible repeat (first | apply Kd.R_alloc | apply Kd.R_drewN | apply Kd.R_drew)); exact Kd.R_mono (Kd.R_far (p := ⟨go132, ((ji123) : Int).toNat, none⟩) (Kd.R_far (p := ⟨go132, (x14_5 : Int).toNat, none⟩) (Kd.R_types HO_6.out GG132.out (by decide)) (fun _ hk => hk.2) (.int .i64 (rd x7_5 (ji123)))) (fun _ hk => hk.2) (.int .i64 (rd x7_5 x14_5))) (fun _ hk => trivial)⟩, ⟨by (try simp only [hl6_5]); (with_reducible repeat (first | apply Kd.R_alloc | apply Kd.R_drewN | apply Kd.R_drew)); exact HQ143.out⟩, ⟨by (try simp only [hl6_5]); (with_reducible repeat (first | refine blk_drewN ?_ _ | refine blk_drew ?_ | refine blk_alloc ?_ _)); refine blk_far ?_ (by have h_ := Kd.R_ne HO_7.out BK137.out (by decide); intro e_; exact h_ (by rw [e_]; rfl)) _; (with_reducible repeat (first | refine blk_drewN ?_ _ | refine blk_drew ?_ | refine blk_alloc ?_ _)); refine blk_far ?_ (by have h_ := Kd.R_ne HO_7.out BK137.out (by decide); intro e_; exact h_ (by rw [e_]; rfl)) _; (with_reducible repeat (first | refine blk_drewN ?_ _ | refine blk_drew ?_ | refine blk_alloc ?_ _)); exact BK137.out⟩, ⟨by repeat (first | (with_reducible first | exact HI135.out | apply IsS75.alloc | apply IsS75.drewN | apply IsS75.drew | refine IsS75.far ?_ (by (repeat (first | exact HN135_go132.out | exact HN135_go132.out | exact (Opq.NP.blk BK137.out (by decide)) | (with_reducible apply Opq.NP.setCell) | (with_reducible apply Opq.NP.drewN) | (with_reducible apply Opq.NP.drew) | (with_reducible apply Opq.NP.alloc))); done) _) | exact HI135.out)⟩, ⟨by repeat (first | (with_reducible first | exact HB.out | apply below_alloc | apply pw_below_drewN | apply below_drew1 | refine below_set ?_ GB132.out | refine below_set ?_ GB132.out | refine below_set ?_ (IsS75.ge HI135.out) | refine below_set ?_ GE137.out) | exact HB.out)⟩⟩
def interregnumlaw11_TriePlays.f := TR.f
end Go.Proofs.Yteheclbneoodeaa.PTriePlays
