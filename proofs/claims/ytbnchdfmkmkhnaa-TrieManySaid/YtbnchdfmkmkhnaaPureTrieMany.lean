/- As many prefixes as are set are there; dropped, none is: the plain part of the proof. Conditions: none. -/
import Derived.Test.YtbnchdfmkmkhnaaTrieATrieMany
import Derived.Test.YtbnchdfmkmkhnaaPreBTrieMany
namespace Go.Proofs.Ytbnchdfmkmkhnaa.Pure
open Go.RowKit Go.Proofs.Ytbnchdfmkmkhnaa.PTrieMany Go.Proofs.YtbnchdfmkmkhnaaW.PrintWords Go.Proofs.YtbnchdfmkmkhnaaW.PrintLast Go.Proofs.YtbnchdfmkmkhnaaW.PrintMore Go.Proofs.Ytbnchdfmkmkhnaa.Pre Go.Proofs.Ytbnchdfmkmkhnaa.Trie Go.Proofs.Ytbnchdfmkmkhnaa.TriTrieMany Go.Proofs.Ytbnchdfmkmkhnaa
def dropAll (s : TrieM) (L : List (List Bool)) : TrieM := fun ρ => if ρ ∈ L then none else s ρ
theorem dropAll_nil (s : TrieM) : dropAll s [] = s := by
  funext ρ
  unfold dropAll
  rw [if_neg (by simp)]
theorem dropAll_snoc (s : TrieM) (L : List (List Bool)) (π : List Bool) : Trie.set (dropAll s L) π none = dropAll s (L ++ [π]) := by
  funext ρ
  unfold Trie.set dropAll
  by_cases e : ρ = π
  · rw [if_pos e, if_pos (by simp [e])]
  · rw [if_neg e]
    by_cases h : ρ ∈ L
    · rw [if_pos h, if_pos (by simp [h])]
    · rw [if_neg h, if_neg (by simp [h, e])]
theorem DropOk {s : TrieM} {π : List Bool} (h : π.length ≤ 32) : trie_Trie_Drop.f s (trie_toP π).f0 (trie_toP π).f1 = some ((s π).isSome, Trie.set s π none) := by
  unfold trie_Trie_Drop.f
  have hu := addr_U32 π h
  show (if 0 ≤ addr π ∧ addr π < 4294967296 then (if Ok (addr π) (π.length : Int) then some ((s (path (addr π) (π.length : Int).toNat)).isSome, Trie.set s (path (addr π) (π.length : Int).toNat) none) else some (false, s)) else none) = _
  rw [if_pos (show 0 ≤ addr π ∧ addr π < 4294967296 from hu), if_pos (addr_Ok π h), Int.toNat_natCast, path_addr π h]
theorem rd_map (L : List (List Bool)) (i : Nat) (h : i < L.length) : rd_T45 (L.map trie_toP) (i : Int) = trie_toP (L[i]) := by
  unfold rd_T45
  rw [List.getD_eq_getElem?_getD, Int.toNat_natCast, List.getElem?_map, List.getElem?_eq_getElem h]
  rfl
theorem less_toP {ρ σ : List Bool} (h : Lt ρ σ) : interregnumref05_Less.f (trie_toP ρ).f0 (trie_toP ρ).f1 (trie_toP σ).f0 (trie_toP σ).f1 = some true := by
  unfold interregnumref05_Less.f
  show (if addr ρ < addr σ then some true else if addr ρ = addr σ then some (decide ((ρ.length : Int) < (σ.length : Int))) else some false) = some true
  rcases h with h | ⟨h1, h2⟩
  · rw [if_pos h]
  · rw [if_neg (by omega), if_pos h1, decide_eq_true (by omega)]
theorem many_end (k : Nat) (at_ c : Int) (s : TrieM) (L : List (List Bool)) (hu : U32 at_) (hc : (L.length : Int) ≤ c) (hp : decide ((L.length : Int) > 0) = decide (c > 0)) (hs : ∀ ρ, s ρ = none) :
    interregnumlaw11_TrieMany.l1 (k + 1) at_ c (L.map trie_toP) (L.length : Int) s = some true := by
  have hb : best s at_ 32 = none := best_none 32 (fun j _ => hs _)
  have hw : Within s [] := fun π h => absurd (hs π) h
  have hl : paths s 32 [] = [] := List.length_eq_zero_iff.1 (Nat.le_zero.1 hw.len)
  conv => lhs; unfold interregnumlaw11_TrieMany.l1
  rw [if_neg (by rw [List.length_map]; omega), FindNo hu hb, Option.bind_some, TriTrieMany.answers, Option.bind_some, if_pos rfl, List.length_map, if_pos hc, if_pos (by rw [hp]; exact beq_self_eq_true _)]
  dsimp only
  rw [AllOk hw (by decide), Option.bind_some, hl]
  rfl
theorem many_drop (at_ c : Int) (s0 : TrieM) (L : List (List Bool)) (hu : U32 at_) (hc : (L.length : Int) ≤ c) (hp : decide ((L.length : Int) > 0) = decide (c > 0)) (hn : L.Pairwise Lt) (hm : ∀ ρ, ρ ∈ L ↔ s0 ρ ≠ none) (h32 : ∀ ρ ∈ L, ρ.length ≤ 32) (hlen : L.length < 1000) (d : Nat) :
    ∀ (k i : Nat), i + d = L.length → interregnumlaw11_TrieMany.l1 (k + d + 1) at_ c (L.map trie_toP) (i : Int) (dropAll s0 (L.take i)) = some true := by
  induction d with
  | zero =>
    intro k i hi
    obtain rfl : i = L.length := by omega
    refine many_end k at_ c _ L hu hc hp (fun ρ => ?_)
    rw [List.take_of_length_le (Nat.le_refl _)]
    unfold dropAll
    split
    · rfl
    · rename_i h
      exact Classical.byContradiction (fun e => h ((hm ρ).2 e))
  | succ d ih =>
    intro k i hi
    have hlt : i < L.length := by omega
    rw [show k + (d + 1) + 1 = (k + d + 1) + 1 by omega]
    conv => lhs; unfold interregnumlaw11_TrieMany.l1
    have hnd : L.Nodup := hn.imp Lt.ne
    have hnot : L[i] ∉ L.take i := fun h => by
      obtain ⟨j, hj, e⟩ := List.getElem_of_mem h
      rw [List.length_take] at hj
      rw [List.getElem_take] at e
      exact ((List.pairwise_iff_getElem.1 hn) j i (by omega) hlt (by omega)).ne e
    have hsome : ((dropAll s0 (L.take i)) L[i]).isSome = true := by
      unfold dropAll
      rw [if_neg hnot]
      exact Option.isSome_iff_ne_none.2 ((hm _).1 (List.getElem_mem hlt))
    have h1 := DropOk (s := dropAll s0 (L.take i)) (h32 _ (List.getElem_mem hlt))
    have h2 := DropOk (s := Trie.set (dropAll s0 (L.take i)) L[i] none) (h32 _ (List.getElem_mem hlt))
    rw [hsome] at h1
    rw [set_same] at h2
    have h3 : Trie.set (Trie.set (dropAll s0 (L.take i)) L[i] none) L[i] none = dropAll s0 (L.take (i + 1)) := by
      rw [dropAll_snoc, ← List.take_succ_eq_append_getElem hlt]
      funext ρ
      unfold Trie.set
      split
      · rename_i e
        unfold dropAll
        rw [if_pos (by rw [e, List.take_succ_eq_append_getElem hlt]; exact List.mem_append_right _ (List.mem_singleton_self _))]
      · rfl
    have hw : wrap64 ((i : Int) + 1) = ((i + 1 : Nat) : Int) := by rw [w64 _ (by omega) (by omega)]; omega
    have hr := ih k (i + 1) (by omega)
    rw [rd_map L i hlt, if_pos (by rw [List.length_map]; omega)]
    by_cases h0 : (i : Int) > 0
    · obtain ⟨j, rfl⟩ : ∃ j, i = j + 1 := ⟨i - 1, by omega⟩
      have hj : wrap64 (((j + 1 : Nat) : Int) - 1) = (j : Int) := by rw [w64 _ (by omega) (by omega)]; omega
      have hl : Lt L[j] L[j + 1] := (List.pairwise_iff_getElem.1 hn) j (j + 1) (by omega) hlt (by omega)
      rw [if_pos h0, hj, if_pos (by omega), if_pos (by rw [List.length_map]; omega), if_pos (by omega), rd_map L j (by omega), less_toP hl, Option.bind_some, if_pos rfl, h1, Option.bind_some, if_pos rfl]
      dsimp only
      rw [h2, Option.bind_some, if_neg (by simp)]
      dsimp only
      rw [h3, hw]
      exact hr
    · rw [if_neg h0, if_pos (by omega), h1, Option.bind_some, if_pos rfl]
      dsimp only
      rw [h2, Option.bind_some, if_neg (by simp)]
      dsimp only
      rw [h3, hw]
      exact hr
theorem many_set (at_ : Int) (hu : U32 at_) (c : Nat) (hc : c < 60) (d : Nat) : ∀ (i : Nat) (s : TrieM) (M : List (List Bool)), i + d = c → Within s M → M.length = i → (0 < i → ∃ ρ, s ρ ≠ none) →
    interregnumlaw11_TrieMany.l0 (200 + d + 1) at_ c i s = some true := by
  induction d with
  | zero =>
    intro i s M hi hw hM hpos
    obtain rfl : i = c := by omega
    conv => lhs; unfold interregnumlaw11_TrieMany.l0
    rw [if_neg (by omega), AllOk hw (by omega), Option.bind_some]
    dsimp only
    have hl := hw.len
    have := many_drop at_ (i : Int) s (paths s 32 []) hu (by omega) ?_ (paths_sorted s 32 [] (by decide)) (fun ρ => hw.mem) (fun ρ hρ => (hw ρ (hw.mem.1 hρ)).2) (by omega) (paths s 32 []).length (200 - (paths s 32 []).length - 1) 0 (by omega)
    · rw [show 200 - (paths s 32 []).length - 1 + (paths s 32 []).length + 1 = 200 + 0 by omega, List.take_zero, dropAll_nil] at this
      exact this
    · by_cases h0 : 0 < i
      · obtain ⟨ρ, hρ⟩ := hpos h0
        have := List.length_pos_of_mem (hw.mem.2 hρ)
        rw [decide_eq_true (by omega), decide_eq_true (by omega)]
      · rw [decide_eq_false (by omega), decide_eq_false (by omega)]
  | succ d ih =>
    intro i s M hi hw hM hpos
    rw [show 200 + (d + 1) + 1 = (200 + d + 1) + 1 by omega]
    conv => lhs; unfold interregnumlaw11_TrieMany.l0
    have ha : U32 ((at_ + ((((i : Int)) % 4294967296) * 1048576) % 4294967296) % 4294967296) := ⟨by omega, by omega⟩
    generalize (at_ + ((((i : Int)) % 4294967296) * 1048576) % 4294967296) % 4294967296 = a at ha
    have hn : wrap64 (12 + Int.tmod (i : Int) 20) = ((12 + i % 20 : Nat) : Int) := by
      rw [Int.tmod_eq_emod_of_nonneg (by omega), w64 _ (by omega) (by omega)]
      omega
    rw [if_pos (by omega), hn, PreTrieMany.refMake a _ ha (200 + d + 1) (by omega), if_pos ⟨by omega, by omega⟩, Option.bind_some]
    dsimp only
    rw [SetOk (top_U32 a _ ha) (Ok_top a _ (by omega) (by omega)), Option.bind_some, if_pos rfl]
    dsimp only
    rw [Int.toNat_natCast, path_top a ha _ (by omega), show wrap64 ((i : Int) + 1) = ((i + 1 : Nat) : Int) by rw [w64 _ (by omega) (by omega)]; omega]
    exact ih (i + 1) _ (path a (12 + i % 20) :: M) (by omega) (hw.set (by rw [path_length]; omega) _) (by rw [List.length_cons, hM]) (fun _ => ⟨path a (12 + i % 20), by rw [set_same]; simp⟩)
theorem TrieMany : interregnumlaw11_TrieMany.Pure := by
  intro n at_ h0 h1
  have hn := wf_u8 h0
  have hu := wf_u32 h1
  refine ⟨200 + (n % 60).toNat + 1, ?_⟩
  unfold interregnumlaw11_TrieMany.f trie_New.f
  have hw : wrap64 (Int.tmod n 60) = ((n % 60).toNat : Int) := by
    rw [Int.tmod_eq_emod_of_nonneg hn.1, w64 _ (by omega) (by omega)]
    omega
  rw [Option.bind_some, hw]
  exact many_set at_ hu (n % 60).toNat (by omega) (n % 60).toNat 0 new [] (by omega) Within.new rfl (fun h => absurd h (by omega))
end Go.Proofs.Ytbnchdfmkmkhnaa.Pure
