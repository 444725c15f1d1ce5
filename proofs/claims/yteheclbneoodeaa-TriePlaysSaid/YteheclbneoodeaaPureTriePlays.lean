/- Whatever is set and dropped, all answers are those of two lists side by side; the plain part of the proof. Conditions: none. -/
import Derived.Test.YteheclbneoodeaaTrieATriePlays
import Derived.Test.YteheclbneoodeaaPreRTriePlays
import Derived.Test.YteheclbneoodeaaPreVTriePlays
import Derived.Test.YteheclbneoodeaaBndTriePlays
namespace Go.Proofs.Yteheclbneoodeaa.Pure
open Go.RowKit Go.Proofs.Yteheclbneoodeaa.PTriePlays Go.Proofs.YteheclbneoodeaaW.PrintWords Go.Proofs.YteheclbneoodeaaW.PrintLast Go.Proofs.YteheclbneoodeaaW.PrintMore Go.Proofs.Yteheclbneoodeaa.Pre Go.Proofs.Yteheclbneoodeaa.Trie Go.Proofs.Yteheclbneoodeaa.TriTriePlays
set_option linter.unusedVariables false
set_option linter.unusedSimpArgs false
namespace TriePlays_
/-! ### the order of paths -/
theorem lt_trans {a b c : List Bool} (h : Lt a b) (h' : Lt b c) : Lt a c := by
  unfold Lt at *
  omega
theorem lt_irrefl {a : List Bool} (h : Lt a a) : False := h.ne rfl
theorem lt_tri {a b : List Bool} (ha : a.length ≤ 32) (hb : b.length ≤ 32) (hn : a ≠ b) (h : ¬ Lt a b) : Lt b a := by
  unfold Lt at *
  by_cases e : addr a = addr b
  · have : a.length ≠ b.length := fun h1 => hn (addr_inj a b h1 ha e)
    omega
  · omega
theorem sorted_eq : ∀ {l m : List (List Bool)}, l.Pairwise Lt → m.Pairwise Lt → (∀ x, x ∈ l ↔ x ∈ m) → l = m
  | [], [], _, _, _ => rfl
  | [], y :: m, _, _, h => absurd ((h y).2 List.mem_cons_self) (by simp)
  | x :: l, [], _, _, h => absurd ((h x).1 List.mem_cons_self) (by simp)
  | x :: l, y :: m, hl, hm, h => by
    obtain ⟨hl1, hl2⟩ := List.pairwise_cons.1 hl
    obtain ⟨hm1, hm2⟩ := List.pairwise_cons.1 hm
    have hxy : x = y := Classical.byContradiction fun hne => by
      have h1 : x ∈ m := by
        rcases List.mem_cons.1 ((h x).1 List.mem_cons_self) with e | e
        · exact absurd e hne
        · exact e
      have h2 : y ∈ l := by
        rcases List.mem_cons.1 ((h y).2 List.mem_cons_self) with e | e
        · exact absurd e.symm hne
        · exact e
      exact lt_irrefl (lt_trans (hl1 y h2) (hm1 x h1))
    subst hxy
    rw [sorted_eq hl2 hm2 (fun z => ?_)]
    constructor
    · intro hz
      rcases List.mem_cons.1 ((h z).1 (List.mem_cons_of_mem _ hz)) with e | e
      · exact absurd (e ▸ hl1 z hz) (fun q => lt_irrefl q)
      · exact e
    · intro hz
      rcases List.mem_cons.1 ((h z).2 (List.mem_cons_of_mem _ hz)) with e | e
      · exact absurd (e ▸ hm1 z hz) (fun q => lt_irrefl q)
      · exact e
/-! ### the two lists -/
def val (s : TrieM) (ρ : List Bool) : Int := (s ρ).getD 0
def ps (L : List (List Bool)) : List S47 := L.map trie_toP
def vs (s : TrieM) (L : List (List Bool)) : List Int := L.map (val s)
theorem ps_len (L : List (List Bool)) : (ps L).length = L.length := List.length_map _
theorem vs_len (s : TrieM) (L : List (List Bool)) : (vs s L).length = L.length := List.length_map _
theorem ps_at {L : List (List Bool)} {i : Nat} (h : i < L.length) : rd_T47 (ps L) (i : Int) = trie_toP (L[i]) := by
  unfold rd_T47 ps
  rw [List.getD_eq_getElem?_getD, Int.toNat_natCast, List.getElem?_map, List.getElem?_eq_getElem h]
  rfl
theorem vs_at {s : TrieM} {L : List (List Bool)} {i : Nat} (h : i < L.length) : rd (vs s L) (i : Int) = val s (L[i]) := by
  unfold rd vs
  rw [List.getD_eq_getElem?_getD, Int.toNat_natCast, List.getElem?_map, List.getElem?_eq_getElem h]
  rfl
structure Inv (s : TrieM) (L : List (List Bool)) : Prop where
  sorted : L.Pairwise Lt
  mem : ∀ ρ, ρ ∈ L ↔ s ρ ≠ none
  short : ∀ ρ ∈ L, ρ.length ≤ 32
theorem Inv.new : Inv new [] := ⟨.nil, fun ρ => by simp [Trie.new], fun ρ h => by cases h⟩
theorem next (i : Nat) (h : i < 4000) : wrap64 ((i : Int) + 1) = ((i + 1 : Nat) : Int) := by
  rw [w64 _ (by omega) (by omega)]; omega
theorem prev (i : Nat) (h : i < 4000) : wrap64 (((i + 1 : Nat) : Int) - 1) = (i : Int) := by
  rw [w64 _ (by omega) (by omega)]; omega
/-! ### where a prefix stands -/
def Hit (ρ : List Bool) (a n : Int) : Prop := addr ρ = a ∧ (ρ.length : Int) = n
theorem Hit.ok {ρ : List Bool} {a n : Int} (h : Hit ρ a n) (hs : ρ.length ≤ 32) : Ok a n ∧ path a n.toNat = ρ := by
  obtain ⟨rfl, rfl⟩ := h
  exact ⟨addr_Ok ρ hs, by rw [Int.toNat_natCast]; exact path_addr ρ hs⟩
theorem Hit.of {a n : Int} (ha : U32 a) (ho : Ok a n) : Hit (path a n.toNat) a n :=
  ⟨by rw [addr_path a ha _ (by have := ho.2.1; have := ho.1; omega), Int.toNat_of_nonneg ho.1, Ok_eq ho], by rw [path_length, Int.toNat_of_nonneg ho.1]⟩
def At (L : List (List Bool)) (a n : Int) (i : Nat) (x : Int) : Prop :=
  (x = -1 ∧ ∀ (j : Nat) (h : j < L.length), j < i → ¬ Hit L[j] a n) ∨ ∃ (j : Nat) (h : j < L.length), x = (j : Int) ∧ Hit L[j] a n
theorem find (acts : List S62) (adds : List Int) (L : List (List Bool)) (V : List Int) (hL : L.length ≤ 1000) (x8 : Int) (s : TrieM) (b : Bool) (a n v : Int) (d : Nat) : ∀ (k x : Nat) (p : Int), x + d = L.length → At L a n x p →
    ∃ p', At L a n L.length p' ∧ TR.l1 (k + d + 1) acts adds (ps L) V x8 p (x : Int) s b a n v = TR.l1 (k + 1) acts adds (ps L) V x8 p' (L.length : Int) s b a n v := by
  induction d with
  | zero =>
    intro k x p hx hp
    obtain rfl : x = L.length := by omega
    exact ⟨p, hp, rfl⟩
  | succ d ih =>
    intro k x p hx hp
    have hlt : x < L.length := by omega
    by_cases e : Hit L[x] a n
    · obtain ⟨p', h1, h2⟩ := ih k (x + 1) (x : Int) (by omega) (.inr ⟨x, hlt, rfl, e⟩)
      refine ⟨p', h1, ?_⟩
      rw [← h2, show k + (d + 1) + 1 = (k + d + 1) + 1 by omega]
      conv => lhs; unfold TR.l1
      have hc : ((trie_toP L[x]).f0 == a && ((trie_toP L[x]).f1 == n)) = true := by
        rw [Bool.and_eq_true, beq_iff_eq, beq_iff_eq]; exact e
      rw [ps_len, if_pos (by omega), if_pos (by omega), ps_at hlt, if_pos hc, next x (by omega)]
    · have hp' : At L a n (x + 1) p := by
        rcases hp with ⟨h1, h2⟩ | h
        · refine .inl ⟨h1, fun j hj hj2 => ?_⟩
          by_cases ej : j = x
          · subst ej; exact e
          · exact h2 j hj (by omega)
        · exact .inr h
      obtain ⟨p', h1, h2⟩ := ih k (x + 1) p (by omega) hp'
      refine ⟨p', h1, ?_⟩
      rw [← h2, show k + (d + 1) + 1 = (k + d + 1) + 1 by omega]
      conv => lhs; unfold TR.l1
      have hc : ¬ ((trie_toP L[x]).f0 == a && ((trie_toP L[x]).f1 == n)) = true := by
        rw [Bool.and_eq_true, beq_iff_eq, beq_iff_eq]; exact e
      rw [ps_len, if_pos (by omega), if_pos (by omega), ps_at hlt, if_neg hc, next x (by omega)]
theorem GetOk {s : TrieM} {a n : Int} (ha : U32 a) (ho : Ok a n) : trie_Trie_Get.f s a n = some ((s (path a n.toNat)).getD 0, (s (path a n.toNat)).isSome, s) := by
  unfold trie_Trie_Get.f
  rw [if_pos (show 0 ≤ a ∧ a < 4294967296 from ha), if_pos ho]
theorem GetNo {s : TrieM} {a n : Int} (ha : U32 a) (ho : ¬ Ok a n) : trie_Trie_Get.f s a n = some (0, false, s) := by
  unfold trie_Trie_Get.f
  rw [if_pos (show 0 ≤ a ∧ a < 4294967296 from ha), if_neg ho]
theorem DropOk {s : TrieM} {a n : Int} (ha : U32 a) (ho : Ok a n) : trie_Trie_Drop.f s a n = some ((s (path a n.toNat)).isSome, Trie.set s (path a n.toNat) none) := by
  unfold trie_Trie_Drop.f
  rw [if_pos (show 0 ≤ a ∧ a < 4294967296 from ha), if_pos ho]
theorem DropNo {s : TrieM} {a n : Int} (ha : U32 a) (ho : ¬ Ok a n) : trie_Trie_Drop.f s a n = some (false, s) := by
  unfold trie_Trie_Drop.f
  rw [if_pos (show 0 ≤ a ∧ a < 4294967296 from ha), if_neg ho]
/-- What a prefix without a place says of the trie. -/
theorem away {s : TrieM} {L : List (List Bool)} (hi : Inv s L) {a n : Int} (ha : U32 a) (h : ∀ (j : Nat) (h : j < L.length), j < L.length → ¬ Hit L[j] a n) (ho : Ok a n) : s (path a n.toNat) = none :=
  Classical.byContradiction fun hn => by
    obtain ⟨j, hj, e⟩ := List.getElem_of_mem ((hi.mem _).2 hn)
    exact h j hj hj (e ▸ Hit.of ha ho)
theorem got (acts : List S62) (adds : List Int) (L : List (List Bool)) (x8 : Int) (s : TrieM) (hi : Inv s L) (b : Bool) (a n v : Int) (ha : U32 a) (k : Nat) (p : Int) (hp : At L a n L.length p) :
    TR.l1 (k + 1) acts adds (ps L) (vs s L) x8 p (L.length : Int) s b a n v = TR.j3 k acts adds (ps L) (vs s L) x8 p false s b a n v := by
  conv => lhs; unfold TR.l1
  rw [ps_len, if_neg (by omega)]
  rcases hp with ⟨rfl, h⟩ | ⟨j, hj, rfl, h⟩
  · have e : trie_Trie_Get.f s a n = some (0, false, s) := by
      by_cases ho : Ok a n
      · rw [GetOk ha ho, away hi ha h ho]; rfl
      · exact GetNo ha ho
    rw [e, Option.bind_some]
    dsimp only
    rw [if_neg (by decide), if_neg (by decide)]
    rfl
  · obtain ⟨ho, hq⟩ := h.ok (hi.short _ (List.getElem_mem hj))
    have hs : s L[j] ≠ none := (hi.mem _).1 (List.getElem_mem hj)
    rw [GetOk ha ho, hq, Option.bind_some, Option.isSome_iff_ne_none.2 hs]
    dsimp only
    rw [if_neg (by rw [decide_eq_true (by omega)]; decide), if_pos rfl, if_pos (by omega), vs_len, if_pos (by omega), vs_at hj, if_pos (show (s L[j]).getD 0 = val s L[j] from rfl)]
/-! ### an act -/
theorem swap {α : Type} (x y u v : α) (B : List α) : ∀ A : List α, ((A ++ x :: y :: B).set (A.length + 1) u).set A.length v = A ++ v :: u :: B
  | [] => rfl
  | a :: A => by
    have := swap x y u v B A
    simp only [List.cons_append, List.length_cons, List.set_cons_succ]
    rw [this]
theorem less_yes {ρ σ : List Bool} (h : Lt ρ σ) : interregnumref05_Less.f (trie_toP ρ).f0 (trie_toP ρ).f1 (trie_toP σ).f0 (trie_toP σ).f1 = some true := by
  unfold interregnumref05_Less.f
  show (if addr ρ < addr σ then some true else if addr ρ = addr σ then some (decide ((ρ.length : Int) < (σ.length : Int))) else some false) = some true
  rcases h with h | ⟨h1, h2⟩
  · rw [if_pos h]
  · rw [if_neg (by omega), if_pos h1, decide_eq_true (by omega)]
theorem less_no {ρ σ : List Bool} (h : ¬ Lt ρ σ) : interregnumref05_Less.f (trie_toP ρ).f0 (trie_toP ρ).f1 (trie_toP σ).f0 (trie_toP σ).f1 = some false := by
  unfold interregnumref05_Less.f
  show (if addr ρ < addr σ then some true else if addr ρ = addr σ then some (decide ((ρ.length : Int) < (σ.length : Int))) else some false) = some false
  unfold Lt at h
  rw [if_neg (by omega)]
  split
  · rw [decide_eq_false (by omega)]
  · rfl
theorem bubble (acts : List S62) (adds : List Int) (x8 : Int) (s : TrieM) (π : List Bool) (hπ : π.length ≤ 32) (m : Nat) (hm : m ≤ 1000) : ∀ (k : Nat) (A B : List (List Bool)), A.length = m → (A ++ B).Pairwise Lt → (∀ ρ ∈ A, ρ.length ≤ 32) → π ∉ A → (∀ ρ ∈ B, Lt π ρ) →
    ∃ (k' : Nat) (M : List (List Bool)), k ≤ k' ∧ M.Pairwise Lt ∧ (∀ ρ, ρ ∈ M ↔ ρ ∈ A ∨ ρ = π ∨ ρ ∈ B) ∧ M.length = A.length + B.length + 1 ∧
      TR.l2 (k + m + 1) acts adds (ps (A ++ π :: B)) (vs s (A ++ π :: B)) x8 (m : Int) s = TR.l0 k' acts adds (ps M) (vs s M) (wrap64 (x8 + 1)) s := by
  induction m with
  | zero =>
    intro k A B hA hs h32 hn hB
    obtain rfl := List.length_eq_zero_iff.1 hA
    refine ⟨k, π :: B, Nat.le_refl _, List.pairwise_cons.2 ⟨hB, hs⟩, fun ρ => by simp, by simp, ?_⟩
    conv => lhs; unfold TR.l2
    rw [if_neg (by omega)]
    rfl
  | succ m ih =>
    intro k A B hA hs h32 hn hB
    obtain ⟨A', σ, rfl⟩ : ∃ A' σ, A = A' ++ [σ] := by
      rcases List.eq_nil_or_concat A with rfl | ⟨A', σ, rfl⟩
      · cases hA
      · exact ⟨A', σ, List.concat_eq_append⟩
    have hA' : A'.length = m := by simpa using hA
    have hap : A' ++ [σ] ++ π :: B = A' ++ σ :: π :: B := by simp
    rw [hap, show k + (m + 1) + 1 = (k + m + 1) + 1 by omega]
    have hlen : (A' ++ σ :: π :: B).length = m + 2 + B.length := by simp [hA']; omega
    have e1 : (A' ++ σ :: π :: B)[m + 1]'(by omega) = π := by
      rw [List.getElem_append_right (by omega)]
      simp [hA']
    have e0 : (A' ++ σ :: π :: B)[m]'(by omega) = σ := by
      rw [List.getElem_append_right (by omega)]
      simp [hA']
    have p1 := ps_at (L := A' ++ σ :: π :: B) (i := m + 1) (by omega)
    have p0 := ps_at (L := A' ++ σ :: π :: B) (i := m) (by omega)
    have v1 := vs_at (s := s) (L := A' ++ σ :: π :: B) (i := m + 1) (by omega)
    have v0 := vs_at (s := s) (L := A' ++ σ :: π :: B) (i := m) (by omega)
    rw [e1] at p1 v1
    rw [e0] at p0 v0
    unfold TR.l2
    rw [if_pos (by omega), if_pos (by omega), ps_len, vs_len, hlen, if_pos (by omega), prev m (by omega), if_pos (by omega), if_pos (by omega), p1, p0]
    have hσ32 : σ.length ≤ 32 := h32 σ (by simp)
    by_cases hl : Lt π σ
    · rw [less_yes hl, Option.bind_some, if_pos rfl, if_pos (by omega), if_pos (by omega), v1, v0]
      have q1 : ((ps (A' ++ σ :: π :: B)).set (((m + 1 : Nat) : Int)).toNat (⟨(trie_toP σ).f0, (trie_toP σ).f1⟩ : S47)).set ((m : Int)).toNat (⟨(trie_toP π).f0, (trie_toP π).f1⟩ : S47) = ps (A' ++ π :: σ :: B) := by
        unfold ps
        rw [List.map_append, List.map_cons, List.map_cons, Int.toNat_natCast, Int.toNat_natCast]
        have := swap (trie_toP σ) (trie_toP π) (trie_toP σ) (trie_toP π) (B.map trie_toP) (A'.map trie_toP)
        rw [List.length_map, hA'] at this
        rw [List.map_append, List.map_cons, List.map_cons]
        exact this
      have q2 : ((vs s (A' ++ σ :: π :: B)).set (((m + 1 : Nat) : Int)).toNat (val s σ)).set ((m : Int)).toNat (val s π) = vs s (A' ++ π :: σ :: B) := by
        unfold vs
        rw [List.map_append, List.map_cons, List.map_cons, Int.toNat_natCast, Int.toNat_natCast]
        have := swap (val s σ) (val s π) (val s σ) (val s π) (B.map (val s)) (A'.map (val s))
        rw [List.length_map, hA'] at this
        rw [List.map_append, List.map_cons, List.map_cons]
        exact this
      rw [q1, q2]
      obtain ⟨k', M, hk, h1, h2, h3, h4⟩ := ih (by omega) k A' (σ :: B) hA' (by simpa using hs) (fun ρ h => h32 ρ (by simp [h])) (fun h => hn (by simp [h])) (fun ρ h => by
        rcases List.mem_cons.1 h with rfl | h
        · exact hl
        · exact hB ρ h)
      refine ⟨k', M, hk, h1, fun ρ => ?_, by simp at h3 ⊢; omega, h4⟩
      rw [h2]
      simp only [List.mem_append, List.mem_cons, List.not_mem_nil, or_false]
      constructor
      · rintro (h | h | h | h)
        · exact .inl (.inl h)
        · exact .inr (.inl h)
        · exact .inl (.inr h)
        · exact .inr (.inr h)
      · rintro ((h | h) | h | h)
        · exact .inl h
        · exact .inr (.inr (.inl h))
        · exact .inr (.inl h)
        · exact .inr (.inr (.inr h))
    · rw [less_no hl, Option.bind_some, if_neg (by decide)]
      have hlt : Lt σ π := lt_tri hπ hσ32 (fun e => hn (by simp [e])) hl
      have hs1 := List.pairwise_append.1 hs
      refine ⟨k + m + 1, A' ++ σ :: π :: B, by omega, ?_, fun ρ => ?_, by simp; omega, rfl⟩
      · rw [← hap]
        refine List.pairwise_append.2 ⟨hs1.1, List.pairwise_cons.2 ⟨hB, hs1.2.1⟩, fun x hx y hy => ?_⟩
        rcases List.mem_cons.1 hy with rfl | hy
        · rcases List.mem_append.1 hx with hx | hx
          · exact lt_trans ((List.pairwise_append.1 hs1.1).2.2 x hx σ (by simp)) hlt
          · rw [List.mem_singleton.1 hx]; exact hlt
        · exact hs1.2.2 x hx y hy
      · simp only [List.mem_append, List.mem_cons, List.not_mem_nil, or_false]
        constructor
        · rintro (h | h | h | h)
          · exact .inl (.inl h)
          · exact .inl (.inr h)
          · exact .inr (.inl h)
          · exact .inr (.inr h)
        · rintro ((h | h) | h | h)
          · exact .inl h
          · exact .inr (.inl h)
          · exact .inr (.inr (.inl h))
          · exact .inr (.inr (.inr h))
theorem nth_ne {L : List (List Bool)} (h : L.Pairwise Lt) {i j : Nat} (hi : i < L.length) (hj : j < L.length) (hn : i ≠ j) : L[i] ≠ L[j] := fun e => by
  have h1 := List.pairwise_iff_getElem.1 h
  rcases Nat.lt_or_gt_of_ne hn with q | q
  · exact (h1 i j hi hj q).ne e
  · exact (h1 j i hj hi q).ne e.symm
theorem vs_congr {s s' : TrieM} {L : List (List Bool)} (h : ∀ ρ ∈ L, s ρ = s' ρ) : vs s L = vs s' L :=
  List.map_congr_left (fun ρ hρ => by unfold val; rw [h ρ hρ])
theorem mem_erase {L : List (List Bool)} (h : L.Pairwise Lt) {j : Nat} (hj : j < L.length) (ρ : List Bool) : ρ ∈ L.take j ++ L.drop (j + 1) ↔ ρ ∈ L ∧ ρ ≠ L[j] := by
  rw [← List.eraseIdx_eq_take_drop_succ, List.mem_eraseIdx_iff_getElem]
  constructor
  · rintro ⟨i, hi, hne, rfl⟩
    exact ⟨List.getElem_mem hi, nth_ne h hi hj hne⟩
  · rintro ⟨h1, h2⟩
    obtain ⟨i, hi, rfl⟩ := List.getElem_of_mem h1
    exact ⟨i, hi, fun e => h2 (by subst e; rfl), rfl⟩
theorem Inv.erase {s : TrieM} {L : List (List Bool)} (hi : Inv s L) {j : Nat} (hj : j < L.length) : Inv (Trie.set s L[j] none) (L.take j ++ L.drop (j + 1)) where
  sorted := hi.sorted.sublist (by rw [← List.eraseIdx_eq_take_drop_succ]; exact List.eraseIdx_sublist _ _)
  mem ρ := by
    rw [mem_erase hi.sorted hj, hi.mem]
    by_cases e : ρ = L[j]
    · subst e; rw [set_same]; simp
    · rw [set_other e]; exact ⟨fun h => h.1, fun h => ⟨h, e⟩⟩
  short ρ h := hi.short ρ ((mem_erase hi.sorted hj ρ).1 h).1
theorem Inv.put {s : TrieM} {L : List (List Bool)} (hi : Inv s L) {j : Nat} (hj : j < L.length) (v : Int) : Inv (Trie.set s L[j] (some v)) L where
  sorted := hi.sorted
  mem ρ := by
    by_cases e : ρ = L[j]
    · subst e; rw [set_same]; exact ⟨fun _ => by simp, fun _ => List.getElem_mem hj⟩
    · rw [set_other e]; exact hi.mem ρ
  short := hi.short
theorem vs_get {s : TrieM} {L : List (List Bool)} {i : Nat} (h : i < (vs s L).length) : (vs s L)[i] = val s (L[i]'(by rw [vs_len] at h; exact h)) := List.getElem_map _
theorem vs_put {s : TrieM} {L : List (List Bool)} (hi : Inv s L) {j : Nat} (hj : j < L.length) (v : Int) : (vs s L).set j v = vs (Trie.set s L[j] (some v)) L := by
  refine List.ext_getElem (by rw [List.length_set, vs_len, vs_len]) (fun i h1 h2 => ?_)
  rw [List.getElem_set]
  have h3 : i < L.length := by rw [vs_len] at h2; exact h2
  rw [vs_get, vs_get]
  unfold val
  by_cases e : j = i
  · subst e; rw [if_pos rfl, set_same]; rfl
  · rw [if_neg e, set_other (nth_ne hi.sorted h3 hj (fun q => e q.symm))]
theorem step (acts : List S62) (adds : List Int) (L : List (List Bool)) (hL : L.length ≤ 900) (x8 : Int) (s : TrieM) (hi : Inv s L) (b : Bool) (a n v : Int) (ha : U32 a) (k : Nat) (hk : 2000 ≤ k) (p : Int) (hp : At L a n L.length p) :
    ∃ (s' : TrieM) (L' : List (List Bool)) (k' : Nat), Inv s' L' ∧ L'.length ≤ L.length + 1 ∧ k ≤ k' + L.length + 1 ∧
      TR.j3 (k + 1) acts adds (ps L) (vs s L) x8 p false s b a n v = TR.l0 k' acts adds (ps L') (vs s' L') (wrap64 (x8 + 1)) s' := by
  unfold TR.j3
  rw [if_neg (by decide)]
  cases b with
  | true =>
    rw [if_pos rfl]
    rcases hp with ⟨rfl, h⟩ | ⟨j, hj, rfl, h⟩
    · have e : trie_Trie_Drop.f s a n = some (false, s) := by
        by_cases ho : Ok a n
        · have h0 := away hi ha h ho
          rw [DropOk ha ho, h0, trie_set_none h0]; rfl
        · exact DropNo ha ho
      rw [e, Option.bind_some]
      dsimp only
      rw [if_neg (by decide), if_neg (by decide)]
      exact ⟨s, L, k, hi, by omega, by omega, rfl⟩
    · obtain ⟨ho, hq⟩ := h.ok (hi.short _ (List.getElem_mem hj))
      have hs : s L[j] ≠ none := (hi.mem _).1 (List.getElem_mem hj)
      rw [DropOk ha ho, hq, Option.bind_some, Option.isSome_iff_ne_none.2 hs]
      dsimp only
      rw [if_neg (by rw [decide_eq_true (by omega)]; decide), if_pos (by omega)]
      have h1 : ((ps L).take j).length = j := by rw [List.length_take, ps_len]; omega
      have h2 : ((ps L).drop (j + 1)).length = L.length - (j + 1) := by rw [List.length_drop, ps_len]
      have h3 : ((vs s L).take j).length = j := by rw [List.length_take, vs_len]; omega
      have h4 : ((vs s L).drop (j + 1)).length = L.length - (j + 1) := by rw [List.length_drop, vs_len]
      simp only [Option.bind_some, ps_len, vs_len, next j (by omega), Int.toNat_natCast, List.nil_append, List.length_nil, h1, h2, h3, h4]
      rw [if_pos (by omega), if_pos (by omega), if_pos (by omega), if_pos (by omega), if_pos (by omega), if_pos (by omega), if_pos (by omega), if_pos (by omega), if_pos (by omega), if_pos (by omega)]
      refine ⟨_, _, k, hi.erase hj, by rw [List.length_append, List.length_take, List.length_drop]; omega, by omega, ?_⟩
      rw [vs_congr (s := Trie.set s L[j] none) (s' := s) (fun ρ hρ => set_other ((mem_erase hi.sorted hj ρ).1 hρ).2)]
      unfold ps vs
      rw [← List.map_take, ← List.map_drop, ← List.map_take, ← List.map_drop, ← List.map_append, ← List.map_append]
  | false =>
    rw [if_neg (by decide)]
    rw [PreTriePlays.refRight a n ha k (by omega)]
    rcases hp with ⟨rfl, h⟩ | ⟨j, hj, rfl, h⟩
    · by_cases ho : Ok a n
      · have h0 := away hi ha h ho
        rw [SetOk ha ho, decide_eq_true ho, Option.bind_some, Option.bind_some]
        dsimp only
        rw [if_neg (by decide), if_neg (by decide), Option.bind_some, if_pos rfl]
        have hn : path a n.toNat ∉ L := fun q => (hi.mem _).1 q h0
        have hit := Hit.of ha ho
        have h32 : (path a n.toNat).length ≤ 32 := by rw [path_length]; have := ho.2.1; omega
        have e1 : ps L ++ [(⟨a, n⟩ : S47)] = ps (L ++ [path a n.toNat]) := by
          unfold ps
          rw [List.map_append, List.map_cons, List.map_nil]
          unfold trie_toP
          rw [hit.1, hit.2]
        have e2 : vs s L ++ [v] = vs (Trie.set s (path a n.toNat) (some v)) (L ++ [path a n.toNat]) := by
          have hc : vs s L = vs (Trie.set s (path a n.toNat) (some v)) L := vs_congr (fun ρ hρ => (set_other (fun q => hn (by rw [← q]; exact hρ))).symm)
          rw [hc]
          unfold vs
          rw [List.map_append, List.map_cons, List.map_nil]
          congr 2
          unfold val
          rw [set_same]
          rfl
        simp only [Option.bind_some, e1, e2, ps_len, vs_len, List.length_append, List.length_cons, List.length_nil]
        rw [if_pos (by omega), if_pos (by omega), show wrap64 (((L.length + (0 + 1) : Nat) : Int) - 1) = (L.length : Int) by rw [w64 _ (by omega) (by omega)]; omega]
        obtain ⟨k', M, hk', h1, h2, h3, h4⟩ := bubble acts adds x8 (Trie.set s (path a n.toNat) (some v)) (path a n.toNat) h32 L.length (by omega) (k - L.length - 1) L [] rfl (by rw [List.append_nil]; exact hi.sorted) hi.short hn (fun ρ h => by cases h)
        rw [show k - L.length - 1 + L.length + 1 = k by omega] at h4
        refine ⟨_, M, k', ⟨h1, fun ρ => ?_, fun ρ hρ => ?_⟩, by rw [h3]; simp, by omega, h4⟩
        · rw [h2]
          by_cases e : ρ = path a n.toNat
          · subst e; rw [set_same]; simp
          · rw [set_other e, ← hi.mem]; simp [e]
        · rcases (h2 ρ).1 hρ with q | q | q
          · exact hi.short ρ q
          · rw [q]; exact h32
          · cases q
      · rw [SetNo ha ho, decide_eq_false ho, Option.bind_some, Option.bind_some]
        dsimp only
        rw [if_neg (by decide), if_neg (by decide), Option.bind_some, if_neg (by decide)]
        exact ⟨s, L, k, hi, by omega, by omega, rfl⟩
    · obtain ⟨ho, hq⟩ := h.ok (hi.short _ (List.getElem_mem hj))
      rw [SetOk ha ho, decide_eq_true ho, hq, Option.bind_some, Option.bind_some]
      dsimp only
      rw [if_neg (by decide), if_pos (by omega), if_pos (by omega), vs_len, if_pos (by omega), Int.toNat_natCast, vs_put hi hj]
      exact ⟨_, L, k, hi.put hj v, by omega, by omega, rfl⟩
/-! ### the longest prefix of an address -/
def Mt (a : Int) (ρ : List Bool) : Prop := ρ = path a ρ.length
theorem coversOk {a : Int} (ha : U32 a) {ρ : List Bool} (h : ρ.length ≤ 32) (k : Nat) (hk : 41 ≤ k) (hm : Mt a ρ) : interregnumref05_Covers.f k (trie_toP ρ).f0 (trie_toP ρ).f1 a 32 = some true := by
  show interregnumref05_Covers.f k (addr ρ) (ρ.length : Int) a 32 = some true
  rw [PreTriePlays.refCovers _ _ _ _ (addr_U32 ρ h) ha k hk, decide_eq_true]
  refine ⟨addr_Ok ρ h, ⟨by omega, by omega, by rw [D_32]; omega⟩, by omega, ?_⟩
  rw [← addr_path a ha _ h, ← hm]
theorem coversNo {a : Int} (ha : U32 a) {ρ : List Bool} (h : ρ.length ≤ 32) (k : Nat) (hk : 41 ≤ k) (hm : ¬ Mt a ρ) : interregnumref05_Covers.f k (trie_toP ρ).f0 (trie_toP ρ).f1 a 32 = some false := by
  show interregnumref05_Covers.f k (addr ρ) (ρ.length : Int) a 32 = some false
  rw [PreTriePlays.refCovers _ _ _ _ (addr_U32 ρ h) ha k hk, decide_eq_false]
  rintro ⟨_, _, _, e⟩
  rw [← addr_path a ha _ h] at e
  exact hm (addr_inj _ _ (path_length _ _) (by rw [path_length]; exact h) e).symm
def Best (L : List (List Bool)) (a : Int) (i : Nat) (x : Int) : Prop :=
  (x = -1 ∧ ∀ (j : Nat) (h : j < L.length), j < i → ¬ Mt a L[j]) ∨ ∃ (j : Nat) (h : j < L.length), x = (j : Int) ∧ Mt a L[j] ∧ ∀ (m : Nat) (hm : m < L.length), m < i → Mt a L[m] → L[m].length ≤ L[j].length
theorem best_loop (adds : List Int) (s : TrieM) (L : List (List Bool)) (hi : Inv s L) (hL : L.length ≤ 1000) (x15 : Nat) (h15 : x15 < adds.length) (hu : U32 (rd adds (x15 : Int))) (d : Nat) : ∀ (k x : Nat) (p : Int), 41 ≤ k → x + d = L.length → Best L (rd adds (x15 : Int)) x p →
    ∃ p', Best L (rd adds (x15 : Int)) L.length p' ∧ TR.l4 (k + 2 * d + 1) adds (ps L) (vs s L) (x15 : Int) p (x : Int) s = TR.l4 (k + 1) adds (ps L) (vs s L) (x15 : Int) p' (L.length : Int) s := by
  induction d with
  | zero =>
    intro k x p hk hx hp
    obtain rfl : x = L.length := by omega
    exact ⟨p, hp, rfl⟩
  | succ d ih =>
    intro k x p hk hx hp
    have hlt : x < L.length := by omega
    have h32 := hi.short _ (List.getElem_mem hlt)
    obtain ⟨F, hF⟩ : ∃ F : Int → Option Bool, ∀ p', F p' = TR.l4 (k + 1) adds (ps L) (vs s L) (x15 : Int) p' (L.length : Int) s := ⟨_, fun _ => rfl⟩
    simp only [← hF]
    have take : Best L (rd adds (x15 : Int)) (x + 1) (x : Int) → ∃ p', Best L (rd adds (x15 : Int)) L.length p' ∧ TR.j7 (k + 2 * d + 1 + 1) adds (ps L) (vs s L) (x15 : Int) p (x : Int) true s = F p' := fun h => by
      obtain ⟨p', h1, h2⟩ := ih k (x + 1) (x : Int) hk (by omega) h
      refine ⟨p', h1, ?_⟩
      rw [hF, ← h2]
      conv => lhs; unfold TR.j7
      rw [if_pos rfl, next x (by omega)]
    have leave : Best L (rd adds (x15 : Int)) (x + 1) p → ∃ p', Best L (rd adds (x15 : Int)) L.length p' ∧ TR.j7 (k + 2 * d + 1 + 1) adds (ps L) (vs s L) (x15 : Int) p (x : Int) false s = F p' := fun h => by
      obtain ⟨p', h1, h2⟩ := ih k (x + 1) p hk (by omega) h
      refine ⟨p', h1, ?_⟩
      rw [hF, ← h2]
      conv => lhs; unfold TR.j7
      rw [if_neg (by decide), next x (by omega)]
    rw [show k + 2 * (d + 1) + 1 = (k + 2 * d + 1 + 1) + 1 by omega]
    unfold TR.l4
    rw [ps_len, if_pos (by omega), if_pos (by omega), if_pos (by omega), if_pos (by omega), ps_at hlt]
    by_cases hm : Mt (rd adds (x15 : Int)) L[x]
    · rw [coversOk hu h32 _ (by omega) hm, Option.bind_some, if_pos rfl]
      rcases hp with ⟨rfl, h⟩ | ⟨j, hj, rfl, h1, h2⟩
      · rw [if_pos (by omega)]
        refine take (.inr ⟨x, hlt, rfl, hm, fun m hm1 hm2 hm3 => ?_⟩)
        by_cases e : m = x
        · subst e; exact Nat.le_refl _
        · exact absurd hm3 (h m hm1 (by omega))
      · rw [if_neg (by omega), if_pos (by omega), if_pos (by omega), ps_at hj]
        by_cases hl : L[j].length < L[x].length
        · rw [show decide ((trie_toP L[x]).f1 > (trie_toP L[j]).f1) = true from decide_eq_true (show (L[x].length : Int) > (L[j].length : Int) by omega)]
          refine take (.inr ⟨x, hlt, rfl, hm, fun m hm1 hm2 hm3 => ?_⟩)
          by_cases e : m = x
          · subst e; exact Nat.le_refl _
          · have := h2 m hm1 (by omega) hm3; omega
        · rw [show decide ((trie_toP L[x]).f1 > (trie_toP L[j]).f1) = false from decide_eq_false (show ¬ (L[x].length : Int) > (L[j].length : Int) by omega)]
          refine leave (.inr ⟨j, hj, rfl, h1, fun m hm1 hm2 hm3 => ?_⟩)
          by_cases e : m = x
          · subst e; omega
          · exact h2 m hm1 (by omega) hm3
    · rw [coversNo hu h32 _ (by omega) hm, Option.bind_some, if_neg (by decide)]
      refine leave ?_
      rcases hp with ⟨rfl, h⟩ | ⟨j, hj, rfl, h1, h2⟩
      · refine .inl ⟨rfl, fun m hm1 hm2 hm3 => ?_⟩
        by_cases e : m = x
        · subst e; exact hm hm3
        · exact h m hm1 (by omega) hm3
      · refine .inr ⟨j, hj, rfl, h1, fun m hm1 hm2 hm3 => ?_⟩
        by_cases e : m = x
        · subst e; exact absurd hm3 hm
        · exact h2 m hm1 (by omega) hm3
theorem best_said (adds : List Int) (s : TrieM) (L : List (List Bool)) (hi : Inv s L) (hL : L.length ≤ 1000) (x15 : Nat) (h15 : x15 < adds.length) (h15b : x15 < 1000) (hu : U32 (rd adds (x15 : Int))) (k : Nat) (p : Int) (hp : Best L (rd adds (x15 : Int)) L.length p) :
    TR.l4 (k + 1 + 1) adds (ps L) (vs s L) (x15 : Int) p (L.length : Int) s = TR.l3 k adds (ps L) (vs s L) ((x15 + 1 : Nat) : Int) s := by
  conv => lhs; unfold TR.l4
  rw [ps_len, if_neg (by omega), if_pos (by omega), if_pos (by omega)]
  have hset : ∀ n, n ≤ 32 → s (path (rd adds (x15 : Int)) n) ≠ none → ∃ (j : Nat) (h : j < L.length), L[j] = path (rd adds (x15 : Int)) n ∧ Mt (rd adds (x15 : Int)) L[j] := fun n hn hs => by
    obtain ⟨j, hj, e⟩ := List.getElem_of_mem ((hi.mem _).2 hs)
    exact ⟨j, hj, e, by unfold Mt; rw [e, path_length]⟩
  have go : TR.j8 (k + 1) adds (ps L) (vs s L) (x15 : Int) false s = TR.l3 k adds (ps L) (vs s L) ((x15 + 1 : Nat) : Int) s := by
    conv => lhs; unfold TR.j8
    rw [if_neg (by decide), next x15 (by omega)]
  rcases hp with ⟨rfl, h⟩ | ⟨j, hj, rfl, h1, h2⟩
  · have hb : best s (rd adds (x15 : Int)) 32 = none := best_none 32 (fun n hn => Classical.byContradiction fun hs => by
      obtain ⟨m, hm, _, q⟩ := hset n hn hs
      exact h m hm hm q)
    rw [FindNo hu hb, Option.bind_some]
    dsimp only
    rw [if_neg (by decide), if_neg (by decide), if_neg (by decide)]
    exact go
  · have hs : s L[j] ≠ none := (hi.mem _).1 (List.getElem_mem hj)
    have h32 := hi.short _ (List.getElem_mem hj)
    obtain ⟨v, hv⟩ := Option.ne_none_iff_exists'.1 hs
    have hb : best s (rd adds (x15 : Int)) 32 = some (L[j].length, v) := by
      refine best_some (by rw [← h1]; exact hv) 32 h32 (fun n hn1 hn2 => Classical.byContradiction fun hs2 => ?_)
      obtain ⟨m, hm, e, q⟩ := hset n hn2 hs2
      have := h2 m hm hm q
      rw [e, path_length] at this
      omega
    have ht : top (rd adds (x15 : Int)) (L[j].length : Int) = addr L[j] := by
      rw [← addr_path _ hu _ h32, ← h1]
    rw [FindOk hu hb, Option.bind_some]
    dsimp only
    rw [if_neg (by rw [decide_eq_true (by omega)]; decide), if_pos rfl, if_pos (by omega), if_pos (by omega), ps_at hj, ht]
    have hc : ¬ (!(addr L[j] == (trie_toP L[j]).f0) || (!(((L[j].length : Nat) : Int) == (trie_toP L[j]).f1))) = true := by
      show ¬ (!(addr L[j] == addr L[j]) || (!(((L[j].length : Nat) : Int) == ((L[j].length : Nat) : Int)))) = true
      rw [beq_self_eq_true, beq_self_eq_true]
      decide
    rw [if_neg hc, vs_len, if_pos (by omega), vs_at hj, if_pos (show v = val s L[j] by unfold val; rw [hv]; rfl)]
    exact go
/-! ### all of it -/
theorem same (M : List S47) (hM : M.length < 1000) (d : Nat) : ∀ (k x : Nat), x + d = M.length → interregnumref05_SamePrefixes.l0 (k + d + 1) M M (x : Int) = some true := by
  induction d with
  | zero =>
    intro k x hx
    unfold interregnumref05_SamePrefixes.l0
    rw [if_neg (by omega)]
  | succ d ih =>
    intro k x hx
    rw [show k + (d + 1) + 1 = (k + d + 1) + 1 by omega]
    unfold interregnumref05_SamePrefixes.l0
    rw [if_pos (by omega), if_pos (by omega), if_pos (by omega), if_neg (by simp), next x (by omega)]
    exact ih k (x + 1) (by omega)
theorem finds (adds : List Int) (hl : adds.length ≤ 60) (hu : ∀ y ∈ adds, U32 y) (s : TrieM) (L : List (List Bool)) (hi : Inv s L) (hL : L.length ≤ 900) (d : Nat) : ∀ (k i : Nat), 3000 * d + 3000 ≤ k → i + d = adds.length →
    TR.l3 k adds (ps L) (vs s L) (i : Int) s = some true := by
  induction d with
  | zero =>
    intro k i hk hd
    obtain ⟨k, rfl⟩ : ∃ k', k = k' + 1 := ⟨k - 1, by omega⟩
    unfold TR.l3
    have hw : Within s L := fun π h => ⟨(hi.mem π).2 h, hi.short π ((hi.mem π).2 h)⟩
    have hp : paths s 32 [] = L := sorted_eq (paths_sorted s 32 [] (by decide)) hi.sorted (fun ρ => by rw [hw.mem, hi.mem])
    rw [if_neg (by omega), TriTriePlays.answers, Option.bind_some, if_pos rfl, AllOk hw (by omega), Option.bind_some]
    dsimp only
    rw [hp]
    have hsp : interregnumref05_SamePrefixes.f k (ps L) (ps L) = some true := by
      have := same (ps L) (by rw [ps_len]; omega) (ps L).length (k - (ps L).length - 1) 0 (by omega)
      rw [show k - (ps L).length - 1 + (ps L).length + 1 = k by rw [ps_len]; omega] at this
      unfold interregnumref05_SamePrefixes.f
      rw [if_pos rfl]
      exact this
    show (interregnumref05_SamePrefixes.f k (ps L) (ps L)).bind (fun t => some t) = some true
    rw [hsp, Option.bind_some]
  | succ d ih =>
    intro k i hk hd
    obtain ⟨k, rfl⟩ : ∃ k', k = k' + 1 := ⟨k - 1, by omega⟩
    unfold TR.l3
    have hlt : i < adds.length := by omega
    have hr : rd adds (i : Int) = adds[i] := by
      unfold rd
      rw [List.getD_eq_getElem?_getD, Int.toNat_natCast, List.getElem?_eq_getElem hlt]
      rfl
    have hu2 : U32 (rd adds (i : Int)) := by rw [hr]; exact hu _ (List.getElem_mem hlt)
    rw [if_pos (by omega)]
    obtain ⟨p, h1, h2⟩ := best_loop adds s L hi (by omega) i hlt hu2 L.length (k - 2 * L.length - 1) 0 (-1) (by omega) (by omega) (.inl ⟨rfl, fun j _ h => by omega⟩)
    rw [show k - 2 * L.length - 1 + 2 * L.length + 1 = k by omega] at h2
    have h3 := best_said adds s L hi (by omega) i hlt (by omega) hu2 (k - 2 * L.length - 2) p h1
    rw [show k - 2 * L.length - 2 + 1 + 1 = k - 2 * L.length - 1 + 1 by omega] at h3
    show TR.l4 k adds (ps L) (vs s L) (i : Int) (-1) ((0 : Nat) : Int) s = some true
    rw [h2, h3]
    exact ih _ (i + 1) (by omega) (by omega)
theorem plays (acts : List S62) (adds : List Int) (ha : acts.length ≤ 60) (hua : ∀ y ∈ acts, U32 y.f1.f0) (hl : adds.length ≤ 60) (hu : ∀ y ∈ adds, U32 y) (d : Nat) : ∀ (k i : Nat) (s : TrieM) (L : List (List Bool)), 3000 * d + 200000 ≤ k → i + d = acts.length → Inv s L → L.length ≤ i →
    TR.l0 k acts adds (ps L) (vs s L) (i : Int) s = some true := by
  induction d with
  | zero =>
    intro k i s L hk hd hi hL
    obtain ⟨k, rfl⟩ : ∃ k', k = k' + 1 := ⟨k - 1, by omega⟩
    unfold TR.l0
    rw [if_neg (by omega)]
    exact finds adds hl hu s L hi (by omega) adds.length k 0 (by omega) (by omega)
  | succ d ih =>
    intro k i s L hk hd hi hL
    obtain ⟨k, rfl⟩ : ∃ k', k = k' + 1 := ⟨k - 1, by omega⟩
    unfold TR.l0
    have hlt : i < acts.length := by omega
    have hr : rd_T62 acts (i : Int) = acts[i] := by
      unfold rd_T62
      rw [List.getD_eq_getElem?_getD, Int.toNat_natCast, List.getElem?_eq_getElem hlt]
      rfl
    have hu2 := hua _ (List.getElem_mem hlt)
    rw [if_pos (by omega), if_pos (by omega), hr]
    obtain ⟨p, h1, h2⟩ := find acts adds L (vs s L) (by omega) (i : Int) s (acts[i]).f0 (acts[i]).f1.f0 (acts[i]).f1.f1 (acts[i]).f2 L.length (k - L.length - 1) 0 (-1) (by omega) (.inl ⟨rfl, fun j _ h => by omega⟩)
    rw [show k - L.length - 1 + L.length + 1 = k by omega] at h2
    show TR.l1 k acts adds (ps L) (vs s L) (i : Int) (-1) ((0 : Nat) : Int) s (acts[i]).f0 (acts[i]).f1.f0 (acts[i]).f1.f1 (acts[i]).f2 = some true
    rw [h2, got acts adds L (i : Int) s hi _ _ _ _ hu2 _ p h1]
    obtain ⟨s', L', k', g1, g2, g3, g4⟩ := step acts adds L (by omega) (i : Int) s hi (acts[i]).f0 (acts[i]).f1.f0 (acts[i]).f1.f1 (acts[i]).f2 hu2 (k - L.length - 2) (by omega) p h1
    rw [show k - L.length - 2 + 1 = k - L.length - 1 by omega] at g4
    rw [g4, next i (by omega)]
    exact ih k' (i + 1) s' L' (by omega) (by omega) g1 (by omega)
end TriePlays_
open TriePlays_ in
theorem TriePlays : BndTriePlays.Pure := by
  intro x0 x1 h0 h1
  obtain ⟨K, hK⟩ : ∃ K : Nat, K = 3000 * 60 + 200000 := ⟨_, rfl⟩
  refine ⟨K + 1, ?_⟩
  show TR.f (K + 1) x0 x1 = some true
  unfold TR.f
  by_cases c0 : (x0.length : Int) > 60
  · rw [if_pos c0]
    unfold TR.j0
    dsimp only
    rw [if_pos rfl, TriTriePlays.answers, Option.bind_some]
  · rw [if_neg c0]
    unfold TR.j0
    dsimp only
    by_cases c1 : (x1.length : Int) > 60
    · rw [decide_eq_true c1, if_pos rfl, TriTriePlays.answers, Option.bind_some]
    · rw [decide_eq_false c1, if_neg (by decide)]
      unfold trie_New.f
      rw [Option.bind_some]
      exact plays x0 x1 (by omega) (fun y hy => wf_u32 (h0.2 y hy).2.1.1) (by omega) (fun y hy => wf_u32 (h1.2 y hy)) x0.length K 0 new [] (by omega) (by omega) Inv.new (by simp)
end Go.Proofs.Yteheclbneoodeaa.Pure
