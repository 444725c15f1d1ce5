/- What the reference reads of the bytes of a path; for the statement PathReads. -/
import Derived.Test.YtpkckkmgnlhhcaaPathDPathReads
namespace Go.Proofs.Ytpkckkmgnlhhcaa.PathPathReads
open Go.RowKit Go.Proofs.Ytpkckkmgnlhhcaa.PPathReads Go.Proofs.YtpkckkmgnlhhcaaW.PrintWords Go.Proofs.YtpkckkmgnlhhcaaW.PrintLast Go.Proofs.YtpkckkmgnlhhcaaW.PrintMore Go.Proofs.Ytpkckkmgnlhhcaa.Pre
set_option linter.unusedVariables false
theorem Num (r : List Int) (h : Bytes r) (hl : 4 ≤ r.length) : interregnumref01_Num.f r = some (num r) := by
  have h0 := h.rd 0
  have h1 := h.rd 1
  have h2 := h.rd 2
  have h3 := h.rd 3
  unfold interregnumref01_Num.f
  rw [if_pos (by omega), if_pos (by omega), if_pos (by omega), if_pos (by omega)]
  unfold num
  generalize rd r 0 = b0 at *
  generalize rd r 1 = b1 at *
  generalize rd r 2 = b2 at *
  generalize rd r 3 = b3 at *
  congr 1
  unfold wrap64
  omega
theorem Read_l1 (b : List Int) (hb : Bytes b) (hs : b.length < 1099511627776) (i : Nat) (hi : i + 1 < b.length) (m : Nat) (hm : rd b ((i + 1 : Nat) : Int) = m) (hr : i + 2 + 4 * m ≤ b.length) (acc : List Seg) (ha : acc.length < 4398046511104) (t : Bool) (e : Nat) :
    ∀ (k j : Nat) (xs : List Int), j + e = m → xs.length + e < 17592186044416 →
    interregnumref05_ReadPath.l1 (k + e + 1) b acc i j t xs = interregnumref05_ReadPath.l0 k b (acc ++ [(⟨t, xs ++ nums e (b.drop (i + 2 + 4 * j))⟩ : Seg)]) ((i + 2 + 4 * m : Nat) : Int) := by
  induction e with
  | zero =>
    intro k j xs hj hx
    conv => lhs; unfold interregnumref05_ReadPath.l1
    rw [wn i (by omega), if_pos (by omega), if_pos (by omega), hm, w64 (m : Int) (by omega) (by omega), if_neg (by omega), if_pos (by omega), w64 ((i : Int) + 2) (by omega) (by omega), w64 (4 * (m : Int)) (by omega) (by omega), w64 (_ + _) (by omega) (by omega), show (i : Int) + 2 + 4 * (m : Int) = ((i + 2 + 4 * m : Nat) : Int) by omega]
    simp [nums]
  | succ e ih =>
    intro k j xs hj hx
    rw [show k + (e + 1) + 1 = (k + e + 1) + 1 by omega]
    conv => lhs; unfold interregnumref05_ReadPath.l1
    rw [wn i (by omega), if_pos (by omega), if_pos (by omega), hm, w64 (m : Int) (by omega) (by omega), if_pos (by omega), w64 ((i : Int) + 2) (by omega) (by omega), w64 (4 * (j : Int)) (by omega) (by omega), w64 (_ + _) (by omega) (by omega), show (i : Int) + 2 + 4 * (j : Int) = ((i + 2 + 4 * j : Nat) : Int) by omega, if_pos (by omega), if_pos (by omega), Int.toNat_natCast,
      Num _ (hb.drop _) (by rw [List.length_drop]; omega), Option.bind_some, if_pos (by omega), wn j (by omega), ih k (j + 1) _ (by omega) (by rw [List.length_append, List.length_singleton]; omega)]
    simp only [nums, List.append_assoc, List.cons_append, List.nil_append, List.drop_drop]
    rw [show i + 2 + 4 * (j + 1) = i + 2 + 4 * j + 4 by omega]
theorem Read_l0 (b : List Int) (hb : Bytes b) (hs : b.length < 1099511627776) (f : Nat) : ∀ (k i : Nat) (acc : List Seg), i ≤ b.length → b.length - i ≤ f → 2 * (b.length - i) < k → acc.length ≤ i →
    tot acc ≤ i → 4 * b.length + 1 < k - 2 * (b.length - i) →
    interregnumref05_ReadPath.l0 k b acc i = some (fin acc (dec f (b.drop i))) := by
  induction f using Nat.strongRecOn with
  | ind f ih =>
  intro k i acc hi hf hk ha ht hG
  obtain ⟨k, rfl⟩ : ∃ m, k = m + 1 := ⟨k - 1, by omega⟩
  conv => lhs; unfold interregnumref05_ReadPath.l0
  by_cases hlt : i < b.length
  · rw [if_pos (by omega), w64 ((i : Int) + 2) (by omega) (by omega)]
    obtain ⟨f, rfl⟩ : ∃ m, f = m + 1 := ⟨f - 1, by omega⟩
    obtain ⟨k, rfl⟩ : ∃ m, k = m + 1 := ⟨k - 1, by omega⟩
    by_cases h2 : i + 2 ≤ b.length
    · have ed : b.drop i = b[i] :: b[i + 1] :: b.drop (i + 2) := by rw [drop_int b i hlt, drop_int b (i + 1) (by omega)]
      have hn := hb b[i + 1] (List.getElem_mem (by omega))
      have hj : (0 : Int) ≤ ((i + 1 : Nat) : Int) := by omega
      have hj2 : ((i + 1 : Nat) : Int) < (b.length : Int) := by omega
      rw [if_neg (by omega), if_pos (by omega), rd_at b i hlt, wn i (by omega)]
      simp only [if_pos hj, if_pos hj2]
      rw [rd_at b (i + 1) (by omega), ed]
      rw [w64 b[i + 1] (by omega) (by omega), w64 (4 * b[i + 1]) (by omega) (by omega), w64 (_ + _) (by omega) (by omega)]
      simp only [dec]
      have hdl : (b.drop (i + 2)).length = b.length - (i + 2) := List.length_drop
      by_cases ht : b[i] = 1 ∨ b[i] = 2
      · have e : ∀ (X Y : Option (List Seg × Bool)), (if b[i] = 1 then X else (if b[i] = 2 then X else Y)) = X := by
          intro X Y
          rcases ht with h | h
          · rw [if_pos h]
          · rw [if_neg (by omega), if_pos h]
        rw [e]
        by_cases h4 : (i : Int) + 2 + 4 * b[i + 1] > (b.length : Int)
        · rw [decide_eq_true h4, if_neg (fun h => by have := h.2; omega)]
          unfold interregnumref05_ReadPath.j1
          rw [if_pos rfl]
          rfl
        · rw [decide_eq_false h4, if_pos ⟨ht, by omega⟩, fin_map]
          unfold interregnumref05_ReadPath.j1
          obtain ⟨m, hm⟩ := Int.eq_ofNat_of_zero_le hn.1
          rw [if_neg (by simp), if_pos (by omega), if_pos (by omega), rd_at b i hlt, hm, Int.toNat_natCast]
          have h1 := Read_l1 b hb hs i (by omega) m (by rw [rd_at b (i + 1) (by omega)]; exact hm) (by omega) acc (by omega) (b[i] == 1) m (k - (m + 1)) 0 [] (by omega) (by rw [List.length_nil]; omega)
          rw [show k - (m + 1) + m + 1 = k by omega, show ((0 : Nat) : Int) = 0 from rfl, List.nil_append] at h1
          rw [h1, List.drop_drop, show i + 2 + 4 * 0 = i + 2 by omega]
          refine ih f (by omega) _ _ _ (by omega) (by omega) (by omega) (by rw [List.length_append, List.length_singleton]; omega) ?_ (by omega)
          have tot_app : ∀ (x : List Seg) (s : Seg), tot (x ++ [s]) = tot x + s.f1.length := by
            intro x s
            induction x with
            | nil => simp [tot]
            | cons y x ih => simp only [List.cons_append, tot, ih]; omega
          rw [tot_app, nums_len]
          omega
      · have e : ∀ (X Y Z : Option (List Seg × Bool)), (if b[i] = 1 then X else (if b[i] = 2 then Y else Z)) = Z := by
          intro X Y Z
          rw [if_neg (fun h => ht (.inl h)), if_neg (fun h => ht (.inr h))]
        rw [e, if_neg (fun h => ht h.1)]
        unfold interregnumref05_ReadPath.j1
        rw [if_pos rfl]
        rfl
    · have ed : b.drop i = [b[i]] := by rw [drop_int b i hlt, List.drop_of_length_le (by omega)]
      rw [if_pos (by omega), ed]
      unfold interregnumref05_ReadPath.j1
      rw [if_pos rfl]
      rfl
  · rw [if_neg (by omega), List.drop_of_length_le (by omega), GoodPath acc (by omega) k (by omega) (by omega), Option.bind_some]
    have : fin acc (dec f []) = if path_Good.g acc 0 = true then (acc, true) else ([], false) := by
      cases f <;> simp [dec, fin]
    rw [this]
    split <;> rfl
theorem ReadP (b : List Int) (hb : Bytes b) (hs : b.length < 1099511627776) (k : Nat) (hk : 6 * b.length + 2 < k) : interregnumref05_ReadPath.f k b = some (fin [] (dec b.length b)) := by
  have := Read_l0 b hb hs b.length k 0 [] (by omega) (by omega) (by omega) (by rw [List.length_nil]; omega) (by unfold tot; omega) (by omega)
  rw [show ((0 : Nat) : Int) = 0 from rfl, List.drop_zero] at this
  exact this
theorem four_num (r : List Int) (h : Bytes r) (hl : 4 ≤ r.length) : four (num r) = r.take 4 := by
  match r, h, hl with
  | a :: b :: c :: d :: r, h, _ =>
    have ha := h a (by simp)
    have hb := h b (by simp)
    have hc := h c (by simp)
    have hd := h d (by simp)
    have en : num (a :: b :: c :: d :: r) = a * 16777216 + b * 65536 + c * 256 + d := rfl
    have et : (a :: b :: c :: d :: r).take 4 = [a, b, c, d] := rfl
    rw [en, et]
    unfold four
    have h1 : (a * 16777216 + b * 65536 + c * 256 + d) / 16777216 % 256 = a := by omega
    have h2 : (a * 16777216 + b * 65536 + c * 256 + d) / 65536 % 256 = b := by omega
    have h3 : (a * 16777216 + b * 65536 + c * 256 + d) / 256 % 256 = c := by omega
    have h4 : (a * 16777216 + b * 65536 + c * 256 + d) % 256 = d := by omega
    rw [h1, h2, h3, h4]
theorem fours_nums (n : Nat) : ∀ r, Bytes r → 4 * n ≤ r.length → (nums n r).flatMap four = r.take (4 * n) := by
  induction n with
  | zero => intro r _ _; simp [nums]
  | succ n ih =>
    intro r h hl
    unfold nums
    rw [List.flatMap_cons, four_num r h (by omega), ih _ (h.drop 4) (by rw [List.length_drop]; omega), show 4 * (n + 1) = 4 + 4 * n by omega, List.take_add]
theorem enc_dec (f : Nat) : ∀ (b : List Int) (l : List Seg), Bytes b → b.length ≤ f → dec f b = some l → enc l = b ∧ l.length ≤ b.length ∧ tot l ≤ b.length := by
  induction f with
  | zero =>
    intro b l hb hf h
    obtain rfl := List.length_eq_zero_iff.1 (Nat.le_zero.1 hf)
    simp only [dec, Option.some.injEq] at h
    subst h
    exact ⟨rfl, by simp, by simp [tot]⟩
  | succ f ih =>
    intro b l hb hf h
    match b, hb, hf, h with
    | [], _, _, h =>
      simp only [dec, Option.some.injEq] at h
      subst h
      exact ⟨rfl, by simp, by simp [tot]⟩
    | [x], _, _, h => simp [dec] at h
    | t :: n :: r, hb, hf, h =>
      have hn := hb n (by simp)
      have hr : Bytes r := fun x hx => hb x (by simp [hx])
      have hlen : (t :: n :: r).length = r.length + 2 := rfl
      rw [hlen] at hf ⊢
      simp only [dec] at h
      split at h
      · rename_i hc
        obtain ⟨l', h', rfl⟩ := Option.map_eq_some_iff.1 h
        obtain ⟨m, rfl⟩ := Int.eq_ofNat_of_zero_le hn.1
        rw [Int.toNat_natCast] at h' ⊢
        have hc2 := hc.2
        obtain ⟨e1, e2, e3⟩ := ih _ l' (hr.drop _) (by rw [List.length_drop]; omega) h'
        rw [List.length_drop] at e2 e3
        refine ⟨?_, ?_, ?_⟩
        · have e : ∀ s : Seg, enc (s :: l') = (if s.f0 = true then 1 else 2) :: (s.f1.length : Int) % 256 :: (s.f1.flatMap four ++ enc l') := by
            intro s; unfold enc; rw [List.flatMap_cons]; rfl
          rw [e, e1]
          show (if (t == 1) = true then (1 : Int) else 2) :: ((nums m r).length : Int) % 256 :: ((nums m r).flatMap four ++ r.drop (4 * m)) = _
          rw [nums_len, fours_nums m r hr (by omega), List.take_append_drop, show (m : Int) % 256 = m by omega]
          congr 1
          rcases hc.1 with h1 | h1 <;> subst h1 <;> rfl
        · rw [List.length_cons]; omega
        · simp only [tot, nums_len]; omega
      · cases h
end Go.Proofs.Ytpkckkmgnlhhcaa.PathPathReads
