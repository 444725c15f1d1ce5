/- What the printed Decode reads of the bytes of a path; for the statement PathLong. -/
import Derived.Test.YtpkckkmgnlhhcaaPathEPathLong
namespace Go.Proofs.Ytpkckkmgnlhhcaa.PathPathLong
open Go.RowKit Go.Proofs.Ytpkckkmgnlhhcaa.PPathLong Go.Proofs.YtpkckkmgnlhhcaaW.PrintWords Go.Proofs.YtpkckkmgnlhhcaaW.PrintLast Go.Proofs.YtpkckkmgnlhhcaaW.PrintMore Go.Proofs.Ytpkckkmgnlhhcaa.Pre
set_option linter.unusedVariables false
def Bytes (l : List Int) : Prop := ∀ x ∈ l, 0 ≤ x ∧ x < 256
theorem Bytes.wf {l : List Int} (h : ∀ x ∈ l, (Lit.int .u8 x).wf = true) : Bytes l := fun x hx => wf_u8 (h x hx)
theorem Bytes.drop {r : List Int} (h : Bytes r) (m : Nat) : Bytes (r.drop m) := fun x hx => h x (List.mem_of_mem_drop hx)
theorem Bytes.rd {l : List Int} (h : Bytes l) (i : Int) : 0 ≤ rd l i ∧ rd l i < 256 := by
  unfold Go.Proofs.YtpkckkmgnlhhcaaW.PrintWords.rd
  rw [List.getD_eq_getElem?_getD]
  cases hx : l[i.toNat]? with
  | none => simp
  | some x => exact h _ (List.mem_of_getElem? hx)
def num (r : List Int) : Int := rd r 0 * 16777216 + rd r 1 * 65536 + rd r 2 * 256 + rd r 3
def nums : Nat → List Int → List Int
  | 0, _ => []
  | n + 1, r => num r :: nums n (r.drop 4)
theorem nums_len (n : Nat) : ∀ r, (nums n r).length = n := by
  induction n with
  | zero => intro r; rfl
  | succ n ih => intro r; unfold nums; rw [List.length_cons, ih]
theorem num_u32 (r : List Int) (h : Bytes r) : 0 ≤ num r ∧ num r < 4294967296 := by
  have h0 := h.rd 0
  have h1 := h.rd 1
  have h2 := h.rd 2
  have h3 := h.rd 3
  unfold num; omega
/-- the pieces that bytes are -/
def dec : Nat → List Int → Option (List Seg)
  | 0, _ => some []
  | _ + 1, [] => some []
  | _ + 1, [_] => none
  | f + 1, t :: n :: r => if (t = 1 ∨ t = 2) ∧ 4 * n ≤ r.length then (dec f (r.drop (4 * n.toNat))).map ((⟨t == 1, nums n.toNat r⟩ : Seg) :: ·) else none
def fin (acc : List Seg) : Option (List Seg) → List Seg × Bool
  | none => ([], false)
  | some l => if path_Good.g (acc ++ l) 0 = true then (acc ++ l, true) else ([], false)
theorem fin_map (acc : List Seg) (s : Seg) (o : Option (List Seg)) : fin acc (o.map (s :: ·)) = fin (acc ++ [s]) o := by
  cases o with
  | none => rfl
  | some l => simp [fin]
theorem or_add8 (x b : Int) (hx0 : 0 ≤ x) (hx : x < 4294967296) (hd : x % 256 = 0) (hb : 0 ≤ b ∧ b < 256) : Go.bits .or .u32 x b = x + b := by
  refine bits_join .u32 32 (by decide) (fun n h0 h1 => by rw [IntKind.wrap_u32]; omega) 8 x b hx0 hd (by omega) hb.1 hb.2 ?_
  omega
theorem getS4 (r : List Int) (h : Bytes r) (hl : 4 ≤ r.length) : region_Get.f r = some (num r) := by
  match r, h, hl with
  | a :: b :: c :: d :: r, h, _ =>
    have ha := h a (by simp)
    have hb := h b (by simp)
    have hc := h c (by simp)
    have hd := h d (by simp)
    have e : region_Get.f (a :: b :: c :: d :: r) = some (getS [a, b, c, d] 0) := rfl
    have en : num (a :: b :: c :: d :: r) = a * 16777216 + b * 65536 + c * 256 + d := rfl
    rw [e, en]
    unfold getS getS getS getS getS
    rw [show a % 4294967296 = a by omega, show b % 4294967296 = b by omega, show c % 4294967296 = c by omega, show d % 4294967296 = d by omega]
    rw [or_add8 _ a (by omega) (by omega) (by omega) ha]
    rw [or_add8 _ b (by omega) (by omega) (by omega) hb]
    rw [or_add8 _ c (by omega) (by omega) (by omega) hc]
    rw [or_add8 _ d (by omega) (by omega) (by omega) hd]
    congr 1
    omega
theorem Dec_l1 (n : Nat) : ∀ (k : Nat) (b : List Int) (acc : List Seg) (t : Bool) (xs : List Int), Bytes b → 4 * n ≤ b.length → n < 4611686018427387904 → xs.length + n < 17592186044416 → acc.length < 4398046511104 →
    path_Decode.l1 (k + n + 1) b acc (n : Int) t xs = path_Decode.l0 k (b.drop (4 * n)) (acc ++ [(⟨t, xs ++ nums n b⟩ : Seg)]) := by
  induction n with
  | zero =>
    intro k b acc t xs hb hl hn hx ha
    conv => lhs; unfold path_Decode.l1
    rw [if_neg (by omega), if_pos (by omega)]
    simp [nums]
  | succ n ih =>
    intro k b acc t xs hb hl hn hx ha
    rw [show k + (n + 1) + 1 = (k + n + 1) + 1 by omega]
    conv => lhs; unfold path_Decode.l1
    have hu := num_u32 b hb
    rw [if_pos (by omega), getS4 b hb (by omega), Option.bind_some, if_pos (by omega), if_pos (by omega), w64 (num b) (by omega) (by omega), w64 _ (by omega) (by omega), show ((n + 1 : Nat) : Int) - 1 = (n : Int) by omega,
      ih k (b.drop 4) acc t _ (hb.drop 4) (by rw [List.length_drop]; omega) (by omega) (by rw [List.length_append, List.length_singleton]; omega) ha, List.drop_drop, show 4 + 4 * n = 4 * (n + 1) by omega]
    simp only [nums, List.append_assoc, List.cons_append, List.nil_append]
theorem Dec_l0 (f : Nat) : ∀ (k : Nat) (b : List Int) (acc : List Seg), Bytes b → b.length ≤ f → 2 * b.length < k → acc.length + f < 2199023255552 → f < 2199023255552 →
    path_Decode.l0 k b acc = some (fin acc (dec f b)) := by
  induction f using Nat.strongRecOn with
  | ind f ih =>
  intro k b acc hb hf hk ha hs
  obtain ⟨k, rfl⟩ : ∃ m, k = m + 1 := ⟨k - 1, by omega⟩
  conv => lhs; unfold path_Decode.l0
  match f, b, hb, hf, hk with
  | 0, [], _, _, _ =>
    rw [if_neg (by simp)]
    rw [show path_Good.f acc = some (path_Good.g acc 0) from rfl, Option.bind_some]
    simp only [dec, fin, List.append_nil]
    split <;> rfl
  | f + 1, [], _, _, _ =>
    rw [if_neg (by simp)]
    rw [show path_Good.f acc = some (path_Good.g acc 0) from rfl, Option.bind_some]
    simp only [dec, fin, List.append_nil]
    split <;> rfl
  | f + 1, [x], _, _, hk =>
    rw [show ([x] : List Int).length = 1 from rfl] at hk
    obtain ⟨k, rfl⟩ : ∃ m, k = m + 1 := ⟨k - 1, by omega⟩
    rw [if_pos (by simp), if_pos (by simp)]
    unfold path_Decode.j1
    rw [if_pos rfl]
    rfl
  | f + 1, t :: n :: r, hb, hf, hk =>
    have hn := hb n (by simp)
    have hr : Bytes r := fun x hx => hb x (by simp [hx])
    have hl : (t :: n :: r).length = r.length + 2 := rfl
    have h0 : rd (t :: n :: r) 0 = t := rfl
    have h1 : rd (t :: n :: r) 1 = n := rfl
    rw [hl] at hf hk
    obtain ⟨k, rfl⟩ : ∃ m, k = m + 1 := ⟨k - 1, by omega⟩
    rw [hl, if_pos (by omega), if_neg (by omega), if_pos (by omega), h0]
    have e : (if t = 1 then path_Decode.j1 (k + 1) (t :: n :: r) acc false else path_Decode.j1 (k + 1) (t :: n :: r) acc (t != 2)) = path_Decode.j1 (k + 1) (t :: n :: r) acc (!(decide (t = 1 ∨ t = 2))) := by
      by_cases h : t = 1
      · rw [if_pos h, decide_eq_true (.inl h)]; rfl
      · rw [if_neg h]
        by_cases h2 : t = 2
        · rw [decide_eq_true (.inr h2), h2]; rfl
        · rw [decide_eq_false (fun hc => hc.elim h h2), show (t != 2) = true from by simpa using h2]; rfl
    rw [e]
    unfold path_Decode.j1
    simp only [dec]
    by_cases ht : t = 1 ∨ t = 2
    · rw [decide_eq_true ht, if_neg (by simp), hl, if_pos (by omega), if_pos (by omega), if_pos (by omega), Option.bind_some, h1, h0, w64 n (by omega) (by omega), w64 (n * 4) (by omega) (by omega)]
      rw [show (t :: n :: r).drop 2 = r from rfl]
      by_cases h4 : 4 * n ≤ r.length
      · rw [if_neg (by omega), if_pos ⟨ht, h4⟩, fin_map]
        obtain ⟨m, rfl⟩ := Int.eq_ofNat_of_zero_le hn.1
        have h1' := Dec_l1 m (k - (m + 1)) r acc (t == 1) [] hr (by omega) (by omega) (by rw [List.length_nil]; omega) (by omega)
        rw [show k - (m + 1) + m + 1 = k by omega] at h1'
        rw [h1', List.nil_append, Int.toNat_natCast]
        have hdl : (r.drop (4 * m)).length ≤ f := by rw [List.length_drop]; omega
        exact ih f (by omega) _ _ _ (hr.drop _) hdl (by rw [List.length_drop]; omega) (by rw [List.length_append, List.length_singleton]; omega) (by omega)
      · rw [if_pos (by omega), if_neg (fun h => h4 h.2)]
        rfl
    · rw [decide_eq_false ht, if_pos (show (!false) = true from rfl), if_neg (fun h => ht h.1)]
      rfl
theorem Decode (b : List Int) (hb : Bytes b) (hl : b.length < 1099511627776) (k : Nat) (hk : 2 * b.length < k) : path_Decode.f k b = some (fin [] (dec b.length b)) :=
  Dec_l0 b.length k b [] hb (Nat.le_refl _) hk (by rw [List.length_nil]; omega) (by omega)
theorem num_four (x : Int) (h : 1 ≤ x ∧ x ≤ 4294967295) (rest : List Int) : num (four x ++ rest) = x := by
  have : num (four x ++ rest) = x / 16777216 % 256 * 16777216 + x / 65536 % 256 * 65536 + x / 256 % 256 * 256 + x % 256 := rfl
  rw [this]; omega
theorem nums_fours (l : List Int) (h : ∀ x ∈ l, 1 ≤ x ∧ x ≤ 4294967295) (rest : List Int) : nums l.length (l.flatMap four ++ rest) = l := by
  induction l with
  | nil => rfl
  | cons x l ih =>
    rw [List.flatMap_cons, List.append_assoc, List.length_cons]
    unfold nums
    rw [num_four x (h x (List.mem_cons_self ..)), show (four x ++ (l.flatMap four ++ rest)).drop 4 = l.flatMap four ++ rest from rfl, ih (fun y hy => h y (List.mem_cons_of_mem _ hy))]
theorem dec_enc (l : List Seg) (h : Fine l) : ∀ f, (enc l).length ≤ f → dec f (enc l) = some l := by
  induction l with
  | nil =>
    intro f _
    cases f <;> rfl
  | cons s l ih =>
    intro f hf
    have hs := h s (List.mem_cons_self ..)
    have hl : Fine l := fun y hy => h y (List.mem_cons_of_mem _ hy)
    have e : enc (s :: l) = (if s.f0 = true then 1 else 2) :: (s.f1.length : Int) % 256 :: (s.f1.flatMap four ++ enc l) := by
      unfold enc; rw [List.flatMap_cons]; rfl
    rw [e] at hf ⊢
    rw [List.length_cons, List.length_cons, List.length_append, fours_len] at hf
    obtain ⟨f, rfl⟩ : ∃ m, f = m + 1 := ⟨f - 1, by omega⟩
    rw [show (s.f1.length : Int) % 256 = (s.f1.length : Int) by omega]
    simp only [dec]
    rw [if_pos ⟨by split <;> simp, by rw [List.length_append, fours_len]; omega⟩, Int.toNat_natCast, nums_fours s.f1 hs.2.2]
    have hd : (s.f1.flatMap four ++ enc l).drop (4 * s.f1.length) = enc l := by
      rw [← fours_len]; simp
    rw [hd, ih hl f (by omega)]
    have ht : ((if s.f0 = true then (1 : Int) else 2) == 1) = s.f0 := by cases s.f0 <;> rfl
    rw [ht]
    rfl
theorem enc_bytes (l : List Seg) : Bytes (enc l) := by
  induction l with
  | nil => intro x hx; cases hx
  | cons s l ih =>
    have e : enc (s :: l) = (if s.f0 = true then 1 else 2) :: (s.f1.length : Int) % 256 :: (s.f1.flatMap four ++ enc l) := by
      unfold enc; rw [List.flatMap_cons]; rfl
    rw [e]
    intro x hx
    rcases List.mem_cons.1 hx with rfl | hx
    · split <;> omega
    · rcases List.mem_cons.1 hx with rfl | hx
      · omega
      · rcases List.mem_append.1 hx with hx | hx
        · obtain ⟨y, _, hy⟩ := List.mem_flatMap.1 hx
          unfold four at hy
          simp only [List.mem_cons, List.not_mem_nil, or_false] at hy
          rcases hy with rfl | rfl | rfl | rfl <;> omega
        · exact ih x hx
theorem Back (l : List Seg) (ht : tot l < 68719476736) (hl : l.length < 68719476736) (h : path_Good.g l 0 = true) (k : Nat) (hk : 4 * l.length + 8 * tot l < k) : path_Decode.f k (enc l) = some (l, true) := by
  have hlen := enc_len l
  rw [Decode (enc l) (enc_bytes l) (by omega) k (by omega), dec_enc l (g_fine l 0 h) _ (Nat.le_refl _)]
  simp only [fin, List.nil_append]
  rw [if_pos h]
theorem SameP_l0 (l : List Seg) (hl : l.length < 4611686018427387904) (hy : ∀ y ∈ l, y.f1.length < 4611686018427387904) (d : Nat) : ∀ (i k : Nat), i + d = l.length → 3 * d + tot (l.drop i) < k → interregnumref05_SamePath.l0 k l l i = some true := by
  induction d with
  | zero =>
    intro i k hi hk
    obtain ⟨k, rfl⟩ : ∃ m, k = m + 1 := ⟨k - 1, by omega⟩
    conv => lhs; unfold interregnumref05_SamePath.l0
    rw [if_neg (by omega)]
  | succ d ih =>
    intro i k hi hk
    obtain ⟨k, rfl⟩ : ∃ m, k = m + 1 := ⟨k - 1, by omega⟩
    have hlt : i < l.length := by omega
    have hm := hy l[i] (List.getElem_mem hlt)
    rw [tot_drop l i hlt] at hk
    obtain ⟨k, rfl⟩ : ∃ m, k = m + 1 := ⟨k - 1, by omega⟩
    conv => lhs; unfold interregnumref05_SamePath.l0
    have inner : ∀ (e j k : Nat), j + e = l[i].f1.length → 3 * d + tot (l.drop (i + 1)) + e + 1 < k → interregnumref05_SamePath.l1 k l l i j = some true := by
      intro e
      induction e with
      | zero =>
        intro j k hj hk
        obtain ⟨k, rfl⟩ : ∃ m, k = m + 1 := ⟨k - 1, by omega⟩
        conv => lhs; unfold interregnumref05_SamePath.l1
        rw [if_pos (by omega), if_pos (by omega), seg_at l i hlt, if_neg (by omega), wn i (by omega)]
        exact ih (i + 1) k (by omega) (by omega)
      | succ e ihe =>
        intro j k hj hk
        obtain ⟨k, rfl⟩ : ∃ m, k = m + 1 := ⟨k - 1, by omega⟩
        conv => lhs; unfold interregnumref05_SamePath.l1
        rw [if_pos (by omega), if_pos (by omega), seg_at l i hlt, if_pos (by omega), if_pos (by omega), if_pos (by omega), if_pos (by omega), if_pos rfl, wn j (by omega)]
        exact ihe (j + 1) k (by omega) (by omega)
    have hin := inner l[i].f1.length 0 k (by omega) (by omega)
    rw [show ((0 : Nat) : Int) = 0 from rfl] at hin
    rw [if_pos (by omega), if_pos (by omega), if_pos (by omega), if_neg (by simp)]
    unfold interregnumref05_SamePath.j1
    rw [if_neg (by simp)]
    exact hin
theorem SameP (l : List Seg) (hl : l.length < 4611686018427387904) (ht : tot l < 4611686018427387904) (k : Nat) (hk : 3 * l.length + tot l < k) : interregnumref05_SamePath.f k l l = some true := by
  unfold interregnumref05_SamePath.f
  rw [if_pos rfl]
  exact SameP_l0 l hl (fun y h => by have := tot_mem l y h; omega) l.length 0 k (by omega) (by rw [List.drop_zero]; exact hk)
end Go.Proofs.Ytpkckkmgnlhhcaa.PathPathLong
