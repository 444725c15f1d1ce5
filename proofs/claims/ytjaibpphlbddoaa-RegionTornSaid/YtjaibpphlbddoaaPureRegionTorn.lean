/- Wherever the power goes while an entry is written, it is there wholly or not at all; the plain part of the proof. Conditions: none. -/
import Derived.Test.YtjaibpphlbddoaaRegDRegionTorn
import Derived.Test.YtjaibpphlbddoaaBndRegionTorn
namespace Go.Proofs.Ytjaibpphlbddoaa.Pure
open Go.RowKit Go.Proofs.Ytjaibpphlbddoaa.PRegionTorn Go.Proofs.YtjaibpphlbddoaaW.PrintWords Go.Proofs.YtjaibpphlbddoaaW.PrintLast Go.Proofs.Ytjaibpphlbddoaa.Disk Go.Proofs.Ytjaibpphlbddoaa Go.Proofs.Ytjaibpphlbddoaa.RegRegionTorn
set_option linter.unusedVariables false
set_option linter.unusedSimpArgs false
namespace RegionTorn_
theorem wf_u8 {x : Int} (h : (Lit.int .u8 x).wf = true) : 0 ≤ x ∧ x < 256 := by
  simp [Lit.wf, IntKind.min, IntKind.max, IntKind.signed, IntKind.bits] at h
  omega
theorem Same_l0 (l : List Int) (hl : l.length < 4611686018427387904) (d : Nat) : ∀ (k i : Nat), i + d = l.length → interregnumref01_Same.l0 (k + d + 1) l l (i : Int) = some true := by
  induction d with
  | zero =>
    intro k i hi
    conv => lhs; unfold interregnumref01_Same.l0
    rw [if_neg (by omega)]
  | succ d ih =>
    intro k i hi
    rw [show k + (d + 1) + 1 = (k + d + 1) + 1 by omega]
    conv => lhs; unfold interregnumref01_Same.l0
    rw [if_pos (by omega), if_pos (by omega), if_pos (by omega), if_pos rfl, w64 _ (by omega) (by omega), show (i : Int) + 1 = ((i + 1 : Nat) : Int) by omega]
    exact ih k (i + 1) (by omega)
theorem Same (l : List Int) (k : Nat) (hk : l.length < k) (hl : l.length < 4611686018427387904) : interregnumref01_Same.f k l l = some true := by
  unfold interregnumref01_Same.f
  rw [if_pos rfl]
  have := Same_l0 l hl l.length (k - (l.length + 1)) 0 (by omega)
  rw [show k - (l.length + 1) + l.length + 1 = k by omega] at this
  exact this
theorem rows_l0 (r : List (List Int)) (B : Nat) (hB : ∀ l ∈ r, l.length < B) (hB2 : B < 4611686018427387904) (hr : r.length < 1000000) (d : Nat) : ∀ (k i : Nat), i + d = r.length → interregnumref01_Rows.l0 (k + B + d + 1) r r (i : Int) = some true := by
  induction d with
  | zero =>
    intro k i hi
    unfold interregnumref01_Rows.l0
    rw [if_neg (by omega)]
  | succ d ih =>
    intro k i hi
    have hlt : i < r.length := by omega
    have he : rd_L1 r (i : Int) = r[i] := by
      unfold rd_L1
      rw [List.getD_eq_getElem?_getD, Int.toNat_natCast, List.getElem?_eq_getElem hlt]
      rfl
    rw [show k + B + (d + 1) + 1 = (k + B + d + 1) + 1 by omega]
    unfold interregnumref01_Rows.l0
    have hs := Same r[i] (k + B + d + 1) (by have := hB _ (List.getElem_mem hlt); omega) (by have := hB _ (List.getElem_mem hlt); omega)
    rw [if_pos (by omega), if_pos (by omega), if_pos (by omega), he, hs, Option.bind_some, if_pos rfl, w64 _ (by omega) (by omega), show (i : Int) + 1 = ((i + 1 : Nat) : Int) by omega]
    exact ih k (i + 1) (by omega)
theorem rows (r : List (List Int)) (B : Nat) (hB : ∀ l ∈ r, l.length < B) (hB2 : B < 4611686018427387904) (hr : r.length < 1000000) (k : Nat) (hk : B + r.length < k) : interregnumref01_Rows.f k r r = some true := by
  unfold interregnumref01_Rows.f
  rw [if_pos rfl]
  have := rows_l0 r B hB hB2 hr r.length (k - (B + r.length + 1)) 0 (by omega)
  rw [show k - (B + r.length + 1) + B + r.length + 1 = k by omega] at this
  exact this
theorem rows_not (a b : List Int) (k : Nat) : interregnumref01_Rows.f k [a] [a, b] = some false := by
  unfold interregnumref01_Rows.f
  rw [if_neg (by show ¬ ((1 : Nat) : Int) = ((2 : Nat) : Int); decide)]
/-- what a sector has of which the first bytes were written -/
theorem sector_torn {l x : List Int} {c q : Nat} (hx : x.length ≤ 64) (hl : c * 64 + 64 ≤ l.length) (hz : sector l (c : Int) = List.replicate 64 0) : sector (put l (c * 64) ((fill x).take q)) (c : Int) = fill (x.take q) := by
  have hzj : ∀ j, j < 64 → l[c * 64 + j]? = some 0 := fun j hj => by
    have h := congrArg (fun z : List Int => z[j]?) hz
    unfold sector at h
    rw [Int.toNat_natCast, List.getElem?_take, if_pos hj, List.getElem?_drop, List.getElem?_replicate, if_pos hj] at h
    exact h
  have hfl : (fill x).length = 64 := fill_length hx
  apply List.ext_getElem?
  intro j
  unfold sector Disk.put
  rw [Int.toNat_natCast, List.getElem?_take, List.getElem?_drop]
  have hfx : (fill (x.take q))[j]? = if j < 64 then (if j < min q x.length then x[j]? else some 0) else none := by
    unfold fill
    rw [List.getElem?_append, List.length_take]
    by_cases h : j < min q x.length
    · rw [if_pos h, if_pos (by omega), if_pos h, List.getElem?_take, if_pos (by omega)]
    · rw [if_neg h, List.getElem?_replicate]
      by_cases h2 : j < 64
      · rw [if_pos (by omega), if_pos h2, if_neg h]
      · rw [if_neg (by omega), if_neg h2]
  rw [hfx]
  by_cases h64 : j < 64
  · rw [if_pos h64, if_pos h64]
    have hB : ((fill x).take q).length = min q 64 := by rw [List.length_take, hfl]
    by_cases hjB : j < min q 64
    · rw [List.getElem?_append_left (by rw [List.length_append, List.length_take, hB]; omega), List.getElem?_append_right (by rw [List.length_take]; omega), List.length_take, List.getElem?_take, if_pos (by omega), show c * 64 + j - min (c * 64) l.length = j by omega]
      unfold fill
      rw [List.getElem?_append]
      by_cases h : j < x.length
      · rw [if_pos h, if_pos (by omega)]
      · rw [if_neg h, if_neg (by omega), List.getElem?_replicate, if_pos (by omega)]
    · rw [List.getElem?_append_right (by rw [List.length_append, List.length_take, hB]; omega), List.length_append, hB, List.length_take, List.getElem?_drop, show c * 64 + min q 64 + (c * 64 + j - (min (c * 64) l.length + min q 64)) = c * 64 + j by omega, hzj j h64, if_neg (by omega)]
  · rw [if_neg h64, if_neg h64]
theorem crash_head {E x : List Int} {n : Nat} (keep tn part : Int) (hx : x.length ≤ 64) (hl : n * 64 + 64 ≤ E.length) (hz : sector E (n : Int) = List.replicate 64 0) : ∃ q, sector (crashOne keep tn part 0 ((n : Int), fill x) E) (n : Int) = fill (x.take q) := by
  unfold crashOne
  dsimp only
  rw [Int.toNat_natCast]
  split
  · exact ⟨part.toNat, sector_torn hx hl hz⟩
  · split
    · refine ⟨64, ?_⟩
      have := sector_put (l := E) (b := fill x) (a := (n : Int)) (by rw [Int.toNat_natCast]; exact hl) (fill_length hx)
      rw [Int.toNat_natCast] at this
      rw [this, List.take_of_length_le hx]
    · exact ⟨0, by rw [hz]; rfl⟩
theorem part_head (b : List Int) (hb : b.length ≤ 400) (q : Nat) : fill ((hd 5 b).take q) = List.replicate 64 0 ∨ (∃ c : Int, (c = 0 ∨ c = 1) ∧ fill ((hd 5 b).take q) = [0, 0, 0, 5, 0, 0, c, 0, 0, 0, 0, 0] ++ (0 :: 0 :: 0 :: 0 :: List.replicate 48 0)) ∨
    ∃ r : List Int, r.length = 8 ∧ Crc.Bytes r ∧ fill ((hd 5 b).take q) = be4 5 ++ (be4 (b.length : Int) ++ (r ++ List.replicate 48 0)) := by
  have hY : ∃ Y : List Int, Y.length = 8 ∧ Crc.Bytes Y ∧ hd 5 b = be4 5 ++ (be4 (b.length : Int) ++ Y) := ⟨be4 (Crc.crc b) ++ be4 (Crc.crc (h12 5 b)), rfl, fun x hx => by
    rcases List.mem_append.1 hx with hx | hx
    · exact be4_bytes _ x hx
    · exact be4_bytes _ x hx, rfl⟩
  obtain ⟨Y, hY8, hYb, e⟩ := hY
  rw [e]
  by_cases h8 : 8 ≤ q
  · refine .inr (.inr ⟨Y.take (q - 8) ++ List.replicate (8 - (Y.take (q - 8)).length) 0, ?_, fun x hx => ?_, ?_⟩)
    · rw [List.length_append, List.length_replicate, List.length_take]
      omega
    · rcases List.mem_append.1 hx with hx | hx
      · exact hYb x (List.mem_of_mem_take hx)
      · rw [(List.mem_replicate.1 hx).2]; omega
    · rw [← List.append_assoc, List.take_append, List.take_of_length_le (show (be4 5 ++ be4 (b.length : Int)).length ≤ q from h8), show (be4 5 ++ be4 (b.length : Int)).length = 8 from rfl]
      unfold fill
      have ht : (Y.take (q - 8)).length ≤ 8 := by rw [List.length_take]; omega
      rw [List.length_append, show (be4 5 ++ be4 (b.length : Int)).length = 8 from rfl, show 64 - (8 + (Y.take (q - 8)).length) = (8 - (Y.take (q - 8)).length) + 48 by omega, ← List.replicate_append_replicate]
      simp only [List.append_assoc]
  · have e5 : be4 5 = [0, 0, 0, 5] := by decide
    have el : be4 (b.length : Int) = [0, 0, ((b.length : Int) / 256) % 256, (b.length : Int) % 256] := by
      unfold be4
      rw [show ((b.length : Int) / 16777216) % 256 = 0 by omega, show ((b.length : Int) / 65536) % 256 = 0 by omega]
    have hc : ((b.length : Int) / 256) % 256 = 0 ∨ ((b.length : Int) / 256) % 256 = 1 := by omega
    rw [e5, el]
    generalize ((b.length : Int) / 256) % 256 = c at hc
    match q, h8 with
    | 0, _ => exact .inl rfl
    | 1, _ => exact .inl rfl
    | 2, _ => exact .inl rfl
    | 3, _ => exact .inl rfl
    | 4, _ => exact .inr (.inl ⟨0, .inl rfl, rfl⟩)
    | 5, _ => exact .inr (.inl ⟨0, .inl rfl, rfl⟩)
    | 6, _ => exact .inr (.inl ⟨0, .inl rfl, rfl⟩)
    | 7, _ => exact .inr (.inl ⟨c, hc, rfl⟩)
    | q + 8, h8 => exact absurd (Nat.le_add_left 8 q) h8
/-- one, at any rounds enough -/
theorem one_at {s : DiskM} {p e g : Int} {k0 k : Nat} {r : List Int × Bool × DiskM} (h : region_one.f k0 s p e g = some r) (hk : k0 ≤ k) : region_one.f k s p e g = some r := at_rounds (region_one.mono s p e g) hk h
/-- What is scanned where the second entry's head landed in part. -/
theorem scans {D : List Int} (a b : List Int) (ha : a.length ≤ 400) (hb : b.length ≤ 400) (hab : Crc.Bytes a) (hbb : Crc.Bytes b) (hD : Fit 30 D []) (h0 : sector D ((2 : Nat) : Int) = fill (hd 5 a)) (h1 : ∀ j, j < cnt a → sector D ((2 + 1 + j : Nat) : Int) = chunk (pad a) j)
    (q : Nat) (hq : sector D ((2 + cnt a + 1 : Nat) : Int) = fill ((hd 5 b).take q)) (h2 : ∀ j, j < cnt b → sector D ((2 + cnt a + 1 + 1 + j : Nat) : Int) = chunk (pad b) j) (hz : sector D ((2 + cnt a + 1 + cnt b + 1 : Nat) : Int) = List.replicate 64 0) (M : Nat) (hM : 5200 ≤ M) :
    ∃ (l : List (List Int)) (y : Int), region_Scan.f (M + 3) (Up 30 D []) 2 30 5 = some (l, y, Up 30 D []) ∧ (l = [a] ∨ l = [a, b]) := by
  have ca : cnt a ≤ 7 := by unfold cnt; omega
  have cb : cnt b ≤ 7 := by unfold cnt; omega
  have hy1 := one_at (one_yes (p := 2) (e := 30) hD (by decide) 5 a (by decide) (by decide) hab (by omega) h0 h1 (by omega) (by omega) (by decide) 5000 (by omega)) (k := M + 2) (by omega)
  have hs1 := scan_more (p := 2) a (by decide) (by omega) hy1 [] (by decide)
  have hone : ∃ (x : List Int) (bb : Bool), region_one.f (M + 1) (Up 30 D []) ((2 + cnt a + 1 : Nat) : Int) ((30 : Nat) : Int) 5 = some (x, bb, Up 30 D []) ∧ (bb = true → x = b) := by
    rcases part_head b hb q with h | ⟨c, hc, h⟩ | ⟨r, hr, hrb, h⟩
    · exact ⟨[], false, one_zero (p := 2 + cnt a + 1) (e := 30) hD (by omega) (by omega) 5 (by decide) (by decide) (hq.trans h) M (by omega), fun h => by cases h⟩
    · exact ⟨[], false, one_short (p := 2 + cnt a + 1) (e := 30) hD (by omega) (by omega) c hc (hq.trans h) M (by omega), fun h => by cases h⟩
    · obtain ⟨x, bb, h3, h4⟩ := one_rest (p := 2 + cnt a + 1) (e := 30) hD (by decide) 5 b r hr hrb (by decide) (by decide) hbb (by omega) (hq.trans h) h2 (by omega) (by omega) (by decide) 5000 (by omega)
      exact ⟨x, bb, one_at h3 (by omega), h4⟩
  obtain ⟨x, bb, ho, hx⟩ := hone
  cases bb with
  | false =>
    have hx2 : region_Scan.l0 (M + 1 + 1) ((2 + cnt a + 1 : Nat) : Int) ((30 : Nat) : Int) 5 ([] ++ [a]) (Up 30 D []) = some ([] ++ [a], ((2 + cnt a + 1 : Nat) : Int), Up 30 D []) := by
      unfold region_Scan.l0
      rw [ho, Option.bind_some]
      dsimp only
      rw [if_neg (by decide)]
    exact ⟨[a], _, hs1.trans hx2, .inl rfl⟩
  | true =>
    obtain rfl := hx rfl
    have hs2 := scan_more (p := 2 + cnt a + 1) x (by omega) (by omega) ho ([] ++ [a]) (by simp)
    have hs3 := scan_none (one_zero (p := 2 + cnt a + 1 + cnt x + 1) (e := 30) hD (by omega) (by omega) 5 (by decide) (by decide) hz (M - 1) (by omega)) ([] ++ [a] ++ [x])
    rw [show M - 1 + 1 + 1 = M + 1 by omega] at hs3
    exact ⟨[a, x], _, (hs1.trans hs2).trans hs3, .inr rfl⟩
/-- The same where nothing of the second entry's head landed. -/
theorem scans_one {D : List Int} (a : List Int) (ha : a.length ≤ 400) (hab : Crc.Bytes a) (hD : Fit 30 D []) (h0 : sector D ((2 : Nat) : Int) = fill (hd 5 a)) (h1 : ∀ j, j < cnt a → sector D ((2 + 1 + j : Nat) : Int) = chunk (pad a) j)
    (hz : sector D ((2 + cnt a + 1 : Nat) : Int) = List.replicate 64 0) (M : Nat) (hM : 5200 ≤ M) :
    region_Scan.f (M + 3) (Up 30 D []) 2 30 5 = some ([a], ((2 + cnt a + 1 : Nat) : Int), Up 30 D []) := by
  have ca : cnt a ≤ 7 := by unfold cnt; omega
  have hy1 := one_at (one_yes (p := 2) (e := 30) hD (by decide) 5 a (by decide) (by decide) hab (by omega) h0 h1 (by omega) (by omega) (by decide) 5000 (by omega)) (k := M + 2) (by omega)
  have hs1 := scan_more (p := 2) a (by decide) (by omega) hy1 [] (by decide)
  have hs2 := scan_none (one_zero (p := 2 + cnt a + 1) (e := 30) hD (by omega) (by omega) 5 (by decide) (by decide) hz M (by omega)) ([] ++ [a])
  exact hs1.trans hs2
end RegionTorn_
open RegionTorn_ in
theorem RegionTorn : BndRegionTorn.Pure := by
  intro a b fu keep tn pt h0 h1 h2 h3 h4 h5
  obtain ⟨b0, b1⟩ := wf_u8 h2
  have hab := Crc.Bytes.wf h0.2
  have hbb := Crc.Bytes.wf h1.2
  obtain ⟨M, hM⟩ : ∃ M : Nat, M = 6000 := ⟨_, rfl⟩
  refine ⟨M + 3, ?_⟩
  unfold interregnumlaw03_RegionTorn.f
  by_cases hlong : (a.length : Int) > 400 ∨ (b.length : Int) > 400
  · rw [if_pos hlong]
  rw [if_neg hlong]
  have ha : a.length ≤ 400 := by
    rcases Nat.lt_or_ge 400 a.length with h | h
    · exact absurd (.inl (by omega)) hlong
    · exact h
  have hb : b.length ≤ 400 := by
    rcases Nat.lt_or_ge 400 b.length with h | h
    · exact absurd (.inr (by omega)) hlong
    · exact h
  have ca : cnt a ≤ 7 := by unfold cnt; omega
  have cb : cnt b ≤ 7 := by unfold cnt; omega
  have hz : Fit 30 (new ((30 : Nat) : Int)).lasts [] := fit_new (n := 30) (by decide)
  have hlay0 := lay (N := 30) (p := 2) (e := 30) 5 a hz (by decide) (by decide) (by decide) hab (by omega) (by omega) (by decide) (by omega) 5000 (by omega)
  have hlay : region_Lay.f (M + 3) (Disk.new 30) 2 30 5 a = some (((2 + cnt a + 1 : Nat) : Int), 0, Up 30 (laid 2 5 a (new ((30 : Nat) : Int)).lasts) []) := at_rounds (region_Lay.mono _ _ _ _ _) (by omega) hlay0
  clear hlay0
  have hD := fit_laid (p := 2) 5 a hz (by omega)
  have hat := laid_at (p := 2) 5 a hz (by omega)
  have hin : ∀ j, j < cnt a → sector (laid 2 5 a (new ((30 : Nat) : Int)).lasts) ((2 + 1 + j : Nat) : Int) = chunk (pad a) j := fun j hj => laid_in 5 a hz (by omega) hj
  have hout : ∀ x : Nat, 2 + cnt a + 1 ≤ x → x < 30 → sector (laid 2 5 a (new ((30 : Nat) : Int)).lasts) (x : Int) = List.replicate 64 0 := fun x hx hx2 => by
    rw [laid_out (p := 2) (x := x) 5 a hz (by omega) hx2 (.inr hx), sector_new 30 (by decide) _ (by omega)]
  generalize laid 2 5 a (new ((30 : Nat) : Int)).lasts = D1 at hlay hD hat hin hout
  obtain ⟨F, hF⟩ := Int.eq_ofNat_of_zero_le (show 0 ≤ fu % 10 by omega)
  have hF10 : F < 10 := by omega
  rw [hlay, Option.bind_some]
  dsimp only
  rw [hF]
  have hfuse0 := lay_fuse (p := 2 + cnt a + 1) (e := 30) 5 b hD (by decide) (by decide) (by decide) hbb (by omega) (by omega) (by decide) (by omega) F (by omega) 5000 (by omega)
  have hfuse : ∀ r, (if F ≤ cnt b then some (0, 4, Dead D1 (W (2 + cnt a + 1) b F)) else if F = cnt b + 1 then some (0, 4, Dead (Disk.settle (W (2 + cnt a + 1) b (cnt b)) D1) []) else if F = cnt b + 2 then some (0, 4, Dead (Disk.settle (W (2 + cnt a + 1) b (cnt b)) D1) [(((2 + cnt a + 1 : Nat) : Int), fill (hd 5 b))]) else some (((2 + cnt a + 1 + cnt b + 1 : Nat) : Int), 0, Ar (laid (2 + cnt a + 1) 5 b D1) [] (F - cnt b - 3))) = some r → region_Lay.f (M + 3) ⟨(Up 30 D1 []).lasts, (Up 30 D1 []).loose, (F : Int), (Up 30 D1 []).down⟩ ((2 + cnt a + 1 : Nat) : Int) 30 5 b = some r := fun r hr => at_rounds (region_Lay.mono _ _ _ _ _) (by omega) (hfuse0.trans hr)
  clear hfuse0
  have hraa : interregnumref01_Rows.f (M + 3) [a] [a] = some true := rows [a] 500 (fun l hl => by simp only [List.mem_singleton] at hl; subst hl; omega) (by decide) (by simp) _ (by simp; omega)
  have hrab : interregnumref01_Rows.f (M + 3) [a, b] [a, b] = some true := rows [a, b] 500 (fun l hl => by simp only [List.mem_cons, List.mem_nil_iff, or_false] at hl; rcases hl with rfl | rfl <;> omega) (by decide) (by simp) _ (by simp; omega)
  have hrno := rows_not a b (M + 3)
  have hWf := fit_W (p := 2 + cnt a + 1) b hD (Nat.le_refl _) (by omega : 2 + cnt a + 1 + 1 + cnt b ≤ 30)
  -- what lies in the sectors behind the writing of the bytes
  have hSx : ∀ x : Nat, x < 30 → x ≤ 2 + cnt a + 1 ∨ 2 + cnt a + 1 + 1 + cnt b ≤ x → sector (Disk.settle (W (2 + cnt a + 1) b (cnt b)) D1) (x : Int) = sector D1 (x : Int) := fun x hx ho => by
    rw [sector_settle hWf (by omega) (by omega), latest_W_none b ho]
    rfl
  have hSin : ∀ j, j < cnt b → sector (Disk.settle (W (2 + cnt a + 1) b (cnt b)) D1) ((2 + cnt a + 1 + 1 + j : Nat) : Int) = chunk (pad b) j := fun j hj => by
    rw [sector_settle hWf (by omega) (by omega), latest_W b hj]
    rfl
  by_cases f1 : F ≤ cnt b
  · rw [hfuse _ (if_pos f1), Option.bind_some]
    dsimp only
    have hfit := (fit_W (p := 2 + cnt a + 1) b hD f1 (by omega : 2 + cnt a + 1 + 1 + F ≤ 30))
    have hfar : ∀ x : Nat, x < 30 → x ≤ 2 + cnt a + 1 → sector (crashed keep tn (min (max pt 0) 64) 0 (W (2 + cnt a + 1) b F) D1) (x : Int) = sector D1 (x : Int) := fun x hx hx2 => crashed_far hfit.at_ (fun p hp => by
      obtain ⟨t, ht, rfl⟩ := List.mem_map.1 hp
      dsimp only
      omega)
    have hsc := scans_one a ha hab (hfit.crashed keep tn (min (max pt 0) 64) 0) ((hfar 2 (by decide) (by omega)).trans hat) (fun j hj => (hfar _ (by omega) (by omega)).trans (hin j hj)) ((hfar _ (by omega) (Nat.le_refl _)).trans (hout _ (Nat.le_refl _) (by omega))) M (by omega)
    have hsc2 : region_Scan.f (M + 3) (Disk.crash (Dead D1 (W (2 + cnt a + 1) b F)) keep tn pt) 2 30 5 = _ := hsc
    rw [hsc2, Option.bind_some]
    exact if_pos ⟨rfl, by show (W _ b F).length < _; rw [W_length]; omega, b0, b1, .inr ⟨rfl, by decide, hrno, hraa⟩⟩
  by_cases f2 : F = cnt b + 1
  · rw [hfuse _ ((if_neg f1).trans (if_pos f2)), Option.bind_some]
    dsimp only
    have hsc := scans_one a ha hab hWf.settled ((hSx 2 (by decide) (.inl (by omega))).trans hat) (fun j hj => (hSx _ (by omega) (.inl (by omega))).trans (hin j hj)) ((hSx _ (by omega) (.inl (Nat.le_refl _))).trans (hout _ (Nat.le_refl _) (by omega))) M (by omega)
    have hsc2 : region_Scan.f (M + 3) (Disk.crash (Dead (Disk.settle (W (2 + cnt a + 1) b (cnt b)) D1) []) keep tn pt) 2 30 5 = _ := hsc
    rw [hsc2, Option.bind_some]
    exact if_pos ⟨rfl, by show 0 < 1000000; decide, b0, b1, .inr ⟨rfl, by decide, hrno, hraa⟩⟩
  by_cases f3 : F = cnt b + 2
  · rw [hfuse _ ((if_neg f1).trans ((if_neg f2).trans (if_pos f3))), Option.bind_some]
    dsimp only
    have hE := hWf.settled
    have hzn : sector (Disk.settle (W (2 + cnt a + 1) b (cnt b)) D1) ((2 + cnt a + 1 : Nat) : Int) = List.replicate 64 0 := (hSx _ (by omega) (.inl (Nat.le_refl _))).trans (hout _ (Nat.le_refl _) (by omega))
    obtain ⟨q, hq⟩ := crash_head (E := Disk.settle (W (2 + cnt a + 1) b (cnt b)) D1) (x := hd 5 b) (n := 2 + cnt a + 1) keep tn (min (max pt 0) 64) (by rw [hd_length]; decide) (by rw [hE.lasts]; omega) hzn
    have hp1 := fit_one (p := 2 + cnt a + 1) (hd 5 b) (by rw [hd_length]; decide) hE (by omega)
    have hfar : ∀ x : Nat, x ≠ 2 + cnt a + 1 → sector (crashed keep tn (min (max pt 0) 64) 0 [(((2 + cnt a + 1 : Nat) : Int), fill (hd 5 b))] (Disk.settle (W (2 + cnt a + 1) b (cnt b)) D1)) (x : Int) = sector (Disk.settle (W (2 + cnt a + 1) b (cnt b)) D1) (x : Int) := fun x hx => crashed_far hp1.at_ (fun p hp => by
      obtain rfl := List.mem_singleton.1 hp
      dsimp only
      omega)
    obtain ⟨l, y, hsc, hl⟩ := scans a b ha hb hab hbb (hp1.crashed keep tn (min (max pt 0) 64) 0) ((hfar 2 (by omega)).trans ((hSx 2 (by decide) (.inl (by omega))).trans hat)) (fun j hj => (hfar _ (by omega)).trans ((hSx _ (by omega) (.inl (by omega))).trans (hin j hj))) q hq (fun j hj => (hfar _ (by omega)).trans (hSin j hj)) ((hfar _ (by omega)).trans ((hSx _ (by omega) (.inr (by omega))).trans (hout _ (by omega) (by omega)))) M (by omega)
    have hsc2 : region_Scan.f (M + 3) (Disk.crash (Dead (Disk.settle (W (2 + cnt a + 1) b (cnt b)) D1) [(((2 + cnt a + 1 : Nat) : Int), fill (hd 5 b))]) keep tn pt) 2 30 5 = _ := hsc
    rw [hsc2, Option.bind_some]
    rcases hl with rfl | rfl
    · exact if_pos ⟨rfl, by show 1 < 1000000; decide, b0, b1, .inr ⟨rfl, by decide, hrno, hraa⟩⟩
    · exact if_pos ⟨rfl, by show 1 < 1000000; decide, b0, b1, .inl ⟨rfl, hrab⟩⟩
  · rw [hfuse _ ((if_neg f1).trans ((if_neg f2).trans (if_neg f3))), Option.bind_some]
    dsimp only
    have hD2 := fit_laid (p := 2 + cnt a + 1) 5 b hD (by omega)
    have hlo : ∀ x : Nat, x < 30 → x < 2 + cnt a + 1 ∨ 2 + cnt a + 1 + cnt b + 1 ≤ x → sector (laid (2 + cnt a + 1) 5 b D1) (x : Int) = sector D1 (x : Int) := fun x hx ho => laid_out 5 b hD (by omega) hx ho
    obtain ⟨l, y, hsc, hl⟩ := scans a b ha hb hab hbb hD2 ((hlo 2 (by decide) (.inl (by omega))).trans hat) (fun j hj => (hlo _ (by omega) (.inl (by omega))).trans (hin j hj)) 64 ((laid_at 5 b hD (by omega)).trans (by rw [List.take_of_length_le (by rw [hd_length]; decide)])) (fun j hj => laid_in 5 b hD (by omega) hj) ((hlo _ (by omega) (.inr (Nat.le_refl _))).trans (hout _ (by omega) (by omega))) M (by omega)
    have hyes2 := one_at (one_yes (p := 2 + cnt a + 1) (e := 30) hD2 (by decide) 5 b (by decide) (by decide) hbb (by omega) (laid_at 5 b hD (by omega)) (fun j hj => laid_in 5 b hD (by omega) hj) (by omega) (by omega) (by decide) 5000 (by omega)) (k := M + 1) (by omega)
    have hy1 := one_at (one_yes (p := 2) (e := 30) hD2 (by decide) 5 a (by decide) (by decide) hab (by omega) ((hlo 2 (by decide) (.inl (by omega))).trans hat) (fun j hj => (hlo _ (by omega) (.inl (by omega))).trans (hin j hj)) (by omega) (by omega) (by decide) 5000 (by omega)) (k := M + 2) (by omega)
    have hs1 := scan_more (p := 2) a (by decide) (by omega) hy1 [] (by decide)
    have hs2 := scan_more (p := 2 + cnt a + 1) b (by omega) (by omega) hyes2 ([] ++ [a]) (by simp)
    have hs3 := scan_none (one_zero (p := 2 + cnt a + 1 + cnt b + 1) (e := 30) hD2 (by omega) (by omega) 5 (by decide) (by decide) ((hlo _ (by omega) (.inr (Nat.le_refl _))).trans (hout _ (by omega) (by omega))) (M - 1) (by omega)) ([] ++ [a] ++ [b])
    rw [show M - 1 + 1 + 1 = M + 1 by omega] at hs3
    have hsc2 : region_Scan.f (M + 3) (Disk.crash (Ar (laid (2 + cnt a + 1) 5 b D1) [] (F - cnt b - 3)) keep tn pt) 2 30 5 = _ := (hs1.trans hs2).trans hs3
    rw [hsc2, Option.bind_some]
    exact if_pos ⟨rfl, by show 0 < 1000000; decide, b0, b1, .inl ⟨rfl, hrab⟩⟩
end Go.Proofs.Ytjaibpphlbddoaa.Pure
