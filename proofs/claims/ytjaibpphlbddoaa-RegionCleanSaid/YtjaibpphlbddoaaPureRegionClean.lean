/- Sectors that were cleaned have no entries; others stay; the plain part of the proof. Conditions: none. -/
import Derived.Test.YtjaibpphlbddoaaDiskLaws
import Derived.Test.YtjaibpphlbddoaaPRegionCleanx5
namespace Go.Proofs.Ytjaibpphlbddoaa.Pure
open Go.RowKit Go.Proofs.Ytjaibpphlbddoaa.PRegionClean Go.Proofs.YtjaibpphlbddoaaW.PrintWords Go.Proofs.YtjaibpphlbddoaaW.PrintLast Go.Proofs.Ytjaibpphlbddoaa.Disk
set_option linter.unusedVariables false
set_option linter.unusedSimpArgs false
namespace RegionClean_
theorem w64 (i : Int) (h0 : -4611686018427387904 ≤ i) (h : i < 4611686018427387904) : wrap64 i = i := by unfold wrap64; omega
theorem wf_u8 {x : Int} (h : (Lit.int .u8 x).wf = true) : 0 ≤ x ∧ x < 256 := by
  simp [Lit.wf, IntKind.min, IntKind.max, IntKind.signed, IntKind.bits] at h
  omega
theorem Same_l0 (l : List Int) (hl : l.length < 4611686018427387904) (d : Nat) : ∀ (k i : Nat), i + d = l.length → interregnumref01_Same.l0 (k + d + 1) l l (i : Int) = some true := by
  induction d with
  | zero =>
    intro k i hi
    conv => lhs; unfold interregnumref01_Same.l0
    rw [if_neg (by omega)]
  | succ d ih =>
    intro k i hi
    rw [show k + (d + 1) + 1 = (k + d + 1) + 1 by omega]
    conv => lhs; unfold interregnumref01_Same.l0
    rw [if_pos (by omega), if_pos (by omega), if_pos (by omega), if_pos rfl, w64 _ (by omega) (by omega), show (i : Int) + 1 = ((i + 1 : Nat) : Int) by omega]
    exact ih k (i + 1) (by omega)
theorem Same (l : List Int) (k : Nat) (hk : l.length < k) (hl : l.length < 4611686018427387904) : interregnumref01_Same.f k l l = some true := by
  unfold interregnumref01_Same.f
  rw [if_pos rfl]
  have := Same_l0 l hl l.length (k - (l.length + 1)) 0 (by omega)
  rw [show k - (l.length + 1) + l.length + 1 = k by omega] at this
  exact this
theorem answers : interregnumlaw03_answers.f = some true := rfl
/-- the bytes of sector i -/
def byte (i : Nat) : List Int := fill [((i : Int) + 1) % 256]
/-- the first writes -/
def W (n : Nat) : List (Int × List Int) := (List.range n).map fun (i : Nat) => ((i : Int), byte i)
theorem W_succ (n : Nat) : W (n + 1) = W n ++ [((n : Int), byte n)] := by simp [W, List.range_succ]
theorem byte_length (i : Nat) : (byte i).length = 64 := fill_length (by simp)
def Z : List Int := (new ((20 : Nat) : Int)).lasts
theorem fit_W (n : Nat) (h : n ≤ 20) : Fit 20 Z (W n) := ⟨(fit_new (n := 20) (by decide)).lasts, fun p hp => by
  obtain ⟨i, hi, rfl⟩ := List.mem_map.1 hp
  have := List.mem_range.1 hi
  exact ⟨by dsimp only; omega, by dsimp only; omega, byte_length i⟩⟩
/-- sectors from a to b that are cleaned -/
def C (a b : Nat) : List (Int × List Int) := (List.range (b - a)).map fun (i : Nat) => (((a + i : Nat) : Int), fill [])
theorem C_nil (a : Nat) : C a a = [] := by simp [C]
theorem C_succ (a b : Nat) (h : a ≤ b) : C a (b + 1) = C a b ++ [((b : Int), fill [])] := by
  unfold C
  rw [show b + 1 - a = (b - a) + 1 by omega, List.range_succ, List.map_append, List.map_singleton, show a + (b - a) = b by omega]
theorem C_length (a b : Nat) : (C a b).length = b - a := by simp [C]
theorem C_mem {a b : Nat} {p : Int × List Int} (hp : p ∈ C a b) : (a : Int) ≤ p.1 ∧ p.1 < (b : Int) ∧ p.2 = fill [] := by
  obtain ⟨i, hi, rfl⟩ := List.mem_map.1 hp
  have := List.mem_range.1 hi
  exact ⟨by dsimp only; omega, by dsimp only; omega, rfl⟩
theorem latest_in {a b j : Nat} (h1 : a ≤ j) (h2 : j < b) : latest (C a b) j = some (fill []) := by
  have hk : j - a < (C a b).length := by rw [C_length]; omega
  have hg : (C a b)[j - a] = ((j : Int), fill []) := by simp [C]; omega
  rw [latest_at hk (by rw [hg]) (fun p hp => ?_), hg]
  obtain ⟨i, hi⟩ := List.mem_iff_getElem?.1 hp
  rw [List.getElem?_drop] at hi
  obtain ⟨h3, h4⟩ := List.getElem?_eq_some_iff.1 hi
  rw [← h4]
  simp [C]
  omega
theorem latest_out {a b j : Nat} (h : j < a ∨ b ≤ j) : latest (C a b) j = none := latest_none (fun p hp e => by
  obtain ⟨h1, h2, _⟩ := C_mem hp
  omega)
theorem latest_W {j n : Nat} (h : j < n) : latest (W n) j = some (byte j) := by
  have hk : j < (W n).length := by simp [W]; omega
  have hg : (W n)[j] = ((j : Int), byte j) := by simp [W]
  rw [latest_at hk (by rw [hg]) (fun p hp => ?_), hg]
  obtain ⟨i, hi⟩ := List.mem_iff_getElem?.1 hp
  rw [List.getElem?_drop] at hi
  obtain ⟨h3, h4⟩ := List.getElem?_eq_some_iff.1 hi
  rw [← h4]
  simp [W]
  omega
def L : List Int := Disk.settle (W 20) Z
theorem fit_L : Fit 20 L [] := (fit_W 20 (by decide)).settled
theorem sector_L {j : Nat} (h : j < 20) : sector L j = byte j := by
  unfold L
  rw [sector_settle (fit_W 20 (by decide)) (by omega) (by omega), latest_W h]
  rfl
theorem fit_C {a b : Nat} (h : b ≤ 20) : Fit 20 L (C a b) := ⟨fit_L.lasts, fun p hp => by
  obtain ⟨h1, h2, h3⟩ := C_mem hp
  exact ⟨by omega, by omega, by rw [h3]; rfl⟩⟩
theorem not_zero {i : Nat} (h : i < 20) : region_zero.f (byte i) = some false := by
  have : ∀ i : Fin 20, region_zero.f (byte i.val) = some false := by decide +kernel
  exact this ⟨i, h⟩
/-- the cleaning -/
theorem clean (a t : Nat) (d : Nat) : ∀ (k i : Nat), a ≤ i → i + d = max a (min t 20) → (i = a ∨ i ≤ 20) →
    region_Clean.l0 (k + d + 1) (t : Int) (decide (a < i)) (i : Int) (Up 20 L (C a i)) = some (0, Up 20 (Disk.settle (C a (max a (min t 20))) L) []) := by
  induction d with
  | zero =>
    intro k i ha hi _
    unfold region_Clean.l0 sector_Disk_Len.f
    rw [Option.bind_some, show Disk.len (Up 20 L (C a i)) = ((20 : Nat) : Int) by
      unfold Disk.len
      show (((L.length / 64 : Nat)) : Int) = _
      rw [fit_L.lasts]]
    dsimp only
    rw [if_neg (by unfold mn; split <;> omega)]
    by_cases h : a < i
    · rw [decide_eq_true h, if_pos rfl]
      unfold sector_Disk_Flush.f
      rw [if_pos (by show (C a i).length < _; rw [C_length]; omega), Option.bind_some, flush_up, show max a (min t 20) = i by omega]
    · rw [decide_eq_false h, if_neg (by decide), show i = a by omega, show max a (min t 20) = a by omega, C_nil]
      rfl
  | succ d ih =>
    intro k i ha hi h20
    have hi20 : i < 20 := by omega
    rw [show k + (d + 1) + 1 = (k + d + 1) + 1 by omega]
    have hf : Fit 20 L (C a i) := fit_C (by omega)
    conv => lhs; unfold region_Clean.l0
    unfold sector_Disk_Len.f
    rw [Option.bind_some, show Disk.len (Up 20 L (C a i)) = ((20 : Nat) : Int) by
      unfold Disk.len
      show (((L.length / 64 : Nat)) : Int) = _
      rw [fit_L.lasts]]
    dsimp only
    rw [if_pos (by unfold mn; split <;> omega)]
    unfold sector_Disk_Read.f
    rw [if_pos (by show (C a i).length < _; rw [C_length]; omega), if_pos (Fit.there (s := Up 20 L (C a i)) hf (by omega) (by omega)), Option.bind_some]
    dsimp only
    rw [show Disk.read (Up 20 L (C a i)) i = byte i by
      unfold Disk.read
      show (latest (C a i) i).getD (sector L i) = _
      rw [latest_out (.inr (Nat.le_refl _)), Option.getD_none, sector_L hi20], not_zero hi20, Option.bind_some, if_neg (by decide)]
    unfold sector_Disk_Write.f
    rw [if_pos (by show (C a i).length < _; rw [C_length]; omega), write_up hf (by omega) (by omega) (by simp), Option.bind_some]
    dsimp only
    rw [if_pos rfl, w64 _ (by omega) (by omega), show (i : Int) + 1 = ((i + 1 : Nat) : Int) by omega, ← C_succ a i ha]
    have := ih k (i + 1) (by omega) (by omega) (.inr (by omega))
    rw [decide_eq_true (show a < i + 1 by omega)] at this
    exact this
/-- what there is behind it -/
theorem ends (a t : Nat) (D : List Int) (hD : ∀ j : Nat, j < 20 → sector D j = if a ≤ j ∧ j < t then fill [] else byte j) (hl : Fit 20 D []) (d : Nat) : ∀ (k i : Nat), i + d = 20 →
    interregnumlaw03_RegionClean.l1 (400 + k + 2 * d) (a : Int) (t : Int) 0 (i : Int) (Up 20 D []) = some true := by
  induction d with
  | zero =>
    intro k i hi
    rw [show 400 + k + 2 * 0 = (399 + k) + 1 by omega]
    unfold interregnumlaw03_RegionClean.l1
    rw [if_neg (by omega), answers, Option.bind_some, if_pos rfl, if_pos rfl]
    rfl
  | succ d ih =>
    intro k i hi
    rw [show 400 + k + 2 * (d + 1) = (400 + k + 2 * d) + 1 + 1 by omega]
    unfold interregnumlaw03_RegionClean.l1
    rw [if_pos (by omega)]
    unfold sector_Disk_Lasts.f
    rw [if_pos (Fit.there (s := Up 20 D []) hl (by omega) (by omega)), Option.bind_some]
    unfold interregnumref01_Fill.f
    rw [Option.bind_some]
    dsimp only
    rw [w64 _ (by omega) (by omega)]
    rw [fill_take [((i : Int) + 1) % 256] (by simp), show sector (Up 20 D []).lasts i = sector D i from rfl, hD i (by omega)]
    have hw : wrap64 ((i : Int) + 1) = ((i + 1 : Nat) : Int) := by rw [w64 _ (by omega) (by omega)]; omega
    have he : ([] : List Int).take 64 ++ List.replicate (64 - ([] : List Int).length) 0 = fill [] := rfl
    by_cases h1 : a ≤ i
    · rw [if_pos (show (i : Int) ≥ (a : Int) by omega)]
      by_cases h2 : i < t
      · rw [decide_eq_true (show (i : Int) < (t : Int) by omega), if_pos ⟨h1, h2⟩]
        unfold interregnumlaw03_RegionClean.j2
        rw [if_pos rfl]
        unfold interregnumref01_Fill.f
        rw [Option.bind_some, he, Same _ _ (by show 64 < _; omega) (by show 64 < _; decide), Option.bind_some, if_pos rfl, hw]
        exact ih k (i + 1) (by omega)
      · rw [decide_eq_false (show ¬ (i : Int) < (t : Int) by omega), if_neg (show ¬ (a ≤ i ∧ i < t) by omega)]
        unfold interregnumlaw03_RegionClean.j2
        rw [if_neg (by decide), show fill [((i : Int) + 1) % 256] = byte i from rfl, Same _ _ (by rw [byte_length]; omega) (by rw [byte_length]; decide), Option.bind_some, if_pos rfl, hw]
        exact ih k (i + 1) (by omega)
    · rw [if_neg (show ¬ (i : Int) ≥ (a : Int) by omega), if_neg (show ¬ (a ≤ i ∧ i < t) by omega)]
      unfold interregnumlaw03_RegionClean.j2
      rw [if_neg (by decide), show fill [((i : Int) + 1) % 256] = byte i from rfl, Same _ _ (by rw [byte_length]; omega) (by rw [byte_length]; decide), Option.bind_some, if_pos rfl, hw]
      exact ih k (i + 1) (by omega)
/-- the first writes -/
theorem writes (x1 x2 : Int) (d : Nat) : ∀ (k i : Nat), i + d = 20 → interregnumlaw03_RegionClean.l0 (k + d + 1) x1 x2 (i : Int) (Up 20 Z (W i)) = interregnumlaw03_RegionClean.l0 (k + 1) x1 x2 20 (Up 20 Z (W 20)) := by
  induction d with
  | zero =>
    intro k i hi
    rw [show i = 20 by omega]
    rfl
  | succ d ih =>
    intro k i hi
    rw [show k + (d + 1) + 1 = (k + d + 1) + 1 by omega]
    conv => lhs; unfold interregnumlaw03_RegionClean.l0
    rw [if_pos (by omega)]
    unfold sector_Disk_Write.f
    rw [if_pos (by show (W i).length < _; simp [W]; omega), w64 _ (by omega) (by omega), write_up (fit_W i (by omega)) (by omega) (by omega) (by simp), Option.bind_some, show (i : Int) + 1 = ((i + 1 : Nat) : Int) by omega,
      show (Up 20 Z (W i ++ [((i : Int), fill [((i + 1 : Nat) : Int) % 256])])) = Up 20 Z (W (i + 1)) by rw [W_succ]; unfold byte; rw [show ((i + 1 : Nat) : Int) = (i : Int) + 1 by omega]]
    exact ih k (i + 1) (by omega)
end RegionClean_
open RegionClean_ in
theorem RegionClean : interregnumlaw03_RegionClean.Pure := by
  intro l a t _ _ _ ha ht
  have ha := wf_u8 ha
  have ht := wf_u8 ht
  obtain ⟨n, hn⟩ : ∃ n : Nat, n = 500 := ⟨_, rfl⟩
  refine ⟨n + 20 + 1, ?_⟩
  unfold interregnumlaw03_RegionClean.f
  by_cases h : (l.length : Int) > 300
  · rw [if_pos h, answers]
    rfl
  rw [if_neg h]
  unfold sector_New.f
  rw [Option.bind_some]
  have hw := writes a t 20 n 0 (by omega)
  rw [show (W 0) = [] from rfl] at hw
  refine Eq.trans hw ?_
  unfold interregnumlaw03_RegionClean.l0
  rw [if_neg (by decide)]
  unfold sector_Disk_Flush.f
  rw [if_pos (by show (W 20).length < _; decide), Option.bind_some, flush_up]
  obtain ⟨x, hx⟩ := Int.eq_ofNat_of_zero_le (show 0 ≤ a % 24 by omega)
  obtain ⟨y, hy⟩ := Int.eq_ofNat_of_zero_le (show 0 ≤ t % 24 by omega)
  rw [Int.tmod_eq_emod_of_nonneg ha.1, Int.tmod_eq_emod_of_nonneg ht.1, w64 (a % 24) (by omega) (by omega), w64 (t % 24) (by omega) (by omega), hx, hy]
  dsimp only
  unfold region_Clean.f
  rw [show mx (x : Int) 0 = (x : Int) by unfold mx; rw [if_neg (by omega)]]
  have hc := clean x y (max x (min y 20) - x) (n - (max x (min y 20) - x) - 1) x (Nat.le_refl _) (by omega) (.inl rfl)
  rw [decide_eq_false (Nat.lt_irrefl x), C_nil, show n - (max x (min y 20) - x) - 1 + (max x (min y 20) - x) + 1 = n by omega] at hc
  show (region_Clean.l0 n (y : Int) false (x : Int) (Up 20 L [])).bind _ = _
  rw [hc, Option.bind_some]
  dsimp only
  rw [show n = 400 + 60 + 2 * 20 by omega]
  have hlen : max x (min y 20) ≤ 24 := by omega
  have hfit : Fit 20 L (C x (max x (min y 20))) := by
    by_cases hh : x < min y 20
    · exact fit_C (by omega)
    · rw [show max x (min y 20) = x by omega, C_nil]; exact fit_L
  refine ends x y _ (fun j hj => ?_) hfit.settled 20 60 0 (by omega)
  rw [sector_settle hfit (by omega) (by omega), sector_L hj]
  by_cases h1 : x ≤ j ∧ j < y
  · rw [if_pos h1, latest_in h1.1 (by omega)]
    rfl
  · rw [if_neg h1, latest_out (by omega)]
    rfl
end Go.Proofs.Ytjaibpphlbddoaa.Pure
