/- A disk of sectors as numbers and lists. No program in sight. -/
import Derived.Test.YtjdebhkdbdbepaaOpq
namespace Go.Proofs.Ytjdebhkdbdbepaa.Disk
set_option linter.unusedVariables false
set_option linter.unusedSimpArgs false
/-- lasts: all sectors' bytes, one behind the other (64 each); loose: what may not last. -/
structure DiskM where
  lasts : List Int
  loose : List (Int × List Int)
  fuse : Int
  down : Bool
def len (s : DiskM) : Int := ((s.lasts.length / 64 : Nat) : Int)
def sector (l : List Int) (at_ : Int) : List Int := (l.drop (at_.toNat * 64)).take 64
def put (l : List Int) (off : Nat) (b : List Int) : List Int := l.take off ++ b ++ l.drop (off + b.length)
/-- bytes, filled up to a sector. -/
def fill (b : List Int) : List Int := b ++ List.replicate (64 - b.length) 0
def new (n : Int) : DiskM := ⟨List.replicate ((min (max n 0) 1024).toNat * 64) 0, [], -1, false⟩
def burn (s : DiskM) : DiskM := { s with down := s.down || decide (s.fuse = 0), fuse := if s.fuse > 0 then RowKit.wrap64 (s.fuse - 1) else s.fuse }
def there (s : DiskM) (at_ : Int) : Bool := decide (0 ≤ at_) && decide (at_ < len s)
def write (s : DiskM) (at_ : Int) (b : List Int) : Int × DiskM :=
  if there s at_ = false ∨ b.length > 64 then (1, s)
  else if (burn s).down = true then (4, burn s)
  else (0, { burn s with loose := s.loose ++ [(at_, fill b)] })
def settle : List (Int × List Int) → List Int → List Int
  | [], l => l
  | p :: r, l => settle r (put l (p.1.toNat * 64) p.2)
def flush (s : DiskM) : Int × DiskM :=
  if (burn s).down = true then (4, burn s) else (0, { burn s with lasts := settle s.loose s.lasts, loose := [] })
def latest : List (Int × List Int) → Int → Option (List Int)
  | [], _ => none
  | p :: r, at_ => match latest r at_ with
    | some b => some b
    | none => if p.1 = at_ then some p.2 else none
def read (s : DiskM) (at_ : Int) : List Int := (latest s.loose at_).getD (sector s.lasts at_)
/-- What a crash makes of one loose write, number n. -/
def crashOne (keep torn part : Int) (n : Nat) (p : Int × List Int) (l : List Int) : List Int :=
  if (n : Int) = torn then put l (p.1.toNat * 64) (p.2.take part.toNat)
  else if (bits BinOp.and IntKind.u64 (keep / 2 ^ (n % 64)) 1 == 1) = true then put l (p.1.toNat * 64) p.2 else l
/-- What a crash leaves: number n on. -/
def crashed (keep torn part : Int) : Nat → List (Int × List Int) → List Int → List Int
  | _, [], l => l
  | n, p :: r, l => crashed keep torn part (n + 1) r (crashOne keep torn part n p l)
def crash (s : DiskM) (keep torn at_ : Int) : DiskM := ⟨crashed keep torn (min (max at_ 0) 64) 0 s.loose s.lasts, [], -1, false⟩
/-- What holds of every disk. -/
structure Ok (s : DiskM) : Prop where
  size : ∃ n, n ≤ 1024 ∧ s.lasts.length = n * 64
  loose : ∀ p ∈ s.loose, 0 ≤ p.1 ∧ p.1 < len s ∧ p.2.length = 64
/-- How they lie in memory. -/
def bytes (l : List Int) : List Value := l.map (Value.int .u8)
def flat (l : List (Int × List Int)) : List Value := l.flatMap (fun p => Value.int .i64 p.1 :: bytes p.2)
theorem bytes_length (l : List Int) : (bytes l).length = l.length := by simp [bytes]
theorem flat_length {l : List (Int × List Int)} (h : ∀ p ∈ l, p.2.length = 64) : (flat l).length = l.length * 65 := by
  induction l with
  | nil => rfl
  | cons p r ih =>
    have := h p List.mem_cons_self
    have h2 := ih (fun q hq => h q (List.mem_cons_of_mem _ hq))
    unfold flat at h2 ⊢
    rw [List.flatMap_cons, List.length_append, h2, List.length_cons, List.length_cons, bytes_length, this]
    omega
theorem flat_append (l m : List (Int × List Int)) : flat (l ++ m) = flat l ++ flat m := by simp [flat]
theorem fill_length {b : List Int} (h : b.length ≤ 64) : (fill b).length = 64 := by simp [fill]; omega
theorem burn_ok {s : DiskM} (h : Ok s) : Ok (burn s) := ⟨h.size, h.loose⟩
theorem len_le {s : DiskM} (h : Ok s) : 0 ≤ len s ∧ len s ≤ 1024 ∧ s.lasts.length = (len s).toNat * 64 := by
  obtain ⟨n, hn, hl⟩ := h.size
  unfold len
  rw [hl, Nat.mul_div_cancel n (by decide : 0 < 64)]
  omega
theorem there_in {s : DiskM} (h : Ok s) {at_ : Int} (ht : there s at_ = true) : 0 ≤ at_ ∧ at_ < ((s.lasts.length / 64 : Nat) : Int) ∧ at_.toNat * 64 + 64 ≤ s.lasts.length := by
  unfold there at ht
  simp only [Bool.and_eq_true, decide_eq_true_eq] at ht
  obtain ⟨h1, h2⟩ := ht
  obtain ⟨n, _, hl⟩ := h.size
  have h3 : len s = n := by unfold len; rw [hl, Nat.mul_div_cancel n (by decide : 0 < 64)]
  refine ⟨h1, h2, ?_⟩
  rw [hl]
  have : at_.toNat + 1 ≤ n := by omega
  calc at_.toNat * 64 + 64 = (at_.toNat + 1) * 64 := by omega
    _ ≤ n * 64 := Nat.mul_le_mul_right _ this
theorem sector_length {l : List Int} {at_ : Int} (h : at_.toNat * 64 + 64 ≤ l.length) : (sector l at_).length = 64 := by
  unfold sector
  rw [List.length_take, List.length_drop]
  omega
theorem sector_get {l : List Int} {at_ : Int} (h : at_.toNat * 64 + 64 ≤ l.length) (j : Nat) (hj : j < 64) : (sector l at_).getD j 0 = l.getD (at_.toNat * 64 + j) 0 := by
  unfold sector
  rw [List.getD_eq_getElem?_getD, List.getD_eq_getElem?_getD, List.getElem?_take, if_pos hj, List.getElem?_drop]
theorem bytes_get {l : List Int} {j : Nat} (h : j < l.length) : (bytes l)[j]? = some (.int .u8 (l.getD j 0)) := by
  unfold bytes
  rw [List.getElem?_map, List.getElem?_eq_getElem h, List.getD_eq_getElem?_getD, List.getElem?_eq_getElem h]
  rfl
theorem latest_none {l : List (Int × List Int)} {at_ : Int} (h : ∀ p ∈ l, p.1 ≠ at_) : latest l at_ = none := by
  induction l with
  | nil => rfl
  | cons p r ih =>
    unfold latest
    rw [ih (fun q hq => h q (List.mem_cons_of_mem _ hq))]
    dsimp only
    rw [if_neg (h p List.mem_cons_self)]
theorem latest_at {l : List (Int × List Int)} {at_ : Int} {k : Nat} (hk : k < l.length) (he : (l[k]).1 = at_) (h : ∀ p ∈ l.drop (k + 1), p.1 ≠ at_) : latest l at_ = some (l[k]).2 := by
  induction l generalizing k with
  | nil => simp at hk
  | cons p r ih =>
    unfold latest
    cases k with
    | zero =>
      rw [latest_none (by simpa using h)]
      dsimp only
      rw [if_pos (by simpa using he)]
      rfl
    | succ k =>
      have h2 : k < r.length := by simpa using hk
      rw [ih h2 (by simpa using he) (by simpa using h)]
      simp
theorem put_length {l b : List Int} {off : Nat} (h : off + b.length ≤ l.length) : (put l off b).length = l.length := by
  unfold put
  simp
  omega
theorem crashOne_length {keep torn part : Int} {n : Nat} {p : Int × List Int} {l : List Int} (h : p.1.toNat * 64 + 64 ≤ l.length ∧ p.2.length = 64) : (crashOne keep torn part n p l).length = l.length := by
  unfold crashOne
  split
  · exact put_length (by rw [List.length_take]; omega)
  · split
    · exact put_length (by omega)
    · rfl
theorem crashed_length {keep torn part : Int} {r : List (Int × List Int)} {n : Nat} {l : List Int} (h : ∀ p ∈ r, p.1.toNat * 64 + 64 ≤ l.length ∧ p.2.length = 64) : (crashed keep torn part n r l).length = l.length := by
  induction r generalizing n l with
  | nil => rfl
  | cons p r ih =>
    have h3 := crashOne_length (keep := keep) (torn := torn) (part := part) (n := n) (h p List.mem_cons_self)
    unfold crashed
    rw [ih (fun q hq => by rw [h3]; exact h q (List.mem_cons_of_mem _ hq)), h3]
theorem crashed_snoc (keep torn part : Int) (r : List (Int × List Int)) (p : Int × List Int) (n : Nat) (l : List Int) : crashed keep torn part n (r ++ [p]) l = crashOne keep torn part (n + r.length) p (crashed keep torn part n r l) := by
  induction r generalizing n l with
  | nil => rfl
  | cons q r ih =>
    show crashed keep torn part (n + 1) (r ++ [p]) _ = _
    rw [ih, List.length_cons, show n + 1 + r.length = n + (r.length + 1) by omega]
    rfl
end Go.Proofs.Ytjdebhkdbdbepaa.Disk
