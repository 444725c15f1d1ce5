/- A disk of sectors as numbers and lists. No program in sight. -/
import Derived.Test.YtjdebhkdbdbepaaOpq
namespace Go.Proofs.Ytjdebhkdbdbepaa.Disk
set_option linter.unusedVariables false
set_option linter.unusedSimpArgs false
/-- lasts: all sectors' bytes, one behind the other (64 each); loose: what may not last. -/
structure DiskM where
  lasts : List Int
  loose : List (Int × List Int)
  fuse : Int
  down : Bool
def len (s : DiskM) : Int := ((s.lasts.length / 64 : Nat) : Int)
def sector (l : List Int) (at_ : Int) : List Int := (l.drop (at_.toNat * 64)).take 64
def put (l : List Int) (off : Nat) (b : List Int) : List Int := l.take off ++ b ++ l.drop (off + b.length)
/-- bytes, filled up to a sector. -/
def fill (b : List Int) : List Int := b ++ List.replicate (64 - b.length) 0
def new (n : Int) : DiskM := ⟨List.replicate ((min (max n 0) 1024).toNat * 64) 0, [], -1, false⟩
def burn (s : DiskM) : DiskM := { s with down := s.down || decide (s.fuse = 0), fuse := if s.fuse > 0 then RowKit.wrap64 (s.fuse - 1) else s.fuse }
def there (s : DiskM) (at_ : Int) : Bool := decide (0 ≤ at_) && decide (at_ < len s)
def write (s : DiskM) (at_ : Int) (b : List Int) : Int × DiskM :=
  if there s at_ = false ∨ b.length > 64 then (1, s)
  else if (burn s).down = true then (4, burn s)
  else (0, { burn s with loose := s.loose ++ [(at_, fill b)] })
def latest : List (Int × List Int) → Int → Option (List Int)
  | [], _ => none
  | p :: r, at_ => match latest r at_ with
    | some b => some b
    | none => if p.1 = at_ then some p.2 else none
def read (s : DiskM) (at_ : Int) : List Int := (latest s.loose at_).getD (sector s.lasts at_)
/-- What holds of every disk. -/
structure Ok (s : DiskM) : Prop where
  size : ∃ n, n ≤ 1024 ∧ s.lasts.length = n * 64
  loose : ∀ p ∈ s.loose, 0 ≤ p.1 ∧ p.1 < len s ∧ p.2.length = 64
/-- How they lie in memory. -/
def bytes (l : List Int) : List Value := l.map (Value.int .u8)
def flat (l : List (Int × List Int)) : List Value := l.flatMap (fun p => Value.int .i64 p.1 :: bytes p.2)
end Go.Proofs.Ytjdebhkdbdbepaa.Disk
