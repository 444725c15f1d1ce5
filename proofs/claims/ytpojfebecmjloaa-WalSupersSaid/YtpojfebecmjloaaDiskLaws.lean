/- What writes, flushes and crashes leave on a disk of sectors; plain lists. No program in sight. -/
import Derived.Test.YtpojfebecmjloaaDisk
namespace Go.Proofs.Ytpojfebecmjloaa.Disk
set_option linter.unusedVariables false
set_option linter.unusedSimpArgs false
/-- n sectors, and loose writes that are within them. -/
structure Fit (n : Nat) (l : List Int) (r : List (Int × List Int)) : Prop where
  lasts : l.length = n * 64
  loose : ∀ p ∈ r, 0 ≤ p.1 ∧ p.1 < (n : Int) ∧ p.2.length = 64
theorem Fit.at_ {n : Nat} {l : List Int} {r : List (Int × List Int)} (h : Fit n l r) : ∀ p ∈ r, p.1.toNat * 64 + 64 ≤ l.length ∧ p.2.length = 64 := fun p hp => by
  obtain ⟨h0, h1, h2⟩ := h.loose p hp
  refine ⟨?_, h2⟩
  rw [h.lasts]
  have : p.1.toNat + 1 ≤ n := by omega
  calc p.1.toNat * 64 + 64 = (p.1.toNat + 1) * 64 := by omega
    _ ≤ n * 64 := Nat.mul_le_mul_right _ this
theorem fit_new {n : Nat} (h : n ≤ 1024) : Fit n (new n).lasts (new n).loose := ⟨by unfold new; rw [List.length_replicate]; congr 1; omega, fun p hp => by cases hp⟩
theorem Fit.len {n : Nat} {s : DiskM} (h : Fit n s.lasts s.loose) : len s = n := by
  unfold Disk.len
  rw [h.lasts, Nat.mul_div_cancel n (by decide : 0 < 64)]
theorem Fit.there {n : Nat} {s : DiskM} (h : Fit n s.lasts s.loose) {a : Int} (h0 : 0 ≤ a) (h1 : a < n) : there s a = true := by
  unfold Disk.there
  rw [h.len, decide_eq_true h0, decide_eq_true h1]
  rfl
theorem Fit.push {n : Nat} {l : List Int} {r : List (Int × List Int)} (h : Fit n l r) {a : Int} {b : List Int} (h0 : 0 ≤ a) (h1 : a < n) (hb : b.length = 64) : Fit n l (r ++ [(a, b)]) :=
  ⟨h.lasts, fun p hp => by
    rcases List.mem_append.1 hp with hp | hp
    · exact h.loose p hp
    · obtain rfl := List.mem_singleton.1 hp
      exact ⟨h0, h1, hb⟩⟩
theorem settle_fit {r : List (Int × List Int)} {l : List Int} (h : ∀ p ∈ r, p.1.toNat * 64 + 64 ≤ l.length ∧ p.2.length = 64) : (settle r l).length = l.length := by
  induction r generalizing l with
  | nil => rfl
  | cons p r ih =>
    obtain ⟨h1, h2⟩ := h p List.mem_cons_self
    have h3 := put_length (l := l) (b := p.2) (off := p.1.toNat * 64) (by omega)
    unfold settle
    rw [ih (fun q hq => by rw [h3]; exact h q (List.mem_cons_of_mem _ hq)), h3]
theorem Fit.settled {n : Nat} {l : List Int} {r : List (Int × List Int)} (h : Fit n l r) : Fit n (settle r l) [] := ⟨by rw [settle_fit h.at_, h.lasts], fun p hp => by cases hp⟩
theorem Fit.crashed {n : Nat} {l : List Int} {r : List (Int × List Int)} (h : Fit n l r) (keep torn part : Int) (k : Nat) : Fit n (crashed keep torn part k r l) [] := ⟨by rw [crashed_length h.at_, h.lasts], fun p hp => by cases hp⟩
/-- A write where a sector is. -/
theorem write_here {n : Nat} {s : DiskM} (h : Fit n s.lasts s.loose) {a : Int} {b : List Int} (h0 : 0 ≤ a) (h1 : a < n) (hb : b.length ≤ 64) :
    write s a b = if (burn s).down = true then (4, burn s) else (0, { burn s with loose := s.loose ++ [(a, fill b)] }) := by
  unfold write
  rw [if_neg (by rw [h.there h0 h1]; simp; omega)]
/-- A disk whose power stays. -/
def Up (n : Nat) (l : List Int) (r : List (Int × List Int)) : DiskM := ⟨l, r, -1, false⟩
theorem burn_up (n : Nat) (l : List Int) (r : List (Int × List Int)) : burn (Up n l r) = Up n l r := rfl
theorem new_up (n : Nat) : new n = Up n (new n).lasts [] := rfl
theorem write_up {n : Nat} {l : List Int} {r : List (Int × List Int)} (h : Fit n l r) {a : Int} {b : List Int} (h0 : 0 ≤ a) (h1 : a < n) (hb : b.length ≤ 64) : write (Up n l r) a b = (0, Up n l (r ++ [(a, fill b)])) := by
  rw [write_here (s := Up n l r) h h0 h1 hb]
  rfl
theorem flush_up (n : Nat) (l : List Int) (r : List (Int × List Int)) : flush (Up n l r) = (0, Up n (settle r l) []) := rfl
theorem crash_up (n : Nat) (s : DiskM) (keep torn at_ : Int) : crash s keep torn at_ = Up n (crashed keep torn (min (max at_ 0) 64) 0 s.loose s.lasts) [] := rfl
theorem crash_of_up (n : Nat) (l : List Int) (r : List (Int × List Int)) (keep torn at_ : Int) : crash (Up n l r) keep torn at_ = Up n (crashed keep torn (min (max at_ 0) 64) 0 r l) [] := rfl
/-! ### Sectors -/
theorem sector_put {l b : List Int} {a : Int} (h : a.toNat * 64 + 64 ≤ l.length) (hb : b.length = 64) : sector (put l (a.toNat * 64) b) a = b := by
  unfold sector put
  have hl : (l.take (a.toNat * 64)).length = a.toNat * 64 := by rw [List.length_take]; omega
  rw [List.append_assoc, List.drop_append, List.drop_of_length_le (by omega), hl, Nat.sub_self, List.drop_zero, List.nil_append, List.take_append, List.take_of_length_le (by omega), hb, Nat.sub_self, List.take_zero, List.append_nil]
/-- What is put behind it, or ahead of it, leaves a sector as it is. -/
theorem sector_far {l b : List Int} {c off : Nat} {a : Int} (hoff : off = c * 64) (h : off + b.length ≤ l.length) (hb : b.length ≤ 64) (hne : a.toNat ≠ c) : sector (put l off b) a = sector l a := by
  subst hoff
  apply List.ext_getElem?
  intro j
  unfold sector put
  rw [List.getElem?_take, List.getElem?_take]
  split
  · rw [List.getElem?_drop, List.getElem?_drop]
    have hl : (l.take (c * 64)).length = c * 64 := by rw [List.length_take]; omega
    by_cases hlt : a.toNat < c
    · have h1 : a.toNat * 64 + j < c * 64 := by
        have : a.toNat + 1 ≤ c := hlt
        calc a.toNat * 64 + j < (a.toNat + 1) * 64 := by omega
          _ ≤ c * 64 := Nat.mul_le_mul_right _ this
      rw [List.append_assoc, List.getElem?_append_left (by omega), List.getElem?_take, if_pos h1]
    · have h1 : c * 64 + 64 ≤ a.toNat * 64 + j := by
        have : c + 1 ≤ a.toNat := by omega
        calc c * 64 + 64 = (c + 1) * 64 := by omega
          _ ≤ a.toNat * 64 := Nat.mul_le_mul_right _ this
          _ ≤ _ := by omega
      rw [List.getElem?_append_right (by rw [List.length_append]; omega), List.length_append, hl, List.getElem?_drop]
      congr 1
      omega
  · rfl
theorem crashOne_far {keep torn part : Int} {n : Nat} {p : Int × List Int} {l : List Int} {a : Int} (h : p.1.toNat * 64 + 64 ≤ l.length ∧ p.2.length = 64) (hne : a.toNat ≠ p.1.toNat) : sector (crashOne keep torn part n p l) a = sector l a := by
  unfold crashOne
  split
  · exact sector_far rfl (by rw [List.length_take]; omega) (by rw [List.length_take]; omega) hne
  · split
    · exact sector_far rfl (by omega) (by omega) hne
    · rfl
theorem crashed_far {keep torn part : Int} {r : List (Int × List Int)} {n : Nat} {l : List Int} {a : Int} (h : ∀ p ∈ r, p.1.toNat * 64 + 64 ≤ l.length ∧ p.2.length = 64) (hne : ∀ p ∈ r, a.toNat ≠ p.1.toNat) : sector (crashed keep torn part n r l) a = sector l a := by
  induction r generalizing n l with
  | nil => rfl
  | cons p r ih =>
    have h3 := crashOne_length (keep := keep) (torn := torn) (part := part) (n := n) (h p List.mem_cons_self)
    unfold crashed
    rw [ih (fun q hq => by rw [h3]; exact h q (List.mem_cons_of_mem _ hq)) (fun q hq => hne q (List.mem_cons_of_mem _ hq)), crashOne_far (h p List.mem_cons_self) (hne p List.mem_cons_self)]
theorem sector_new (n : Nat) (hn : n ≤ 1024) (a : Int) (h1 : a.toNat < n) : sector (new n).lasts a = List.replicate 64 0 := by
  unfold new sector
  rw [List.drop_replicate, List.take_replicate]
  congr 1
  have : a.toNat + 1 ≤ n := h1
  have h2 : (a.toNat + 1) * 64 ≤ n * 64 := Nat.mul_le_mul_right _ this
  have h3 : (min (max (n : Int) 0) 1024).toNat = n := by omega
  rw [h3]
  omega
theorem fill_take (b : List Int) (h : b.length ≤ 64) : b.take 64 ++ List.replicate (64 - b.length) 0 = fill b := by
  unfold fill
  rw [List.take_of_length_le h]
/-- What lasts behind a flush is what was read ahead of it. -/
theorem sector_settle {n : Nat} {r : List (Int × List Int)} {l : List Int} (h : Fit n l r) {a : Int} (h0 : 0 ≤ a) (h1 : a < n) : sector (settle r l) a = (latest r a).getD (sector l a) := by
  induction r generalizing l with
  | nil => rfl
  | cons p r ih =>
    obtain ⟨p1, p2, p3⟩ := h.loose p List.mem_cons_self
    have ha := h.at_ p List.mem_cons_self
    have hf : Fit n (put l (p.1.toNat * 64) p.2) r := ⟨by rw [put_length (by omega), h.lasts], fun q hq => h.loose q (List.mem_cons_of_mem _ hq)⟩
    unfold settle
    have hlat : latest (p :: r) a = match latest r a with
      | some b => some b
      | none => if p.1 = a then some p.2 else none := rfl
    rw [ih hf, hlat]
    cases latest r a with
    | some b => rfl
    | none =>
      dsimp only
      by_cases e : p.1 = a
      · rw [if_pos e, Option.getD_none, Option.getD_some, ← e]
        exact sector_put ha.1 p3
      · rw [if_neg e, Option.getD_none, Option.getD_none]
        exact sector_far rfl (by omega) (by omega) (by omega)
end Go.Proofs.Ytpojfebecmjloaa.Disk
