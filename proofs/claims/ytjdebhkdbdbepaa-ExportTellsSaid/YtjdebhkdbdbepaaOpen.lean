/- Arguments of any kind, opened: from the row's reading of a value as data to what the printed functions take (kinds, 'Kd'). No program in sight. -/
import Derived.WalkKit
import Derived.ProofKit
import Derived.SizedLaws
import Derived.Deep.Slices
import Derived.Test.YtjdebhkdbdbepaaWWords
import Derived.Test.YtjdebhkdbdbepaaWMore
namespace Go.Proofs.Ytjdebhkdbdbepaa.Open
open Go.ChangeShapes Go.WideShapes Go.RowKit Go.Proofs.YtjdebhkdbdbepaaW.PrintWords
set_option linter.unusedVariables false

/-- A value of type t that reads as data is one of kind k. -/
def Opens (P : Program) (t : TypeId) {α : Type} (k : Kd α) (B : α → Prop) : Prop :=
  ∀ (H : Type) (enc : TypeId × Value → H) (w : World) (base : Nat) (spare : Nat → Bool) (held : Bool) (fuel : Nat) (cs : List Value) (x : DataW H × List MemPlace),
    DataW.trod enc P w base spare held fuel t cs = some x → (∀ n ∈ x.1.weights P t, n ≤ reachBytes) → ∃ a, k.K w a cs ∧ B a
section
variable {P : Program} {t e : TypeId}
theorem Opens.int {kk : IntKind} (ht : P.underlying t = some (.int kk)) : Opens P t (Kd.int kk) (fun x => (Lit.int kk x).wf = true) := by
  intro H enc w base spare held fuel cs x h _
  obtain ⟨n, rfl, _, hw⟩ := DataW.trod_int ht h
  exact ⟨n, rfl, hw⟩
theorem Opens.bool (ht : P.underlying t = some .bool) : Opens P t Kd.bool (fun _ => True) := by
  intro H enc w base spare held fuel cs x h _
  obtain ⟨n, rfl, _⟩ := DataW.trod_bool ht h
  exact ⟨n, rfl, trivial⟩
theorem Opens.string (ht : P.underlying t = some .string) : Opens P t Kd.string (fun s => s.size ≤ 140737488351232) := by
  intro H enc w base spare held fuel cs x h hz
  obtain ⟨s, rfl, rfl, _⟩ := DataW.trod_string ht h
  refine ⟨s, rfl, ?_⟩
  have := hz s.data.toList.length (by simp [DataW.weights])
  simpa [reachBytes] using this
theorem weightsAll_mem {H : Type} {P : Program} {e : TypeId} : ∀ {l : List (DataW H)} {d : DataW H}, d ∈ l → ∀ n ∈ d.weights P e, n ∈ DataW.weightsAll P e l
  | [], _, h, _, _ => by simp at h
  | y :: r, d, h, n, hn => by
    simp only [DataW.weightsAll, List.mem_append]
    rcases List.mem_cons.1 h with rfl | h
    · exact .inl hn
    · exact .inr (weightsAll_mem h n hn)
theorem Opens.slice {α : Type} {k : Kd α} {B : α → Prop} {b : Nat} (ht : P.underlying t = some (.slice e)) (hc : P.cellsOf e = k.sz) (hb : P.bytesOf e = b) (hB : 0 < b) (he : Opens P e k B) :
    Opens P t (Kd.slice e k) (fun xs => xs.length * b ≤ 140737488351232 ∧ ∀ x ∈ xs, B x) := by
  intro H enc w base spare held fuel cs x h hz
  rcases Deep.open_slice ht h with ⟨rfl, _⟩ | ⟨a, len, cap, m, n, D, Pl, rfl, _, hl, hm, hmm, rfl, hx⟩
  · exact ⟨[], ⟨none, 0, rfl, Nat.le_refl _, rfl, by simp, fun h => absurd h (Nat.lt_irrefl 0)⟩, by simp, by simp⟩
  · have hle : len ≤ m := by rw [hmm]; split <;> omega
    simp only [DataW.weights, ht, List.mem_cons, List.mem_append, List.length_map, List.length_range] at hz
    have hsz : len * b ≤ 140737488351232 := by
      have := hz ((len + (m - len)) * P.bytesOf e) (.inl rfl)
      rw [hb] at this
      have h2 : len * b ≤ (len + (m - len)) * b := Nat.mul_le_mul_right _ (by omega)
      unfold reachBytes at this
      omega
    have one : ∀ i, i < len → ∃ y : α, (∃ c, c.length = k.sz ∧ k.K w y c ∧ ∀ j u, c[j]? = some u → w.cell? (a.add (i * k.sz + j)) = some u) ∧ B y := by
      intro i hi
      obtain ⟨c, h1, h2⟩ := hx i (by omega)
      obtain ⟨y, hy, hBy⟩ := he H enc w base spare held n c _ h2 (fun q hq => hz q (.inr (.inl (weightsAll_mem (List.mem_map.2 ⟨i, List.mem_range.2 hi, rfl⟩) q hq))))
      obtain ⟨_, hlen, hcell⟩ := World.cells?_some h1
      refine ⟨y, ⟨c, by rw [hlen, hc], hy, fun j u hu => ?_⟩, hBy⟩
      have hj : j < P.cellsOf e := by rw [← hlen]; exact (List.getElem?_eq_some_iff.1 hu).1
      have := hcell j hj
      rw [hu, Deep.add_add, hc] at this
      exact this
    obtain ⟨F, hF⟩ : ∃ xs : List α, xs.length = len ∧ ∀ j p, xs[j]? = some p → (∃ c, c.length = k.sz ∧ k.K w p c ∧ ∀ i u, c[i]? = some u → w.cell? (a.add (j * k.sz + i)) = some u) ∧ B p := by
      clear hx hz hsz hle hmm hl hm h
      induction len with
      | zero => exact ⟨[], rfl, fun j p h => by simp at h⟩
      | succ len ih =>
        obtain ⟨xs, hlen, hxs⟩ := ih (fun i hi => one i (Nat.lt_succ_of_lt hi))
        obtain ⟨y, hy⟩ := one len (Nat.lt_succ_self _)
        refine ⟨xs ++ [y], by simp [hlen], fun j p hj => ?_⟩
        rcases Nat.lt_or_ge j xs.length with hlt | hge
        · rw [List.getElem?_append_left hlt] at hj
          exact hxs j p hj
        · have hj2 := (List.getElem?_eq_some_iff.1 hj).1
          rw [List.length_append, List.length_singleton] at hj2
          have : j = xs.length := by omega
          subst this
          rw [List.getElem?_append_right (Nat.le_refl _)] at hj
          simp at hj
          subst hj
          rw [hlen]
          exact hy
    obtain ⟨hlen, hF⟩ := hF
    subst hlen
    refine ⟨F, ⟨some a, cap, rfl, hl, rfl, Nat.le_trans hl hm, fun _ => ⟨a, rfl, fun j p hj => (hF j p hj).1⟩⟩, hsz, fun y hy => ?_⟩
    obtain ⟨j, hj⟩ := List.mem_iff_getElem?.1 hy
    exact (hF j y hj).2

/-- Fields from an offset on. -/
def OpensF (P : Program) (fs : List Field) (off : Nat) {α : Type} (k : Kd α) (B : α → Prop) : Prop :=
  ∀ (H : Type) (enc : TypeId × Value → H) (w : World) (base : Nat) (spare : Nat → Bool) (held : Bool) (fuel : Nat) (cs : List Value) (xs : List (DataW H × List MemPlace)),
    cs.length = off + k.sz → xs.length = fs.length →
    (∀ (i : Nat) (f : Field), fs[i]? = some f → DataW.trod enc P w base spare held fuel f.type ((cs.drop f.offset).take (P.cellsOf f.type)) = xs[i]?) →
    (∀ n ∈ DataW.weightsEach P (fs.map (·.type)) (xs.map (·.1)), n ≤ reachBytes) → ∃ a, k.K w a (cs.drop off) ∧ B a
theorem OpensF.one {f : Field} {off : Nat} {α : Type} {k : Kd α} {B : α → Prop} (ho : f.offset = off) (hc : P.cellsOf f.type = k.sz) (h : Opens P f.type k B) : OpensF P [f] off k B := by
  intro H enc w base spare held fuel cs xs hl hxs ht hz
  match xs, hxs with
  | [y], _ =>
    have h0 := ht 0 f rfl
    rw [ho, hc] at h0
    rw [List.take_of_length_le (by rw [List.length_drop]; omega)] at h0
    exact h H enc w base spare held fuel _ y h0 (fun n hn => hz n (by simpa [DataW.weightsEach] using hn))
theorem OpensF.cons {f : Field} {fs : List Field} {off : Nat} {α β : Type} {k : Kd α} {k2 : Kd β} {B : α → Prop} {B2 : β → Prop} (ho : f.offset = off) (hc : P.cellsOf f.type = k.sz) (h : Opens P f.type k B)
    (h2 : OpensF P fs (off + k.sz) k2 B2) : OpensF P (f :: fs) off (Kd.pair k k2) (fun p => B p.1 ∧ B2 p.2) := by
  intro H enc w base spare held fuel cs xs hl hxs ht hz
  match xs, hxs with
  | y :: ys, hys =>
    have h0 := ht 0 f rfl
    rw [ho, hc] at h0
    have hl' : cs.length = off + (k.sz + k2.sz) := hl
    obtain ⟨a, ha, hBa⟩ := h H enc w base spare held fuel _ y h0 (fun n hn => hz n (by simp only [List.map_cons, DataW.weightsEach, List.mem_append]; exact .inl hn))
    obtain ⟨b, hb, hBb⟩ := h2 H enc w base spare held fuel cs ys (by omega) (by simpa using hys) (fun i g hg => by simpa using ht (i + 1) g (by simpa using hg))
      (fun n hn => hz n (by simp only [List.map_cons, DataW.weightsEach, List.mem_append]; exact .inr hn))
    refine ⟨(a, b), ⟨(cs.drop off).take k.sz, cs.drop (off + k.sz), ?_, ha, hb⟩, hBa, hBb⟩
    rw [← List.drop_drop, List.take_append_drop]
theorem Opens.struct {fs : Array Field} {α β : Type} {k : Kd α} {B : α → Prop} (g : β → α) (inv : α → β) (hg : ∀ a, g (inv a) = a) (ht : P.underlying t = some (.struct fs)) (hc : P.cellsOf t = k.sz) (h : OpensF P fs.toList 0 k B) :
    Opens P t (Kd.iso k g) (fun x => B (g x)) := by
  intro H enc w base spare held fuel cs x hx hz
  obtain ⟨xs, n, _, rfl, hl, hxs, hf⟩ := DataW.trod_struct ht hx
  obtain ⟨a, ha, hB⟩ := h H enc w base spare held n cs xs (by rw [hl, hc]; omega) (by simpa using hxs) (fun i f hi => hf i f (by simpa using hi)) (fun m hm => hz m (by simpa [DataW.weights, ht] using hm))
  exact ⟨inv a, by rw [List.drop_zero] at ha; simpa [Kd.iso, hg] using ha, by show B (g (inv a)); rw [hg]; exact hB⟩
theorem Opens.mono {α : Type} {k : Kd α} {B B' : α → Prop} (h : Opens P t k B) (hB : ∀ a, B a → B' a) : Opens P t k B' := by
  intro H enc w base spare held fuel cs x hx hz
  obtain ⟨a, ha, hb⟩ := h H enc w base spare held fuel cs x hx hz
  exact ⟨a, ha, hB a hb⟩
/-- An argument of a row. -/
theorem Opens.arg {α : Type} {k : Kd α} {B : α → Prop} (h : Opens P t k B) {H : Type} {enc : TypeId × Value → H} {w : World} {base : Nat} {spare : Nat → Bool} {held : Bool} {v : Value} {d : DataW H} {ps : List MemPlace}
    {ts : List TypeId} {ds : List (DataW H)} (hsz : (DataW.weightsEach P ts ds).all (· ≤ reachBytes) = true) (j : Nat) (hts : ts[j]? = some t) (hds : ds[j]? = some d)
    (hv : DataW.Trod enc P w base spare held t v d ps) : ∃ a, k.K w a v.cells.toList ∧ B a := by
  obtain ⟨fuel, hf⟩ := hv
  refine h H enc w base spare held fuel _ _ hf (fun n hn => ?_)
  have := List.all_eq_true.1 hsz n (DataW.weights_mem_each hts hds n hn)
  simpa using this
end
end Go.Proofs.Ytjdebhkdbdbepaa.Open
