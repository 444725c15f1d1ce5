-- Lean text by a program of this repo (wip/tools/printx.py), out of Lean's own print of the translation
import Derived.TacticsInMore
import Derived.OrdersIn
import Derived.Shelf.Abstract
import Derived.RangeFuncLeaves
import Derived.RangeFuncCalls
import Derived.RangeFuncBound
import Derived.RangeFuncNested
import Derived.Test.YtjdebhkdbdbepaaOwn
import Derived.Test.YtjdebhkdbdbepaaInts
import Derived.Test.YtjdebhkdbdbepaaMid
import Derived.Test.YtjdebhkdbdbepaaHelp
import Derived.ArgAppend
import Derived.Test.YtjdebhkdbdbepaaPExportGonex0
import Derived.Test.YtjdebhkdbdbepaaPExportGonex3
import Derived.Test.YtjdebhkdbdbepaaPExportGonex5
import Derived.Test.YtjdebhkdbdbepaaPExportGonex6
import Derived.Test.YtjdebhkdbdbepaaPExportGonex7
namespace Go.Proofs.Ytjdebhkdbdbepaa.PExportGone
open Go.RowKit Go.Proofs.YtjdebhkdbdbepaaW.PrintWords Go.Proofs.YtjdebhkdbdbepaaW.PrintLast Go.Proofs.YtjdebhkdbdbepaaW.PrintMore
attribute [local go_sem] max2_int min2_int max_two min_two max_three min_three max_four min_four   -- for this text's walks alone
set_option linter.unusedVariables false
set_option linter.unusedSimpArgs false

/-! ### export_Delta: function 17 -/
-- FN rounds=0 making=1 res=N
-- IMPORT Derived.ArgAppend
-- IMPORT Derived.Test.YtjdebhkdbdbepaaHelp
-- IMPORT Derived.Test.YtjdebhkdbdbepaaMid
-- IMPORT Derived.Test.YtjdebhkdbdbepaaInts
-- IMPORT Derived.Test.YtjdebhkdbdbepaaOwn
-- IMPORT Derived.RangeFuncNested
-- IMPORT Derived.RangeFuncBound
-- IMPORT Derived.RangeFuncCalls
-- IMPORT Derived.RangeFuncLeaves
-- IMPORT Derived.Shelf.Abstract
-- IMPORT Derived.OrdersIn
-- IMPORT Derived.TacticsInMore
open Go.Proofs.Ytjdebhkdbdbepaa.Ints
open Go.Proofs.Ytjdebhkdbdbepaa.Own
open Go.Proofs.Ytjdebhkdbdbepaa.Help
open Go.Proofs.Ytjdebhkdbdbepaa.Mid
/-- Which of two prefixes comes first. -/
def cmpP (a n b m : Int) : Int := if a < b then -1 else if a > b then 1 else if n < m then -1 else if n > m then 1 else 0
theorem find1_f (x0 x1 x2 : Int) (l3 : List S69) (x4 x5 x6 : Int) (l7 : List Int) (l8 : List S73) (b m : Int) : export_find_1.f 5 x0 x1 x2 l3 x4 x5 x6 l7 l8 b m = some (cmpP x0 x1 b m) := by
  have e : ∀ x : Int, (x != x) = false := fun x => by simp
  have c1 : ∀ p q : Int, cmp_Compare_uint32.f p q = some (if p < q then -1 else if p > q then 1 else 0) := by
    intro p q
    unfold cmp_Compare_uint32.f cmp_isNaN_uint32.f
    rw [Option.bind_some, Option.bind_some, e, e, if_neg (by simp), if_neg (by simp)]
    split
    · rfl
    · split <;> rfl
  have c2 : ∀ p q : Int, cmp_Compare_int.f p q = some (if p < q then -1 else if p > q then 1 else 0) := by
    intro p q
    unfold cmp_Compare_int.f cmp_isNaN_int.f
    rw [Option.bind_some, Option.bind_some, e, e, if_neg (by simp), if_neg (by simp)]
    split
    · rfl
    · split <;> rfl
  unfold export_find_1.f prefix_Compare.f cmpP
  rw [c1, Option.bind_some, c2, Option.bind_some]
  split
  · split
    · decide +kernel
    · split <;> decide +kernel
  · split
    · split
      · decide +kernel
      · split <;> decide +kernel
    · split
      · decide +kernel
      · split <;> decide +kernel
/-- The search: from and to; the first of which it isn't told that it is ahead. -/
def bsI (l : List S54) (a n : Int) : Nat → Nat → Nat → Nat
  | 0, i, _ => i
  | f + 1, i, j => if i < j then (if cmpP (rd_T54 l (((i + j) / 2 : Nat) : Int)).f0.f0 (rd_T54 l (((i + j) / 2 : Nat) : Int)).f0.f1 a n < 0 then bsI l a n f ((i + j) / 2 + 1) j else bsI l a n f i ((i + j) / 2)) else i
def bsAt (l : List S54) (a n : Int) : Nat := bsI l a n l.length 0 l.length
def bsHit (l : List S54) (a n : Int) : Bool := decide (bsAt l a n < l.length) && (cmpP (rd_T54 l (bsAt l a n : Int)).f0.f0 (rd_T54 l (bsAt l a n : Int)).f0.f1 a n == 0)
/-- What is left of the search. -/
def BS (l : List S54) (a n : Int) (x y r : Nat) : Prop := ∃ f, y ≤ x + f ∧ bsI l a n f x y = r
theorem BS.low {l : List S54} {a n : Int} {x y r : Nat} (h : BS l a n x y r) (hlt : x < y) (hc : cmpP (rd_T54 l (((x + y) / 2 : Nat) : Int)).f0.f0 (rd_T54 l (((x + y) / 2 : Nat) : Int)).f0.f1 a n < 0) : BS l a n ((x + y) / 2 + 1) y r := by
  obtain ⟨f, hf, h⟩ := h
  obtain ⟨f, rfl⟩ : ∃ g, f = g + 1 := ⟨f - 1, by omega⟩
  unfold bsI at h
  rw [if_pos hlt, if_pos hc] at h
  exact ⟨f, by omega, h⟩
theorem BS.high {l : List S54} {a n : Int} {x y r : Nat} (h : BS l a n x y r) (hlt : x < y) (hc : ¬ cmpP (rd_T54 l (((x + y) / 2 : Nat) : Int)).f0.f0 (rd_T54 l (((x + y) / 2 : Nat) : Int)).f0.f1 a n < 0) : BS l a n x ((x + y) / 2) r := by
  obtain ⟨f, hf, h⟩ := h
  obtain ⟨f, rfl⟩ : ∃ g, f = g + 1 := ⟨f - 1, by omega⟩
  unfold bsI at h
  rw [if_pos hlt, if_neg hc] at h
  exact ⟨f, by omega, h⟩
theorem BS.done {l : List S54} {a n : Int} {x y r : Nat} (h : BS l a n x y r) (hlt : ¬ x < y) : x = r := by
  obtain ⟨f, hf, h⟩ := h
  cases f with
  | zero => exact h
  | succ f =>
    unfold bsI at h
    rw [if_neg hlt] at h
    exact h
def Enters (fid : Nat) : Prop := ∀ (args : Array Value) (w : World), Sem.run Try.prog (callFunc fid args) w = .ok (.enter fid args) w
theorem dyn_ {ops : Array Oper} {Q : Exit → Act → World → Prop} {oi : Oper} {N : Option Tmp} {a : Act} {w : World} {K : Act → World → Prop} {fid : FuncId} {bound caps : Array Value} {t : Operand} {us : Array Operand} {ts : Array TypeId} (hE : Enters fid) (args : Array Value)
    (hw : Region.wanted oi (yielded ops a.tmps) = true) (hN : oi.dst = N) (hop : oi.op = .call { callee := .value t, args := us, argTypes := ts }) (ht : a.eval t = .func (.func fid) bound caps) (hargs : us.map a.eval = args)
    (h : Calls Try.prog fid (bound ++ args ++ caps) w fun e w' => ∃ v, e = .returned v ∧ K (a.put N v) w') : if Region.wanted oi (yielded ops a.tmps) = true then Oper.wp Try.prog oi a w K Q else K (a.put N undef) w := by
  refine call_ fid (bound ++ args ++ caps) hw hN ?_ h
  have he := hE (bound ++ args ++ caps) w
  unfold execOp
  simp [hop, resolve, Deferred.ofValue, invoke, hargs, ht]
  simpa using he
theorem find1_enters : Enters 52 := fun args w => enters_ Try.func52 (by kernel_rfl) rfl args w
theorem find1_calls (t : S54) (B3 : Option Addr) (d3 : Nat) (B7 : Option Addr) (d7 : Nat) (B8 : Option Addr) (d8 : Nat) (a n : Int) (w : World) (g3 : t.f1.f1.length ≤ d3) (k3 : Kd.C k69 w B3 t.f1.f1.length t.f1.f1) (g7 : t.f1.f5.length ≤ d7) (k7 : Kd.C (Kd.int .u32) w B7 t.f1.f5.length t.f1.f5) (g8 : t.f1.f6.length ≤ d8) (k8 : Kd.C k73 w B8 t.f1.f6.length t.f1.f6) :
    Calls Try.prog 52 #[.agg #[.int .u32 t.f0.f0, .int .i64 t.f0.f1, .int .i64 t.f1.f0, .slice B3 t.f1.f1.length d3, .int .u32 t.f1.f2, .int .i64 t.f1.f3, .int .i64 t.f1.f4, .slice B7 t.f1.f5.length d7, .slice B8 t.f1.f6.length d8], .agg #[.int .u32 a, .int .i64 n]] w fun e w' => e = .returned (.int .i64 (cmpP t.f0.f0 t.f0.f1 a n)) ∧ Below w.heap.size w w' :=
  export_find_1.calls 5 t.f0.f0 t.f0.f1 t.f1.f0 B3 d3 t.f1.f1 t.f1.f2 t.f1.f3 t.f1.f4 B7 d7 t.f1.f5 B8 d8 t.f1.f6 a n _ w k3 g3 k7 g7 k8 g8 (find1_f _ _ _ _ _ _ _ _ _ _ _)
def findV (l : List S54) (a n : Int) : S54 × Bool := if bsHit l a n = true then (rd_T54 l (bsAt l a n : Int), true) else (z54, false)
/-- A thing that was told, as its cells lead to it. -/
def ToldC (w : World) (t : S54) (X3 : Option Addr) (y3 : Nat) (X7 : Option Addr) (y7 : Nat) (X8 : Option Addr) (y8 : Nat) : Prop := (t.f1.f1.length ≤ y3 ∧ t.f1.f5.length ≤ y7 ∧ t.f1.f6.length ≤ y8) ∧ Kd.C k69 w X3 t.f1.f1.length t.f1.f1 ∧ Kd.C (Kd.int .u32) w X7 t.f1.f5.length t.f1.f5 ∧ Kd.C k73 w X8 t.f1.f6.length t.f1.f6
theorem ToldC.below {w w1 : World} {t : S54} {X3 : Option Addr} {y3 : Nat} {X7 : Option Addr} {y7 : Nat} {X8 : Option Addr} {y8 : Nat} (h : ToldC w t X3 y3 X7 y7 X8 y8) (hb : Below w.heap.size w w1) : ToldC w1 t X3 y3 X7 y7 X8 y8 := ⟨h.1, Kd.C_below h.2.1 hb, Kd.C_below h.2.2.1 hb, Kd.C_below h.2.2.2 hb⟩
theorem bsHit_lt {l : List S54} {a n : Int} (h : bsHit l a n = true) : bsAt l a n < l.length := by
  unfold bsHit at h
  rw [Bool.and_eq_true] at h
  exact of_decide_eq_true h.1
set_option maxHeartbeats 4000000 in
set_option maxRecDepth 100000 in
theorem bsf_at (A : Option Addr) (c : Nat) (l : List S54) (a n : Int) (w : World) (hr : Kd.C k54 w A l.length l) (hc : l.length ≤ c) (hl : l.length < 100000) :
    Calls Try.prog 51 #[.slice A l.length c, .agg #[.int .u32 a, .int .i64 n], .func (.func 52) #[] #[]] w fun e w' => e = .returned (.tuple #[.int .i64 (bsAt l a n : Int), .bool (bsHit l a n)]) ∧ Below w.heap.size w w' := by
  have hu29 := Try.underlying29
  have hu54 := Try.underlying54
  have HR := Aside0.mk hr
  have HC := Aside0.mk hc
  have HL := Aside0.mk hl
  have HB := Aside0.mk (Below.refl w.heap.size w)
  obtain ⟨r, hrr⟩ : ∃ r, r = bsAt l a n := ⟨_, rfl⟩
  have HQ := Aside0.mk hrr
  clear hr hc hl hrr
  go_enter Try.func51, Try.ntmps51
  go_wp2_with (first | ((with_reducible refine gate_dst (N := 4) rfl ?_); refine box_event ?hg (N := 4) ?hd (cs := #[.int .u32 a, .int .i64 n]) (t := 29) ?hr ?_; (case hd => rfl); (case hg => rfl); (case hr => first | (go_simp; done) | (go_simp; rfl)); intro gp hg w1 hbox hb; have HB1 := Aside0.mk (below_step HB.out hb); have BKP1 := Aside0.mk hbox; have GEP := Aside0.mk (show w.heap.size ≤ gp from by rw [hg]; exact Nat.le_refl _); clear hbox hb hg))
  go_loopg [9, 10] (l.length + 1) (fun kq v9 v10 wr => ∃ x y : Nat, v9 = .int .i64 (x : Int) ∧ v10 = .int .i64 (y : Int) ∧ Aside0 (x ≤ y ∧ y ≤ l.length ∧ y < x + kq ∧ BS l a n x y r) ∧ Aside0 (Below w.heap.size w wr) ∧ Aside0 (wr.heap[gp]? = some (.cells #[.int .u32 a, .int .i64 n] 29 (0, 0))))
  case atStart => exact ⟨0, l.length, rfl, rfl, ⟨Nat.zero_le _, Nat.le_refl _, by omega, l.length, by omega, HQ.out.symm⟩, ⟨HB1.out⟩, ⟨BKP1.out⟩⟩
  case round =>
    obtain ⟨x, y, rfl, rfl, HF, HBr, BKP⟩ := hrel
    by_cases hlt : x < y
    · have HX := Aside0.mk hlt
      obtain ⟨m, hm⟩ : ∃ m, m = (x + y) / 2 := ⟨_, rfl⟩
      have HMM := Aside0.mk hm
      have c1 : decide (x < y) = true := decide_eq_true hlt
      have p1 : (0 : Int) ≤ (m : Int) := by omega
      have q1 : (m : Int) < (l.length : Int) := by have := HF.out; omega
      obtain ⟨ad, B3, d3, B7, d7, B8, d8, eA, h0_, h1_, h2_, h3_, h4_, h5_, h6_, h7_, h8_, g3, k3, g7, k7, g8, k8⟩ := at_T54 (Kd.C_below HR.out HBr.out) (m : Int) p1 q1
      subst eA
      rw [Int.toNat_natCast] at h0_ h1_ h2_ h3_ h4_ h5_ h6_ h7_ h8_
      have HG := Aside0.mk (And.intro g3 (And.intro g7 g8))
      have HK3 := Aside0.mk k3
      have HK7 := Aside0.mk k7
      have HK8 := Aside0.mk k8
      have HW := Aside0.mk (Below.refl wr.heap.size wr)
      clear g3 g7 g8 k3 k7 k8 hm hlt
      have hp0 : wr.cell? ⟨gp, 0, none⟩ = some (.int .u32 a) := (blk_cell BKP.out 0).trans rfl; have hp1 : wr.cell? ⟨gp, 1, none⟩ = some (.int .i64 n) := (blk_cell BKP.out 1).trans rfl
      go_upto_region 5 with (fail)
      have ew : wrap64 (IntKind.u64.wrap (wrap64 ((x : Int) + (y : Int))) / 2) = (m : Int) := by
        have h1 := HL.out
        have h2 := HF.out
        have h3 := HMM.out
        rw [show wrap64 ((x : Int) + (y : Int)) = (x : Int) + (y : Int) from by unfold wrap64; omega, show IntKind.u64.wrap ((x : Int) + (y : Int)) = (x : Int) + (y : Int) from by unfold IntKind.wrap; simp [IntKind.signed, IntKind.bits]; omega]
        unfold wrap64
        omega
      rw [ew]
      clear ew
      obtain ⟨k1, rfl⟩ : ∃ k1, gk = k1 + 1 := ⟨gk - 1, by have := HF.out; have := HX.out; omega⟩
      have hl1 := HL.out
      have hf1 := HF.out
      have hx1 := HX.out
      have hm1 := HMM.out
      have HLM := Aside0.mk (show m < y ∧ x ≤ m from by omega)
      clear hl1 hf1 hx1 hm1
      go_region_held3 (fun w' => w'.cell? (ad.add (m * 9)) = some (.int .u32 (rd_T54 l (m : Int)).f0.f0) ∧ w'.cell? ⟨(ad.add (m * 9)).block, (ad.add (m * 9)).off + 1, none⟩ = some (.int .i64 (rd_T54 l (m : Int)).f0.f1) ∧ w'.cell? ⟨(ad.add (m * 9)).block, (ad.add (m * 9)).off + 2, none⟩ = some (.int .i64 (rd_T54 l (m : Int)).f1.f0) ∧ w'.cell? ⟨(ad.add (m * 9)).block, (ad.add (m * 9)).off + 3, none⟩ = some (.slice B3 (rd_T54 l (m : Int)).f1.f1.length d3) ∧ w'.cell? ⟨(ad.add (m * 9)).block, (ad.add (m * 9)).off + 4, none⟩ = some (.int .u32 (rd_T54 l (m : Int)).f1.f2) ∧ w'.cell? ⟨(ad.add (m * 9)).block, (ad.add (m * 9)).off + 5, none⟩ = some (.int .i64 (rd_T54 l (m : Int)).f1.f3) ∧ w'.cell? ⟨(ad.add (m * 9)).block, (ad.add (m * 9)).off + 6, none⟩ = some (.int .i64 (rd_T54 l (m : Int)).f1.f4) ∧ w'.cell? ⟨(ad.add (m * 9)).block, (ad.add (m * 9)).off + 7, none⟩ = some (.slice B7 (rd_T54 l (m : Int)).f1.f5.length d7) ∧ w'.cell? ⟨(ad.add (m * 9)).block, (ad.add (m * 9)).off + 8, none⟩ = some (.slice B8 (rd_T54 l (m : Int)).f1.f6.length d8) ∧ w'.cell? ⟨gp, 0, none⟩ = some (.int .u32 a) ∧ w'.cell? ⟨gp, 1, none⟩ = some (.int .i64 n)) (first | exact ⟨h0_, h1_, h2_, h3_, h4_, h5_, h6_, h7_, h8_, hp0, hp1⟩ | exact ⟨hx0, hx1, hx2, hx3, hx4, hx5, hx6, hx7, hx8, hy0, hy1⟩) (first | (refine dyn_ find1_enters #[.agg #[.int .u32 (rd_T54 l (m : Int)).f0.f0, .int .i64 (rd_T54 l (m : Int)).f0.f1, .int .i64 (rd_T54 l (m : Int)).f1.f0, .slice B3 (rd_T54 l (m : Int)).f1.f1.length d3, .int .u32 (rd_T54 l (m : Int)).f1.f2, .int .i64 (rd_T54 l (m : Int)).f1.f3, .int .i64 (rd_T54 l (m : Int)).f1.f4, .slice B7 (rd_T54 l (m : Int)).f1.f5.length d7, .slice B8 (rd_T54 l (m : Int)).f1.f6.length d8], .agg #[.int .u32 a, .int .i64 n]] (by rfl) rfl rfl (by rfl) (by (try simp only [List.map_toArray, List.map_cons, List.map_nil]); first | done | rfl) ?_; refine (find1_calls (rd_T54 l (m : Int)) B3 d3 B7 d7 B8 d8 a n _ HG.out.1 (Kd.C_below HK3.out (by repeat (first | (with_reducible first | exact HW.out | apply below_alloc | apply pw_below_drewN | apply below_drew1) | exact HW.out))) HG.out.2.1 (Kd.C_below HK7.out (by repeat (first | (with_reducible first | exact HW.out | apply below_alloc | apply pw_below_drewN | apply below_drew1) | exact HW.out))) HG.out.2.2 (Kd.C_below HK8.out (by repeat (first | (with_reducible first | exact HW.out | apply below_alloc | apply pw_below_drewN | apply below_drew1) | exact HW.out)))).mono ?_; rintro e w2 ⟨rfl, hb2⟩; have HW2 := Aside0.mk (below_step (by repeat (first | (with_reducible first | exact HW.out | apply below_alloc | apply pw_below_drewN | apply below_drew1) | exact HW.out)) hb2); have hx0 := (HW2.out.cell (World.block_lt_of_cell? _ _ h0_)).trans h0_; have hx1 := (HW2.out.cell (World.block_lt_of_cell? _ _ h1_)).trans h1_; have hx2 := (HW2.out.cell (World.block_lt_of_cell? _ _ h2_)).trans h2_; have hx3 := (HW2.out.cell (World.block_lt_of_cell? _ _ h3_)).trans h3_; have hx4 := (HW2.out.cell (World.block_lt_of_cell? _ _ h4_)).trans h4_; have hx5 := (HW2.out.cell (World.block_lt_of_cell? _ _ h5_)).trans h5_; have hx6 := (HW2.out.cell (World.block_lt_of_cell? _ _ h6_)).trans h6_; have hx7 := (HW2.out.cell (World.block_lt_of_cell? _ _ h7_)).trans h7_; have hx8 := (HW2.out.cell (World.block_lt_of_cell? _ _ h8_)).trans h8_; have hy0 := (HW2.out.cell (World.block_lt_of_cell? _ _ hp0)).trans hp0; have hy1 := (HW2.out.cell (World.block_lt_of_cell? _ _ hp1)).trans hp1; clear hb2; refine ⟨_, rfl, ?_⟩))
      have HB2W := HW2
      by_cases hcm : (cmpP (rd_T54 l (m : Int)).f0.f0 (rd_T54 l (m : Int)).f0.f1 a n) < 0
      · have cb : decide ((cmpP (rd_T54 l (m : Int)).f0.f0 (rd_T54 l (m : Int)).f0.f1 a n) < 0) = true := decide_eq_true hcm
        have HCM := Aside0.mk hcm
        rw [cb]
        clear hcm cb
        go_wp2
        go_roundg k1
        case measure => omega
        case rel =>
          refine ⟨m + 1, y, by first | rfl | (have hw : wrap64 ((m : Int) + 1) = ((m + 1 : Nat) : Int) := (by have := HLM.out; have := HF.out; have := HL.out; unfold wrap64; omega); rw [hw]), rfl, ⟨by have := HF.out; have := HLM.out; omega, by have := HF.out; have := HLM.out; omega, by have := HF.out; have := HLM.out; omega, ?_⟩, ⟨below_step HBr.out (HB2W.out)⟩, ⟨(HB2W.out.block _ (blk_lt BKP.out)).trans BKP.out⟩⟩
          have hcc := HCM.out
          have hmm := HMM.out
          rw [hmm] at hcc ⊢
          exact BS.low HF.out.2.2.2 HX.out hcc
      · have cb : decide ((cmpP (rd_T54 l (m : Int)).f0.f0 (rd_T54 l (m : Int)).f0.f1 a n) < 0) = false := decide_eq_false hcm
        have HCM := Aside0.mk hcm
        rw [cb]
        clear hcm cb
        go_wp2
        go_roundg k1
        case measure => omega
        case rel =>
          refine ⟨x, m, rfl, rfl, ⟨by have := HF.out; have := HLM.out; omega, by have := HF.out; have := HLM.out; omega, by have := HF.out; have := HLM.out; omega, ?_⟩, ⟨below_step HBr.out (HB2W.out)⟩, ⟨(HB2W.out.block _ (blk_lt BKP.out)).trans BKP.out⟩⟩
          have hcc := HCM.out
          have hmm := HMM.out
          rw [hmm] at hcc ⊢
          exact BS.high HF.out.2.2.2 HX.out (by first | exact hcc | omega)
    · have hxr := BS.done HF.out.2.2.2 hlt
      obtain ⟨m, hm⟩ : ∃ m, m = x := ⟨_, rfl⟩
      subst hm
      have HMR := Aside0.mk hxr
      have HYX := Aside0.mk (show y = m from by have := HF.out; omega)
      have c1 : decide (m < y) = false := decide_eq_false hlt
      clear hxr hlt
      by_cases hin : m < l.length
      · have HIN := Aside0.mk hin
        have p1 : (0 : Int) ≤ (m : Int) := by omega
        have q1 : (m : Int) < (l.length : Int) := by omega
        have c2 : decide (m < l.length) = true := decide_eq_true hin
        obtain ⟨ad, B3, d3, B7, d7, B8, d8, eA, h0_, h1_, h2_, h3_, h4_, h5_, h6_, h7_, h8_, g3, k3, g7, k7, g8, k8⟩ := at_T54 (Kd.C_below HR.out HBr.out) (m : Int) p1 q1
        subst eA
        rw [Int.toNat_natCast] at h0_ h1_ h2_ h3_ h4_ h5_ h6_ h7_ h8_
        have HG := Aside0.mk (And.intro g3 (And.intro g7 g8))
        have HK3 := Aside0.mk k3
        have HK7 := Aside0.mk k7
        have HK8 := Aside0.mk k8
        have HW := Aside0.mk (Below.refl wr.heap.size wr)
        clear g3 g7 g8 k3 k7 k8
        have hp0 : wr.cell? ⟨gp, 0, none⟩ = some (.int .u32 a) := (blk_cell BKP.out 0).trans rfl; have hp1 : wr.cell? ⟨gp, 1, none⟩ = some (.int .i64 n) := (blk_cell BKP.out 1).trans rfl
        go_upto_region 8 with (fail)
        refine start_ (n := 16) (S := fun w' => w'.cell? (ad.add (m * 9)) = some (.int .u32 (rd_T54 l (m : Int)).f0.f0) ∧ w'.cell? ⟨(ad.add (m * 9)).block, (ad.add (m * 9)).off + 1, none⟩ = some (.int .i64 (rd_T54 l (m : Int)).f0.f1) ∧ w'.cell? ⟨(ad.add (m * 9)).block, (ad.add (m * 9)).off + 2, none⟩ = some (.int .i64 (rd_T54 l (m : Int)).f1.f0) ∧ w'.cell? ⟨(ad.add (m * 9)).block, (ad.add (m * 9)).off + 3, none⟩ = some (.slice B3 (rd_T54 l (m : Int)).f1.f1.length d3) ∧ w'.cell? ⟨(ad.add (m * 9)).block, (ad.add (m * 9)).off + 4, none⟩ = some (.int .u32 (rd_T54 l (m : Int)).f1.f2) ∧ w'.cell? ⟨(ad.add (m * 9)).block, (ad.add (m * 9)).off + 5, none⟩ = some (.int .i64 (rd_T54 l (m : Int)).f1.f3) ∧ w'.cell? ⟨(ad.add (m * 9)).block, (ad.add (m * 9)).off + 6, none⟩ = some (.int .i64 (rd_T54 l (m : Int)).f1.f4) ∧ w'.cell? ⟨(ad.add (m * 9)).block, (ad.add (m * 9)).off + 7, none⟩ = some (.slice B7 (rd_T54 l (m : Int)).f1.f5.length d7) ∧ w'.cell? ⟨(ad.add (m * 9)).block, (ad.add (m * 9)).off + 8, none⟩ = some (.slice B8 (rd_T54 l (m : Int)).f1.f6.length d8) ∧ w'.cell? ⟨gp, 0, none⟩ = some (.int .u32 a) ∧ w'.cell? ⟨gp, 1, none⟩ = some (.int .i64 n)) (ds := []) #[false, false, false, false, false, false, false, false, false, false, false, false, false, false, false, false] (by kernel_rfl) rfl rfl ⟨h0_, h1_, h2_, h3_, h4_, h5_, h6_, h7_, h8_, hp0, hp1⟩ (fun hHeld => ?_)
        refine pure_ (i := 0) (N := some 35) (v := ?_) (a' := ?_) #[true, false, false, false, false, false, false, false, false, false, false, false, false, false, false, false] rfl rfl (by kernel_rfl) (fun _ _ _ h => h) (Or.inl ⟨by rfl, ?_⟩) ?_ ?_
        rotate_left
        · intro w'
          go_simp
          with_reducible rfl
        rotate_left
        · simp only [Act.put, List.setIfInBounds_toArray, List.set_cons_zero, List.set_cons_succ, i64_w, i32_w]
          rfl
        refine pure_ (i := 1) (N := some 36) (v := ?_) (a' := ?_) #[true, true, false, false, false, false, false, false, false, false, false, false, false, false, false, false] rfl rfl (by kernel_rfl) (fun _ _ _ h => h) (Or.inl ⟨by rfl, ?_⟩) ?_ ?_
        rotate_left
        · intro w'
          go_simp
          with_reducible rfl
        rotate_left
        · simp only [Act.put, List.setIfInBounds_toArray, List.set_cons_zero, List.set_cons_succ, i64_w, i32_w]
          rfl
        refine pure_ (i := 2) (N := some 37) (v := ?_) (a' := ?_) #[true, true, true, false, false, false, false, false, false, false, false, false, false, false, false, false] rfl rfl (by kernel_rfl) (fun _ _ _ h => h) (Or.inl ⟨by rfl, ?_⟩) ?_ ?_
        rotate_left
        · intro w'
          go_simp
          with_reducible rfl
        rotate_left
        · simp only [Act.put, List.setIfInBounds_toArray, List.set_cons_zero, List.set_cons_succ, i64_w, i32_w]
          rfl
        refine pure_ (i := 3) (N := some 38) (v := ?_) (a' := ?_) #[true, true, true, true, false, false, false, false, false, false, false, false, false, false, false, false] rfl rfl (by kernel_rfl) (fun _ _ _ h => h) (Or.inl ⟨by rfl, ?_⟩) ?_ ?_
        rotate_left
        · intro w'
          go_simp
          with_reducible rfl
        rotate_left
        · simp only [Act.put, List.setIfInBounds_toArray, List.set_cons_zero, List.set_cons_succ, i64_w, i32_w]
          rfl
        refine pure_ (i := 4) (N := some 39) (v := ?_) (a' := ?_) #[true, true, true, true, true, false, false, false, false, false, false, false, false, false, false, false] rfl rfl (by kernel_rfl) (fun _ _ _ h => h) (Or.inl ⟨by rfl, ?_⟩) ?_ ?_
        rotate_left
        · intro w'
          go_simp
          with_reducible rfl
        rotate_left
        · simp only [Act.put, List.setIfInBounds_toArray, List.set_cons_zero, List.set_cons_succ, i64_w, i32_w]
          rfl
        refine pure_ (i := 5) (N := some 40) (v := ?_) (a' := ?_) #[true, true, true, true, true, true, false, false, false, false, false, false, false, false, false, false] rfl rfl (by kernel_rfl) (fun _ _ _ h => h) (Or.inl ⟨by rfl, ?_⟩) ?_ ?_
        rotate_left
        · intro w'
          go_simp
          with_reducible rfl
        rotate_left
        · simp only [Act.put, List.setIfInBounds_toArray, List.set_cons_zero, List.set_cons_succ, i64_w, i32_w]
          rfl
        refine pure_ (i := 6) (N := some 41) (v := ?_) (a' := ?_) #[true, true, true, true, true, true, true, false, false, false, false, false, false, false, false, false] rfl rfl (by kernel_rfl) (fun _ _ _ h => h) (Or.inl ⟨by rfl, ?_⟩) ?_ ?_
        rotate_left
        · intro w'
          go_simp
          with_reducible rfl
        rotate_left
        · simp only [Act.put, List.setIfInBounds_toArray, List.set_cons_zero, List.set_cons_succ, i64_w, i32_w]
          rfl
        refine pure_ (i := 7) (N := some 42) (v := ?_) (a' := ?_) #[true, true, true, true, true, true, true, true, false, false, false, false, false, false, false, false] rfl rfl (by kernel_rfl) (fun _ _ _ h => h) (Or.inl ⟨by rfl, ?_⟩) ?_ ?_
        rotate_left
        · intro w'
          go_simp
          with_reducible rfl
        rotate_left
        · simp only [Act.put, List.setIfInBounds_toArray, List.set_cons_zero, List.set_cons_succ, i64_w, i32_w]
          rfl
        refine pure_ (i := 8) (N := some 43) (v := ?_) (a' := ?_) #[true, true, true, true, true, true, true, true, true, false, false, false, false, false, false, false] rfl rfl (by kernel_rfl) (fun _ _ _ h => h) (Or.inl ⟨by rfl, ?_⟩) ?_ ?_
        rotate_left
        · intro w'
          go_simp
          with_reducible rfl
        rotate_left
        · simp only [Act.put, List.setIfInBounds_toArray, List.set_cons_zero, List.set_cons_succ, i64_w, i32_w]
          rfl
        refine take_ (i := 9) (N := some 44) (v := ?_) (a' := ?_) #[true, true, true, true, true, true, true, true, true, true, false, false, false, false, false, false] rfl rfl (by kernel_rfl) (fun _ _ _ h => h) (Or.inl ⟨by rfl, ?_⟩) hHeld ?_ ?_
        rotate_left
        · rintro w' ⟨s0, s1, s2, s3, s4, s5, s6, s7, s8, s9, s10⟩
          go_simp
          with_reducible rfl
        rotate_left
        · simp only [Act.put, List.setIfInBounds_toArray, List.set_cons_zero, List.set_cons_succ, i64_w, i32_w]
          rfl
        refine take_ (i := 10) (N := some 45) (v := ?_) (a' := ?_) #[true, true, true, true, true, true, true, true, true, true, true, false, false, false, false, false] rfl rfl (by kernel_rfl) (fun _ _ _ h => h) (Or.inl ⟨by rfl, ?_⟩) hHeld ?_ ?_
        rotate_left
        · rintro w' ⟨s0, s1, s2, s3, s4, s5, s6, s7, s8, s9, s10⟩
          go_simp
          with_reducible rfl
        rotate_left
        · simp only [Act.put, List.setIfInBounds_toArray, List.set_cons_zero, List.set_cons_succ, i64_w, i32_w]
          rfl
        refine one_ (i := 11) (N := some 46) #[true, true, true, true, true, true, true, true, true, true, true, true, false, false, false, false] rfl rfl (by kernel_rfl) (by decide) (fun K hK => ?_)
        refine dyn_ find1_enters #[.agg #[.int .u32 (rd_T54 l (m : Int)).f0.f0, .int .i64 (rd_T54 l (m : Int)).f0.f1, .int .i64 (rd_T54 l (m : Int)).f1.f0, .slice B3 (rd_T54 l (m : Int)).f1.f1.length d3, .int .u32 (rd_T54 l (m : Int)).f1.f2, .int .i64 (rd_T54 l (m : Int)).f1.f3, .int .i64 (rd_T54 l (m : Int)).f1.f4, .slice B7 (rd_T54 l (m : Int)).f1.f5.length d7, .slice B8 (rd_T54 l (m : Int)).f1.f6.length d8], .agg #[.int .u32 a, .int .i64 n]] (by rfl) rfl rfl (by rfl) (by (try simp only [List.map_toArray, List.map_cons, List.map_nil]); first | done | rfl) ?_
        refine (find1_calls (rd_T54 l (m : Int)) B3 d3 B7 d7 B8 d8 a n _ HG.out.1 (Kd.C_below HK3.out (by repeat (first | (with_reducible first | exact HW.out | apply below_alloc | apply pw_below_drewN | apply below_drew1) | exact HW.out))) HG.out.2.1 (Kd.C_below HK7.out (by repeat (first | (with_reducible first | exact HW.out | apply below_alloc | apply pw_below_drewN | apply below_drew1) | exact HW.out))) HG.out.2.2 (Kd.C_below HK8.out (by repeat (first | (with_reducible first | exact HW.out | apply below_alloc | apply pw_below_drewN | apply below_drew1) | exact HW.out)))).mono ?_
        rintro e w2 ⟨rfl, hb2⟩
        have HW2 := Aside0.mk (below_step (by repeat (first | (with_reducible first | exact HW.out | apply below_alloc | apply pw_below_drewN | apply below_drew1) | exact HW.out)) hb2)
        have hx0 := (HW2.out.cell (World.block_lt_of_cell? _ _ h0_)).trans h0_
        have hx1 := (HW2.out.cell (World.block_lt_of_cell? _ _ h1_)).trans h1_
        have hx2 := (HW2.out.cell (World.block_lt_of_cell? _ _ h2_)).trans h2_
        have hx3 := (HW2.out.cell (World.block_lt_of_cell? _ _ h3_)).trans h3_
        have hx4 := (HW2.out.cell (World.block_lt_of_cell? _ _ h4_)).trans h4_
        have hx5 := (HW2.out.cell (World.block_lt_of_cell? _ _ h5_)).trans h5_
        have hx6 := (HW2.out.cell (World.block_lt_of_cell? _ _ h6_)).trans h6_
        have hx7 := (HW2.out.cell (World.block_lt_of_cell? _ _ h7_)).trans h7_
        have hx8 := (HW2.out.cell (World.block_lt_of_cell? _ _ h8_)).trans h8_
        have hy0 := (HW2.out.cell (World.block_lt_of_cell? _ _ hp0)).trans hp0
        have hy1 := (HW2.out.cell (World.block_lt_of_cell? _ _ hp1)).trans hp1
        clear hb2
        refine ⟨_, rfl, ?_⟩
        refine hK.out _ _ ⟨hx0, hx1, hx2, hx3, hx4, hx5, hx6, hx7, hx8, hy0, hy1⟩ (fun hHeld => ?_)
        clear hK K
        refine norm_ (a' := ?_) ?_ ?_
        rotate_left
        · show Act.put _ (some 46) _ = _
          simp only [Act.put, List.setIfInBounds_toArray, List.set_cons_zero, List.set_cons_succ, i64_w, i32_w]
          rfl
        refine pure_ (i := 12) (N := some 47) (v := ?_) (a' := ?_) #[true, true, true, true, true, true, true, true, true, true, true, true, true, false, false, false] rfl rfl (by kernel_rfl) (fun _ _ _ h => h) (Or.inl ⟨by rfl, ?_⟩) ?_ ?_
        rotate_left
        · intro w'
          go_simp
          with_reducible rfl
        rotate_left
        · simp only [Act.put, List.setIfInBounds_toArray, List.set_cons_zero, List.set_cons_succ, i64_w, i32_w]
          rfl
        refine pure_ (i := 13) (N := some 48) (v := ?_) (a' := ?_) #[true, true, true, true, true, true, true, true, true, true, true, true, true, true, false, false] rfl rfl (by kernel_rfl) (fun _ _ _ h => h) (Or.inl ⟨by rfl, ?_⟩) ?_ ?_
        rotate_left
        · intro w'
          go_simp
          with_reducible rfl
        rotate_left
        · simp only [Act.put, List.setIfInBounds_toArray, List.set_cons_zero, List.set_cons_succ, i64_w, i32_w]
          rfl
        refine pure_ (i := 14) (N := some 6) (v := ?_) (a' := ?_) #[true, true, true, true, true, true, true, true, true, true, true, true, true, true, true, false] rfl rfl (by kernel_rfl) (fun _ _ _ h => h) (Or.inl ⟨by rfl, ?_⟩) ?_ ?_
        rotate_left
        · intro w'
          go_simp
          with_reducible rfl
        rotate_left
        · simp only [Act.put, List.setIfInBounds_toArray, List.set_cons_zero, List.set_cons_succ, i64_w, i32_w]
          rfl
        refine pure_ (i := 15) (N := some 7) (v := ?_) (a' := ?_) #[true, true, true, true, true, true, true, true, true, true, true, true, true, true, true, true] rfl rfl (by kernel_rfl) (fun _ _ _ h => h) (Or.inl ⟨by rfl, ?_⟩) ?_ ?_
        rotate_left
        · intro w'
          go_simp
          with_reducible rfl
        rotate_left
        · simp only [Act.put, List.setIfInBounds_toArray, List.set_cons_zero, List.set_cons_succ, i64_w, i32_w]
          rfl
        refine done_ (by kernel_rfl) ?_

        go_wp2
        go_ret2
        have e1 : bsAt l a n = m := HQ.out.symm.trans HMR.out.symm
        have e2 : bsHit l a n = ((cmpP (rd_T54 l (m : Int)).f0.f0 (rd_T54 l (m : Int)).f0.f1 a n) == 0) := by unfold bsHit; rw [e1, decide_eq_true HIN.out]; rfl
        exact ⟨by rw [e1, e2]; rfl, below_step HBr.out HW2.out⟩
      · have HIN := Aside0.mk hin
        have c2 : decide (m < l.length) = false := decide_eq_false hin
        clear hin
        go_upto_region 8 with (fail)
        refine start_ (n := 16) (S := fun w' => True) (ds := []) #[false, false, false, false, false, false, false, false, false, false, false, false, false, false, false, false] (by kernel_rfl) rfl rfl trivial (fun hHeld => ?_)
        refine pure_ (i := 0) (N := some 35) (v := ?_) (a' := ?_) #[true, false, false, false, false, false, false, false, false, false, false, false, false, false, false, false] rfl rfl (by kernel_rfl) (fun _ _ _ h => h) (Or.inl ⟨by rfl, ?_⟩) ?_ ?_
        rotate_left
        · intro w'
          go_simp
          with_reducible rfl
        rotate_left
        · simp only [Act.put, List.setIfInBounds_toArray, List.set_cons_zero, List.set_cons_succ, i64_w, i32_w]
          rfl
        refine pure_ (i := 1) (N := some 36) (v := ?_) (a' := ?_) #[true, true, false, false, false, false, false, false, false, false, false, false, false, false, false, false] rfl rfl (by kernel_rfl) (fun _ _ _ h => h) (Or.inl ⟨by rfl, ?_⟩) ?_ ?_
        rotate_left
        · intro w'
          go_simp
          with_reducible rfl
        rotate_left
        · simp only [Act.put, List.setIfInBounds_toArray, List.set_cons_zero, List.set_cons_succ, i64_w, i32_w]
          rfl
        refine pure_ (i := 2) (N := some 37) (v := ?_) (a' := ?_) #[true, true, true, false, false, false, false, false, false, false, false, false, false, false, false, false] rfl rfl (by kernel_rfl) (fun _ _ _ h => h) (Or.inl ⟨by rfl, ?_⟩) ?_ ?_
        rotate_left
        · intro w'
          go_simp
          with_reducible rfl
        rotate_left
        · simp only [Act.put, List.setIfInBounds_toArray, List.set_cons_zero, List.set_cons_succ, i64_w, i32_w]
          rfl
        refine pure_ (i := 3) (N := some 38) (v := ?_) (a' := ?_) #[true, true, true, true, false, false, false, false, false, false, false, false, false, false, false, false] rfl rfl (by kernel_rfl) (fun _ _ _ h => h) (Or.inl ⟨by rfl, ?_⟩) ?_ ?_
        rotate_left
        · intro w'
          go_simp
          with_reducible rfl
        rotate_left
        · simp only [Act.put, List.setIfInBounds_toArray, List.set_cons_zero, List.set_cons_succ, i64_w, i32_w]
          rfl
        refine pure_ (i := 4) (N := some 39) (v := ?_) (a' := ?_) #[true, true, true, true, true, false, false, false, false, false, false, false, false, false, false, false] rfl rfl (by kernel_rfl) (fun _ _ _ h => h) (Or.inl ⟨by rfl, ?_⟩) ?_ ?_
        rotate_left
        · intro w'
          go_simp
          with_reducible rfl
        rotate_left
        · simp only [Act.put, List.setIfInBounds_toArray, List.set_cons_zero, List.set_cons_succ, i64_w, i32_w]
          rfl
        refine pure_ (i := 5) (N := some 40) (v := undef) (a' := ?_) #[true, true, true, true, true, true, false, false, false, false, false, false, false, false, false, false] rfl rfl (by kernel_rfl) (fun _ _ _ h => h) (Or.inr ⟨by rfl, rfl⟩) ?_ ?_
        rotate_left
        · simp only [Act.put, List.setIfInBounds_toArray, List.set_cons_zero, List.set_cons_succ, i64_w, i32_w]
          rfl
        refine pure_ (i := 6) (N := some 41) (v := undef) (a' := ?_) #[true, true, true, true, true, true, true, false, false, false, false, false, false, false, false, false] rfl rfl (by kernel_rfl) (fun _ _ _ h => h) (Or.inr ⟨by rfl, rfl⟩) ?_ ?_
        rotate_left
        · simp only [Act.put, List.setIfInBounds_toArray, List.set_cons_zero, List.set_cons_succ, i64_w, i32_w]
          rfl
        refine pure_ (i := 7) (N := some 42) (v := undef) (a' := ?_) #[true, true, true, true, true, true, true, true, false, false, false, false, false, false, false, false] rfl rfl (by kernel_rfl) (fun _ _ _ h => h) (Or.inr ⟨by rfl, rfl⟩) ?_ ?_
        rotate_left
        · simp only [Act.put, List.setIfInBounds_toArray, List.set_cons_zero, List.set_cons_succ, i64_w, i32_w]
          rfl
        refine pure_ (i := 8) (N := some 43) (v := undef) (a' := ?_) #[true, true, true, true, true, true, true, true, true, false, false, false, false, false, false, false] rfl rfl (by kernel_rfl) (fun _ _ _ h => h) (Or.inr ⟨by rfl, rfl⟩) ?_ ?_
        rotate_left
        · simp only [Act.put, List.setIfInBounds_toArray, List.set_cons_zero, List.set_cons_succ, i64_w, i32_w]
          rfl
        refine pure_ (i := 9) (N := some 44) (v := undef) (a' := ?_) #[true, true, true, true, true, true, true, true, true, true, false, false, false, false, false, false] rfl rfl (by kernel_rfl) (fun _ _ _ h => h) (Or.inr ⟨by rfl, rfl⟩) ?_ ?_
        rotate_left
        · simp only [Act.put, List.setIfInBounds_toArray, List.set_cons_zero, List.set_cons_succ, i64_w, i32_w]
          rfl
        refine pure_ (i := 10) (N := some 45) (v := undef) (a' := ?_) #[true, true, true, true, true, true, true, true, true, true, true, false, false, false, false, false] rfl rfl (by kernel_rfl) (fun _ _ _ h => h) (Or.inr ⟨by rfl, rfl⟩) ?_ ?_
        rotate_left
        · simp only [Act.put, List.setIfInBounds_toArray, List.set_cons_zero, List.set_cons_succ, i64_w, i32_w]
          rfl
        refine pure_ (i := 11) (N := some 46) (v := undef) (a' := ?_) #[true, true, true, true, true, true, true, true, true, true, true, true, false, false, false, false] rfl rfl (by kernel_rfl) (fun _ _ _ h => h) (Or.inr ⟨by rfl, rfl⟩) ?_ ?_
        rotate_left
        · simp only [Act.put, List.setIfInBounds_toArray, List.set_cons_zero, List.set_cons_succ, i64_w, i32_w]
          rfl
        refine pure_ (i := 12) (N := some 47) (v := undef) (a' := ?_) #[true, true, true, true, true, true, true, true, true, true, true, true, true, false, false, false] rfl rfl (by kernel_rfl) (fun _ _ _ h => h) (Or.inr ⟨by rfl, rfl⟩) ?_ ?_
        rotate_left
        · simp only [Act.put, List.setIfInBounds_toArray, List.set_cons_zero, List.set_cons_succ, i64_w, i32_w]
          rfl
        refine pure_ (i := 13) (N := some 48) (v := ?_) (a' := ?_) #[true, true, true, true, true, true, true, true, true, true, true, true, true, true, false, false] rfl rfl (by kernel_rfl) (fun _ _ _ h => h) (Or.inl ⟨by rfl, ?_⟩) ?_ ?_
        rotate_left
        · intro w'
          go_simp
          with_reducible rfl
        rotate_left
        · simp only [Act.put, List.setIfInBounds_toArray, List.set_cons_zero, List.set_cons_succ, i64_w, i32_w]
          rfl
        refine pure_ (i := 14) (N := some 6) (v := ?_) (a' := ?_) #[true, true, true, true, true, true, true, true, true, true, true, true, true, true, true, false] rfl rfl (by kernel_rfl) (fun _ _ _ h => h) (Or.inl ⟨by rfl, ?_⟩) ?_ ?_
        rotate_left
        · intro w'
          go_simp
          with_reducible rfl
        rotate_left
        · simp only [Act.put, List.setIfInBounds_toArray, List.set_cons_zero, List.set_cons_succ, i64_w, i32_w]
          rfl
        refine pure_ (i := 15) (N := some 7) (v := ?_) (a' := ?_) #[true, true, true, true, true, true, true, true, true, true, true, true, true, true, true, true] rfl rfl (by kernel_rfl) (fun _ _ _ h => h) (Or.inl ⟨by rfl, ?_⟩) ?_ ?_
        rotate_left
        · intro w'
          go_simp
          with_reducible rfl
        rotate_left
        · simp only [Act.put, List.setIfInBounds_toArray, List.set_cons_zero, List.set_cons_succ, i64_w, i32_w]
          rfl
        refine done_ (by kernel_rfl) ?_

        go_wp2
        go_ret2
        have e1 : bsAt l a n = m := HQ.out.symm.trans HMR.out.symm
        have e2 : bsHit l a n = false := by unfold bsHit; rw [e1, decide_eq_false HIN.out]; rfl
        exact ⟨by rw [e1, e2]; rfl, by repeat (first | exact HBr.out | apply below_drew1)⟩
set_option maxHeartbeats 4000000 in
set_option maxRecDepth 100000 in
theorem find_told (A : Option Addr) (c : Nat) (l : List S54) (a n : Int) (t : S54) (b : Bool) (w : World) (hr : Kd.C k54 w A l.length l) (hc : l.length ≤ c) (hl : l.length < 100000) (hv : findV l a n = (t, b)) :
    Calls Try.prog 32 #[.slice A l.length c, .agg #[.int .u32 a, .int .i64 n]] w fun e w' => ∃ X3 y3 X7 y7 X8 y8, e = .returned (.tuple #[.agg #[.int .u32 t.f0.f0, .int .i64 t.f0.f1, .int .i64 t.f1.f0, .slice X3 t.f1.f1.length y3, .int .u32 t.f1.f2, .int .i64 t.f1.f3, .int .i64 t.f1.f4, .slice X7 t.f1.f5.length y7, .slice X8 t.f1.f6.length y8], .bool b]) ∧ ToldC w' t X3 y3 X7 y7 X8 y8 ∧ Below w.heap.size w w' := by
  have hu29 := Try.underlying29
  have hu54 := Try.underlying54
  have HR := Aside0.mk hr
  have HC := Aside0.mk hc
  have HL := Aside0.mk hl
  have HB := Aside0.mk (Below.refl w.heap.size w)
  clear hr hc hl
  unfold findV at hv
  rcases hh : bsHit l a n with _ | _
  · rw [hh, if_neg (by simp)] at hv
    obtain ⟨rfl, rfl⟩ := Prod.mk.inj hv
    have HH := Aside0.mk hh
    clear hh hv
    go_enter Try.func32, Try.ntmps32
    go_upto_region 2 with (first | ((with_reducible refine gate_dst (N := 3) rfl ?_); refine box_event ?hg (N := 3) ?hd (cs := #[.int .u32 a, .int .i64 n]) (t := 29) ?hr ?_; (case hd => rfl); (case hg => rfl); (case hr => first | (go_simp; done) | (go_simp; rfl)); intro gp hg w1 hbox hb; have HB1 := Aside0.mk (below_step HB.out hb); have BKP1 := Aside0.mk hbox; have GEP := Aside0.mk (show w.heap.size ≤ gp from by rw [hg]; exact Nat.le_refl _); clear hbox hb hg) | ((with_reducible refine gate_dst (N := 4) rfl ?_); refine box_event ?hg (N := 4) ?hd (cs := #[.int .u32 0, .int .i64 0, .int .i64 0, .slice none 0 0, .int .u32 0, .int .i64 0, .int .i64 0, .slice none 0 0, .slice none 0 0]) (t := 54) ?hr ?_; (case hd => rfl); (case hg => rfl); (case hr => first | (go_simp; done) | (go_simp; rfl)); intro ga hg w2 hbox hb; have BKP2 := Aside0.mk ((hb.block _ (blk_lt BKP1.out)).trans BKP1.out); have HB2 := Aside0.mk (below_step HB1.out hb); have BKA2 := Aside0.mk hbox; have GEA := Aside0.mk (show gp < ga from by rw [hg]; exact blk_lt BKP1.out); have hp0 : w2.cell? ⟨gp, 0, none⟩ = some (.int .u32 a) := (blk_cell BKP2.out 0).trans rfl; have hp1 : w2.cell? ⟨gp, 1, none⟩ = some (.int .i64 n) := (blk_cell BKP2.out 1).trans rfl; clear hbox hb hg) | (go_at_call 51; refine (bsf_at A c l a n _ (Kd.C_below HR.out HB2.out) HC.out HL.out).mono ?_; rintro e w3 ⟨rfl, hb⟩; have BKA3 := Aside0.mk ((hb.block _ (blk_lt BKA2.out)).trans BKA2.out); have HB3 := Aside0.mk (below_step HB2.out hb); clear hb hp0 hp1))
    rw [HH.out]
    go_wp2_with (first | ((with_reducible refine gate_store (t := 54) (p := 4) rfl ?_); refine store_new rfl 54 (.tmp 4) (.tmp 16) rfl [.int .u32 0, .int .i64 0, .int .i64 0, .slice none 0 0, .int .u32 0, .int .i64 0, .int .i64 0, .slice none 0 0, .slice none 0 0] (by rfl) (by rfl) BKA3.out (by rfl) (by kernel_rfl) (by intro v hv; simp only [List.mem_cons, List.not_mem_nil, or_false] at hv; rcases hv with rfl | rfl | rfl | rfl | rfl | rfl | rfl | rfl | rfl <;> rfl) ?_; intro w4 hx hg hs; have BKF := Aside0.mk hx; have HBF := Aside0.mk (HB3.out.grown hg HB3.out.size (fun k e => by injection e with e; have := GEP.out; have := GEA.out; omega)); clear hx hg hs))
    refine bodyPost_ret (results_ct rfl _ _ ga 54 #[.int .u32 0, .int .i64 0, .int .i64 0, .slice none 0 0, .int .u32 0, .int .i64 0, .int .i64 0, .slice none 0 0, .slice none 0 0] (0, 0) _ rfl BKF.out Try.underlying54 rfl (by kernel_rfl)) rfl ?_
    exact ⟨none, 0, none, 0, none, 0, rfl, ⟨⟨Nat.le_refl _, Nat.le_refl _, Nat.le_refl _⟩, Kd.C_nil _ _, Kd.C_nil _ _, Kd.C_nil _ _⟩, HBF.out⟩
  · rw [hh, if_pos rfl] at hv
    have hlt := bsHit_lt hh
    obtain ⟨m, hm⟩ : ∃ m, m = bsAt l a n := ⟨_, rfl⟩
    rw [← hm] at hv hlt
    obtain ⟨rfl, rfl⟩ := Prod.mk.inj hv
    have HH := Aside0.mk hh
    have HMM := Aside0.mk hm
    have p1 : (0 : Int) ≤ (m : Int) := by omega
    have q1 : (m : Int) < (l.length : Int) := by omega
    clear hh hv hm hlt
    go_enter Try.func32, Try.ntmps32
    go_upto_region 2 with (first | ((with_reducible refine gate_dst (N := 3) rfl ?_); refine box_event ?hg (N := 3) ?hd (cs := #[.int .u32 a, .int .i64 n]) (t := 29) ?hr ?_; (case hd => rfl); (case hg => rfl); (case hr => first | (go_simp; done) | (go_simp; rfl)); intro gp hg w1 hbox hb; have HB1 := Aside0.mk (below_step HB.out hb); have BKP1 := Aside0.mk hbox; have GEP := Aside0.mk (show w.heap.size ≤ gp from by rw [hg]; exact Nat.le_refl _); clear hbox hb hg) | ((with_reducible refine gate_dst (N := 4) rfl ?_); refine box_event ?hg (N := 4) ?hd (cs := #[.int .u32 0, .int .i64 0, .int .i64 0, .slice none 0 0, .int .u32 0, .int .i64 0, .int .i64 0, .slice none 0 0, .slice none 0 0]) (t := 54) ?hr ?_; (case hd => rfl); (case hg => rfl); (case hr => first | (go_simp; done) | (go_simp; rfl)); intro ga hg w2 hbox hb; have BKP2 := Aside0.mk ((hb.block _ (blk_lt BKP1.out)).trans BKP1.out); have HB2 := Aside0.mk (below_step HB1.out hb); have BKA2 := Aside0.mk hbox; have GEA := Aside0.mk (show gp < ga from by rw [hg]; exact blk_lt BKP1.out); have hp0 : w2.cell? ⟨gp, 0, none⟩ = some (.int .u32 a) := (blk_cell BKP2.out 0).trans rfl; have hp1 : w2.cell? ⟨gp, 1, none⟩ = some (.int .i64 n) := (blk_cell BKP2.out 1).trans rfl; clear hbox hb hg) | (go_at_call 51; refine (bsf_at A c l a n _ (Kd.C_below HR.out HB2.out) HC.out HL.out).mono ?_; rintro e w3 ⟨rfl, hb⟩; have BKA3 := Aside0.mk ((hb.block _ (blk_lt BKA2.out)).trans BKA2.out); have HB3 := Aside0.mk (below_step HB2.out hb); clear hb hp0 hp1))
    rw [HH.out, ← HMM.out]
    obtain ⟨ad, X3, y3, X7, y7, X8, y8, eA, h0_, h1_, h2_, h3_, h4_, h5_, h6_, h7_, h8_, g3, k3, g7, k7, g8, k8⟩ := at_T54 HR.out (m : Int) p1 q1
    subst eA
    rw [Int.toNat_natCast] at h0_ h1_ h2_ h3_ h4_ h5_ h6_ h7_ h8_
    replace h0_ := (HB3.out.cell (World.block_lt_of_cell? _ _ h0_)).trans h0_
    replace h1_ := (HB3.out.cell (World.block_lt_of_cell? _ _ h1_)).trans h1_
    replace h2_ := (HB3.out.cell (World.block_lt_of_cell? _ _ h2_)).trans h2_
    replace h3_ := (HB3.out.cell (World.block_lt_of_cell? _ _ h3_)).trans h3_
    replace h4_ := (HB3.out.cell (World.block_lt_of_cell? _ _ h4_)).trans h4_
    replace h5_ := (HB3.out.cell (World.block_lt_of_cell? _ _ h5_)).trans h5_
    replace h6_ := (HB3.out.cell (World.block_lt_of_cell? _ _ h6_)).trans h6_
    replace h7_ := (HB3.out.cell (World.block_lt_of_cell? _ _ h7_)).trans h7_
    replace h8_ := (HB3.out.cell (World.block_lt_of_cell? _ _ h8_)).trans h8_
    have HG := Aside0.mk (And.intro g3 (And.intro g7 g8))
    have HK3 := Aside0.mk k3
    have HK7 := Aside0.mk k7
    have HK8 := Aside0.mk k8
    clear g3 g7 g8 k3 k7 k8
    go_wp2_with (first | ((with_reducible refine gate_store (t := 54) (p := 4) rfl ?_); refine store_new rfl 54 (.tmp 4) (.tmp 20) rfl [.int .u32 (rd_T54 l (m : Int)).f0.f0, .int .i64 (rd_T54 l (m : Int)).f0.f1, .int .i64 (rd_T54 l (m : Int)).f1.f0, .slice X3 (rd_T54 l (m : Int)).f1.f1.length y3, .int .u32 (rd_T54 l (m : Int)).f1.f2, .int .i64 (rd_T54 l (m : Int)).f1.f3, .int .i64 (rd_T54 l (m : Int)).f1.f4, .slice X7 (rd_T54 l (m : Int)).f1.f5.length y7, .slice X8 (rd_T54 l (m : Int)).f1.f6.length y8] (by rfl) (by rfl) BKA3.out (by rfl) (by kernel_rfl) (by intro v hv; simp only [List.mem_cons, List.not_mem_nil, or_false] at hv; rcases hv with rfl | rfl | rfl | rfl | rfl | rfl | rfl | rfl | rfl <;> rfl) ?_; intro w4 hx hg hs; have BKF := Aside0.mk hx; have HBF := Aside0.mk (HB3.out.grown hg HB3.out.size (fun k e => by injection e with e; have := GEP.out; have := GEA.out; omega)); clear hx hg hs))
    refine bodyPost_ret (results_ct rfl _ _ ga 54 #[.int .u32 (rd_T54 l (m : Int)).f0.f0, .int .i64 (rd_T54 l (m : Int)).f0.f1, .int .i64 (rd_T54 l (m : Int)).f1.f0, .slice X3 (rd_T54 l (m : Int)).f1.f1.length y3, .int .u32 (rd_T54 l (m : Int)).f1.f2, .int .i64 (rd_T54 l (m : Int)).f1.f3, .int .i64 (rd_T54 l (m : Int)).f1.f4, .slice X7 (rd_T54 l (m : Int)).f1.f5.length y7, .slice X8 (rd_T54 l (m : Int)).f1.f6.length y8] (0, 0) _ rfl BKF.out Try.underlying54 rfl (by kernel_rfl)) rfl ?_
    exact ⟨X3, y3, X7, y7, X8, y8, rfl, ⟨HG.out, Kd.C_below HK3.out HBF.out, Kd.C_below HK7.out HBF.out, Kd.C_below HK8.out HBF.out⟩, HBF.out⟩
/-- The parts of a row of N, a hundred each. -/
def partsN (N : Nat) : Nat := (N + 99) / 100
def partsTo (M k : Nat) : List (Fin M) := (List.finRange M).take k
theorem partsTo_succ {M k : Nat} (h : k < M) : partsTo M (k + 1) = partsTo M k ++ [⟨k, h⟩] := by
  unfold partsTo
  rw [List.take_succ_eq_append_getElem (by rw [List.length_finRange]; exact h), List.getElem_finRange]
  rfl
theorem partsTo_length {M k : Nat} (h : k ≤ M) : (partsTo M k).length = k := by unfold partsTo; rw [List.length_take, List.length_finRange]; omega
theorem partsTo_all (M : Nat) : partsTo M M = List.finRange M := by unfold partsTo; exact List.take_of_length_le (by rw [List.length_finRange]; exact Nat.le_refl _)
/-- What stands in two blocks stays. -/
def Keeps2 (gs gn : Nat) (A B : World) : Prop := (∀ o, A.heap[gs]? = some o → B.heap[gs]? = some o) ∧ (∀ o, A.heap[gn]? = some o → B.heap[gn]? = some o)
theorem Keeps2.trans {gs gn : Nat} {A B C : World} (h : Keeps2 gs gn A B) (k : Keeps2 gs gn B C) : Keeps2 gs gn A C := ⟨fun o ho => k.1 o (h.1 o ho), fun o ho => k.2 o (h.2 o ho)⟩
/-- An operation within a round of a range over a function: as outside of one, but for 'defer'. -/
theorem wp_inRound {P : Program} {o : Oper} {a : Act} {w : World} {K : Act → World → Prop} {Q : Exit → Act → World → Prop} (l n : Nat) (hd : ∀ c, o.op ≠ .defer c) (h : o.wp P a w K Q) : o.wpIn (Fence.wide.inRound l) n P a w K Q := by
  refine ⟨fun _ _ => trivial, ?_⟩
  rw [Oper.semAt_eq _ _ _ hd]
  unfold Oper.wp at h
  generalize (execOp a.eval o).run P w = r at h
  cases r with
  | ok x w' =>
    cases x <;> simp only [Oper.upon, Oper.uponIn] at h ⊢ <;>
      first
        | exact h
        | exact ⟨fun hh => (by cases hh), CallsIn.inRound l (callsIn_wide.2 h)⟩
        | exact ⟨fun hh => (by cases hh), fun c cs _ => let ⟨v, w2, r2, s⟩ := h c cs; ⟨v, w2, r2, stepsIn_wide.2 s⟩⟩
  | halt x w' => cases x <;> simp only [Oper.upon, Oper.uponIn] at h ⊢ <;> exact h
theorem any_inRound {P : Program} {md : Region.Mode} {ops : Array Oper} {Q : Exit → Act → World → Prop} (l n : Nat) (hQ : ¬ LetsOut Q) (hd : ∀ (i : Nat) (o : Oper) (c : Call), ops[i]? = some o → o.op ≠ .defer c) : ∀ (fuel : Nat) (listed : Array Bool) (a : Act) (w : World), wpAny P md ops Q fuel listed a w → wpAnyIn (Fence.wide.inRound l) n P md ops Q fuel listed a w
  | 0, _, _, _, h => h
  | fuel + 1, listed, a, w, h => ⟨h.1, fun i hi => by
    have h2 := h.2 i hi
    unfold wpOp at h2
    unfold wpOpIn
    cases ho : ops[i]? with
    | none =>
      rw [ho] at h2
      exact any_inRound l n hQ hd fuel _ _ _ h2
    | some o =>
      rw [ho] at h2
      dsimp only at h2 ⊢
      by_cases hw : Region.wanted o (yielded ops a.tmps) = true
      · rw [if_pos hw] at h2 ⊢
        rcases h2 with h2 | h2
        · exact Oper.wpIn_mono (fun a' w' h' => any_inRound l n hQ hd fuel _ _ _ h') (wp_inRound l n (fun c => hd i o c ho) h2)
        · exact absurd h2.2 hQ
      · rw [if_neg hw] at h2 ⊢
        exact ⟨fun _ _ => trivial, any_inRound l n hQ hd fuel _ _ _ h2⟩⟩
def noDefer (ops : Array Oper) : Bool := ops.toList.all fun o => match o.op with | .defer _ => false | _ => true
theorem noDefer_spec {ops : Array Oper} (h : noDefer ops = true) : ∀ (i : Nat) (o : Oper) (c : Call), ops[i]? = some o → o.op ≠ .defer c := by
  intro i o c ho he
  unfold noDefer at h
  rw [List.all_eq_true] at h
  have := h o (by have := Array.mem_of_getElem? ho; exact Array.mem_toList_iff.2 this)
  rw [he] at this
  cases this
/-- A region that draws its order, within a round: the steps are those of start_. -/
theorem startIn_ {P : Program} {ops : Array Oper} {Q : Exit → Act → World → Prop} {S : World → Prop} {ds : List Nat} {id n : Nat} {a : Act} {w : World} (lst : Array Bool) (hm : P.follows .mixedOrders = true) (hn : ops.size = n) (hl : Array.replicate n false = lst) (hS : S w.drew)
    (h : S w.drew → wpAnyLast P .any ops Q S ds n lst a w.drew) {l m : Nat} (hQ : ¬ LetsOut Q) (hd : noDefer ops = true) : (Code.region id ops true).wpIn (Fence.wide.inRound l) m P Q a w := by
  subst hn
  subst hl
  exact wpIn_region_any hm (any_inRound l m hQ (noDefer_spec hd) _ _ _ _ (wpAny_of_last _ _ _ _ (h hS)))
theorem R_nocells {α : Type} {d : Kd α} {e : Nat} {w : World} {base : Nat} {ok : Nat → Prop} {v : Value} {xs : List α} (h : d.R e w base ok v xs) {g : Nat} {o : Obj} (hb : w.heap[g]? = some o) (ho : o.isCells = false) : d.R e w base (fun k => ok k ∧ k ≠ g) v xs :=
  Kd.R_mono (Kd.R_bound h) (fun k hk => ⟨hk.1, by
    obtain ⟨_, _, _, q, hq, cells, hc⟩ := hk
    rintro rfl
    rw [hc] at hb
    cases hb
    cases ho⟩)
theorem R_own {α : Type} {d : Kd α} {e : Nat} {w w1 : World} {base : Nat} {ok : Nat → Prop} {v : Value} {xs : List α} (h : d.R e w base ok v xs) {row : Option Nat} (hg : w.grownBy w1 row) (hr : ∀ r, row = some r → ∃ o : Obj, w.heap[r]? = some o ∧ o.isCells = false) : d.R e w1 base ok v xs := by
  cases row with
  | none => exact Kd.R_grown h hg (fun _ _ e => by cases e)
  | some r =>
    obtain ⟨o, ho, hc⟩ := hr r rfl
    exact Kd.R_mono (Kd.R_grown (R_nocells h ho hc) hg (fun k hk e => hk.2 (by cases e; rfl))) (fun _ hk => hk.1)
theorem blk_own {w w1 : World} {g : Nat} {cs : Array Value} {t : TypeId} {fz : Nat × Nat} (h : w.heap[g]? = some (.cells cs t fz)) {row : Option Nat} (hg : w.grownBy w1 row) (hr : ∀ r, row = some r → ∃ o : Obj, w.heap[r]? = some o ∧ o.isCells = false) : w1.heap[g]? = some (.cells cs t fz) :=
  (hg.block _ (blk_lt h) (fun e => by obtain ⟨o, ho, hc⟩ := hr g e.symm; rw [h] at ho; cases ho; cases hc)).trans h
theorem KeepsOthers.of_below {W W' : World} (h : Below W.heap.size W W') : KeepsOthers W W' := ⟨h.size, fun k o hk _ => (h.block k (Array.getElem?_eq_some_iff.1 hk).1).trans hk⟩
set_option maxHeartbeats 4000000 in
set_option maxRecDepth 100000 in
theorem chunk_made2 (A : Option Addr) (n c : Nat) (w : World) : Calls Try.prog 33 #[.slice A n c, .int .i64 100] w fun e w' => ∃ gs gn, e = .returned (.func (.func 54) #[] #[.pointer (some ⟨gs, 0, none⟩), .pointer (some ⟨gn, 0, none⟩)]) ∧ w'.heap[gs]? = some (.cells #[.slice A n c] 55 (0, 0)) ∧ w'.heap[gn]? = some (.cells #[.int .i64 100] 3 (0, 0)) ∧ gs ≠ gn ∧ Below w.heap.size w w' := by
  have HB := Aside0.mk (Below.refl w.heap.size w)
  go_enter Try.func33, Try.ntmps33
  go_wp2_with (first | ((with_reducible refine gate_dst (N := 2) rfl ?_); refine box_event ?hg (N := 2) ?hd (cs := #[.slice A n c]) (t := 55) ?hr ?_; (case hd => rfl); (case hg => rfl); (case hr => first | (go_simp; done) | (go_simp; rfl)); intro gs hg w1 hbox hb; have HB1 := Aside0.mk (below_step HB.out hb); have BKS1 := Aside0.mk hbox; clear hbox hb hg) | ((with_reducible refine gate_dst (N := 3) rfl ?_); refine box_event ?hg (N := 3) ?hd (cs := #[.int .i64 100]) (t := 3) ?hr ?_; (case hd => rfl); (case hg => rfl); (case hr => first | (go_simp; done) | (go_simp; rfl)); intro gn hg w2 hbox hb; have BKS2 := Aside0.mk ((hb.block _ (blk_lt BKS1.out)).trans BKS1.out); have HB2 := Aside0.mk (below_step HB1.out hb); have BKN2 := Aside0.mk hbox; have HNE := Aside0.mk (show gs ≠ gn from by have := blk_lt BKS1.out; rw [hg]; omega); have hn0 : w2.cell? ⟨gn, 0, none⟩ = some (.int .i64 100) := (blk_cell BKN2.out 0).trans rfl; clear hbox hb hg))
  go_ret
  exact ⟨gs, gn, rfl, BKS2.out, BKN2.out, HNE.out, HB2.out⟩
set_option maxHeartbeats 4000000 in
set_option maxRecDepth 100000 in
theorem chunk_stops2 (n gs gn : Nat) (hn : 1 ≤ n) (A : Option Addr) (N c : Nat) (hN : N ≤ c) (hN2 : N < 100000) (w : World) (hs : w.heap[gs]? = some (.cells #[.slice A N c] 55 (0, 0))) (hg : w.heap[gn]? = some (.cells #[.int .i64 100] 3 (0, 0))) :
    SeqStopsK Fence.wide n Try.prog 54 #[.pointer (some ⟨gs, 0, none⟩), .pointer (some ⟨gn, 0, none⟩)] (fun x : Fin (partsN N) => (#[.slice (A.map (·.add (100 * x.1 * 2))) (min 100 (N - 100 * x.1)) (min 100 (N - 100 * x.1))] : Array Value)) (Keeps2 gs gn) (fun xs => xs = List.finRange (partsN N)) (fun _ => True) (partsN N) w := fun l J Jx W hW hAb _ hY h0 => by
  have HAB := Aside0.mk hAb
  have HS := Aside0.mk ((hW.block _ (blk_lt hs)).trans hs)
  have HG := Aside0.mk ((hW.block _ (blk_lt hg)).trans hg)
  have H0 := Aside0.mk h0
  have HY := Aside0.mk hY
  have HN := Aside0.mk (And.intro hN hN2)
  have HN1 := Aside0.mk hn
  have HMM := Aside0.mk (show partsN N = (N + 99) / 100 from rfl)
  clear hs hg h0 hY hW hN hN2 hn hAb
  refine callsIn_wide.2 ?_
  show Calls Try.prog 54 #[.func (.yield l) #[] #[], .pointer (some ⟨gs, 0, none⟩), .pointer (some ⟨gn, 0, none⟩)] W _
  go_enter Try.func54, Try.ntmps54
  go_wp2
  go_loopg [4] (partsN N + 1) (fun kq v4 wr => ∃ i k : Nat, v4 = .int .i64 (i : Int) ∧ Aside0 (i = 100 * k ∧ k + kq = partsN N + 1 ∧ k ≤ partsN N) ∧ Aside0 (J (partsTo (partsN N) k) wr) ∧ Aside0 (wr.heap[gs]? = some (.cells #[.slice A N c] 55 (0, 0))) ∧ Aside0 (wr.heap[gn]? = some (.cells #[.int .i64 100] 3 (0, 0))))
  case atStart => exact ⟨0, 0, rfl, ⟨rfl, by omega, Nat.zero_le _⟩, ⟨H0.out⟩, HS, HG⟩
  case round =>
    obtain ⟨i, k, rfl, HI, HJ, HSr, HGr⟩ := hrel
    have hs := (blk_cell HSr.out 0).trans rfl
    have hg := (blk_cell HGr.out 0).trans rfl
    by_cases hlt : i < N
    · have c1 : decide (i < N) = true := decide_eq_true hlt
      have HL := Aside0.mk hlt
      obtain ⟨k1, rfl⟩ : ∃ k1, gk = k1 + 1 := ⟨gk - 1, by have := HI.out; have := HMM.out; omega⟩
      have b1 : (0 : Int) ≤ (i : Int) := by omega
      have b2 : (i : Int) ≤ (c : Int) := by have := HN.out; omega
      have b3 : (i : Int) ≤ (N : Int) := by omega
      have b4 : ¬ c = i := by have := HN.out; omega
      clear hlt
      go_upto_region 3 with (fail)
      go_quiet (fail)
      obtain ⟨E, hE⟩ : ∃ E, E = min 100 (N - i) := ⟨_, rfl⟩
      have he : (if ((N - i : Nat) : Int) < 100 then ((N - i : Nat) : Int) else 100) = (E : Int) := by split <;> omega
      rw [he]
      have HE := Aside0.mk hE
      have HJq := Aside0.mk (HAB.out _ _ (wr.drewN nq) none HJ.out ⟨rfl, rfl, rfl, Nat.le_refl _, fun _ _ _ => rfl⟩ (fun r e => by cases e))
      have HSq := Aside0.mk (blk_drewN HSr.out nq)
      have HGq := Aside0.mk (blk_drewN HGr.out nq)
      clear he hs hg hE
      generalize wr.drewN nq = wq at HJq HSq HGq ⊢
      have hs : wq.cell? ⟨gs, 0, none⟩ = some (.slice A N c) := (blk_cell HSq.out 0).trans rfl
      have b5 : wrap64 ((i : Int) + (E : Int)) = ((i + E : Nat) : Int) := by have := HE.out; have := HN.out; have := HL.out; unfold wrap64; omega
      have b6 : ¬ E = 0 := by have := HE.out; have := HL.out; omega
      have b7 : i + E ≤ c := by have := HE.out; have := HN.out; have := HL.out; omega
      have b8 : i ≤ i + E := by omega
      have HK := Aside0.mk (show k < partsN N from by have := HI.out; have := HMM.out; have := HL.out; omega)
      obtain ⟨fn, tmps, assign, body, hy, hR⟩ := HY.out _ ⟨k, HK.out⟩ wq HJq.out (by rw [partsTo_length HI.out.2.2]; exact HK.out)
      dsimp only at hy
      rw [← HI.out.1, ← HE.out] at hy
      go_upto_region 4 with (fail)
      refine (wpIn_wide (n := n)).1 ?_
      gi_wp2
      refine ⟨fun _ => HN1.out, hR.mono ?_⟩
      clear hs b1 b2 b3 b4 b5 b6 b7 b8 hy hR
      rintro e W3 (⟨rfl, hJ3, hk3⟩ | ⟨rfl, hJx3⟩)
      · have HS3 := Aside0.mk (hk3.1 _ HSq.out)
        have HG3 := Aside0.mk (hk3.2 _ HGq.out)
        have HJ3 := Aside0.mk hJ3
        have hg : W3.cell? ⟨gn, 0, none⟩ = some (.int .i64 100) := (blk_cell HG3.out 0).trans rfl
        clear hJ3 hk3
        gi_wp2
        (try go_wp2)
        go_roundg k1
        case measure => omega
        case rel =>
          refine ⟨i + 100, k + 1, by first | rfl | (have hw : wrap64 ((i : Int) + 100) = ((i + 100 : Nat) : Int) := (by have := HL.out; have := HN.out; unfold wrap64; omega); rw [hw]), ⟨by have := HI.out; omega, by have := HI.out; omega, HK.out⟩, ⟨?_⟩, HS3, HG3⟩
          rw [partsTo_succ HK.out]
          exact HJ3.out
      · have HJ3 := Aside0.mk hJx3
        clear hJx3
        gi_wp2
        (try go_wp2)
        refine bodyPost_ret (results_none rfl _ _ _) rfl ?_
        exact ⟨⟨_, rfl⟩, .inr ⟨_, trivial, HJ3.out⟩⟩
    · have c1 : decide (i < N) = false := decide_eq_false hlt
      have HL := Aside0.mk hlt
      clear hlt
      go_wp2
      go_end0
      have hk : k = partsN N := by have := HI.out; have := HL.out; have := HMM.out; omega
      exact ⟨⟨_, rfl⟩, .inl ⟨_, rfl, by rw [← partsTo_all]; have h1 := HJ.out; rw [hk] at h1; exact h1⟩⟩
set_option maxHeartbeats 4000000 in
set_option maxRecDepth 100000 in
theorem clone_pfx (ad : Addr) (c0 : Nat) (r : List S29) (w : World) (hr0 : Kd.C k29 w (some ad) r.length r) (hc0 : r.length ≤ c0) (hb : r.length < 100000) :
    Calls Try.prog 34 #[.slice (some ad) r.length c0] w fun e w' => ∃ v0_ : Value, e = .returned v0_ ∧ Kd.R k29 29 w' w.heap.size (fun k_ => w.heap.size ≤ k_) v0_ r ∧ Below w.heap.size w w' := by
  have HR := Aside0.mk hr0
  have HC := Aside0.mk hc0
  have HB := Aside0.mk hb
  have HE := Aside0.mk (Below.refl w.heap.size w)
  have hu29 := Try.underlying29
  clear hr0 hc0 hb
  have hn : ∀ w, (binOp .eql 55 (.slice (some ad) r.length c0) (.slice none 0 0)).run Try.prog w = .ok (.bool false) w := fun w => run_eql_slice_nil w 55 29 (some ad) r.length c0 Try.underlying55
  go_enter Try.func34, Try.ntmps34
  go_wp2_with (first | ((with_reducible refine gate_dst (N := 5) rfl ?_); refine Kd.R_lit k29 _ 29 ?hg (N := 5) ?hd (xs := ([] : List S29)) (inner := []) (ok := (fun k_ => w.heap.size ≤ k_)) (okp := fun _ => False) ?hr ?hp (fun _ hk => hk.elim) ?hw (Below.refl _ _) (Nat.le_refl _) (by simp) ?_; (case hd => rfl); (case hg => rfl); (case hr => first | (go_simp; done) | (go_simp; rfl)); (case hp => exact (Reps.none _ _)); (case hw => first | exact Nat.le_refl _ | simp); intro v5 w5 ho5 hb5 hg_ hnew_; have HO5 := Aside0.mk (Kd.R_lower ho5 (show w.heap.size ≤ _ from by first | exact Nat.le_refl _ | simp)); have HE5 := Aside0.mk hb5; have HR5 := Aside0.mk (Kd.C_below HR.out hb5); clear ho5 hb5) | ((with_reducible refine gate_builtin (b := .append) (xs := #[.tmp 5, .tmp 6]) rfl ?_); (try (refine gate_guard (by rfl) ?_; dsimp only)); at_builtin; refine Kd.R_append_rows k29 (w0 := w) w.heap.size rfl (.tmp 5) (.tmp 6) 55 29 (.agg #[(.int .u32 0), (.int .i64 0)]) 16 rfl Try.underlying55 (show (Try.prog.info? 29).map (fun i => (i.zero, i.size, i.bytes)) = some (some (.agg #[(.int .u32 0), (.int .i64 0)]), 2, 16) from by kernel_rfl) rfl (by decide) (by omega) v5 ([] : List S29) r _ _ _ (fun k_ => w.heap.size ≤ k_) (fun _ => False) rfl rfl ?aO ?aR (fun _ _ h => h) (fun _ h => h.elim) ?aF ?aB ?aS ?aL ?_; (case aR => exact HR5.out); (case aB => exact HE5.out); (case aF => exact fun k hk => Nat.le_trans HE5.out.size hk); (case aO => exact HO5.out); (case aS => exact HE5.out.size); (case aL => have := HB.out; rw [List.length_nil]; omega); intro v7 w7 ho hb hg hat; rw [List.nil_append] at ho; have HO7 := Aside0.mk ho; have HE7 := Aside0.mk hb; clear ho hb hg hat))
  go_ret
  exact ⟨_, rfl, HO7.out, HE7.out⟩
def goneV (fr l : List S54) : List S29 := (l.filter fun x => !(findV fr x.f0.f0 x.f0.f1).2).map fun x => x.f0
theorem goneV_next (fr l : List S54) (i : Nat) (h : i < l.length) : goneV fr (l.take (i + 1)) = goneV fr (l.take i) ++ (if (findV fr l[i].f0.f0 l[i].f0.f1).2 = true then [] else [l[i].f0]) := by
  unfold goneV
  rw [List.take_succ_eq_append_getElem h, List.filter_append, List.map_append]
  congr 1
  cases hb : (findV fr l[i].f0.f0 l[i].f0.f1).2 with
  | true => simp [hb]
  | false => simp [hb]
theorem goneV_len (fr l : List S54) : (goneV fr l).length ≤ l.length := by unfold goneV; rw [List.length_map]; exact List.length_filter_le _ _
theorem told_at (l : List S54) (i : Nat) (h : i < l.length) : rd_T54 l (i : Int) = l[i] := by
  unfold rd_T54
  rw [List.getD_eq_getElem?_getD, Int.toNat_natCast, List.getElem?_eq_getElem h]
  rfl
def canOwn (a : S34) : Prop := a.f1.length < 4000 ∧ (∀ y ∈ a.f1, slices_Clone_int_int.f y.f1 = some y.f1) ∧ slices_Clone_uint32_uint32.f a.f5 = some a.f5 ∧ a.f6.length < 4000 ∧ (∀ r ∈ a.f6, bytes_Clone.f r.f2 = some r.f2)
instance canOwn_dec (a : S34) : Decidable (canOwn a) := by unfold canOwn; infer_instance
def canDelta (old fr : List S54) : Prop := old.length < 100000 ∧ fr.length < 100000 ∧ ∀ x ∈ fr, canOwn x.f1
instance canDelta_dec (old fr : List S54) : Decidable (canDelta old fr) := by unfold canDelta; infer_instance
def sameB (a b : S34) : Bool := (attr_Same.f a.f0 a.f1 a.f2 a.f3 a.f4 a.f5 a.f6 b.f0 b.f1 b.f2 b.f3 b.f4 b.f5 b.f6).getD false
def newsB (old : List S54) (x : S54) : Bool := !(findV old x.f0.f0 x.f0.f1).2 || !sameB (findV old x.f0.f0 x.f0.f1).1.f1 x.f1
def newV (old l : List S54) : List S57 := (l.filter (newsB old)).map fun x => ⟨[], x.f1, [x.f0]⟩
theorem newV_next (old l : List S54) (i : Nat) (h : i < l.length) : newV old (l.take (i + 1)) = newV old (l.take i) ++ (if newsB old l[i] = true then [⟨[], l[i].f1, [l[i].f0]⟩] else []) := by
  unfold newV
  rw [List.take_succ_eq_append_getElem h, List.filter_append, List.map_append]
  congr 1
  cases hb : newsB old l[i] with
  | true => simp [hb]
  | false => simp [hb]
theorem newV_len (old l : List S54) : (newV old l).length ≤ l.length := by unfold newV; rw [List.length_map]; exact List.length_filter_le _ _
def partV (G : List S29) (j : Nat) : List S29 := (G.take (100 * j + min 100 (G.length - 100 * j))).drop (100 * j)
def partsV (G : List S29) (l : List (Fin (partsN G.length))) : List S57 := l.map fun j => ⟨partV G j.1, z34, []⟩
def deltaV (old fr : List S54) : List S57 := partsV (goneV fr old) (List.finRange _) ++ newV old fr
attribute [local go_sem] Oper.semAt_some
/-- What holds between the rounds of the second loop. -/
def PartsI (w : World) (AG : Option Addr) (cG : Nat) (G : List S29) (go gs gn : Nat) (pre : List (Fin (partsN G.length))) (W : World) : Prop :=
  ∃ v, W.heap[go]? = some (.cells #[v] 50 (0, 0)) ∧ Kd.R k57 57 W w.heap.size (fun k_ => w.heap.size ≤ k_) v (partsV G pre) ∧ Kd.R k29 29 W w.heap.size (fun k_ => w.heap.size ≤ k_) (.slice AG G.length cG) (G) ∧ W.heap[gs]? = some (.cells #[.slice AG G.length cG] 55 (0, 0)) ∧ W.heap[gn]? = some (.cells #[.int .i64 100] 3 (0, 0)) ∧ Below w.heap.size w W
theorem PartsI.own {w : World} {AG : Option Addr} {cG : Nat} {G : List S29} {go gs gn B : Nat} (hB : w.heap.size ≤ B) : OwnFrom B (PartsI w AG cG G go gs gn) := by
  rintro pre W W' row ⟨v, h1, h2, h3, h4, h5, h6⟩ hg hr
  have hr' := fun r e => (hr r e).2
  exact ⟨v, blk_own h1 hg hr', R_own h2 hg hr', R_own h3 hg hr', blk_own h4 hg hr', blk_own h5 hg hr', h6.grown hg h6.size (fun k e => Nat.le_trans hB (hr k e).1)⟩
theorem partV_len (G : List S29) (j : Nat) : (partV G j).length = min 100 (G.length - 100 * j) := by unfold partV; rw [List.length_drop, List.length_take]; omega
theorem partsV_snoc (G : List S29) (pre : List (Fin (partsN G.length))) (x : Fin (partsN G.length)) : partsV G (pre ++ [x]) = partsV G pre ++ [⟨partV G x.1, z34, []⟩] := by unfold partsV; rw [List.map_append]; rfl
theorem partsV_len (G : List S29) (l : List (Fin (partsN G.length))) : (partsV G l).length = l.length := by unfold partsV; rw [List.length_map]
theorem part_lt {N : Nat} (x : Fin (partsN N)) : 100 * x.1 < N := by have h : x.1 < (N + 99) / 100 := x.2; omega
theorem part_C {W : World} {ad : Addr} {cG : Nat} {G : List S29} (hc : G.length ≤ cG) (h : Kd.C k29 W (some ad) G.length G) (x : Fin (partsN G.length)) : Kd.C k29 W (some (ad.add (100 * x.1 * 2))) (partV G x.1).length (partV G x.1) := by
  have hl := part_lt x
  have h2 := Kd.C_mid (lo := 100 * x.1) (hi := 100 * x.1 + min 100 (G.length - 100 * x.1)) h (by omega) (by omega) hc
  rw [if_neg (by omega)] at h2
  exact h2
theorem R_apart {α β : Type} {d : Kd α} {d2 : Kd β} {e e2 : Nat} {w w1 : World} {base base2 : Nat} {ok ok2 : Nat → Prop} {v v2 : Value} {xs : List α} {ys : List β} (h : d.R e w base ok v xs) (h2 : d2.R e2 w base2 ok2 v2 ys) (ht : ∀ q, q ∈ e :: d.E → q ≠ e2) (hg : w.grownBy w1 v2.ownBlock) : d.R e w1 base ok v xs := by
  cases hv : v2.ownBlock with
  | none => rw [hv] at hg; exact Kd.R_grown h hg (fun _ _ e => by cases e)
  | some r =>
    obtain ⟨inner, hown⟩ := Kd.R_own h2
    obtain ⟨cells, hc⟩ := own_typed hown r hv
    rw [hv] at hg
    exact Kd.R_mono (Kd.R_grown (Kd.R_types h hc ht) hg (fun k hk e => hk.2 (by cases e; rfl))) (fun _ hk => hk.1)
theorem keeps_grown {α : Type} {d : Kd α} {e : Nat} {w w1 : World} {base : Nat} {ok : Nat → Prop} {v : Value} {xs : List α} (h : d.R e w base ok v xs) (hg : w.grownBy w1 v.ownBlock) : KeepsOthers w w1 :=
  KeepsOthers.of_grownBy hg (fun j o hj ho => by
    obtain ⟨inner, hown⟩ := Kd.R_own h
    obtain ⟨cells, hc⟩ := own_typed hown j hj
    rw [ho] at hc
    cases hc
    rfl)
theorem told_pre (xa xl o : Int) (A1 : Option Addr) (n1 c1 : Nat) (nx md pr : Int) (A5 : Option Addr) (n5 c5 : Nat) (A6 : Option Addr) (n6 c6 : Nat) : ∀ (j : Nat) (v : Value), ([.int .u32 xa, .int .i64 xl] : List Value)[j]? = some v → (#[.int .u32 xa, .int .i64 xl, .int .i64 o, .slice A1 n1 c1, .int .u32 nx, .int .i64 md, .int .i64 pr, .slice A5 n5 c5, .slice A6 n6 c6] : Array Value).toList[0 + j]? = some v := by
  intro j v h
  match j with
  | 0 => exact h
  | 1 => exact h
  | j + 2 => simp at h
theorem told_att (xa xl o : Int) (A1 : Option Addr) (n1 c1 : Nat) (nx md pr : Int) (A5 : Option Addr) (n5 c5 : Nat) (A6 : Option Addr) (n6 c6 : Nat) : ∀ (j : Nat) (v : Value), ([.int .i64 o, .slice A1 n1 c1, .int .u32 nx, .int .i64 md, .int .i64 pr, .slice A5 n5 c5, .slice A6 n6 c6] : List Value)[j]? = some v → (#[.int .u32 xa, .int .i64 xl, .int .i64 o, .slice A1 n1 c1, .int .u32 nx, .int .i64 md, .int .i64 pr, .slice A5 n5 c5, .slice A6 n6 c6] : Array Value).toList[2 + j]? = some v := by
  intro j v h
  match j with
  | 0 => exact h
  | 1 => exact h
  | 2 => exact h
  | 3 => exact h
  | 4 => exact h
  | 5 => exact h
  | 6 => exact h
  | j + 7 => simp at h
/-- The way out by a panic is shut. -/
def noPanic (Q : Exit → Act → World → Prop) : Exit → Act → World → Prop
  | .panic _, _, _ => False
  | e, a, w => Q e a w
theorem wp_noPanic {P : Program} {c : Code} {Q : Exit → Act → World → Prop} {a : Act} {w : World} (h : c.wp P (noPanic Q) a w) : c.wp P Q a w :=
  Code.wp_mono (fun e a w h => by cases e <;> first | exact h | exact h.elim) h
theorem C_block {α : Type} {d : Kd α} {w : World} {g e : Nat} {cells : Array Value} (hb : w.heap[g]? = some (.cells cells e (0, 0))) (xs : List α) (cs : List (List Value)) (hl : cs.length = xs.length) (hm : xs.length < 4000)
    (hk : ∀ (j : Nat) (x : α) (c : List Value), xs[j]? = some x → cs[j]? = some c → c.length = d.sz ∧ d.K w x c ∧ ∀ i u, c[i]? = some u → cells[j * d.sz + i]? = some u) : Kd.C d w (some ⟨g, 0, none⟩) xs.length xs := by
  refine ⟨rfl, by omega, fun _ => ⟨_, rfl, fun j p hj => ?_⟩⟩
  obtain ⟨hjl, _⟩ := List.getElem?_eq_some_iff.1 hj
  obtain ⟨h1, h2, h3⟩ := hk j p cs[j] hj (List.getElem?_eq_getElem (by omega))
  refine ⟨_, h1, h2, fun i u hi => ?_⟩
  have := h3 i u hi
  rw [← this]
  have e : (⟨g, 0, none⟩ : Addr).add (j * d.sz + i) = ⟨g, j * d.sz + i, none⟩ := by
    simp [Addr.add]
    intro h1 h2
    omega
  rw [e]
  exact blk_cell hb _
theorem C_block1 {α : Type} {d : Kd α} {w : World} {g e : Nat} {c : List Value} {x : α} (hb : w.heap[g]? = some (.cells c.toArray e (0, 0))) (hl : c.length = d.sz) (hk : d.K w x c) : Kd.C d w (some ⟨g, 0, none⟩) 1 [x] := by
  refine C_block hb [x] [c] rfl (by simp) (fun j y c' hy hc => ?_)
  rcases j with _ | j
  · simp only [List.getElem?_cons_zero, Option.some.injEq] at hy hc
    subst hy
    subst hc
    exact ⟨hl, hk, fun i u hi => by simpa using hi⟩
  · simp at hy
structure DS where
  B1 : Option Addr
  d1 : Nat
  B5 : Option Addr
  B6 : Option Addr
  gP : Nat
def ds0 : DS := ⟨none, 0, none, none, 0⟩
/-- What holds in the region that makes the update: of what was owned, and of the prefix's row. -/
def UpdF (WA : World) (q : S54) (own pre : Bool) (s : DS) (W : World) : Prop :=
  Below WA.heap.size WA W ∧ (own = true → (q.f1.f1.length ≤ s.d1 ∧ Kd.F k69 W (fun k => WA.heap.size ≤ k) s.B1 q.f1.f1.length q.f1.f1 ∧ Kd.F (Kd.int .u32) W (fun k => WA.heap.size ≤ k) s.B5 q.f1.f5.length q.f1.f5 ∧ Kd.F k73 W (fun k => WA.heap.size ≤ k) s.B6 q.f1.f6.length q.f1.f6)) ∧ (pre = true → (W.heap[s.gP]? = some (.cells #[.int .u32 q.f0.f0, .int .i64 q.f0.f1] 29 (0, 0)) ∧ WA.heap.size ≤ s.gP))
theorem UpdF.below {WA W W1 : World} {q : S54} {own pre : Bool} {s : DS} (h : UpdF WA q own pre s W) (hb : Below W.heap.size W W1) : UpdF WA q own pre s W1 :=
  ⟨below_step h.1 hb, fun e => ⟨(h.2.1 e).1, Kd.F_below (h.2.1 e).2.1 hb, Kd.F_below (h.2.1 e).2.2.1 hb, Kd.F_below (h.2.1 e).2.2.2 hb⟩, fun e => ⟨(hb.block _ (blk_lt (h.2.2 e).1)).trans (h.2.2 e).1, (h.2.2 e).2⟩⟩
theorem UpdF.pre {WA W : World} {q : S54} {own pre : Bool} {s : DS} (h : UpdF WA q own pre s W) : UpdF WA q own true { s with gP := W.heap.size } (W.alloc (.cells #[.int .u32 q.f0.f0, .int .i64 q.f0.f1] 29)) :=
  have h2 := UpdF.below h (below_alloc (Below.refl _ _) (.cells #[.int .u32 q.f0.f0, .int .i64 q.f0.f1] 29))
  ⟨h2.1, h2.2.1, fun _ => ⟨heap_alloc_new W _, h.1.size⟩⟩
theorem UpdF.own {WA W W1 : World} {q : S54} {own pre : Bool} {s : DS} {B1 B5 B6 : Option Addr} {d1 d1' d5' d6' : Nat} (h : UpdF WA q own pre s W) (h1 : q.f1.f1.length ≤ d1) (r1 : Kd.R kc69 69 W1 W.heap.size (fun k => W.heap.size ≤ k) (.slice B1 q.f1.f1.length d1') q.f1.f1) (r5 : Kd.R (Kd.int .u32) 22 W1 W.heap.size (fun k => W.heap.size ≤ k) (.slice B5 q.f1.f5.length d5') q.f1.f5) (r6 : Kd.R k73 73 W1 W.heap.size (fun k => W.heap.size ≤ k) (.slice B6 q.f1.f6.length d6') q.f1.f6) (hb : Below W.heap.size W W1) : UpdF WA q true pre { s with B1 := B1, d1 := d1, B5 := B5, B6 := B6 } W1 :=
  have h2 := UpdF.below h hb
  have up : ∀ k, W.heap.size ≤ k → WA.heap.size ≤ k := fun k hk => Nat.le_trans h.1.size hk
  ⟨h2.1, fun _ => ⟨h1, Kd.F_mono (Kd.F_imp (Kd.R_F r1) (fun _ hc => kc_C hc)) up, Kd.F_mono (Kd.R_F r5) up, Kd.F_mono (Kd.R_F r6) up⟩, h2.2.2⟩
theorem pfx_F {W : World} {ok : Nat → Prop} {g : Nat} {p : S29} (h : W.heap[g]? = some (.cells #[.int .u32 p.f0, .int .i64 p.f1] 29 (0, 0))) (hg : ok g) : Kd.F k29 W ok (some ⟨g, 0, none⟩) 1 [p] := fun W' hW =>
  C_block1 (c := [.int .u32 p.f0, .int .i64 p.f1]) ((hW g hg (blk_lt h)).trans h) rfl (k29_mk _ _)
theorem upd_FK {WA W : World} {q : S54} {s : DS} (h : UpdF WA q true true s W) : Kd.FK k57 W (fun k => WA.heap.size ≤ k) (⟨[], q.f1, [q.f0]⟩ : S57) [.slice none 0 0, .int .i64 q.f1.f0, .slice s.B1 q.f1.f1.length s.d1, .int .u32 q.f1.f2, .int .i64 q.f1.f3, .int .i64 q.f1.f4, .slice s.B5 q.f1.f5.length q.f1.f5.length, .slice s.B6 q.f1.f6.length q.f1.f6.length, .slice (some ⟨s.gP, 0, none⟩) 1 1] :=
  have h1 := h.2.1 rfl
  have h2 := h.2.2 rfl
  k57_mkF W _ (⟨[], q.f1, [q.f0]⟩ : S57) (Nat.le_refl _) (Kd.F_nil _ _ _) h1.1 h1.2.1 (Nat.le_refl _) h1.2.2.1 (Nat.le_refl _) h1.2.2.2 (Nat.le_refl _) (pfx_F h2.1 h2.2)
theorem newsB_of {old : List S54} {x t : S54} {b : Bool} (h : findV old x.f0.f0 x.f0.f1 = (t, b)) : newsB old x = (!b || !sameB t.f1 x.f1) := by unfold newsB; rw [h]
set_option maxHeartbeats 4000000 in
set_option maxRecDepth 100000 in
theorem delta_gen (AO AF : Option Addr) (cO cF : Nat) (old fresh : List S54) (w : World) (hro : Kd.C k54 w AO old.length old) (hco : old.length ≤ cO) (hrf : Kd.C k54 w AF fresh.length fresh) (hcf : fresh.length ≤ cF) (hcan : canDelta old fresh) :
    Calls Try.prog 17 #[.slice AO old.length cO, .slice AF fresh.length cF] w fun e w' => ∃ v0_ : Value, e = .returned v0_ ∧ Kd.N k57 57 w' w.heap.size (fun k_ => w.heap.size ≤ k_) v0_ (deltaV old fresh) ∧ Below w.heap.size w w' := by
  have HRO := Aside0.mk hro
  have HCO := Aside0.mk hco
  have HRF := Aside0.mk hrf
  have HCF := Aside0.mk hcf
  obtain ⟨hn1, hn2, hcan⟩ := hcan
  have HN1 := Aside0.mk hn1
  have HN2 := Aside0.mk hn2
  have HCAN := Aside0.mk hcan
  have hu34 := Try.underlying34
  have hu29 := Try.underlying29
  have hu54 := Try.underlying54
  have HB_ := Aside0.mk (Below.refl w.heap.size w)
  clear hro hco hrf hcf hn1 hn2 hcan
  refine (callsIn_wide (n := 4)).1 ?_
  refine callsIn_of_wp_marks Try.func17 rfl trivial ?_ rfl
  simp only [Try.ntmps17, List.size_toArray, List.length_cons, List.length_nil, Nat.reduceAdd, Nat.reduceSub, Array.replicate_succ, Array.replicate_zero, List.push_toArray, List.append_toArray, List.nil_append, List.cons_append]
  refine wpIn_wide.2 ?_
  go_wp2
  go_loopg [5, 18] (old.length + 1) (fun kq v5 v18 wr => ∃ (x : Nat), v18 = .int .i64 (x : Int) ∧ Aside0 (x ≤ old.length ∧ x + kq = old.length + 1) ∧ Aside0 (Kd.R k29 29 wr w.heap.size (fun k_ => w.heap.size ≤ k_) v5 (goneV fresh (old.take x))) ∧ Aside0 (Below w.heap.size w wr))
  case atStart => exact ⟨0, rfl, ⟨Nat.zero_le _, by omega⟩, ⟨Kd.R_nil _ _ _ _ _⟩, HB_⟩
  case round =>
    obtain ⟨x, rfl, HX, HG, HB⟩ := hrel
    by_cases hlt : x < old.length
    · have c1 : decide (x < old.length) = true := decide_eq_true hlt
      have HL := Aside0.mk hlt
      obtain ⟨k1, rfl⟩ : ∃ k1, gk = k1 + 1 := ⟨gk - 1, by have := HX.out; omega⟩
      have p1 : (0 : Int) ≤ (x : Int) := by omega
      have q1 : (x : Int) < (old.length : Int) := by omega
      obtain ⟨ad, B3, d3, B7, d7, B8, d8, eA, h0_, h1_, h2_, h3_, h4_, h5_, h6_, h7_, h8_, g3, k3, g7, k7, g8, k8⟩ := at_T54 (Kd.C_below HRO.out HB.out) (x : Int) p1 q1
      rw [Int.toNat_natCast] at h0_ h1_ h2_ h3_ h4_ h5_ h6_ h7_ h8_
      have HGX := Aside0.mk (And.intro g3 (And.intro g7 g8))
      have HK3 := Aside0.mk k3
      have HK7 := Aside0.mk k7
      have HK8 := Aside0.mk k8
      clear g3 g7 g8 k3 k7 k8
      cases eA
      have HW0 := Aside0.mk (Below.refl wr.heap.size wr)
      obtain ⟨t, b, hfv⟩ : ∃ t b, findV fresh (rd_T54 old (x : Int)).f0.f0 (rd_T54 old (x : Int)).f0.f1 = (t, b) := ⟨_, _, rfl⟩
      have HFV := Aside0.mk hfv
      clear hfv hlt
      go_upto_region 6 with (first | ((with_reducible refine gate_dst (N := 7) rfl ?_); refine box_event ?hg (N := 7) ?hd (cs := #[.int .u32 0, .int .i64 0, .int .i64 0, .slice none 0 0, .int .u32 0, .int .i64 0, .int .i64 0, .slice none 0 0, .slice none 0 0]) (t := 54) ?hr ?_; (case hd => rfl); (case hg => rfl); (case hr => first | (go_simp; done) | (go_simp; rfl)); intro gx hg wa hbox hb; have HWa := Aside0.mk (below_step HW0.out hb); have BKXa := Aside0.mk hbox; have GX := Aside0.mk (show wr.heap.size ≤ gx from by rw [hg]; exact HW0.out.size); clear hbox hb hg) | ((with_reducible refine gate_store (t := 54) (p := 7) rfl ?_); refine store_new rfl 54 (.tmp 7) (.tmp 21) rfl [.int .u32 (rd_T54 old (x : Int)).f0.f0, .int .i64 (rd_T54 old (x : Int)).f0.f1, .int .i64 (rd_T54 old (x : Int)).f1.f0, .slice B3 (rd_T54 old (x : Int)).f1.f1.length d3, .int .u32 (rd_T54 old (x : Int)).f1.f2, .int .i64 (rd_T54 old (x : Int)).f1.f3, .int .i64 (rd_T54 old (x : Int)).f1.f4, .slice B7 (rd_T54 old (x : Int)).f1.f5.length d7, .slice B8 (rd_T54 old (x : Int)).f1.f6.length d8] (by rfl) (by rfl) BKXa.out (by rfl) (by kernel_rfl) (by intro v hv; simp only [List.mem_cons, List.not_mem_nil, or_false] at hv; rcases hv with rfl | rfl | rfl | rfl | rfl | rfl | rfl | rfl | rfl <;> rfl) ?_; intro wb hx hg hs; have BKXb := Aside0.mk hx; have HWb := Aside0.mk (HWa.out.grown hg HWa.out.size (fun k e => by injection e with e; have := GX.out; omega)); have hp0 : wb.cell? ⟨gx, 0, none⟩ = some (.int .u32 (rd_T54 old (x : Int)).f0.f0) := (blk_cell BKXb.out 0).trans rfl; have hp1 : wb.cell? ⟨gx, 1, none⟩ = some (.int .i64 (rd_T54 old (x : Int)).f0.f1) := (blk_cell BKXb.out 1).trans rfl; clear hx hg hs) | (go_at_call 32; refine (find_told AF cF fresh (rd_T54 old (x : Int)).f0.f0 (rd_T54 old (x : Int)).f0.f1 t b _ (Kd.C_below HRF.out (below_step HB.out HWb.out)) HCF.out HN2.out HFV.out).mono ?_; rintro e wc ⟨X3, y3, X7, y7, X8, y8, rfl, hT, hb⟩; have BKXc := Aside0.mk ((hb.block _ (blk_lt BKXb.out)).trans BKXb.out); have HWc := Aside0.mk (below_step HWb.out hb); have HT := Aside0.mk hT; clear hb hT hp0 hp1) | ((with_reducible refine gate_dst (N := 8) rfl ?_); refine box_event ?hg (N := 8) ?hd (cs := #[.int .u32 0, .int .i64 0, .int .i64 0, .slice none 0 0, .int .u32 0, .int .i64 0, .int .i64 0, .slice none 0 0, .slice none 0 0]) (t := 54) ?hr ?_; (case hd => rfl); (case hg => rfl); (case hr => first | (go_simp; done) | (go_simp; rfl)); intro gz hg wd hbox hb; have BKXd := Aside0.mk ((hb.block _ (blk_lt BKXc.out)).trans BKXc.out); have HWd := Aside0.mk (below_step HWc.out hb); have BKZd := Aside0.mk hbox; have GZ := Aside0.mk (show gx < gz from by rw [hg]; exact blk_lt BKXc.out); clear hbox hb hg) | ((with_reducible refine gate_store (t := 54) (p := 8) rfl ?_); refine store_new rfl 54 (.tmp 8) (.tmp 27) rfl [.int .u32 t.f0.f0, .int .i64 t.f0.f1, .int .i64 t.f1.f0, .slice X3 t.f1.f1.length y3, .int .u32 t.f1.f2, .int .i64 t.f1.f3, .int .i64 t.f1.f4, .slice X7 t.f1.f5.length y7, .slice X8 t.f1.f6.length y8] (by rfl) (by rfl) BKZd.out (by rfl) (by kernel_rfl) (by intro v hv; simp only [List.mem_cons, List.not_mem_nil, or_false] at hv; rcases hv with rfl | rfl | rfl | rfl | rfl | rfl | rfl | rfl | rfl <;> rfl) ?_; intro we hx hg hs; have BKXe := Aside0.mk ((hg.block _ (blk_lt BKXd.out) (fun e => by injection e with e; have := GZ.out; omega)).trans BKXd.out); have HWe := Aside0.mk (HWd.out.grown hg HWd.out.size (fun k e => by injection e with e; have := GX.out; have := GZ.out; omega)); clear hx hg hs))
      rcases b with _ | _
      · have hq0 : we.cell? ⟨gx, 0, none⟩ = some (.int .u32 (rd_T54 old (x : Int)).f0.f0) := (blk_cell BKXe.out 0).trans rfl; have hq1 : we.cell? ⟨gx, 1, none⟩ = some (.int .i64 (rd_T54 old (x : Int)).f0.f1) := (blk_cell BKXe.out 1).trans rfl
        go_wp2_with (first | ((with_reducible refine gate_builtin (b := .append) (xs := #[.tmp 31, .tmp 34]) rfl ?_); (try (refine gate_guard (by rfl) ?_; dsimp only)); at_builtin; refine Kd.R_append k29 (w0 := w) w.heap.size rfl (.tmp 31) (.tmp 34) 55 29 (.agg #[(.int .u32 0), (.int .i64 0)]) 16 rfl Try.underlying55 (show (Try.prog.info? 29).map (fun i => (i.zero, i.size, i.bytes)) = some (some (.agg #[(.int .u32 0), (.int .i64 0)]), 2, 16) from by kernel_rfl) rfl (by decide) (by omega) u5 (goneV fresh (old.take x)) (rd_T54 old (x : Int)).f0 [.int .u32 (rd_T54 old (x : Int)).f0.f0, .int .i64 (rd_T54 old (x : Int)).f0.f1] (fun k_ => w.heap.size ≤ k_) (fun _ => False) rfl rfl ?aP (fun _ hk => hk.elim) ?aF ?aO ?aB ?aS ?aL ?_; (case aP => exact k29_mkM _ _ _ (rd_T54 old (x : Int)).f0); (case aB => exact below_step HB.out HWe.out); (case aF => exact (fun k hk => Nat.le_trans (below_step HB.out HWe.out).size hk)); (case aO => exact Kd.R_below HG.out HWe.out); (case aS => exact (below_step HB.out HWe.out).size); (case aL => have h1 := goneV_len fresh (old.take x); have h2 := List.length_take_le x old; have h3 := HX.out; have h4 := HN1.out; omega); intro v1 wf ho hb hg hat; have HG2 := Aside0.mk ho; have HB2 := Aside0.mk hb; clear ho hb hg hat))
        go_roundg k1
        case measure => omega
        case rel =>
          refine ⟨x + 1, by first | rfl | (have hw : wrap64 ((x : Int) + 1) = ((x + 1 : Nat) : Int) := (by have := HL.out; have := HN1.out; unfold wrap64; omega); rw [hw]), ⟨HL.out, by have := HX.out; omega⟩, ⟨?_⟩, ⟨HB2.out⟩⟩
          rw [goneV_next fresh old x HL.out, ← told_at old x HL.out, HFV.out, if_neg (by simp)]
          exact HG2.out
      · go_wp2
        go_roundg k1
        case measure => omega
        case rel =>
          refine ⟨x + 1, by first | rfl | (have hw : wrap64 ((x : Int) + 1) = ((x + 1 : Nat) : Int) := (by have := HL.out; have := HN1.out; unfold wrap64; omega); rw [hw]), ⟨HL.out, by have := HX.out; omega⟩, ⟨?_⟩, ⟨below_step HB.out HWe.out⟩⟩
          rw [goneV_next fresh old x HL.out, ← told_at old x HL.out, HFV.out, if_pos rfl, List.append_nil]
          exact (Kd.R_below HG.out HWe.out)
    · have c1 : decide (x < old.length) = false := decide_eq_false hlt
      have HXE := Aside0.mk (show x = old.length from by have := HX.out; omega)
      clear hlt
      obtain ⟨G, hG⟩ : ∃ G, G = goneV fresh old := ⟨_, rfl⟩
      have HGG := Aside0.mk (show Kd.R k29 29 wr w.heap.size (fun k_ => w.heap.size ≤ k_) u5 (G) from by rw [hG]; have h := HG.out; rw [HXE.out, List.take_length] at h; exact h)
      have HGE := Aside0.mk hG
      have HGL := Aside0.mk (show G.length < 100000 from by rw [hG]; have h1 := goneV_len fresh old; have h2 := HN1.out; omega)
      obtain ⟨AG, cG, eG⟩ := Kd.R_slice HGG.out
      subst eG
      have HGC := Aside0.mk (Kd.R_reads' HGG.out).2.1
      clear HG hG
      go_wp2_with (first | ((with_reducible refine gate_dst (N := 10) rfl ?_); refine box_event ?hg (N := 10) ?hd (cs := #[.slice none 0 0]) (t := 50) ?hr ?_; (case hd => rfl); (case hg => rfl); (case hr => first | (go_simp; done) | (go_simp; rfl)); intro go hg w1 hbox hb; have HB1 := Aside0.mk (below_step HB.out hb); have BKO1 := Aside0.mk hbox; have GEO := Aside0.mk (show w.heap.size ≤ go from by rw [hg]; exact HB.out.size); have HGG1 := Aside0.mk (Kd.R_below HGG.out hb); clear hbox hb hg) | (go_at_call 33; refine (chunk_made2 AG G.length cG _).mono ?_; rintro e w2 ⟨gs, gn, rfl, hs, hn, hne, hb⟩; have BKO2 := Aside0.mk ((hb.block _ (blk_lt BKO1.out)).trans BKO1.out); have HB2 := Aside0.mk (below_step HB1.out hb); have HGG2 := Aside0.mk (Kd.R_below HGG1.out hb); have HS2 := Aside0.mk hs; have HN2_ := Aside0.mk hn; clear hs hn hne hb))
      refine (wpIn_wide (n := 4)).1 ?_
      refine wpIn_rangeFunc_ownF rfl (by decide) (gf := 54) (lb := #[.pointer (some ⟨gs, 0, none⟩), .pointer (some ⟨gn, 0, none⟩)]) rfl trivial (fun args W0 => enters_ Try.func54 (by kernel_rfl) rfl args W0) (chunk_stops2 3 gs gn (by decide) AG G.length cG HGC.out HGL.out w2 HS2.out HN2_.out) (fun h k => Keeps2.trans h k) ?keeps (Below.refl _ _) (fun x => rfl) (PartsI w AG cG G go gs gn) (fun _ _ _ => False) (PartsI.own HB2.out.size) (fun _ _ _ _ _ h => h.elim) ⟨_, BKO2.out, Kd.R_nil _ _ _ _ _, HGG2.out, HS2.out, HN2_.out, HB2.out⟩ ?a1 ?assign ?body ?done ?stop
      case keeps =>
        intro W l o o' hl _ _ _
        have h1 := blk_lt HS2.out
        have h2 := blk_lt HN2_.out
        exact ⟨fun q hq => (World.putObj_heap_other (by omega)).trans hq, fun q hq => (World.putObj_heap_other (by omega)).trans hq⟩
      case assign =>
        intro l x W K hK
        gi_wp2
        exact hK
      case stop =>
        rintro D c pre W _ _ h
        exact h.elim
      case body =>
        rintro l pre x W ⟨v, hgo, hR, hG, hs, hn, hb⟩ hlen
        refine wpIn_block ?_
        have hlt := part_lt x
        have hc0 := (Kd.R_reads' hG).2.2
        obtain ⟨ad, eA, _⟩ := hc0.2.2 (by omega)
        cases eA
        have HPCW := Aside0.mk (part_C HGC.out hc0 x)
        have HPL0 := Aside0.mk (partV_len G x.1)
        rw [← HPL0.out]
        simp only [Option.map_some]
        obtain ⟨P, hP⟩ : ∃ P, P = partV G x.1 := ⟨_, rfl⟩
        rw [← hP] at HPCW HPL0 ⊢
        have HP := Aside0.mk hP
        have HPL := Aside0.mk (show P.length < 100000 from by have := HPL0.out; omega)
        have HLE := Aside0.mk (show pre.length < 2000 from by have h1 : pre.length < (G.length + 99) / 100 := hlen; have h2 := HGL.out; omega)
        obtain ⟨Ao, co, eo⟩ := Kd.R_slice hR
        subst eo
        have HRW := Aside0.mk hR
        have HGW := Aside0.mk hG
        have BKOW := Aside0.mk hgo
        have BKSW := Aside0.mk hs
        have BKNW := Aside0.mk hn
        have HBW := Aside0.mk hb
        clear hlt hc0 hP hR hG hgo hs hn hb hlen
        refine startIn_ (n := 7) (S := fun w' => w'.heap[go]? = some (.cells #[.slice Ao (partsV G pre).length co] 50 (0, 0))) (ds := [6]) #[false, false, false, false, false, false, false] (by kernel_rfl) rfl rfl (BKOW.out) (fun hHeld => ?_) ?hq (by kernel_rfl)
        case hq => rintro ⟨_, _, h⟩; exact h
        have HBD := Aside0.mk (below_drew1 HBW.out)
        have BKOD := Aside0.mk (blk_drew BKOW.out)
        have BKSD := Aside0.mk (blk_drew BKSW.out)
        have BKND := Aside0.mk (blk_drew BKNW.out)
        have HRD := Aside0.mk (Kd.R_drew HRW.out)
        have HGD := Aside0.mk (Kd.R_drew HGW.out)
        have HKD := Aside0.mk (KeepsOthers.drew W)
        have HPC := Aside0.mk (Kd.C_below HPCW.out (below_drew (Below.refl _ _)))
        generalize W.drew = wD at HBD BKOD BKSD BKND HRD HGD HKD HPC hHeld ⊢
        refine pure_ (i := 1) (N := some 41) (v := ?_) (a' := ?_) #[false, true, false, false, false, false, false] rfl rfl (by kernel_rfl) (fun _ _ _ h => h) (Or.inl ⟨by rfl, ?_⟩) ?_ ?_
        rotate_left
        · intro w'
          go_simp
          with_reducible rfl
        rotate_left
        · simp only [Act.put, List.setIfInBounds_toArray, List.set_cons_zero, List.set_cons_succ, i64_w, i32_w]
          rfl
        refine take_ (i := 0) (N := some 40) (v := ?_) (a' := ?_) #[true, true, false, false, false, false, false] rfl rfl (by kernel_rfl) (fun _ _ _ h => h) (Or.inl ⟨by rfl, ?_⟩) hHeld ?_ ?_
        rotate_left
        · intro w' s0
          have hc : w'.cell? ⟨go, 0, none⟩ = some (.slice Ao (partsV G pre).length co) := (blk_cell s0 0).trans rfl
          go_simp
          with_reducible rfl
        rotate_left
        · simp only [Act.put, List.setIfInBounds_toArray, List.set_cons_zero, List.set_cons_succ, i64_w, i32_w]
          rfl
        refine one_ (i := 2) (N := some 42) #[true, true, true, false, false, false, false] rfl rfl (by kernel_rfl) (by decide) (fun K hK => ?_)
        refine goes_ Try.func34 (by kernel_rfl) rfl #[.slice (some (ad.add (100 * x.1 * 2))) P.length P.length] (by rfl) rfl rfl (by (try simp only [List.map_toArray, List.map_cons, List.map_nil]); first | done | rfl) ?_
        refine (clone_pfx (ad.add (100 * x.1 * 2)) P.length P _ HPC.out (Nat.le_refl _) HPL.out).mono ?_
        rintro e w3 ⟨v3, rfl, hR3, hb3⟩
        obtain ⟨B3, y3, e3⟩ := Kd.R_slice hR3
        subst e3
        have HR3 := Aside0.mk hR3
        have HV3 := Aside0.mk (Kd.R_below HRD.out hb3)
        have HG3 := Aside0.mk (Kd.R_below HGD.out hb3)
        have BKO3 := Aside0.mk ((hb3.block _ (blk_lt BKOD.out)).trans BKOD.out)
        have BKS3 := Aside0.mk ((hb3.block _ (blk_lt BKSD.out)).trans BKSD.out)
        have BKN3 := Aside0.mk ((hb3.block _ (blk_lt BKND.out)).trans BKND.out)
        have HB3 := Aside0.mk (below_step HBD.out hb3)
        have HK3 := Aside0.mk (KeepsOthers.trans HKD.out (KeepsOthers.of_below hb3))
        have HS3 := Aside0.mk hb3.size
        clear hR3 hb3
        refine ⟨_, rfl, ?_⟩
        refine hK.out _ _ (BKO3.out) (fun hHeld => ?_)
        clear hK K
        refine norm_ (a' := ?_) ?_ ?_
        rotate_left
        · show Act.put _ (some 42) _ = _
          simp only [Act.put, List.setIfInBounds_toArray, List.set_cons_zero, List.set_cons_succ, i64_w, i32_w]
          rfl
        refine pure_ (i := 3) (N := some 43) (v := ?_) (a' := ?_) #[true, true, true, true, false, false, false] rfl rfl (by kernel_rfl) (fun _ _ _ h => h) (Or.inl ⟨by rfl, ?_⟩) ?_ ?_
        rotate_left
        · intro w'
          go_simp
          with_reducible rfl
        rotate_left
        · simp only [Act.put, List.setIfInBounds_toArray, List.set_cons_zero, List.set_cons_succ, i64_w, i32_w]
          rfl
        refine one_ (i := 4) (N := some 44) #[true, true, true, true, true, false, false] rfl rfl (by kernel_rfl) (by decide) (fun K hK => ?_)
        refine value_ (w1 := ?_) (v := ?_) (by rfl) rfl ?_ ?_
        rotate_left 2
        · go_simp
          constructor
          · rfl
          · rfl
        refine hK.out _ _ ((((below_alloc (Below.refl _ _) _).block _ (blk_lt BKO3.out)).trans BKO3.out)) (fun hHeld => ?_)
        clear hK K
        refine norm_ (a' := ?_) ?_ ?_
        rotate_left
        · show Act.put _ (some 44) _ = _
          simp only [Act.put, List.setIfInBounds_toArray, List.set_cons_zero, List.set_cons_succ, i64_w, i32_w]
          rfl
        refine one_ (i := 5) (N := some 45) #[true, true, true, true, true, true, false] rfl rfl (by kernel_rfl) (by decide) (fun K hK => ?_)
        refine Kd.R_append_step k57 (w0 := w) w.heap.size (by rfl) (.tmp 40) (.tmp 44) 50 57 (.agg #[.slice none 0 0, .int .i64 0, .slice none 0 0, .int .u32 0, .int .i64 0, .int .i64 0, .slice none 0 0, .slice none 0 0, .slice none 0 0]) 152 rfl Try.underlying50 (show (Try.prog.info? 57).map (fun i => (i.zero, i.size, i.bytes)) = some (some (.agg #[.slice none 0 0, .int .i64 0, .slice none 0 0, .int .u32 0, .int .i64 0, .int .i64 0, .slice none 0 0, .slice none 0 0, .slice none 0 0]), 9, 152) from by kernel_rfl) rfl (by decide) (by omega) (.slice Ao (partsV G pre).length co) (partsV G pre) (⟨P, z34, []⟩ : S57) [.slice B3 P.length y3, .int .i64 0, .slice none 0 0, .int .u32 0, .int .i64 0, .int .i64 0, .slice none 0 0, .slice none 0 0, .slice none 0 0] (fun k_ => w.heap.size ≤ k_) (fun k_ => wD.heap.size ≤ k_) rfl rfl ?aP (fun k hk => ⟨Nat.le_trans HBD.out.size hk, Kd.fresh' (Kd.R_lt HRD.out) k hk⟩) (fun k hk => Nat.le_trans HB3.out.size hk) HV3.out HB3.out HB3.out.size ?aL ?_
        (case aP => exact k57_mkM _ _ _ (⟨P, z34, []⟩ : S57) (Kd.R_lower HR3.out HBD.out.size) (Kd.R_nil _ _ _ _ _) (Kd.R_nil _ _ _ _ _) (Kd.R_nil _ _ _ _ _) (Kd.R_nil _ _ _ _ _))
        (case aL => have h1 := partsV_len G pre; have h2 := HLE.out; omega)
        intro v5_ w5 ho hb5 hg5 hat5
        have HO5 := Aside0.mk ho
        have HB5 := Aside0.mk hb5
        have BKO5 := Aside0.mk ((hg5.block _ (blk_lt BKO3.out) (Kd.R_ne HV3.out BKO3.out (by decide))).trans BKO3.out)
        have BKS5 := Aside0.mk ((hg5.block _ (blk_lt BKS3.out) (Kd.R_ne HV3.out BKS3.out (by decide))).trans BKS3.out)
        have BKN5 := Aside0.mk ((hg5.block _ (blk_lt BKN3.out) (Kd.R_ne HV3.out BKN3.out (by decide))).trans BKN3.out)
        have HG5 := Aside0.mk (R_apart HG3.out HV3.out (by decide) hg5)
        have HK5 := Aside0.mk (KeepsOthers.trans HK3.out (keeps_grown HV3.out hg5))
        obtain ⟨A5, c5, e5⟩ := Kd.R_slice HO5.out
        subst e5
        have hs0 : w5.cell? ⟨go, 0, none⟩ = some (.slice Ao (partsV G pre).length co) := (blk_cell BKO5.out 0).trans rfl
        have hsf0 := blk_frozen BKO5.out 0
        clear ho hb5 hg5 hat5
        refine hK.out _ _ (BKO5.out) (fun hHeld => ?_)
        clear hK K
        refine norm_ (a' := ?_) ?_ ?_
        rotate_left
        · show Act.put _ (some 45) _ = _
          simp only [Act.put, List.setIfInBounds_toArray, List.set_cons_zero, List.set_cons_succ, i64_w, i32_w]
          rfl
        refine last_ (i := 6) (N := none) #[true, true, true, true, true, true, true] rfl rfl (by kernel_rfl) (by decide) (fun K hK => ?_)
        refine skip_ (w1 := ?_) (by rfl) rfl ?_ ?_
        rotate_left
        · go_simp
          rfl
        refine hK.out _ _ ?_
        clear hK K
        refine done_ (by kernel_rfl) ?_
        have HFO := Aside0.mk (show go ≠ gs ∧ go ≠ gn from ⟨fun e => by have h1 := BKO5.out; rw [e, BKS5.out] at h1; injection h1 with h1; injection h1 with _ h1; exact absurd h1 (by decide), fun e => by have h1 := BKO5.out; rw [e, BKN5.out] at h1; injection h1 with h1; injection h1 with _ h1; exact absurd h1 (by decide)⟩)
        refine ⟨KeepsOthers.trans HK5.out (KeepsOthers.setCell _ _ _), ⟨fun o ho => ?_, fun o ho => ?_⟩, _, (blk_put BKO5.out 0 _ rfl), ?_, (Kd.R_set HG5.out BKO5.out (by decide) 0 _), (blk_far BKS5.out (p := ⟨go, 0, none⟩) (fun e => HFO.out.1 e.symm) _), (blk_far BKN5.out (p := ⟨go, 0, none⟩) (fun e => HFO.out.2 e.symm) _), (Below.setCell HB5.out GEO.out _)⟩
        · rw [BKSW.out] at ho
          cases ho
          exact blk_far BKS5.out (p := ⟨go, 0, none⟩) (fun e => HFO.out.1 e.symm) _
        · rw [BKNW.out] at ho
          cases ho
          exact blk_far BKN5.out (p := ⟨go, 0, none⟩) (fun e => HFO.out.2 e.symm) _
        · rw [partsV_snoc, ← HP.out]
          have h5 := HO5.out
          rw [List.length_append, List.length_singleton] at h5
          exact Kd.R_set h5 BKO5.out (by decide) 0 _
      case done =>
        rintro D xs W hD rfl ⟨v, hgo, hR, hG, hs, hn, hb⟩ hK
        obtain ⟨U, hU⟩ : ∃ U, U = partsV G (List.finRange (partsN G.length)) := ⟨_, rfl⟩
        rw [← hU] at hR
        have HUL := Aside0.mk (show U.length < 2000 from by rw [hU, partsV_len, List.length_finRange]; have h2 := HGL.out; unfold partsN; omega)
        obtain ⟨Ao0, co0, eo⟩ := Kd.R_slice hR
        subst eo
        have HDD := Aside0.mk (show w.heap.size ≤ D from Nat.le_trans HB2.out.size hD)
        have HN0 := Aside0.mk (Kd.N_mono (ok' := (fun k_ => w.heap.size ≤ k_ ∧ k_ ≠ D ∧ k_ ≠ go)) (Kd.R_N (Kd.R_types (R_nocells hR hK rfl) hgo (by decide))) (fun k hk => ⟨hk.1.1, hk.1.2, hk.2⟩))
        have BKO0 := Aside0.mk hgo
        have HBW := Aside0.mk hb
        have HKW := Aside0.mk hK
        have HU := Aside0.mk hU
        clear hR hG hs hn hb hK hgo hU hD
        go_wp2
        go_loopg [48] (fresh.length + 1) (fun kq v48 wr => ∃ (x : Nat) (L : List S57) (Ao : Option Addr) (co : Nat), v48 = .int .i64 (x : Int) ∧ Aside0 (x ≤ fresh.length ∧ x + kq = fresh.length + 1) ∧ Aside0 (L = U ++ newV old (fresh.take x)) ∧ Aside0 (wr.heap[go]? = some (.cells #[.slice Ao L.length co] 50 (0, 0))) ∧ Aside0 (Kd.N k57 57 wr w.heap.size (fun k_ => w.heap.size ≤ k_ ∧ k_ ≠ D ∧ k_ ≠ go) (.slice Ao L.length co) (L)) ∧ Aside0 (Below w.heap.size w wr) ∧ Aside0 (wr.heap[D]? = some (.deferred (some []))))
        case atStart => exact ⟨0, U, Ao0, co0, rfl, ⟨Nat.zero_le _, by omega⟩, ⟨by rw [List.take_zero]; unfold newV; simp⟩, BKO0, HN0, HBW, HKW⟩
        case round =>
          obtain ⟨x, L, Ao, co, rfl, HX, HLL, BKO, HN, HB, HKD⟩ := hrel
          by_cases hlt : x < fresh.length
          · have c1 : decide (x < fresh.length) = true := decide_eq_true hlt
            have HL := Aside0.mk hlt
            obtain ⟨k1, rfl⟩ : ∃ k1, gk = k1 + 1 := ⟨gk - 1, by have := HX.out; omega⟩
            have p1 : (0 : Int) ≤ (x : Int) := by omega
            have q1 : (x : Int) < (fresh.length : Int) := by omega
            obtain ⟨ad, B3, d3, B7, d7, B8, d8, eA, h0_, h1_, h2_, h3_, h4_, h5_, h6_, h7_, h8_, g3, k3, g7, k7, g8, k8⟩ := at_T54 (Kd.C_below HRF.out HB.out) (x : Int) p1 q1
            rw [Int.toNat_natCast] at h0_ h1_ h2_ h3_ h4_ h5_ h6_ h7_ h8_
            obtain ⟨q, hq⟩ : ∃ q, q = rd_T54 fresh (x : Int) := ⟨_, rfl⟩
            rw [← hq] at h0_ h1_ h2_ h3_ h4_ h5_ h6_ h7_ h8_ g3 k3 g7 k7 g8 k8
            have HGX := Aside0.mk (And.intro g3 (And.intro g7 g8))
            have HK3 := Aside0.mk k3
            have HK7 := Aside0.mk k7
            have HK8 := Aside0.mk k8
            have HQE := Aside0.mk (show fresh[x]'HL.out = q from by rw [hq]; exact (told_at fresh x HL.out).symm)
            clear g3 g7 g8 k3 k7 k8 hq
            cases eA
            have HW0 := Aside0.mk (Below.refl wr.heap.size wr)
            obtain ⟨t, b, hfv⟩ : ∃ t b, findV old q.f0.f0 q.f0.f1 = (t, b) := ⟨_, _, rfl⟩
            have HFV := Aside0.mk hfv
            clear hfv hlt
            go_upto_region 17 with (first | ((with_reducible refine gate_dst (N := 13) rfl ?_); refine box_event ?hg (N := 13) ?hd (cs := #[.int .u32 0, .int .i64 0, .int .i64 0, .slice none 0 0, .int .u32 0, .int .i64 0, .int .i64 0, .slice none 0 0, .slice none 0 0]) (t := 54) ?hr ?_; (case hd => rfl); (case hg => rfl); (case hr => first | (go_simp; done) | (go_simp; rfl)); intro gx hg wa hbox hb; have HWa := Aside0.mk (below_step HW0.out hb); have BKXa := Aside0.mk hbox; have GX := Aside0.mk (show wr.heap.size ≤ gx from by rw [hg]; exact HW0.out.size); clear hbox hb hg) | ((with_reducible refine gate_store (t := 54) (p := 13) rfl ?_); refine store_new rfl 54 (.tmp 13) (.tmp 51) rfl [.int .u32 q.f0.f0, .int .i64 q.f0.f1, .int .i64 q.f1.f0, .slice B3 q.f1.f1.length d3, .int .u32 q.f1.f2, .int .i64 q.f1.f3, .int .i64 q.f1.f4, .slice B7 q.f1.f5.length d7, .slice B8 q.f1.f6.length d8] (by rfl) (by rfl) BKXa.out (by rfl) (by kernel_rfl) (by intro v hv; simp only [List.mem_cons, List.not_mem_nil, or_false] at hv; rcases hv with rfl | rfl | rfl | rfl | rfl | rfl | rfl | rfl | rfl <;> rfl) ?_; intro wb hx hg hs; have BKXb := Aside0.mk hx; have HWb := Aside0.mk (HWa.out.grown hg HWa.out.size (fun k e => by injection e with e; have := GX.out; omega)); have hp0 : wb.cell? ⟨gx, 0, none⟩ = some (.int .u32 q.f0.f0) := (blk_cell BKXb.out 0).trans rfl; have hp1 : wb.cell? ⟨gx, 1, none⟩ = some (.int .i64 q.f0.f1) := (blk_cell BKXb.out 1).trans rfl; clear hx hg hs) | (go_at_call 32; refine (find_told AO cO old q.f0.f0 q.f0.f1 t b _ (Kd.C_below HRO.out (below_step HB.out HWb.out)) HCO.out HN1.out HFV.out).mono ?_; rintro e wv ⟨X3, y3, X7, y7, X8, y8, rfl, hT, hb⟩; have BKXc := Aside0.mk ((hb.block _ (blk_lt BKXb.out)).trans BKXb.out); have HWc := Aside0.mk (below_step HWb.out hb); have HT := Aside0.mk hT; clear hb hT hp0 hp1) | ((with_reducible refine gate_dst (N := 14) rfl ?_); refine box_event ?hg (N := 14) ?hd (cs := #[.int .u32 0, .int .i64 0, .int .i64 0, .slice none 0 0, .int .u32 0, .int .i64 0, .int .i64 0, .slice none 0 0, .slice none 0 0]) (t := 54) ?hr ?_; (case hd => rfl); (case hg => rfl); (case hr => first | (go_simp; done) | (go_simp; rfl)); intro gz hg wd hbox hb; have BKXd := Aside0.mk ((hb.block _ (blk_lt BKXc.out)).trans BKXc.out); have HWd := Aside0.mk (below_step HWc.out hb); have BKZd := Aside0.mk hbox; have HCD := Aside0.mk hb; have GZC := Aside0.mk (show wv.heap.size ≤ gz from by rw [hg]; exact Nat.le_refl _); have GZ := Aside0.mk (show gx < gz from by rw [hg]; exact blk_lt BKXc.out); have HTd := Aside0.mk (HT.out.below hb); clear hbox hb hg) | ((with_reducible refine gate_store (t := 54) (p := 14) rfl ?_); refine store_new rfl 54 (.tmp 14) (.tmp 57) rfl [.int .u32 t.f0.f0, .int .i64 t.f0.f1, .int .i64 t.f1.f0, .slice X3 t.f1.f1.length y3, .int .u32 t.f1.f2, .int .i64 t.f1.f3, .int .i64 t.f1.f4, .slice X7 t.f1.f5.length y7, .slice X8 t.f1.f6.length y8] (by rfl) (by rfl) BKZd.out (by rfl) (by kernel_rfl) (by intro v hv; simp only [List.mem_cons, List.not_mem_nil, or_false] at hv; rcases hv with rfl | rfl | rfl | rfl | rfl | rfl | rfl | rfl | rfl <;> rfl) ?_; intro we hx hg hs; have BKZe := Aside0.mk hx; have BKXe := Aside0.mk ((hg.block _ (blk_lt BKXd.out) (fun e => by injection e with e; have := GZ.out; omega)).trans BKXd.out); have HWe := Aside0.mk (HWd.out.grown hg HWd.out.size (fun k e => by injection e with e; have := GX.out; have := GZ.out; omega)); have HWce := Aside0.mk ((below_step (Below.refl wv.heap.size wv) (by exact HCD.out)).grown hg (below_step (Below.refl wv.heap.size wv) (by exact HCD.out)).size (fun k e => by injection e with e; have := GZC.out; omega)); clear hx hg hs))
            go_cut [68] from 59 to 67 (fun v68 wc => v68 = .bool (!b || !sameB t.f1 q.f1) ∧ Aside0 (Below wr.heap.size wr wc) ∧ Aside0 (wc.heap[gx]? = some (.cells #[.int .u32 q.f0.f0, .int .i64 q.f0.f1, .int .i64 q.f1.f0, .slice B3 q.f1.f1.length d3, .int .u32 q.f1.f2, .int .i64 q.f1.f3, .int .i64 q.f1.f4, .slice B7 q.f1.f5.length d7, .slice B8 q.f1.f6.length d8] 54 (0, 0))))
            case first =>
              rcases b with _ | _
              · go_wp2
                go_meet
                case rel => exact ⟨by simp, HWe, BKXe⟩
              · go_wp2_with (first | ((with_reducible refine gate_dst (N := 63) rfl ?_); (try (refine gate_guard (by rfl) ?_; dsimp only)); refine load_blk rfl 34 (.tmp 62) rfl (g := gz) (off := 2) [.int .i64 t.f1.f0, .slice X3 t.f1.f1.length y3, .int .u32 t.f1.f2, .int .i64 t.f1.f3, .int .i64 t.f1.f4, .slice X7 t.f1.f5.length y7, .slice X8 t.f1.f6.length y8] _ rfl BKZe.out (told_att t.f0.f0 t.f0.f1 t.f1.f0 X3 t.f1.f1.length y3 t.f1.f2 t.f1.f3 t.f1.f4 X7 t.f1.f5.length y7 X8 t.f1.f6.length y8) Try.underlying34 rfl (by kernel_rfl) ?_) | ((with_reducible refine gate_dst (N := 65) rfl ?_); (try (refine gate_guard (by rfl) ?_; dsimp only)); refine load_blk rfl 34 (.tmp 64) rfl (g := gx) (off := 2) [.int .i64 q.f1.f0, .slice B3 q.f1.f1.length d3, .int .u32 q.f1.f2, .int .i64 q.f1.f3, .int .i64 q.f1.f4, .slice B7 q.f1.f5.length d7, .slice B8 q.f1.f6.length d8] _ rfl BKXe.out (told_att q.f0.f0 q.f0.f1 q.f1.f0 B3 q.f1.f1.length d3 q.f1.f2 q.f1.f3 q.f1.f4 B7 q.f1.f5.length d7 B8 q.f1.f6.length d8) Try.underlying34 rfl (by kernel_rfl) ?_) | (go_at_call 35; refine (attr_Same.calls t.f1.f0 X3 y3 t.f1.f1 t.f1.f2 t.f1.f3 t.f1.f4 X7 y7 t.f1.f5 X8 y8 t.f1.f6 q.f1.f0 B3 d3 q.f1.f1 q.f1.f2 q.f1.f3 q.f1.f4 B7 d7 q.f1.f5 B8 d8 q.f1.f6 (sameB t.f1 q.f1) _ (Kd.C_below HT.out.2.1 HWce.out) HT.out.1.1 (Kd.C_below HT.out.2.2.1 HWce.out) HT.out.1.2.1 (Kd.C_below HT.out.2.2.2 HWce.out) HT.out.1.2.2 (Kd.C_below HK3.out HWe.out) HGX.out.1 (Kd.C_below HK7.out HWe.out) HGX.out.2.1 (Kd.C_below HK8.out HWe.out) HGX.out.2.2 rfl).mono ?_; rintro e wf ⟨rfl, hb⟩; have BKXf := Aside0.mk ((hb.block _ (blk_lt BKXe.out)).trans BKXe.out); have HWf := Aside0.mk (below_step HWe.out hb); clear hb))
                go_meet
                case rel => exact ⟨by simp, HWf, BKXf⟩
            case rest =>
              obtain ⟨rfl, HWz, BKXz⟩ := hcut
              have BKOz := Aside0.mk ((HWz.out.block _ (blk_lt BKO.out)).trans BKO.out)
              have HNz := Aside0.mk (Kd.N_below HN.out HWz.out)
              have HBz := Aside0.mk (below_step HB.out HWz.out)
              have HKz := Aside0.mk ((HWz.out.block _ (blk_lt HKD.out)).trans HKD.out)
              have HLL3 := Aside0.mk (show (L.length + 1) * 152 ≤ 140737488355328 from by rw [HLL.out, List.length_append]; have h1 := newV_len old (fresh.take x); have h2 := List.length_take_le x fresh; have h3 := HN2.out; have h4 := HUL.out; omega)
              have HOW := Aside0.mk (show canOwn q.f1 from by rw [← HQE.out]; exact HCAN.out _ (List.getElem_mem HL.out))
              obtain ⟨nb, hnb⟩ : ∃ nb, nb = (!b || !sameB t.f1 q.f1) := ⟨_, rfl⟩
              rw [← hnb]
              rcases nb with _ | _
              · have HNB := Aside0.mk hnb.symm
                clear hnb
                go_wp2
                go_roundg k1
                case measure => omega
                case rel => exact ⟨x + 1, L, Ao, co, by first | rfl | (have hw : wrap64 ((x : Int) + 1) = ((x + 1 : Nat) : Int) := (by have := HL.out; have := HN2.out; unfold wrap64; omega); rw [hw]), ⟨HL.out, by have := HX.out; omega⟩, ⟨by rw [newV_next old fresh x HL.out, HQE.out, newsB_of HFV.out, HNB.out, if_neg (by simp), List.append_nil]; exact HLL.out⟩, BKOz, HNz, HBz, HKz⟩
              · have HNB := Aside0.mk hnb.symm
                clear hnb
                go_upto_region 18 with (fail)
                refine wp_noPanic ?_
                refine start_ (n := 11) (S := fun w' => w'.heap[go]? = some (.cells #[.slice Ao L.length co] 50 (0, 0)) ∧ w'.heap[gx]? = some (.cells #[.int .u32 q.f0.f0, .int .i64 q.f0.f1, .int .i64 q.f1.f0, .slice B3 q.f1.f1.length d3, .int .u32 q.f1.f2, .int .i64 q.f1.f3, .int .i64 q.f1.f4, .slice B7 q.f1.f5.length d7, .slice B8 q.f1.f6.length d8] 54 (0, 0))) (ds := [10]) #[false, false, false, false, false, false, false, false, false, false, false] (by kernel_rfl) rfl rfl ⟨BKOz.out, BKXz.out⟩ (fun hHeld => ?_)
                have hF := Aside0.mk (show UpdF wc q false false ds0 wc.drew from ⟨below_drew (Below.refl _ _), fun h => (by cases h), fun h => (by cases h)⟩)
                generalize wc.drew = wD at hF hHeld ⊢
                refine pure_ (i := 1) (N := some 70) (v := ?_) (a' := ?_) #[false, true, false, false, false, false, false, false, false, false, false] rfl rfl (by kernel_rfl) (fun _ _ _ h => h) (Or.inl ⟨by rfl, ?_⟩) ?_ ?_
                rotate_left
                · intro w'
                  go_simp
                  with_reducible rfl
                rotate_left
                · simp only [Act.put, List.setIfInBounds_toArray, List.set_cons_zero, List.set_cons_succ, i64_w, i32_w]
                  rfl
                refine pure_ (i := 4) (N := some 73) (v := ?_) (a' := ?_) #[false, true, false, false, true, false, false, false, false, false, false] rfl rfl (by kernel_rfl) (fun _ _ _ h => h) (Or.inl ⟨by rfl, ?_⟩) ?_ ?_
                rotate_left
                · intro w'
                  go_simp
                  with_reducible rfl
                rotate_left
                · simp only [Act.put, List.setIfInBounds_toArray, List.set_cons_zero, List.set_cons_succ, i64_w, i32_w]
                  rfl
                refine take_ (i := 0) (N := some 69) (v := ?_) (a' := ?_) #[true, true, false, false, true, false, false, false, false, false, false] rfl rfl (by kernel_rfl) (fun _ _ _ h => h) (Or.inl ⟨by rfl, ?_⟩) hHeld ?_ ?_
                rotate_left
                · rintro w' ⟨s0, s1⟩
                  have hc : w'.cell? ⟨go, 0, none⟩ = some (.slice Ao L.length co) := (blk_cell s0 0).trans rfl
                  go_simp
                  with_reducible rfl
                rotate_left
                · simp only [Act.put, List.setIfInBounds_toArray, List.set_cons_zero, List.set_cons_succ, i64_w, i32_w]
                  rfl
                refine take_ (i := 2) (N := some 71) (v := ?_) (a' := ?_) #[true, true, true, false, true, false, false, false, false, false, false] rfl rfl (by kernel_rfl) (fun _ _ _ h => h) (Or.inl ⟨by rfl, ?_⟩) hHeld ?_ ?_
                rotate_left
                · rintro w' ⟨s0, s1⟩
                  refine load_run 34 (.tmp 70) ?_ [.int .i64 q.f1.f0, .slice B3 q.f1.f1.length d3, .int .u32 q.f1.f2, .int .i64 q.f1.f3, .int .i64 q.f1.f4, .slice B7 q.f1.f5.length d7, .slice B8 q.f1.f6.length d8] _ ?_ s1 (told_att q.f0.f0 q.f0.f1 q.f1.f0 B3 q.f1.f1.length d3 q.f1.f2 q.f1.f3 q.f1.f4 B7 q.f1.f5.length d7 B8 q.f1.f6.length d8) Try.underlying34 rfl ?_
                  · rfl
                  · rfl
                  · kernel_rfl
                rotate_left
                · simp only [Act.put, List.setIfInBounds_toArray, List.set_cons_zero, List.set_cons_succ, i64_w, i32_w]
                  rfl
                refine take_ (i := 5) (N := some 74) (v := ?_) (a' := ?_) #[true, true, true, false, true, true, false, false, false, false, false] rfl rfl (by kernel_rfl) (fun _ _ _ h => h) (Or.inl ⟨by rfl, ?_⟩) hHeld ?_ ?_
                rotate_left
                · rintro w' ⟨s0, s1⟩
                  refine load_run 29 (.tmp 73) ?_ [.int .u32 q.f0.f0, .int .i64 q.f0.f1] _ ?_ s1 (told_pre q.f0.f0 q.f0.f1 q.f1.f0 B3 q.f1.f1.length d3 q.f1.f2 q.f1.f3 q.f1.f4 B7 q.f1.f5.length d7 B8 q.f1.f6.length d8) Try.underlying29 rfl ?_
                  · rfl
                  · rfl
                  · kernel_rfl
                rotate_left
                · simp only [Act.put, List.setIfInBounds_toArray, List.set_cons_zero, List.set_cons_succ, i64_w, i32_w]
                  rfl
                refine join_ (σ := DS) 4 #[true, true, true, true, true, true, true, false, false, false, false] (fun s_ => [(72, .agg #[.int .i64 q.f1.f0, .slice s_.B1 q.f1.f1.length s_.d1, .int .u32 q.f1.f2, .int .i64 q.f1.f3, .int .i64 q.f1.f4, .slice s_.B5 q.f1.f5.length q.f1.f5.length, .slice s_.B6 q.f1.f6.length q.f1.f6.length]), (75, .slice (some ⟨s_.gP, 0, none⟩) 1 1)]) (fun s_ w' => UpdF wc q true true s_ w') ?_ ?_
                rotate_left
                · intro hJ3_6
                  refine join_ (σ := DS) 5 #[true, true, true, true, true, true, false, false, false, false, false] (fun s_ => [(72, .agg #[.int .i64 q.f1.f0, .slice s_.B1 q.f1.f1.length s_.d1, .int .u32 q.f1.f2, .int .i64 q.f1.f3, .int .i64 q.f1.f4, .slice s_.B5 q.f1.f5.length q.f1.f5.length, .slice s_.B6 q.f1.f6.length q.f1.f6.length])]) (fun s_ w' => UpdF wc q true false s_ w') ?_ ?_
                  rotate_left
                  · intro hJ3
                    refine join_ (σ := DS) 5 #[true, true, true, false, true, true, true, false, false, false, false] (fun s_ => [(75, .slice (some ⟨s_.gP, 0, none⟩) 1 1)]) (fun s_ w' => UpdF wc q false true s_ w') ?_ ?_
                    rotate_left
                    · intro hJ6
                      refine two_ (i := 3) (j := 6) (Ni := some 72) (Nj := some 75) #[true, true, true, true, true, true, false, false, false, false, false] #[true, true, true, false, true, true, true, false, false, false, false] rfl rfl rfl rfl (by kernel_rfl) (by decide) (by decide) (fun K hK => ?_) (fun K hK => ?_)
                      · skip
                        refine goes_ Try.func24 (by kernel_rfl) rfl #[.agg #[.int .i64 q.f1.f0, .slice B3 q.f1.f1.length d3, .int .u32 q.f1.f2, .int .i64 q.f1.f3, .int .i64 q.f1.f4, .slice B7 q.f1.f5.length d7, .slice B8 q.f1.f6.length d8]] (by rfl) rfl rfl (by (try simp only [List.map_toArray, List.map_cons, List.map_nil]); first | done | rfl) ?_
                        refine (attr_own q.f1.f0 B3 d3 q.f1.f1 q.f1.f2 q.f1.f3 q.f1.f4 B7 d7 q.f1.f5 B8 d8 q.f1.f6 _ (Kd.C_below HK3.out (below_step HWz.out hF.out.1)) HGX.out.1 (Kd.C_below HK7.out (below_step HWz.out hF.out.1)) HGX.out.2.1 (Kd.C_below HK8.out (below_step HWz.out hF.out.1)) HGX.out.2.2 HOW.out.1 HOW.out.2.1 HOW.out.2.2.1 HOW.out.2.2.2.1 HOW.out.2.2.2.2).mono ?_
                        rintro e w1_ ⟨O1, x1, y1, O5, y5, O6, y6, rfl, hl1_, hr1_, hr5_, hr6_, hb⟩
                        have hF1 := Aside0.mk (UpdF.own hF.out hl1_ hr1_ hr5_ hr6_ hb)
                        clear hb hl1_ hr1_ hr5_ hr6_
                        refine ⟨_, rfl, ?_⟩
                        refine hK.out _ _ ⟨((hF1.out).1.block _ (blk_lt BKOz.out)).trans BKOz.out, ((hF1.out).1.block _ (blk_lt BKXz.out)).trans BKXz.out⟩ (fun hHeld => ?_)
                        clear hK K
                        refine norm_ (a' := ?_) ?_ ?_
                        rotate_left
                        · show Act.put _ (some 72) _ = _
                          simp only [Act.put, List.setIfInBounds_toArray, List.set_cons_zero, List.set_cons_succ, i64_w, i32_w]
                          rfl
                        exact norm_ (by first | (simp only [putAll, Act.put, List.setIfInBounds_toArray, List.set_cons_zero, List.set_cons_succ]; done) | (simp only [putAll, Act.put, List.setIfInBounds_toArray, List.set_cons_zero, List.set_cons_succ]; rfl)) (hJ3 { ds0 with B1 := O1, d1 := x1, B5 := O5, B6 := O6 } _ hF1.out)
                      · skip
                        refine value_ (w1 := ?_) (v := ?_) (by rfl) rfl ?_ ?_
                        rotate_left 2
                        · go_simp
                          constructor
                          · rfl
                          · rfl
                        have hF1 := Aside0.mk (UpdF.pre hF.out)
                        refine hK.out _ _ ⟨((hF1.out).1.block _ (blk_lt BKOz.out)).trans BKOz.out, ((hF1.out).1.block _ (blk_lt BKXz.out)).trans BKXz.out⟩ (fun hHeld => ?_)
                        clear hK K
                        refine norm_ (a' := ?_) ?_ ?_
                        rotate_left
                        · show Act.put _ (some 75) _ = _
                          simp only [Act.put, List.setIfInBounds_toArray, List.set_cons_zero, List.set_cons_succ, i64_w, i32_w]
                          rfl
                        exact norm_ (by first | (simp only [putAll, Act.put, List.setIfInBounds_toArray, List.set_cons_zero, List.set_cons_succ]; done) | (simp only [putAll, Act.put, List.setIfInBounds_toArray, List.set_cons_zero, List.set_cons_succ]; rfl)) (hJ6 { ds0 with gP := wD.heap.size } _ hF1.out)
                    · skip
                      intro s_ w' hF0
                      have hF := Aside0.mk hF0
                      have hHeld := And.intro (((hF0).1.block _ (blk_lt BKOz.out)).trans BKOz.out) (((hF0).1.block _ (blk_lt BKXz.out)).trans BKXz.out)
                      clear hF0
                      refine norm_ (a' := ?_) ?_ ?_
                      rotate_left
                      · simp only [putAll, Act.put, List.setIfInBounds_toArray, List.set_cons_zero, List.set_cons_succ]
                        rfl
                      refine one_ (i := 3) (N := some 72) #[true, true, true, true, true, true, true, false, false, false, false] rfl rfl (by kernel_rfl) (by decide) (fun K hK => ?_)
                      refine goes_ Try.func24 (by kernel_rfl) rfl #[.agg #[.int .i64 q.f1.f0, .slice B3 q.f1.f1.length d3, .int .u32 q.f1.f2, .int .i64 q.f1.f3, .int .i64 q.f1.f4, .slice B7 q.f1.f5.length d7, .slice B8 q.f1.f6.length d8]] (by rfl) rfl rfl (by (try simp only [List.map_toArray, List.map_cons, List.map_nil]); first | done | rfl) ?_
                      refine (attr_own q.f1.f0 B3 d3 q.f1.f1 q.f1.f2 q.f1.f3 q.f1.f4 B7 d7 q.f1.f5 B8 d8 q.f1.f6 _ (Kd.C_below HK3.out (below_step HWz.out hF.out.1)) HGX.out.1 (Kd.C_below HK7.out (below_step HWz.out hF.out.1)) HGX.out.2.1 (Kd.C_below HK8.out (below_step HWz.out hF.out.1)) HGX.out.2.2 HOW.out.1 HOW.out.2.1 HOW.out.2.2.1 HOW.out.2.2.2.1 HOW.out.2.2.2.2).mono ?_
                      rintro e w1_ ⟨O1, x1, y1, O5, y5, O6, y6, rfl, hl1_, hr1_, hr5_, hr6_, hb⟩
                      have hF1 := Aside0.mk (UpdF.own hF.out hl1_ hr1_ hr5_ hr6_ hb)
                      clear hb hl1_ hr1_ hr5_ hr6_
                      refine ⟨_, rfl, ?_⟩
                      refine hK.out _ _ ⟨((hF1.out).1.block _ (blk_lt BKOz.out)).trans BKOz.out, ((hF1.out).1.block _ (blk_lt BKXz.out)).trans BKXz.out⟩ (fun hHeld => ?_)
                      clear hK K
                      refine norm_ (a' := ?_) ?_ ?_
                      rotate_left
                      · show Act.put _ (some 72) _ = _
                        simp only [Act.put, List.setIfInBounds_toArray, List.set_cons_zero, List.set_cons_succ, i64_w, i32_w]
                        rfl
                      exact norm_ (by first | (simp only [putAll, Act.put, List.setIfInBounds_toArray, List.set_cons_zero, List.set_cons_succ]; done) | (simp only [putAll, Act.put, List.setIfInBounds_toArray, List.set_cons_zero, List.set_cons_succ]; rfl)) (hJ3_6 { s_ with B1 := O1, d1 := x1, B5 := O5, B6 := O6 } _ hF1.out)
                  · skip
                    intro s_ w' hF0
                    have hF := Aside0.mk hF0
                    have hHeld := And.intro (((hF0).1.block _ (blk_lt BKOz.out)).trans BKOz.out) (((hF0).1.block _ (blk_lt BKXz.out)).trans BKXz.out)
                    clear hF0
                    refine norm_ (a' := ?_) ?_ ?_
                    rotate_left
                    · simp only [putAll, Act.put, List.setIfInBounds_toArray, List.set_cons_zero, List.set_cons_succ]
                      rfl
                    refine one_ (i := 6) (N := some 75) #[true, true, true, true, true, true, true, false, false, false, false] rfl rfl (by kernel_rfl) (by decide) (fun K hK => ?_)
                    refine value_ (w1 := ?_) (v := ?_) (by rfl) rfl ?_ ?_
                    rotate_left 2
                    · go_simp
                      constructor
                      · rfl
                      · rfl
                    have hF1 := Aside0.mk (UpdF.pre hF.out)
                    refine hK.out _ _ ⟨((hF1.out).1.block _ (blk_lt BKOz.out)).trans BKOz.out, ((hF1.out).1.block _ (blk_lt BKXz.out)).trans BKXz.out⟩ (fun hHeld => ?_)
                    clear hK K
                    refine norm_ (a' := ?_) ?_ ?_
                    rotate_left
                    · show Act.put _ (some 75) _ = _
                      simp only [Act.put, List.setIfInBounds_toArray, List.set_cons_zero, List.set_cons_succ, i64_w, i32_w]
                      rfl
                    exact norm_ (by first | (simp only [putAll, Act.put, List.setIfInBounds_toArray, List.set_cons_zero, List.set_cons_succ]; done) | (simp only [putAll, Act.put, List.setIfInBounds_toArray, List.set_cons_zero, List.set_cons_succ]; rfl)) (hJ3_6 { s_ with gP := w'.heap.size } _ hF1.out)
                intro s_ w' hF0
                have hF := Aside0.mk hF0
                have hHeld := And.intro (((hF0).1.block _ (blk_lt BKOz.out)).trans BKOz.out) (((hF0).1.block _ (blk_lt BKXz.out)).trans BKXz.out)
                clear hF0
                refine norm_ (a' := ?_) ?_ ?_
                rotate_left
                · simp only [putAll, Act.put, List.setIfInBounds_toArray, List.set_cons_zero, List.set_cons_succ]
                  rfl
                refine pure_ (i := 7) (N := some 76) (v := ?_) (a' := ?_) #[true, true, true, true, true, true, true, true, false, false, false] rfl rfl (by kernel_rfl) (fun _ _ _ h => h) (Or.inl ⟨by rfl, ?_⟩) ?_ ?_
                rotate_left
                · intro w'
                  go_simp
                  with_reducible rfl
                rotate_left
                · simp only [Act.put, List.setIfInBounds_toArray, List.set_cons_zero, List.set_cons_succ, i64_w, i32_w]
                  rfl
                refine one_ (i := 8) (N := some 77) #[true, true, true, true, true, true, true, true, true, false, false] rfl rfl (by kernel_rfl) (by decide) (fun K hK => ?_)
                refine value_ (w1 := ?_) (v := ?_) (by rfl) rfl ?_ ?_
                rotate_left 2
                · go_simp
                  constructor
                  · rfl
                  · rfl
                refine hK.out _ _ ⟨(((below_alloc (Below.refl _ _) _).block _ (blk_lt (((hF.out).1.block _ (blk_lt BKOz.out)).trans BKOz.out))).trans (((hF.out).1.block _ (blk_lt BKOz.out)).trans BKOz.out)), (((below_alloc (Below.refl _ _) _).block _ (blk_lt (((hF.out).1.block _ (blk_lt BKXz.out)).trans BKXz.out))).trans (((hF.out).1.block _ (blk_lt BKXz.out)).trans BKXz.out))⟩ (fun hHeld => ?_)
                clear hK K
                refine norm_ (a' := ?_) ?_ ?_
                rotate_left
                · show Act.put _ (some 77) _ = _
                  simp only [Act.put, List.setIfInBounds_toArray, List.set_cons_zero, List.set_cons_succ, i64_w, i32_w]
                  rfl
                refine one_ (i := 9) (N := some 78) #[true, true, true, true, true, true, true, true, true, true, false] rfl rfl (by kernel_rfl) (by decide) (fun K hK => ?_)
                have hFs := Aside0.mk (below_step HBz.out hF.out.1)
                have hNw := Aside0.mk (Kd.N_below HNz.out hF.out.1)
                refine Kd.N_append_step k57 (w0 := w) w.heap.size (by rfl) (.tmp 69) (.tmp 77) 50 57 (.agg #[.slice none 0 0, .int .i64 0, .slice none 0 0, .int .u32 0, .int .i64 0, .int .i64 0, .slice none 0 0, .slice none 0 0, .slice none 0 0]) 152 rfl Try.underlying50 (show (Try.prog.info? 57).map (fun i => (i.zero, i.size, i.bytes)) = some (some (.agg #[.slice none 0 0, .int .i64 0, .slice none 0 0, .int .u32 0, .int .i64 0, .int .i64 0, .slice none 0 0, .slice none 0 0, .slice none 0 0]), 9, 152) from by kernel_rfl) rfl (by decide) (by omega) (.slice Ao L.length co) L (⟨[], q.f1, [q.f0]⟩ : S57) [.slice none 0 0, .int .i64 q.f1.f0, .slice s_.B1 q.f1.f1.length s_.d1, .int .u32 q.f1.f2, .int .i64 q.f1.f3, .int .i64 q.f1.f4, .slice s_.B5 q.f1.f5.length q.f1.f5.length, .slice s_.B6 q.f1.f6.length q.f1.f6.length, .slice (some ⟨s_.gP, 0, none⟩) 1 1] (fun k_ => w.heap.size ≤ k_ ∧ k_ ≠ D ∧ k_ ≠ go) (fun k => wc.heap.size ≤ k) rfl rfl (upd_FK hF.out) (fun k hk => ⟨⟨Nat.le_trans HBz.out.size hk, fun e => by have := blk_lt HKz.out; omega, fun e => by have := blk_lt BKOz.out; omega⟩, Kd.fresh' (Kd.N_lt HNz.out) k hk⟩) (fun k hk => ⟨Nat.le_trans hFs.out.size hk, fun e => by have h1 := blk_lt HKz.out; have h2 := hF.out.1.size; omega, fun e => by have h1 := blk_lt BKOz.out; have h2 := hF.out.1.size; omega⟩) hNw.out hFs.out hFs.out.size ?aL ?_
                (case aL => have := HLL3.out; omega)
                intro v9 w9 ho hb hg hat
                have HO := Aside0.mk ho
                have HB9 := Aside0.mk hb
                have BKO9 := Aside0.mk ((hg.block _ (blk_lt (((hF.out).1.block _ (blk_lt BKOz.out)).trans BKOz.out)) (Kd.N_ne hNw.out (((hF.out).1.block _ (blk_lt BKOz.out)).trans BKOz.out) (by decide))).trans (((hF.out).1.block _ (blk_lt BKOz.out)).trans BKOz.out))
                have BKX9 := Aside0.mk ((hg.block _ (blk_lt (((hF.out).1.block _ (blk_lt BKXz.out)).trans BKXz.out)) (Kd.N_ne hNw.out (((hF.out).1.block _ (blk_lt BKXz.out)).trans BKXz.out) (by decide))).trans (((hF.out).1.block _ (blk_lt BKXz.out)).trans BKXz.out))
                have HKw := Aside0.mk ((hF.out.1.block _ (blk_lt HKz.out)).trans HKz.out)
                have HK9 := Aside0.mk ((hg.block _ (blk_lt HKw.out) (fun e => by obtain ⟨cells, hc⟩ := Kd.N_typed hNw.out D e.symm; rw [HKw.out] at hc; cases hc)).trans HKw.out)
                obtain ⟨A9, c9, e9⟩ := Kd.N_slice HO.out
                subst e9
                have hs0 : w9.cell? ⟨go, 0, none⟩ = some (.slice Ao L.length co) := (blk_cell BKO9.out 0).trans rfl
                have hsf0 := blk_frozen BKO9.out 0
                clear ho hb hg hat
                refine hK.out _ _ ⟨BKO9.out, BKX9.out⟩ (fun hHeld => ?_)
                clear hK K
                refine norm_ (a' := ?_) ?_ ?_
                rotate_left
                · show Act.put _ (some 78) _ = _
                  simp only [Act.put, List.setIfInBounds_toArray, List.set_cons_zero, List.set_cons_succ, i64_w, i32_w]
                  rfl
                refine last_ (i := 10) (N := none) #[true, true, true, true, true, true, true, true, true, true, true] rfl rfl (by kernel_rfl) (by decide) (fun K hK => ?_)
                refine skip_ (w1 := ?_) (by rfl) rfl ?_ ?_
                rotate_left
                · go_simp
                  rfl
                refine hK.out _ _ ?_
                clear hK K
                refine done_ (by kernel_rfl) ?_

                simp only [noPanic]
                go_wp2
                go_roundg k1
                case measure => omega
                case rel =>
                  refine ⟨x + 1, L ++ [(⟨[], q.f1, [q.f0]⟩ : S57)], A9, c9, by first | rfl | (have hw : wrap64 ((x : Int) + 1) = ((x + 1 : Nat) : Int) := (by have := HL.out; have := HN2.out; unfold wrap64; omega); rw [hw]), ⟨HL.out, by have := HX.out; omega⟩, ⟨by rw [newV_next old fresh x HL.out, HQE.out, newsB_of HFV.out, HNB.out, if_pos rfl]; rw [HLL.out, List.append_assoc]⟩, ⟨?_⟩, ⟨?_⟩, ⟨Below.setCell HB9.out GEO.out _⟩, ⟨(Below.heap_setCell _ ⟨go, 0, none⟩ _ D (fun e => by have h1 := HK9.out; rw [e, BKO9.out] at h1; cases h1)).trans HK9.out⟩⟩
                  · exact blk_put BKO9.out 0 _ (by simp)
                  · have h5 := HO.out
                    simp only [List.length_append, List.length_cons, List.length_nil] at h5 ⊢
                    exact Kd.N_far h5 (p := ⟨go, 0, none⟩) (fun k hk => hk.2.2) _
          · have c1 : decide (x < fresh.length) = false := decide_eq_false hlt
            have HXE := Aside0.mk (show x = fresh.length from by have := HX.out; omega)
            clear hlt
            have hgoc : wr.cell? ⟨go, 0, none⟩ = some (.slice Ao L.length co) := (blk_cell BKO.out 0).trans rfl
            have HLD := Aside0.mk (show L = deltaV old fresh from by rw [HLL.out, HXE.out, List.take_length, HU.out]; unfold deltaV; rw [← HGE.out])
            go_wp2
            refine ⟨by simp, .inl ⟨_, _, rfl, run_takeDeferred HKD.out, ?_⟩⟩
            refine ⟨_, results_tmp rfl _ _ _, _, rfl, ?_, HB.out.grown (grownBy_putObj' _ D (.deferred none)) HB.out.size (fun k e => by cases e; exact HDD.out)⟩
            rw [← HLD.out]
            exact Kd.N_mono (Kd.N_grown HN.out (grownBy_putObj' _ D (.deferred none)) (fun k hk e => hk.2.1 (by cases e; rfl))) (fun k hk => hk.1)
def export_Delta.f (l0 l1 : List S54) : Option (List S57) := if canDelta l0 l1 then some (deltaV l0 l1) else none
theorem export_Delta.calls (A0 : Option Addr) (c0 : Nat) (l0 : List S54) (A1 : Option Addr) (c1 : Nat) (l1 : List S54) (r : List S57) (w : World) (hr0 : Kd.C k54 w A0 l0.length l0) (hc0 : l0.length ≤ c0) (hr1 : Kd.C k54 w A1 l1.length l1) (hc1 : l1.length ≤ c1) (h : export_Delta.f l0 l1 = some r) :
    Calls Try.prog 17 #[.slice A0 l0.length c0, .slice A1 l1.length c1] w fun e w' => ∃ v0_ : Value, e = .returned v0_ ∧ Kd.N k57 57 w' w.heap.size (fun k_ => w.heap.size ≤ k_) v0_ (r) ∧ Below w.heap.size w w' := by
  unfold export_Delta.f at h
  by_cases hc : canDelta l0 l1
  · rw [if_pos hc] at h
    obtain rfl := Option.some.inj h
    exact delta_gen A0 A1 c0 c1 l0 l1 w hr0 hc0 hr1 hc1 hc
  · rw [if_neg hc] at h
    cases h


end Go.Proofs.Ytjdebhkdbdbepaa.PExportGone
