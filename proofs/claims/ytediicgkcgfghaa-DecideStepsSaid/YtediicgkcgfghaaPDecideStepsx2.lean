-- Lean text by a program of this repo (wip/tools/printx.py), out of Lean's own print of the translation
import Derived.Test.YtediicgkcgfghaaHelp
import Derived.Test.YtediicgkcgfghaaFlo
import Derived.Laws.Cover2
import Derived.Laws.FloatBits
import Derived.Test.YtediicgkcgfghaaPDecideStepsx0
import Derived.Test.YtediicgkcgfghaaPDecideStepsx1
namespace Go.Proofs.Ytediicgkcgfghaa.PDecideSteps
open Go.RowKit Go.Proofs.YtediicgkcgfghaaW.PrintWords Go.Proofs.YtediicgkcgfghaaW.PrintLast Go.Proofs.YtediicgkcgfghaaW.PrintMore
attribute [local go_sem] max2_int min2_int max_two min_two max_three min_three max_four min_four   -- for this text's walks alone
set_option linter.unusedVariables false
set_option linter.unusedSimpArgs false

/-! ### decide_Best: function 10 -/
-- FN rounds=0 making=1
-- IMPORT Derived.Laws.FloatBits
-- IMPORT Derived.Laws.Cover2
-- IMPORT Derived.Test.YtediicgkcgfghaaFlo
-- IMPORT Derived.Test.YtediicgkcgfghaaHelp
open Go.Proofs.Ytediicgkcgfghaa.Help
theorem infoInt : (Try.prog.info? 3).map (fun i => (i.zero, i.size, i.bytes)) = some (some (.int .i64 0), 1, 8) := by kernel_rfl
theorem ext_run {f : FuncId} {fn : Func} {args : Array Value} {v : Value} {x : Array Value → Sem Value} (w : World) (hf : Try.prog.funcs[f]? = some fn) (hname : (fn.name == "runtime.NumGoroutine") = false) (hb : fn.body.isNone = true) (hn : Extern.findNext fn = none) (he : Extern.find fn = some x) (hv : x args = pure v) :
    Sem.run Try.prog (callFunc f args) w = .ok (.value v) w := by
  have h1 : fn.name ≠ "runtime.NumGoroutine" := by simpa using hname
  have hb : fn.body = none := by simpa using hb
  simp [callFunc, hf, h1, hb, hn, he, hv, mark]
  rfl
theorem f64_bits (n : Int) (w : World) : Sem.run Try.prog (callFunc 49 #[.int .u64 n]) w = .ok (.value (.float .f64 n.toNat)) w :=
  ext_run w Try.func49 rfl rfl (by kernel_rfl) (x := Extern.MathFloatBits.float64frombits) (by kernel_rfl) rfl
theorem f64_arch (x y : Nat) (w : World) : Sem.run Try.prog (callFunc 50 #[.float .f64 x, .float .f64 y]) w = .ok (.value (.float .f64 (Go.Proofs.Ytediicgkcgfghaa.Flo.minW x y))) w :=
  ext_run w Try.func50 rfl rfl (by kernel_rfl) (x := Extern.MathDim.pick "math.archMin" true .lt) (by kernel_rfl) (Go.Proofs.Ytediicgkcgfghaa.Flo.min_pick x y)
theorem f64_inf (w : World) : Calls Try.prog 33 #[.int .i64 1] w fun e w' => e = .returned (.float .f64 Go.Proofs.Ytediicgkcgfghaa.Flo.infW) ∧ ∃ nd, w' = w.drewN nd := by
  go_enter Try.func33, Try.ntmps33
  go_wp2
  rw [f64_bits]
  go_wp2
  go_ret
  exact ⟨rfl, 0, rfl⟩
theorem f64_min (x y : Nat) (w : World) : Calls Try.prog 34 #[.float .f64 x, .float .f64 y] w fun e w' => e = .returned (.float .f64 (Go.Proofs.Ytediicgkcgfghaa.Flo.minW x y)) ∧ ∃ nd, w' = w.drewN nd := by
  go_enter Try.func34, Try.ntmps34
  go_wp2
  rw [f64_arch]
  go_wp2
  go_ret
  exact ⟨rfl, 0, rfl⟩
/-- What a function value answers for what is left: it makes memory at most. -/
def Wills (fid : Nat) (bound caps : Array Value) (p : Int → Bool) (L : List Int) (w : World) : Prop :=
  ∀ n ∈ L, ∀ w', Below w.heap.size w w' → Calls Try.prog fid (bound ++ #[.int .i64 n] ++ caps) w' fun e w'' => e = .returned (.bool (p n)) ∧ Below w'.heap.size w' w''
/-- A function that has a body: a call of it goes in. -/
def Enters (fid : Nat) : Prop := ∀ (args : Array Value) (w : World), Sem.run Try.prog (callFunc fid args) w = .ok (.enter fid args) w
def keepL (p : Int → Bool) (L : List Int) : List Int := if (L.filter p).length > 0 then L.filter p else L
theorem filter_next (p : Int → Bool) (L : List Int) (i : Nat) (h : i < L.length) : (L.take (i + 1)).filter p = (L.take i).filter p ++ if p L[i] = true then [L[i]] else [] := by
  rw [List.take_succ_eq_append_getElem h, List.filter_append]
  congr 1
  rw [List.filter_cons]
  split <;> rfl
/-- The state of a chooser: its struct, and what is left. -/
structure Chose (gc : Nat) (va vi vl : Value) (A : Option Addr) (c : Nat) (L : List Int) (w : World) : Prop where
  cells : w.heap[gc]? = some (.cells #[va, vi, vl, .slice A L.length c] 54 (0, 0))
  row : (Kd.int .i64).C w A L.length L
  cap : L.length ≤ c
  away : ∀ ad, A = some ad → 0 < L.length → ad.block ≠ gc
theorem Chose.below {gc : Nat} {va vi vl : Value} {A : Option Addr} {c : Nat} {L : List Int} {w w' : World} (h : Chose gc va vi vl A c L w) (hb : Below w.heap.size w w') : Chose gc va vi vl A c L w' :=
  ⟨by rw [hb.block _ (blk_lt h.cells)]; exact h.cells, Kd.C_below h.row hb, h.cap, h.away⟩
set_option maxHeartbeats 4000000 in
set_option maxRecDepth 100000 in
theorem chooser_keep (gc : Nat) (va vi vl : Value) (A : Option Addr) (c : Nat) (L : List Int) (fid : Nat) (bound caps : Array Value) (p : Int → Bool) (w : World) (hL : L.length < 4000) (hS : Chose gc va vi vl A c L w) (hE : Enters fid) (hW : Wills fid bound caps p L w) :
    Calls Try.prog 16 #[.pointer (some ⟨gc, 0, none⟩), .func (.func fid) bound caps] w fun e w' => e = .returned (.tuple #[]) ∧ KeepBut w w' gc none ∧ Below gc w w' ∧ ∃ A' c', Chose gc va vi vl A' c' (keepL p L) w' := by
  have HS := Aside0.mk hS
  have HW := Aside0.mk hW
  have HL := Aside0.mk hL
  have HE := Aside0.mk hE
  have HB := Aside0.mk (Below.refl w.heap.size w)
  have hcz : w.cell? ⟨gc, 3, none⟩ = some (.slice A L.length c) := (blk_cell hS.cells 3).trans rfl
  clear hS hW hL hE
  go_enter Try.func16, Try.ntmps16
  go_wp2
  go_loopg [4, 12] (L.length + 1) (fun kq v4 v12 w' => ∃ (M : List Int) (x : Nat), v12 = .int .i64 (x : Int) ∧ Aside0 (x + kq = L.length + 1 ∧ M = (L.take x).filter p) ∧ Aside0 (Kd.R (Kd.int .i64) 3 w' w.heap.size (fun k => k ≠ gc) v4 M) ∧ Aside0 (Below w.heap.size w w'))
  case atStart => exact ⟨[], 0, rfl, ⟨by omega, rfl⟩, ⟨Kd.R_nil _ _ _ _ _⟩, HB⟩
  case round =>
    obtain ⟨M, x, rfl, HM, HO, HB⟩ := hrel
    by_cases hlt : x < L.length
    · have q0 : 0 ≤ ((x : Nat) : Int) := by omega
      have q1 : ((x : Nat) : Int) < (L.length : Int) := by omega
      have c4b0 : decide (((x : Nat) : Int) < (L.length : Int)) = true := decide_eq_true q1
      have hr : rd L ((x : Nat) : Int) = L[x] := by
        unfold rd
        rw [List.getD_eq_getElem?_getD, Int.toNat_natCast, List.getElem?_eq_getElem hlt]
        rfl
      obtain ⟨ad, e, hx0⟩ := Kd.at_int (Kd.C_below HS.out.row HB.out) ((x : Nat) : Int) q0 q1
      cases e
      rw [hr, Int.toNat_natCast] at hx0
      have HX := HW.out L[x] (List.getElem_mem hlt) wr HB.out
      have HN := Aside0.mk (filter_next p L x hlt)
      have HQ := Aside0.mk hlt
      generalize L[x] = y at hx0 HX HN
      clear hr hlt
      have HX := Aside0.mk HX
      replace q0 := eq_true q0
      replace q1 := eq_true q1
      go_wp2_with fail
      rw [HE.out, Oper.upon_enter]
      rw [show bound ++ #[Value.int .i64 y] ++ caps = bound.push (Value.int .i64 y) ++ caps by simp] at HX
      refine HX.out.mono ?_
      rintro e w1 ⟨rfl, hb1⟩
      have HB1 := Aside0.mk (HB.out.trans (hb1.mono HB.out.size))
      have HO1 := Aside0.mk (Kd.R_below HO.out hb1)
      clear HX hb1 HB HO
      rcases hp : p y with _ | _
      · rw [hp] at HN
        go_wp2
        cases gk with
        | zero => exact absurd HM.out.1 (by have := HQ.out; omega)
        | succ k1 =>
          go_roundg k1
          case measure => omega
          case rel => exact ⟨M, x + 1, (by have hw : wrap64 ((x : Int) + 1) = ((x + 1 : Nat) : Int) := (by have := HL.out; have := HQ.out; unfold wrap64; omega); first | rfl | (simp [hw]; done)), ⟨by have := HM.out.1; omega, by rw [HN.out, HM.out.2]; simp⟩, HO1, HB1⟩
      · rw [hp] at HN
        have HM1 := Aside0.mk (show M ++ [y] = (L.take (x + 1)).filter p by rw [HN.out, HM.out.2]; simp)
        have HLM := Aside0.mk (show M.length < 4000 by
          have h1 := HM.out.2
          have h2 := List.length_filter_le p (L.take x)
          rw [← h1, List.length_take] at h2
          have := HL.out
          omega)
        go_wp2_with (first | ((with_reducible refine gate_builtin (b := .append) (xs := #[.tmp 19, .tmp 21]) rfl ?_); (try (refine gate_guard (by rfl) ?_; dsimp only)); at_builtin; refine Kd.R_append (Kd.int .i64) (w0 := w) w.heap.size rfl (.tmp 19) (.tmp 21) 45 3 (.int .i64 0) 8 rfl Try.underlying45 infoInt rfl (by decide) (by omega) u4 M y [.int .i64 y] (fun k => k ≠ gc) (fun _ => False) rfl rfl ?aP (fun _ hk => hk.elim) ?aF ?aO ?aB ?aS ?aL ?_; (case aP => exact rfl); (case aB => exact (by repeat (first | (with_reducible first | exact HB1.out | apply below_alloc | apply pw_below_drewN | apply below_drew1) | exact HB1.out))); (case aF => exact (fun k hk => by have := blk_lt HS.out.cells; have := HB1.out.size; omega)); (case aO => exact (by (with_reducible repeat (first | apply Kd.R_alloc | apply Kd.R_drewN | apply Kd.R_drew)); exact HO1.out)); (case aS => exact (below_size (by repeat (first | (with_reducible first | exact HB1.out | apply below_alloc | apply pw_below_drewN | apply below_drew1) | exact HB1.out)))); (case aL => have := HLM.out; omega); intro v160 w9 ho hb hg hat; have n0_ := Aside0.mk hb; have n1_ := Aside0.mk ho; clear HB1; clear HO1; have HB1 := n0_; have HO1 := n1_; clear n0_ n1_; clear ho hb hg hat))
        cases gk with
        | zero => exact absurd HM.out.1 (by have := HQ.out; omega)
        | succ k1 =>
          go_roundg k1
          case measure => omega
          case rel => exact ⟨M ++ [y], x + 1, (by have hw : wrap64 ((x : Int) + 1) = ((x + 1 : Nat) : Int) := (by have := HL.out; have := HQ.out; unfold wrap64; omega); first | rfl | (simp [hw]; done)), ⟨by have := HM.out.1; omega, HM1.out⟩, ⟨by (with_reducible repeat (first | apply Kd.R_alloc | apply Kd.R_drewN | apply Kd.R_drew)); exact HO1.out⟩, ⟨by repeat (first | (with_reducible first | exact HB1.out | apply below_alloc | apply pw_below_drewN | apply below_drew1) | exact HB1.out)⟩⟩
    · have c4b0 : decide (((x : Nat) : Int) < (L.length : Int)) = false := decide_eq_false (by omega)
      have c4b1 : decide (x < L.length) = false := decide_eq_false hlt
      have HM2 := Aside0.mk (show M = L.filter p by rw [HM.out.2, List.take_of_length_le (by omega)])
      obtain ⟨Ao, co, eo⟩ := Kd.R_slice HO.out
      subst eo
      have hcl := Aside0.mk (show wr.heap[gc]? = some (.cells #[va, vi, vl, .slice A L.length c] 54 (0, 0)) by rw [HB.out.block _ (blk_lt HS.out.cells)]; exact HS.out.cells)
      have hcz1 : wr.cell? ⟨gc, 3, none⟩ = some (.slice A L.length c) := (blk_cell hcl.out 3).trans rfl
      have hfz1 := blk_frozen hcl.out 3
      clear hlt
      by_cases hm : M.length > 0
      · have c5b0 : decide ((0 : Int) < (M.length : Int)) = true := decide_eq_true (by omega)
        have c5b1 : decide (0 < M.length) = true := decide_eq_true hm
        have HG := Aside0.mk hm
        clear hm
        go_wp2
        first | go_end0 | skip
        refine ⟨rfl, KeepBut.set_ (KeepBut.of_below HB.out gc none) 3 _, (HB.out.mono (Nat.le_of_lt (blk_lt HS.out.cells))).setCell (Nat.le_refl gc) _, Ao, co, ?_⟩
        have he : keepL p L = M := by
          unfold keepL
          rw [← HM2.out, if_pos HG.out]
        rw [he]
        exact ⟨blk_put hcl.out 3 _ rfl, Kd.C_foot_own HO.out (g := gc) (fun k hk => hk) _ (KeepBut.set_ (KeepBut.refl _ _ _) 3 _), (Kd.R_reads' HO.out).2.1, fun ad ha _ => by subst ha; have := Kd.R_base HO.out ad.block rfl; have := blk_lt HS.out.cells; omega⟩
      · have c5b0 : decide ((0 : Int) < (M.length : Int)) = false := decide_eq_false (by omega)
        have c5b1 : decide (0 < M.length) = false := decide_eq_false hm
        have HG := Aside0.mk hm
        clear hm
        go_wp2
        first | go_end0 | skip
        refine ⟨rfl, KeepBut.of_below HB.out gc none, HB.out.mono (Nat.le_of_lt (blk_lt HS.out.cells)), A, c, ?_⟩
        have he : keepL p L = L := by
          unfold keepL
          rw [← HM2.out, if_neg HG.out]
        rw [he]
        exact HS.out.below HB.out
theorem dyn_ {ops : Array Oper} {Q : Exit → Act → World → Prop} {oi : Oper} {N : Option Tmp} {a : Act} {w : World} {K : Act → World → Prop} {fid : FuncId} {bound caps : Array Value} {t : Operand} {us : Array Operand} {ts : Array TypeId} (hE : Enters fid) (args : Array Value)
    (hw : Region.wanted oi (yielded ops a.tmps) = true) (hN : oi.dst = N) (hop : oi.op = .call { callee := .value t, args := us, argTypes := ts }) (ht : a.eval t = .func (.func fid) bound caps) (hargs : us.map a.eval = args)
    (h : Calls Try.prog fid (bound ++ args ++ caps) w fun e w' => ∃ v, e = .returned v ∧ K (a.put N v) w') : if Region.wanted oi (yielded ops a.tmps) = true then Oper.wp Try.prog oi a w K Q else K (a.put N undef) w := by
  refine call_ fid (bound ++ args ++ caps) hw hN ?_ h
  have he := hE (bound ++ args ++ caps) w
  unfold execOp
  simp [hop, resolve, Deferred.ofValue, invoke, hargs, ht]
  simpa using he
/-- What a function value that gives a whole number as a float answers. -/
def Floats (fid : Nat) (bound caps : Array Value) (v : Int → Int) (L : List Int) (w : World) : Prop :=
  ∀ n ∈ L, ∀ w', Below w.heap.size w w' → Calls Try.prog fid (bound ++ #[.int .i64 n] ++ caps) w' fun e w'' => (∃ x, e = .returned (.float .f64 x) ∧ Go.Proofs.Ytediicgkcgfghaa.Flo.FV x (v n)) ∧ Below w'.heap.size w' w''
set_option maxHeartbeats 2000000 in
set_option maxRecDepth 100000 in
theorem least_will (gf gl fid : Nat) (bound caps : Array Value) (v : Int → Int) (x0 : Nat) (low : Int) (L : List Int) (w : World) (hf : w.heap[gf]? = some (.cells #[.func (.func fid) bound caps] 58 (0, 0)))
    (hl : w.heap[gl]? = some (.cells #[.float .f64 x0] 59 (0, 0))) (hv : Go.Proofs.Ytediicgkcgfghaa.Flo.FV x0 low) (hE : Enters fid) (hF : Floats fid bound caps v L w) :
    Wills 35 #[] #[.pointer (some ⟨gf, 0, none⟩), .pointer (some ⟨gl, 0, none⟩)] (fun n => decide (v n = low)) L w := by
  intro n hn w' hb
  have HX := Aside0.mk (hF n hn)
  have hcf : w'.cell? ⟨gf, 0, none⟩ = some (.func (.func fid) bound caps) := (blk_cell (by rw [hb.block _ (blk_lt hf)]; exact hf) 0).trans rfl
  have hcl : w'.cell? ⟨gl, 0, none⟩ = some (.float .f64 x0) := (blk_cell (by rw [hb.block _ (blk_lt hl)]; exact hl) 0).trans rfl
  have HE := Aside0.mk hE
  have HV := Aside0.mk hv
  have HB := Aside0.mk (Below.refl w'.heap.size w')
  have HW := Aside0.mk hb
  show Calls Try.prog 35 #[.int .i64 n, .pointer (some ⟨gf, 0, none⟩), .pointer (some ⟨gl, 0, none⟩)] w' _
  clear hf hl hv hE hF hb
  go_enter Try.func35, Try.ntmps35
  go_upto_region 1 with (fail)
  go_region_held3 (fun w_ => w_.cell? ⟨gf, 0, none⟩ = some (.func (.func fid) bound caps) ∧ w_.cell? ⟨gl, 0, none⟩ = some (.float .f64 x0)) (first | exact ⟨hcf, hcl⟩ | exact ⟨hcf1, hcl1⟩) (first | (refine dyn_ HE.out #[.int .i64 n] (by rfl) rfl rfl (by rfl) (by (try simp only [List.map_toArray, List.map_cons, List.map_nil]); first | done | rfl) ?_; refine (HX.out _ ?g1).mono ?_; (case g1 => exact (by repeat (first | (with_reducible first | exact HW.out | apply below_alloc | apply pw_below_drewN | apply below_drew1) | exact HW.out))); rintro e w2 ⟨⟨x, rfl, hx⟩, hb2⟩; have HX2 := Aside0.mk hx; have HB2 := Aside0.mk (below_step (by repeat (first | (with_reducible first | exact HB.out | apply below_alloc | apply pw_below_drewN | apply below_drew1) | exact HB.out)) hb2); have hcf1 := (HB2.out.cell (World.block_lt_of_cell? _ _ hcf)).trans hcf; have hcl1 := (HB2.out.cell (World.block_lt_of_cell? _ _ hcl)).trans hcl; clear hx hb2; refine ⟨_, rfl, ?_⟩))
  go_wp2
  go_ret
  exact ⟨congrArg (fun b => Ending.returned (.bool b)) (Go.Proofs.Ytediicgkcgfghaa.Flo.FV.eql HX2.out HV.out), HB2.out⟩
theorem st_float {P : Program} {w : World} {a : Addr} {k : FloatKind} {x : Nat} {m : Mode} : (store a (.float k x) m).run P w = stored P w a (.float k x) m := run_store P w a _ m rfl
attribute [local go_sem] st_float
/-- The least of some numbers, if there are any. -/
def lowStep (o : Option Int) (k : Int) : Option Int := some (match o with | none => k | some m => min m k)
def lowOf (v : Int → Int) (L : List Int) : Option Int := L.foldl (fun o n => lowStep o (v n)) none
theorem lowOf_next (v : Int → Int) (L : List Int) (i : Nat) (h : i < L.length) : lowOf v (L.take (i + 1)) = lowStep (lowOf v (L.take i)) (v L[i]) := by
  unfold lowOf
  rw [List.take_succ_eq_append_getElem h, List.foldl_append]
  rfl
theorem lowOf_none {v : Int → Int} {L : List Int} (h : lowOf v L = none) : L = [] := by
  rcases List.eq_nil_or_concat L with e | ⟨M, x, e⟩
  · exact e
  · rw [e, List.concat_eq_append] at h
    unfold lowOf at h
    rw [List.foldl_append] at h
    cases h
/-- A float word that stands for the least so far. -/
def FO (x : Nat) : Option Int → Prop
  | none => x = Go.Proofs.Ytediicgkcgfghaa.Flo.infW
  | some m => Go.Proofs.Ytediicgkcgfghaa.Flo.FV x m
theorem FO.next {x y : Nat} {o : Option Int} {m : Int} (h : FO x o) (hy : Go.Proofs.Ytediicgkcgfghaa.Flo.FV y m) : FO (Go.Proofs.Ytediicgkcgfghaa.Flo.minW x y) (lowStep o m) := by
  cases o with
  | none =>
    have h : x = Go.Proofs.Ytediicgkcgfghaa.Flo.infW := h
    subst h
    show Go.Proofs.Ytediicgkcgfghaa.Flo.FV _ m
    rw [Go.Proofs.Ytediicgkcgfghaa.Flo.FV.minInf hy]
    exact hy
  | some k => exact Go.Proofs.Ytediicgkcgfghaa.Flo.FV.min h hy
set_option maxHeartbeats 4000000 in
set_option maxRecDepth 100000 in
theorem chooser_least (gc : Nat) (va vi vl : Value) (A : Option Addr) (c : Nat) (L : List Int) (fid : Nat) (bound caps : Array Value) (v : Int → Int) (w : World) (hL : L.length < 4000) (hS : Chose gc va vi vl A c L w) (hE : Enters fid) (hF : Floats fid bound caps v L w) :
    Calls Try.prog 19 #[.pointer (some ⟨gc, 0, none⟩), .func (.func fid) bound caps] w fun e w' => e = .returned (.tuple #[]) ∧ KeepBut w w' gc none ∧ Below gc w w' ∧ ∃ A' c', Chose gc va vi vl A' c' (keepL (fun n => decide (some (v n) = lowOf v L)) L) w' := by
  have HS := Aside0.mk hS
  have HF := Aside0.mk hF
  have HL := Aside0.mk hL
  have HE := Aside0.mk hE
  have HB := Aside0.mk (Below.refl w.heap.size w)
  clear hS hF hL hE
  go_enter Try.func19, Try.ntmps19
  go_upto_region 2 with (first | ((with_reducible refine gate_dst (N := 3) rfl ?_); (try (refine gate_guard (by rfl) ?_; dsimp only)); refine box_event ?hg (N := 3) ?hd (cs := #[.func (.func fid) bound caps]) (t := 58) ?hr ?_; (case hd => rfl); (case hg => rfl); (case hr => first | (go_simp; done) | (go_simp; rfl)); intro g3 hg3 w3 hbox hb; have HB3 := Aside0.mk (below_step HB.out hb); have BK3 := Aside0.mk hbox; have GE3 := Aside0.mk (show w.heap.size ≤ g3 from by rw [hg3]; exact Nat.le_refl _); clear hbox hb hg3) | ((with_reducible refine gate_callee (f := 33) rfl ?_); refine goesL_ (some 7) rfl rfl Try.func33 (by kernel_rfl) rfl #[.int .i64 1] rfl (by (try simp only [List.map_toArray, List.map_cons, List.map_nil]); first | done | rfl) ?_; refine (f64_inf _).mono ?_; rintro e w1 ⟨rfl, ⟨nd, rfl⟩⟩; have HB1 := Aside0.mk (pw_below_drewN HB3.out nd); have BK1 := Aside0.mk (blk_drewN BK3.out nd); clear HB3 BK3; generalize w3.drewN nd = w1 at HB1 BK1 ⊢; refine ⟨_, rfl, ?_⟩) | ((with_reducible refine gate_dst (N := 4) rfl ?_); (try (refine gate_guard (by rfl) ?_; dsimp only)); refine box_event ?hg (N := 4) ?hd (cs := #[.float .f64 0]) (t := 59) ?hr ?_; (case hd => rfl); (case hg => rfl); (case hr => first | (go_simp; done) | (go_simp; rfl)); intro g4 hg4 w4 hbox hb; have HB4 := Aside0.mk (below_step HB1.out hb); have BK34 := Aside0.mk (show w4.heap[g3]? = _ from (hb.block _ (blk_lt BK1.out)).trans BK1.out); have GE4 := Aside0.mk (show w.heap.size ≤ g4 ∧ g3 < g4 from by rw [hg4]; exact ⟨HB1.out.size, blk_lt BK1.out⟩); have hcz4 := (show w4.cell? ⟨g4, 0, none⟩ = some (.float .f64 0) from (blk_cell hbox 0).trans rfl); have hfz4 := blk_frozen hbox 0; have BK4 := Aside0.mk hbox; clear hbox hb hg4 HB1 BK1))
  have HB5 := Aside0.mk (below_set (v := .float .f64 Go.Proofs.Ytediicgkcgfghaa.Flo.infW) (j := 0) HB4.out GE4.out.1)
  have BK45 := Aside0.mk (blk_put (cs := #[.float .f64 0]) BK4.out 0 (.float .f64 Go.Proofs.Ytediicgkcgfghaa.Flo.infW) rfl)
  have BK35 := Aside0.mk (show (w4.setCell ⟨g4, 0, none⟩ (.float .f64 Go.Proofs.Ytediicgkcgfghaa.Flo.infW)).heap[g3]? = some (.cells #[.func (.func fid) bound caps] 58 (0, 0)) from (Below.heap_setCell w4 ⟨g4, 0, none⟩ _ g3 (by have := GE4.out.2; show g3 ≠ g4; omega)).trans BK34.out)
  clear HB4 BK34 BK4 hcz4 hfz4
  generalize w4.setCell ⟨g4, 0, none⟩ (.float .f64 Go.Proofs.Ytediicgkcgfghaa.Flo.infW) = w5 at HB5 BK45 BK35 ⊢
  have hcz : w5.cell? ⟨gc, 3, none⟩ = some (.slice A L.length c) := (blk_cell (by rw [HB5.out.block _ (blk_lt HS.out.cells)]; exact HS.out.cells) 3).trans rfl
  go_wp2
  go_loopg [13] (L.length + 1) (fun kq v13 w' => ∃ (x : Nat) (xf : Nat), v13 = .int .i64 (x : Int) ∧ Aside0 (x + kq = L.length + 1 ∧ FO xf (lowOf v (L.take x))) ∧ Aside0 (w'.heap[g3]? = some (.cells #[.func (.func fid) bound caps] 58 (0, 0))) ∧ Aside0 (w'.heap[g4]? = some (.cells #[.float .f64 xf] 59 (0, 0))) ∧ Aside0 (Below w.heap.size w w'))
  case atStart => exact ⟨0, Go.Proofs.Ytediicgkcgfghaa.Flo.infW, rfl, ⟨by omega, rfl⟩, BK35, BK45, HB5⟩
  case round =>
    clear HB5 BK45 BK35 hcz
    obtain ⟨x, xf, rfl, HM, BK3, BK4, HB⟩ := hrel
    by_cases hlt : x < L.length
    · have q0 : 0 ≤ ((x : Nat) : Int) := by omega
      have q1 : ((x : Nat) : Int) < (L.length : Int) := by omega
      have c4b0 : decide (((x : Nat) : Int) < (L.length : Int)) = true := decide_eq_true q1
      have c4b1 : decide (x < L.length) = true := decide_eq_true hlt
      have hr : rd L ((x : Nat) : Int) = L[x] := by
        unfold rd
        rw [List.getD_eq_getElem?_getD, Int.toNat_natCast, List.getElem?_eq_getElem hlt]
        rfl
      obtain ⟨ad, e, hx0⟩ := Kd.at_int (Kd.C_below HS.out.row HB.out) ((x : Nat) : Int) q0 q1
      cases e
      rw [hr, Int.toNat_natCast] at hx0
      have HX := Aside0.mk (HF.out L[x] (List.getElem_mem hlt))
      have HN := Aside0.mk (lowOf_next v L x hlt)
      have HQ := Aside0.mk hlt
      generalize L[x] = y at hx0 HX HN
      clear hr hlt
      replace q0 := eq_true q0
      replace q1 := eq_true q1
      go_upto_region 5 with (fail)
      have hne := (show g3 ≠ g4 by have := GE4.out.2; omega)
      refine start_ (n := 6) (S := fun w' => w'.cell? ⟨g3, 0, none⟩ = some (.func (.func fid) bound caps) ∧ w'.cell? ⟨g4, 0, none⟩ = some (.float .f64 xf)) (ds := [5]) #[false, false, false, false, false, false] (by kernel_rfl) rfl rfl ⟨((blk_cell BK3.out 0).trans rfl), ((blk_cell BK4.out 0).trans rfl)⟩ (fun hHeld => ?_)
      have HBD := Aside0.mk (below_drew1 HB.out)
      have BK3D := Aside0.mk (blk_drew BK3.out)
      have BK4D := Aside0.mk (blk_drew BK4.out)
      generalize wr.drew = wD at HBD BK3D BK4D hHeld ⊢
      refine pure_ (i := 2) (N := some 19) (v := ?_) (a' := ?_) #[false, false, true, false, false, false] rfl rfl (by kernel_rfl) (fun _ _ _ h => h) (Or.inl ⟨by rfl, ?_⟩) ?_ ?_
      rotate_left
      · intro w'
        go_simp
        with_reducible rfl
      rotate_left
      · simp only [Act.put, List.setIfInBounds_toArray, List.set_cons_zero, List.set_cons_succ, i64_w, i32_w]
        rfl
      refine take_ (i := 0) (N := some 17) (v := ?_) (a' := ?_) #[true, false, true, false, false, false] rfl rfl (by kernel_rfl) (fun _ _ _ h => h) (Or.inl ⟨by rfl, ?_⟩) hHeld ?_ ?_
      rotate_left
      · rintro w' ⟨s0, s1⟩
        go_simp
        with_reducible rfl
      rotate_left
      · simp only [Act.put, List.setIfInBounds_toArray, List.set_cons_zero, List.set_cons_succ, i64_w, i32_w]
        rfl
      refine take_ (i := 1) (N := some 18) (v := ?_) (a' := ?_) #[true, true, true, false, false, false] rfl rfl (by kernel_rfl) (fun _ _ _ h => h) (Or.inl ⟨by rfl, ?_⟩) hHeld ?_ ?_
      rotate_left
      · rintro w' ⟨s0, s1⟩
        go_simp
        with_reducible rfl
      rotate_left
      · simp only [Act.put, List.setIfInBounds_toArray, List.set_cons_zero, List.set_cons_succ, i64_w, i32_w]
        rfl
      refine one_ (i := 3) (N := some 20) #[true, true, true, true, false, false] rfl rfl (by kernel_rfl) (by decide) (fun K hK => ?_)
      refine dyn_ HE.out #[.int .i64 y] (by rfl) rfl rfl (by rfl) (by (try simp only [List.map_toArray, List.map_cons, List.map_nil]); first | done | rfl) ?_
      refine (HX.out _ HBD.out).mono ?_
      rintro e w2 ⟨⟨xy, rfl, hx⟩, hb2⟩
      have HX2 := Aside0.mk hx
      have HB2 := Aside0.mk (below_step HBD.out hb2)
      have BK32 := Aside0.mk ((hb2.block _ (blk_lt BK3D.out)).trans BK3D.out)
      have BK42 := Aside0.mk ((hb2.block _ (blk_lt BK4D.out)).trans BK4D.out)
      have hcf1 : w2.cell? ⟨g3, 0, none⟩ = some (.func (.func fid) bound caps) := (blk_cell BK32.out 0).trans rfl
      have hcl1 : w2.cell? ⟨g4, 0, none⟩ = some (.float .f64 xf) := (blk_cell BK42.out 0).trans rfl
      have hfz1 := blk_frozen BK42.out 0
      clear hx hb2
      refine ⟨_, rfl, ?_⟩
      refine hK.out _ _ ⟨hcf1, hcl1⟩ (fun hHeld => ?_)
      clear hK K
      refine norm_ (a' := ?_) ?_ ?_
      rotate_left
      · show Act.put _ (some 20) _ = _
        simp only [Act.put, List.setIfInBounds_toArray, List.set_cons_zero, List.set_cons_succ, i64_w, i32_w]
        rfl
      refine one_ (i := 4) (N := some 21) #[true, true, true, true, true, false] rfl rfl (by kernel_rfl) (by decide) (fun K hK => ?_)
      refine goes_ Try.func34 (by kernel_rfl) rfl #[.float .f64 xf, .float .f64 xy] (by rfl) rfl rfl (by (try simp only [List.map_toArray, List.map_cons, List.map_nil]); first | done | rfl) ?_
      refine (f64_min _ _ _).mono ?_
      rintro e w3 ⟨rfl, ⟨nd, rfl⟩⟩
      refine ⟨_, rfl, ?_⟩
      refine hK.out _ _ ⟨hcf1, hcl1⟩ (fun hHeld => ?_)
      clear hK K
      refine norm_ (a' := ?_) ?_ ?_
      rotate_left
      · show Act.put _ (some 21) _ = _
        simp only [Act.put, List.setIfInBounds_toArray, List.set_cons_zero, List.set_cons_succ, i64_w, i32_w]
        rfl
      refine last_ (i := 5) (N := none) #[true, true, true, true, true, true] rfl rfl (by kernel_rfl) (by decide) (fun K hK => ?_)
      refine skip_ (w1 := ?_) (by rfl) rfl ?_ ?_
      rotate_left
      · go_simp
        rfl
      refine hK.out _ _ ?_
      clear hK K
      refine done_ (by kernel_rfl) ?_
      all_goals (
        go_wp2
        cases gk with
        | zero => exact absurd HM.out.1 (by have := HQ.out; omega)
        | succ k1 =>
          go_roundg k1
          case measure => omega
          case rel => exact ⟨x + 1, Go.Proofs.Ytediicgkcgfghaa.Flo.minW xf xy, (by have hw : wrap64 ((x : Int) + 1) = ((x + 1 : Nat) : Int) := (by have := HL.out; have := HQ.out; unfold wrap64; omega); first | rfl | (simp [hw]; done)), ⟨by have := HM.out.1; omega, by rw [HN.out]; exact FO.next HM.out.2 HX2.out⟩, ⟨(Below.heap_setCell _ ⟨g4, 0, none⟩ _ g3 hne).trans (blk_drewN BK32.out nd)⟩, ⟨blk_put (cs := #[.float .f64 xf]) (blk_drewN BK42.out nd) 0 _ rfl⟩, ⟨below_set (pw_below_drewN HB2.out nd) GE4.out.1⟩⟩)
    · have c4b0 : decide (((x : Nat) : Int) < (L.length : Int)) = false := decide_eq_false (by omega)
      have c4b1 : decide (x < L.length) = false := decide_eq_false hlt
      have HW := Aside0.mk (show Wills 35 #[] #[.pointer (some ⟨g3, 0, none⟩), .pointer (some ⟨g4, 0, none⟩)] (fun n => decide (some (v n) = lowOf v L)) L wr from by
        have h1 := HM.out.2
        rw [List.take_of_length_le (by omega)] at h1
        rcases hlo : lowOf v L with _ | m
        · intro n hn
          have : L = [] := lowOf_none hlo
          rw [this] at hn
          cases hn
        · rw [hlo] at h1
          have h2 := least_will g3 g4 fid bound caps v xf m L wr BK3.out BK4.out h1 HE.out (fun n hn w' hb => HF.out n hn w' (HB.out.trans (hb.mono HB.out.size)))
          have e : (fun n => decide (some (v n) = some m)) = (fun n => decide (v n = m)) := by
            funext n
            simp
          rw [e]
          exact h2)
      have HE5 := Aside0.mk (show Enters 35 from fun args w => enters_ Try.func35 rfl rfl args w)
      clear hlt
      go_wp2_with (first | ((with_reducible refine gate_callee (f := 16) rfl ?_); refine goesL_ (some 25) rfl rfl Try.func16 (by kernel_rfl) rfl #[.pointer (some ⟨gc, 0, none⟩), .func (.func 35) #[] #[.pointer (some ⟨g3, 0, none⟩), .pointer (some ⟨g4, 0, none⟩)]] rfl (by (try simp only [List.map_toArray, List.map_cons, List.map_nil]); first | done | rfl) ?_; refine (chooser_keep gc va vi vl A c L _ #[] #[.pointer (some ⟨g3, 0, none⟩), .pointer (some ⟨g4, 0, none⟩)] _ wr HL.out (HS.out.below HB.out) HE5.out HW.out).mono ?_; rintro e w2 ⟨rfl, hk, hkb, A', c', hc⟩; have HK := Aside0.mk hk; have HKB := Aside0.mk hkb; have HC := Aside0.mk hc; clear hk hkb hc; refine ⟨_, rfl, ?_⟩))
      first | go_end0 | skip
      exact ⟨rfl, (KeepBut.of_below HB.out gc none).trans HK.out (.inl rfl), (HB.out.mono (Nat.le_of_lt (blk_lt HS.out.cells))).trans HKB.out, A', c', HC.out⟩
set_option maxHeartbeats 4000000 in
set_option maxRecDepth 100000 in
theorem chooser_attrs (gc : Nat) (va vi vl : Value) (A2 : Option Addr) (c2 : Nat) (l2 : List S41) (n : Int) (w : World) (hS : w.heap[gc]? = some (.cells #[va, vi, .slice A2 l2.length c2, vl] 54 (0, 0))) (hr2 : Kd.C k41 w A2 l2.length l2) (h0 : 0 ≤ n) (h1 : n < (l2.length : Int)) :
    ∃ P4 c4 P8 c8 P9 c9, (rd_T41 l2 n).f2.f1.length ≤ c4 ∧ Kd.C k47 w P4 (rd_T41 l2 n).f2.f1.length (rd_T41 l2 n).f2.f1 ∧
      Calls Try.prog 23 #[.pointer (some ⟨gc, 0, none⟩), .int .i64 n] w fun e w' => e = .returned (.agg #[.int .i64 (rd_T41 l2 n).f2.f0, .slice P4 (rd_T41 l2 n).f2.f1.length c4, .int .u32 (rd_T41 l2 n).f2.f2, .int .i64 (rd_T41 l2 n).f2.f3, .int .i64 (rd_T41 l2 n).f2.f4, .slice P8 (rd_T41 l2 n).f2.f5.length c8, .slice P9 (rd_T41 l2 n).f2.f6.length c9]) ∧ Below w.heap.size w w' := by
  obtain ⟨ad, A4, c4, A8, c8, A9, c9, e, hx0, hx1, hx2, hx3, hx4, hx5, hx6, hx7, hx8, hx9, hx10, l4, g4_, l8, g8, l9, g9⟩ := at_T41 hr2 n h0 h1
  refine ⟨A4, c4, A8, c8, A9, c9, l4, g4_, ?_⟩
  have hcz : w.cell? ⟨gc, 2, none⟩ = some (.slice A2 l2.length c2) := (blk_cell hS 2).trans rfl
  cases e
  clear hS l4 g4_ l8 g8 l9 g9 hx0 hx1 hx2 hx10 hr2
  generalize rd_T41 l2 n = R at *
  have hu39 := Try.underlying39
  have HB := Aside0.mk (Below.refl w.heap.size w)
  have c0b0 : decide (0 ≤ n) = true := decide_eq_true h0
  have c1b0 : decide (n < (l2.length : Int)) = true := decide_eq_true h1
  replace h0 := eq_true h0
  replace h1 := eq_true h1
  go_enter Try.func23, Try.ntmps23
  go_wp2_with (first | ((with_reducible refine gate_dst (N := 4) rfl ?_); refine box_event ?hg (N := 4) ?hd (cs := #[.int .i64 0, .slice none 0 0, .int .u32 0, .int .i64 0, .int .i64 0, .slice none 0 0, .slice none 0 0]) (t := 39) ?hr ?_; (case hd => rfl); (case hg => rfl); (case hr => first | (go_simp; done) | (go_simp; rfl)); intro g4 hg w3 hbox hb; replace hcz := (hb.cell (World.block_lt_of_cell? w _ hcz)).trans hcz; replace hx3 := (hb.cell (World.block_lt_of_cell? w _ hx3)).trans hx3; replace hx4 := (hb.cell (World.block_lt_of_cell? w _ hx4)).trans hx4; replace hx5 := (hb.cell (World.block_lt_of_cell? w _ hx5)).trans hx5; replace hx6 := (hb.cell (World.block_lt_of_cell? w _ hx6)).trans hx6; replace hx7 := (hb.cell (World.block_lt_of_cell? w _ hx7)).trans hx7; replace hx8 := (hb.cell (World.block_lt_of_cell? w _ hx8)).trans hx8; replace hx9 := (hb.cell (World.block_lt_of_cell? w _ hx9)).trans hx9; have hz0 := (show w3.cell? ⟨g4, 0, none⟩ = some (.int .i64 0) from (blk_cell hbox 0).trans rfl); have hf0 := blk_frozen hbox 0; have hz1 := (show w3.cell? ⟨g4, 1, none⟩ = some (.slice none 0 0) from (blk_cell hbox 1).trans rfl); have hf1 := blk_frozen hbox 1; have hz2 := (show w3.cell? ⟨g4, 2, none⟩ = some (.int .u32 0) from (blk_cell hbox 2).trans rfl); have hf2 := blk_frozen hbox 2; have hz3 := (show w3.cell? ⟨g4, 3, none⟩ = some (.int .i64 0) from (blk_cell hbox 3).trans rfl); have hf3 := blk_frozen hbox 3; have hz4 := (show w3.cell? ⟨g4, 4, none⟩ = some (.int .i64 0) from (blk_cell hbox 4).trans rfl); have hf4 := blk_frozen hbox 4; have hz5 := (show w3.cell? ⟨g4, 5, none⟩ = some (.slice none 0 0) from (blk_cell hbox 5).trans rfl); have hf5 := blk_frozen hbox 5; have hz6 := (show w3.cell? ⟨g4, 6, none⟩ = some (.slice none 0 0) from (blk_cell hbox 6).trans rfl); have hf6 := blk_frozen hbox 6; have BK4 := Aside0.mk hbox; have HB3 := Aside0.mk (below_step HB.out hb); have GE := Aside0.mk (show w.heap.size ≤ g4 from by rw [hg]; exact Nat.le_refl _); clear hg hbox hb))
  refine bodyPost_ret (results_cell_row rfl _ _ g4 39 #[.int .i64 R.f2.f0, .slice A4 R.f2.f1.length c4, .int .u32 R.f2.f2, .int .i64 R.f2.f3, .int .i64 R.f2.f4, .slice A8 R.f2.f5.length c8, .slice A9 R.f2.f6.length c9] (0, 0) _ rfl (by refine blk_put (cs := #[.int .i64 R.f2.f0, .slice A4 R.f2.f1.length c4, .int .u32 R.f2.f2, .int .i64 R.f2.f3, .int .i64 R.f2.f4, .slice A8 R.f2.f5.length c8, .slice none 0 0]) ?_ 6 _ rfl; refine blk_put (cs := #[.int .i64 R.f2.f0, .slice A4 R.f2.f1.length c4, .int .u32 R.f2.f2, .int .i64 R.f2.f3, .int .i64 R.f2.f4, .slice none 0 0, .slice none 0 0]) ?_ 5 _ rfl; refine blk_put (cs := #[.int .i64 R.f2.f0, .slice A4 R.f2.f1.length c4, .int .u32 R.f2.f2, .int .i64 R.f2.f3, .int .i64 0, .slice none 0 0, .slice none 0 0]) ?_ 4 _ rfl; refine blk_put (cs := #[.int .i64 R.f2.f0, .slice A4 R.f2.f1.length c4, .int .u32 R.f2.f2, .int .i64 0, .int .i64 0, .slice none 0 0, .slice none 0 0]) ?_ 3 _ rfl; refine blk_put (cs := #[.int .i64 R.f2.f0, .slice A4 R.f2.f1.length c4, .int .u32 0, .int .i64 0, .int .i64 0, .slice none 0 0, .slice none 0 0]) ?_ 2 _ rfl; refine blk_put (cs := #[.int .i64 R.f2.f0, .slice none 0 0, .int .u32 0, .int .i64 0, .int .i64 0, .slice none 0 0, .slice none 0 0]) ?_ 1 _ rfl; refine blk_put (cs := #[.int .i64 0, .slice none 0 0, .int .u32 0, .int .i64 0, .int .i64 0, .slice none 0 0, .slice none 0 0]) ?_ 0 _ rfl; exact BK4.out) Try.underlying39 rfl (by kernel_rfl)) rfl ?_
  exact ⟨rfl, by repeat (first | (with_reducible first | exact HB3.out | apply below_alloc | apply pw_below_drewN | apply below_drew1 | refine below_set ?_ GE.out) | exact HB3.out)⟩
theorem fld0 (a b c d e f g : Value) (w : World) : Sem.run Try.prog (Instr.field 39 (.agg #[a, b, c, d, e, f, g]) 0) w = .ok a w := by
  have hu := Try.underlying39
  simp [Instr.field, underlying, hu]
  rfl
theorem fld1 (a b c d e f g : Value) (w : World) : Sem.run Try.prog (Instr.field 39 (.agg #[a, b, c, d, e, f, g]) 1) w = .ok b w := by
  have hu := Try.underlying39
  simp [Instr.field, underlying, hu]
  rfl
theorem fld3 (a b c d e f g : Value) (w : World) : Sem.run Try.prog (Instr.field 39 (.agg #[a, b, c, d, e, f, g]) 3) w = .ok d w := by
  have hu := Try.underlying39
  simp [Instr.field, underlying, hu]
  rfl
theorem fld4 (a b c d e f g : Value) (w : World) : Sem.run Try.prog (Instr.field 39 (.agg #[a, b, c, d, e, f, g]) 4) w = .ok e w := by
  have hu := Try.underlying39
  simp [Instr.field, underlying, hu]
  rfl
theorem neg_float (x : Nat) (w : World) : Sem.run Try.prog (Op.unary .neg (.float .f64 x)) w = .ok (.float .f64 (x ^^^ 2 ^ 63)) w := rfl
theorem fv_neg {p : Int} (h : Go.Proofs.Ytediicgkcgfghaa.Flo.FV (FloatKind.f64.nearest p) p) : Go.Proofs.Ytediicgkcgfghaa.Flo.FV (FloatKind.f64.nearest p ^^^ 2 ^ 63) (-p) :=
  h.neg (Ieee.Format.nearest_lt Ieee.double (decide (p < 0)) p.natAbs 0)
attribute [local go_sem] neg_float
attribute [local go_sem] fld0 fld1 fld3 fld4
def prefV (p : Int) : Int := if 0 ≤ p then -p else -100
theorem fv_100 : Go.Proofs.Ytediicgkcgfghaa.Flo.FV 13860109328209412096 (-100) := by
  have h := Go.Proofs.Ytediicgkcgfghaa.Flo.FV.nearest (-100) (by decide)
  rwa [show FloatKind.f64.nearest (-100) = 13860109328209412096 by decide +kernel] at h
set_option maxHeartbeats 4000000 in
set_option maxRecDepth 100000 in
theorem chooser_pref (gc : Nat) (va vi vl : Value) (A2 : Option Addr) (c2 : Nat) (l2 : List S41) (n : Int) (w : World) (hS : w.heap[gc]? = some (.cells #[va, vi, .slice A2 l2.length c2, vl] 54 (0, 0))) (hr2 : Kd.C k41 w A2 l2.length l2) (h0 : 0 ≤ n) (h1 : n < (l2.length : Int)) (hp : (rd_T41 l2 n).f2.f4.natAbs ≤ 9007199254740992) :
    Calls Try.prog 20 #[.pointer (some ⟨gc, 0, none⟩), .int .i64 n] w fun e w' => (∃ x, e = .returned (.float .f64 x) ∧ Go.Proofs.Ytediicgkcgfghaa.Flo.FV x (prefV (rd_T41 l2 n).f2.f4)) ∧ Below w.heap.size w w' := by
  obtain ⟨P4, c4, P8, c8, P9, c9, _, _, hA⟩ := chooser_attrs gc va vi vl A2 c2 l2 n w hS hr2 h0 h1
  have HA := Aside0.mk hA
  have hu39 := Try.underlying39
  clear hA hS hr2 h0 h1
  have HN := Aside0.mk (Go.Proofs.Ytediicgkcgfghaa.Flo.FV.nearest _ hp)
  clear hp
  generalize rd_T41 l2 n = R at *
  generalize R.f2.f4 = p at *
  by_cases hq : 0 ≤ p
  all_goals (
    first | have c0b0 : decide (0 ≤ p) = true := decide_eq_true hq | have c0b0 : decide (0 ≤ p) = false := decide_eq_false hq
    have HQ := Aside0.mk hq
    clear hq
    go_enter Try.func20, Try.ntmps20
    go_wp2_with (first | ((with_reducible refine gate_callee (f := 23) rfl ?_); refine goesL_ (some 8) rfl rfl Try.func23 (by kernel_rfl) rfl #[.pointer (some ⟨gc, 0, none⟩), .int .i64 n] rfl (by (try simp only [List.map_toArray, List.map_cons, List.map_nil]); first | done | rfl) ?_; refine HA.out.mono ?_; rintro e w1 ⟨rfl, hb⟩; have HB1 := Aside0.mk hb; clear hb; refine ⟨_, rfl, ?_⟩))
    go_ret
    exact ⟨⟨_, rfl, by first | (rw [prefV, if_pos (by have := HQ.out; omega)]; exact fv_neg HN.out) | (rw [prefV, if_neg (by have := HQ.out; omega)]; exact fv_100)⟩, HB1.out⟩)
set_option maxHeartbeats 2000000 in
set_option maxRecDepth 100000 in
theorem will_1 (gl : Nat) (A2 : Option Addr) (c2 : Nat) (l2 : List S41) (L : List Int) (w : World) (hl : w.heap[gl]? = some (.cells #[.slice A2 l2.length c2] 23 (0, 0))) (hr2 : Kd.C k41 w A2 l2.length l2) (hL : ∀ n ∈ L, 0 ≤ n ∧ n < (l2.length : Int)) :
    Wills 17 #[] #[.pointer (some ⟨gl, 0, none⟩)] (fun n => decide ((rd_T41 l2 n).f1 < 0)) L w := by
  intro n hn w' hb
  obtain ⟨h0, h1⟩ := hL n hn
  have hcl : w'.cell? ⟨gl, 0, none⟩ = some (.slice A2 l2.length c2) := (blk_cell (by rw [hb.block _ (blk_lt hl)]; exact hl) 0).trans rfl
  obtain ⟨ad, A4, c4, A8, c8, A9, c9, e, hx0, hx1, hx2, hx3, hx4, hx5, hx6, hx7, hx8, hx9, hx10, l4, g4, l8, g8, l9, g9⟩ := at_T41 (Kd.C_below hr2 hb) n h0 h1
  cases e
  show Calls Try.prog 17 #[.int .i64 n, .pointer (some ⟨gl, 0, none⟩)] w' _
  clear l4 g4 l8 g8 l9 g9 hx0 hx1 hx3 hx4 hx5 hx6 hx7 hx8 hx9 hx10 hl hr2 hL hb hn
  have c0b0 : decide (0 ≤ n) = true := decide_eq_true h0
  have c1b0 : decide (n < (l2.length : Int)) = true := decide_eq_true h1
  replace h0 := eq_true h0
  replace h1 := eq_true h1
  have HB := Aside0.mk (Below.refl w'.heap.size w')

  go_enter Try.func17, Try.ntmps17
  go_wp2
  go_ret
  exact ⟨by first | rfl | (simp; done) | (simp [*]; done), HB.out⟩
set_option maxHeartbeats 2000000 in
set_option maxRecDepth 100000 in
theorem will_2 (gl : Nat) (A2 : Option Addr) (c2 : Nat) (l2 : List S41) (L : List Int) (w : World) (hl : w.heap[gl]? = some (.cells #[.slice A2 l2.length c2] 23 (0, 0))) (hr2 : Kd.C k41 w A2 l2.length l2) (hL : ∀ n ∈ L, 0 ≤ n ∧ n < (l2.length : Int)) :
    Wills 18 #[] #[.pointer (some ⟨gl, 0, none⟩)] (fun n => (rd_T41 l2 n).f3 != 2) L w := by
  intro n hn w' hb
  obtain ⟨h0, h1⟩ := hL n hn
  have hcl : w'.cell? ⟨gl, 0, none⟩ = some (.slice A2 l2.length c2) := (blk_cell (by rw [hb.block _ (blk_lt hl)]; exact hl) 0).trans rfl
  obtain ⟨ad, A4, c4, A8, c8, A9, c9, e, hx0, hx1, hx2, hx3, hx4, hx5, hx6, hx7, hx8, hx9, hx10, l4, g4, l8, g8, l9, g9⟩ := at_T41 (Kd.C_below hr2 hb) n h0 h1
  cases e
  show Calls Try.prog 18 #[.int .i64 n, .pointer (some ⟨gl, 0, none⟩)] w' _
  clear l4 g4 l8 g8 l9 g9 hx0 hx1 hx2 hx3 hx4 hx5 hx6 hx7 hx8 hx9  hl hr2 hL hb hn
  have c0b0 : decide (0 ≤ n) = true := decide_eq_true h0
  have c1b0 : decide (n < (l2.length : Int)) = true := decide_eq_true h1
  replace h0 := eq_true h0
  replace h1 := eq_true h1
  have HB := Aside0.mk (Below.refl w'.heap.size w')

  go_enter Try.func18, Try.ntmps18
  go_wp2
  go_ret
  exact ⟨by first | rfl | (simp; done) | (simp [*]; done), HB.out⟩
set_option maxHeartbeats 2000000 in
set_option maxRecDepth 100000 in
theorem float_8 (gl : Nat) (A2 : Option Addr) (c2 : Nat) (l2 : List S41) (L : List Int) (w : World) (hl : w.heap[gl]? = some (.cells #[.slice A2 l2.length c2] 23 (0, 0))) (hr2 : Kd.C k41 w A2 l2.length l2) (hL : ∀ n ∈ L, 0 ≤ n ∧ n < (l2.length : Int)) (hv : ∀ n ∈ L, (rd_T41 l2 n).f1.natAbs ≤ 9007199254740992) :
    Floats 30 #[] #[.pointer (some ⟨gl, 0, none⟩)] (fun n => (rd_T41 l2 n).f1) L w := by
  intro n hn w' hb
  obtain ⟨h0, h1⟩ := hL n hn
  have hcl : w'.cell? ⟨gl, 0, none⟩ = some (.slice A2 l2.length c2) := (blk_cell (by rw [hb.block _ (blk_lt hl)]; exact hl) 0).trans rfl
  obtain ⟨ad, A4, c4, A8, c8, A9, c9, e, hx0, hx1, hx2, hx3, hx4, hx5, hx6, hx7, hx8, hx9, hx10, l4, g4, l8, g8, l9, g9⟩ := at_T41 (Kd.C_below hr2 hb) n h0 h1
  cases e
  have HN := Aside0.mk (Go.Proofs.Ytediicgkcgfghaa.Flo.FV.nearest _ (hv n hn))
  clear hv
  show Calls Try.prog 30 #[.int .i64 n, .pointer (some ⟨gl, 0, none⟩)] w' (fun e w'' => (∃ x, e = .returned (.float .f64 x) ∧ Go.Proofs.Ytediicgkcgfghaa.Flo.FV x (rd_T41 l2 n).f1) ∧ Below w'.heap.size w' w'')
  clear l4 g4 l8 g8 l9 g9 hx0 hx1 hx3 hx4 hx5 hx6 hx7 hx8 hx9 hx10 hl hr2 hL hb hn
  have c0b0 : decide (0 ≤ n) = true := decide_eq_true h0
  have c1b0 : decide (n < (l2.length : Int)) = true := decide_eq_true h1
  replace h0 := eq_true h0
  replace h1 := eq_true h1
  have HB := Aside0.mk (Below.refl w'.heap.size w')
  generalize (rd_T41 l2 n).f1 = p at *
  go_enter Try.func30, Try.ntmps30
  go_wp2
  go_ret
  exact ⟨⟨_, rfl, HN.out⟩, HB.out⟩
set_option maxHeartbeats 2000000 in
set_option maxRecDepth 100000 in
theorem float_4 (gp gc : Nat) (va vi vl : Value) (A2 : Option Addr) (c2 : Nat) (l2 : List S41) (L : List Int) (w : World) (hp : w.heap[gp]? = some (.cells #[.pointer (some ⟨gc, 0, none⟩)] 52 (0, 0))) (hS : w.heap[gc]? = some (.cells #[va, vi, .slice A2 l2.length c2, vl] 54 (0, 0))) (hr2 : Kd.C k41 w A2 l2.length l2) (hL : ∀ n ∈ L, 0 ≤ n ∧ n < (l2.length : Int)) (hv : ∀ n ∈ L, (rd_T41 l2 n).f2.f0.natAbs ≤ 9007199254740992) :
    Floats 24 #[] #[.pointer (some ⟨gp, 0, none⟩)] (fun n => (rd_T41 l2 n).f2.f0) L w := by
  intro n hn w' hb
  obtain ⟨h0, h1⟩ := hL n hn
  have hcl : w'.cell? ⟨gp, 0, none⟩ = some (.pointer (some ⟨gc, 0, none⟩)) := (blk_cell (by rw [hb.block _ (blk_lt hp)]; exact hp) 0).trans rfl
  obtain ⟨P4, c4, P8, c8, P9, c9, _, _, hA⟩ := chooser_attrs gc va vi vl A2 c2 l2 n w' (by rw [hb.block _ (blk_lt hS)]; exact hS) (Kd.C_below hr2 hb) h0 h1
  have HA := Aside0.mk hA
  have HN := Aside0.mk (Go.Proofs.Ytediicgkcgfghaa.Flo.FV.nearest _ (hv n hn))
  show Calls Try.prog 24 #[.int .i64 n, .pointer (some ⟨gp, 0, none⟩)] w' (fun e w'' => (∃ x, e = .returned (.float .f64 x) ∧ Go.Proofs.Ytediicgkcgfghaa.Flo.FV x (rd_T41 l2 n).f2.f0) ∧ Below w'.heap.size w' w'')
  clear hA hp hS hr2 hL hv hb hn h0 h1
  generalize rd_T41 l2 n = R at *
  go_enter Try.func24, Try.ntmps24
  go_wp2_with (first | ((with_reducible refine gate_callee (f := 23) rfl ?_); refine goesL_ (some 6) rfl rfl Try.func23 (by kernel_rfl) rfl #[.pointer (some ⟨gc, 0, none⟩), .int .i64 n] rfl (by (try simp only [List.map_toArray, List.map_cons, List.map_nil]); first | done | rfl) ?_; refine HA.out.mono ?_; rintro e w1 ⟨rfl, hb⟩; have HB1 := Aside0.mk hb; clear hb; refine ⟨_, rfl, ?_⟩))
  go_ret
  exact ⟨⟨_, rfl, HN.out⟩, HB1.out⟩
set_option maxHeartbeats 4000000 in
set_option maxRecDepth 100000 in
theorem float_3 (gp gc : Nat) (va vi vl : Value) (A2 : Option Addr) (c2 : Nat) (l2 : List S41) (L : List Int) (K : Int → Nat) (lv : Int → Int) (w : World) (hp : w.heap[gp]? = some (.cells #[.pointer (some ⟨gc, 0, none⟩)] 52 (0, 0))) (hS : w.heap[gc]? = some (.cells #[va, vi, .slice A2 l2.length c2, vl] 54 (0, 0))) (hr2 : Kd.C k41 w A2 l2.length l2) (hL : ∀ n ∈ L, 0 ≤ n ∧ n < (l2.length : Int)) (hq : ∀ n ∈ L, path_Length.f (K n) (rd_T41 l2 n).f2.f1 = some (lv n)) (hv : ∀ n ∈ L, (lv n).natAbs ≤ 9007199254740992) :
    Floats 21 #[] #[.pointer (some ⟨gp, 0, none⟩)] lv L w := by
  intro n hn w' hb
  obtain ⟨h0, h1⟩ := hL n hn
  have hcl : w'.cell? ⟨gp, 0, none⟩ = some (.pointer (some ⟨gc, 0, none⟩)) := (blk_cell (by rw [hb.block _ (blk_lt hp)]; exact hp) 0).trans rfl
  obtain ⟨P4, c4, P8, c8, P9, c9, hc4, hr4, hA⟩ := chooser_attrs gc va vi vl A2 c2 l2 n w' (by rw [hb.block _ (blk_lt hS)]; exact hS) (Kd.C_below hr2 hb) h0 h1
  have HA := Aside0.mk hA
  have HR4 := Aside0.mk hr4
  have HC4 := Aside0.mk hc4
  have HQ := Aside0.mk (hq n hn)
  have HN := Aside0.mk (Go.Proofs.Ytediicgkcgfghaa.Flo.FV.nearest _ (hv n hn))
  show Calls Try.prog 21 #[.int .i64 n, .pointer (some ⟨gp, 0, none⟩)] w' (fun e w'' => (∃ x, e = .returned (.float .f64 x) ∧ Go.Proofs.Ytediicgkcgfghaa.Flo.FV x (lv n)) ∧ Below w'.heap.size w' w'')
  clear hA hp hS hr2 hL hv hq hb hn h0 h1 hc4 hr4
  generalize lv n = q at *
  generalize rd_T41 l2 n = R at *
  go_enter Try.func21, Try.ntmps21
  go_wp2_with (first | ((with_reducible refine gate_callee (f := 23) rfl ?_); refine goesL_ (some 6) rfl rfl Try.func23 (by kernel_rfl) rfl #[.pointer (some ⟨gc, 0, none⟩), .int .i64 n] rfl (by (try simp only [List.map_toArray, List.map_cons, List.map_nil]); first | done | rfl) ?_; refine HA.out.mono ?_; rintro e w1 ⟨rfl, hb⟩; have HB1 := Aside0.mk hb; clear hb; refine ⟨_, rfl, ?_⟩) | ((with_reducible refine gate_callee (f := 22) rfl ?_); refine goesL_ (some 8) rfl rfl Try.func22 (by kernel_rfl) rfl #[.slice P4 R.f2.f1.length c4] rfl (by (try simp only [List.map_toArray, List.map_cons, List.map_nil]); first | done | rfl) ?_; refine (path_Length.calls (K n) P4 c4 R.f2.f1 q w1 (Kd.C_below HR4.out HB1.out) HC4.out HQ.out).mono ?_; rintro e w2 ⟨rfl, hb⟩; have HB2 := Aside0.mk (below_step HB1.out hb); clear hb; refine ⟨_, rfl, ?_⟩))
  go_ret
  exact ⟨⟨_, rfl, HN.out⟩, HB2.out⟩
set_option maxHeartbeats 4000000 in
set_option maxRecDepth 100000 in
theorem info_1 (gp gn gc : Nat) (va vi vl : Value) (A2 : Option Addr) (c2 : Nat) (l2 : List S41) (n : Int) (x : S49) (w : World) (hp : w.heap[gp]? = some (.cells #[.pointer (some ⟨gc, 0, none⟩)] 52 (0, 0))) (hn : w.heap[gn]? = some (.cells #[.int .i64 n] 3 (0, 0))) (hS : w.heap[gc]? = some (.cells #[va, vi, .slice A2 l2.length c2, vl] 54 (0, 0))) (hr2 : Kd.C k41 w A2 l2.length l2) (h0 : 0 ≤ n) (h1 : n < (l2.length : Int)) :
    Calls Try.prog 40 #[.agg #[.int .i64 x.f0, .int .i64 x.f1, .int .u32 x.f2], .pointer (some ⟨gp, 0, none⟩), .pointer (some ⟨gn, 0, none⟩)] w fun e w' => e = .returned (.bool (decide (x.f0 = (rd_T41 l2 n).f1))) ∧ Below w.heap.size w w' := by
  obtain ⟨ad, A4, c4, A8, c8, A9, c9, e, hx0, hx1, hx2, hx3, hx4, hx5, hx6, hx7, hx8, hx9, hx10, l4, g4, l8, g8, l9, g9⟩ := at_T41 hr2 n h0 h1
  have hcz : w.cell? ⟨gc, 2, none⟩ = some (.slice A2 l2.length c2) := (blk_cell hS 2).trans rfl
  cases e
  clear l4 g4 l8 g8 l9 g9 hx0 hx1 hx3 hx4 hx5 hx6 hx7 hx8 hx9 hx10 hr2
  have hcp : w.cell? ⟨gp, 0, none⟩ = some (.pointer (some ⟨gc, 0, none⟩)) := (blk_cell hp 0).trans rfl
  have hcn : w.cell? ⟨gn, 0, none⟩ = some (.int .i64 n) := (blk_cell hn 0).trans rfl
  have hu49 := Try.underlying49
  have c0b0 : decide (0 ≤ n) = true := decide_eq_true h0
  have c1b0 : decide (n < (l2.length : Int)) = true := decide_eq_true h1
  replace h0 := eq_true h0
  replace h1 := eq_true h1
  have HB := Aside0.mk (Below.refl w.heap.size w)
  clear hp hn hS
  generalize (rd_T41 l2 n).f1 = P at *
  go_enter Try.func40, Try.ntmps40
  go_upto_region 1 with (first | ((with_reducible refine gate_dst (N := 3) rfl ?_); refine box_event ?hg (N := 3) ?hd (cs := #[.int .i64 x.f0, .int .i64 x.f1, .int .u32 x.f2]) (t := 49) ?hr ?_; (case hd => rfl); (case hg => rfl); (case hr => first | (go_simp; done) | (go_simp; rfl)); intro g3 hg w3 hbox hb; replace hcp := (hb.cell (World.block_lt_of_cell? _ _ hcp)).trans hcp; replace hcn := (hb.cell (World.block_lt_of_cell? _ _ hcn)).trans hcn; replace hcz := (hb.cell (World.block_lt_of_cell? _ _ hcz)).trans hcz; replace hx2 := (hb.cell (World.block_lt_of_cell? _ _ hx2)).trans hx2; have HB3 := Aside0.mk (below_step HB.out hb); have hz0 := (show w3.cell? ⟨g3, 0, none⟩ = some (.int .i64 x.f0) from (blk_cell hbox 0).trans rfl); clear hbox hb hg))
  go_quiet (fail)
  go_wp2
  go_ret
  exact ⟨by first | rfl | (simp; done) | (simp [*]; done), pw_below_drewN HB3.out _⟩
set_option maxHeartbeats 4000000 in
set_option maxRecDepth 100000 in
theorem index_info (gp gn : Nat) (P : Int) (A0 : Option Addr) (c0 : Nat) (l0 : List S49) (w : World) (hr0 : Kd.C k49 w A0 l0.length l0) (hX : ∀ (x : S49) (w' : World), Below w.heap.size w w' → Calls Try.prog 40 #[.agg #[.int .i64 x.f0, .int .i64 x.f1, .int .u32 x.f2], .pointer (some ⟨gp, 0, none⟩), .pointer (some ⟨gn, 0, none⟩)] w' fun e w'' => e = .returned (.bool (decide (x.f0 = P))) ∧ Below w'.heap.size w' w'') :
    Calls Try.prog 39 #[.slice A0 l0.length c0, .func (.func 40) #[] #[.pointer (some ⟨gp, 0, none⟩), .pointer (some ⟨gn, 0, none⟩)]] w fun e w' => e = .returned (.int .i64 (idxOf (fun x : S49 => decide (x.f0 = P)) l0)) ∧ Below w.heap.size w w' := by
  have hu49 := Try.underlying49
  have HM := Aside0.mk (Kd.C_max hr0)
  have HR := Aside0.mk hr0
  have HX0 := Aside0.mk hX
  clear hr0 hX
  go_enter Try.func39, Try.ntmps39
  go_wp2
  go_loopg [8] (l0.length + 1) (fun kq v8 wr => ∃ x : Int, v8 = .int .i64 x ∧ Aside0 (0 ≤ x ∧ x + kq = l0.length + 1 ∧ (∀ y ∈ l0.take x.toNat, decide (y.f0 = P) = false)) ∧ Aside0 (Below w.heap.size w wr))
  case atStart => exact ⟨0, rfl, ⟨by simp⟩, ⟨Below.refl _ _⟩⟩
  case round =>
    obtain ⟨x, rfl, HF, HB⟩ := hrel
    by_cases hlt : x < (l0.length : Int)
    · have q1 := hlt
      have p1 := HF.out.1
      have c4b0 : decide (x < (l0.length : Int)) = true := decide_eq_true hlt
      have HL := Aside0.mk hlt
      clear hlt
      obtain ⟨ad, e, h0, h1, h2⟩ := at_T49 (Kd.C_below HR.out HB.out) x p1 q1
      cases e
      have HX := HX0.out (rd_T49 l0 x) wr HB.out
      replace p1 := eq_true p1
      replace q1 := eq_true q1
      rcases hqx : decide ((rd_T49 l0 x).f0 = P) with _ | _
      · rw [hqx] at HX
        have HX := Aside0.mk HX
        have HQX := Aside0.mk hqx
        clear hqx
        cases gk with
        | zero => exact absurd HF.out.2.1 (by have := HL.out; omega)
        | succ k1 =>
          go_wp2_with fail
          refine HX.out.mono ?_
          rintro e w1 ⟨rfl, hb1⟩
          have HB1 := Aside0.mk (HB.out.trans (hb1.mono HB.out.size))
          clear HX hb1
          go_wp2
          go_roundg k1
          case measure => omega
          case rel =>
            refine ⟨x + 1, (by have hw : wrap64 (x + 1) = x + 1 := (by have := HM.out; have := HL.out; have := HF.out.1; unfold wrap64; omega); first | rfl | (simp [hw]; done)), ⟨by have := HF.out.1; omega, by have := HF.out.2.1; omega, take_next (fun y : S49 => decide (y.f0 = P)) z49 _ _ HF.out.1 HL.out HF.out.2.2 HQX.out⟩, HB1⟩
      · rw [hqx] at HX
        have HX := Aside0.mk HX
        have HQX := Aside0.mk hqx
        clear hqx
        go_wp2_with fail
        refine HX.out.mono ?_
        rintro e w1 ⟨rfl, hb1⟩
        have HB1 := Aside0.mk (HB.out.trans (hb1.mono HB.out.size))
        clear HX hb1
        go_wp2
        go_ret
        exact ⟨by rw [idxOf_at (fun y : S49 => decide (y.f0 = P)) z49 l0 x HF.out.1 HL.out HF.out.2.2 HQX.out]; rfl, HB1.out⟩
    · have c4b0 : decide (x < (l0.length : Int)) = false := decide_eq_false hlt
      have HL := Aside0.mk hlt
      clear hlt
      go_wp2
      go_ret
      exact ⟨by rw [idxOf_none (fun y : S49 => decide (y.f0 = P)) l0 (by have := HF.out.2.2; rwa [List.take_of_length_le (by have := HL.out; omega)] at this)]; rfl, HB.out⟩
theorem idxOf_lt {α : Type} (q : α → Bool) (l : List α) : -1 ≤ idxOf q l ∧ idxOf q l < (l.length : Int) := by
  induction l with
  | nil => unfold idxOf; simp
  | cons x l ih =>
    have hc : idxOf q (x :: l) = if q x then 0 else (if idxOf q l < 0 then -1 else idxOf q l + 1) := rfl
    rw [hc, List.length_cons]
    split
    · omega
    · split <;> omega
def infoV (I : List S49) (P : Int) : S49 := if idxOf (fun x : S49 => decide (x.f0 = P)) I < 0 then z49 else rd_T49 I (idxOf (fun x : S49 => decide (x.f0 = P)) I)
set_option maxHeartbeats 4000000 in
set_option maxRecDepth 100000 in
theorem chooser_info (gc : Nat) (va vl : Value) (AI : Option Addr) (cI : Nat) (I : List S49) (A2 : Option Addr) (c2 : Nat) (l2 : List S41) (n P : Int) (w : World) (hS : w.heap[gc]? = some (.cells #[va, .slice AI I.length cI, .slice A2 l2.length c2, vl] 54 (0, 0))) (hI : Kd.C k49 w AI I.length I) (hr2 : Kd.C k41 w A2 l2.length l2) (h0 : 0 ≤ n) (h1 : n < (l2.length : Int)) (hP : (rd_T41 l2 n).f1 = P) :
    Calls Try.prog 28 #[.pointer (some ⟨gc, 0, none⟩), .int .i64 n] w fun e w' => e = .returned (.agg #[.int .i64 (infoV I P).f0, .int .i64 (infoV I P).f1, .int .u32 (infoV I P).f2]) ∧ Below w.heap.size w w' := by
  have hu49 := Try.underlying49
  have hcz : w.cell? ⟨gc, 1, none⟩ = some (.slice AI I.length cI) := (blk_cell hS 1).trans rfl
  subst hP
  generalize hP : (rd_T41 l2 n).f1 = P at *
  have HRI := Aside0.mk hI
  have HR2 := Aside0.mk hr2
  have H0 := Aside0.mk h0
  have H1 := Aside0.mk h1
  have HSC := Aside0.mk hS
  have HPP := Aside0.mk hP
  have HB := Aside0.mk (Below.refl w.heap.size w)
  clear hI hr2 h0 h1 hS hP
  go_enter Try.func28, Try.ntmps28
  go_upto_region 1 with (first | ((with_reducible refine gate_dst (N := 2) rfl ?_); refine box_event ?hg (N := 2) ?hd (cs := #[.pointer (some ⟨gc, 0, none⟩)]) (t := 52) ?hr ?_; (case hd => rfl); (case hg => rfl); (case hr => first | (go_simp; done) | (go_simp; rfl)); intro g2 hg w2 hbox hb; have HB2 := Aside0.mk (below_step HB.out hb); have BK2 := Aside0.mk hbox; have hcp := (show w2.cell? ⟨g2, 0, none⟩ = some (.pointer (some ⟨gc, 0, none⟩)) from (blk_cell hbox 0).trans rfl); replace hcz := (hb.cell (World.block_lt_of_cell? _ _ hcz)).trans hcz; clear hbox hb hg) | ((with_reducible refine gate_dst (N := 3) rfl ?_); refine box_event ?hg (N := 3) ?hd (cs := #[.int .i64 n]) (t := 3) ?hr ?_; (case hd => rfl); (case hg => rfl); (case hr => first | (go_simp; done) | (go_simp; rfl)); intro g3 hg w3 hbox hb; have HB3 := Aside0.mk (below_step HB2.out hb); have BK23 := Aside0.mk (show w3.heap[g2]? = _ from (hb.block _ (blk_lt BK2.out)).trans BK2.out); have BK3 := Aside0.mk hbox; replace hcz := (hb.cell (World.block_lt_of_cell? _ _ hcz)).trans hcz; replace hcp := (hb.cell (World.block_lt_of_cell? _ _ hcp)).trans hcp; clear hbox hb hg) | ((with_reducible refine gate_dst (N := 4) rfl ?_); refine box_event ?hg (N := 4) ?hd (cs := #[.int .i64 0, .int .i64 0, .int .u32 0]) (t := 49) ?hr ?_; (case hd => rfl); (case hg => rfl); (case hr => first | (go_simp; done) | (go_simp; rfl)); intro g4 hg w4 hbox hb; have HB4 := Aside0.mk (below_step HB3.out hb); have BK24 := Aside0.mk (show w4.heap[g2]? = _ from (hb.block _ (blk_lt BK23.out)).trans BK23.out); have BK34 := Aside0.mk (show w4.heap[g3]? = _ from (hb.block _ (blk_lt BK3.out)).trans BK3.out); have BK44 := Aside0.mk hbox; have GE4 := Aside0.mk (show w.heap.size ≤ g4 from by rw [hg]; exact below_size HB3.out); replace hcz := (hb.cell (World.block_lt_of_cell? _ _ hcz)).trans hcz; replace hcp := (hb.cell (World.block_lt_of_cell? _ _ hcp)).trans hcp; clear hbox hb hg))
  have BKC := Aside0.mk (show w4.heap[gc]? = some (.cells #[va, .slice AI I.length cI, .slice A2 l2.length c2, vl] 54 (0, 0)) from (HB4.out.block _ (blk_lt HSC.out)).trans HSC.out)
  obtain rfl := HPP.out
  clear BK2 BK3 BK23 HB2 HB3
  go_wp2_with fail
  refine (index_info g2 g3 _ AI cI I w4 (Kd.C_below HRI.out HB4.out) (fun x w' hb' => info_1 g2 g3 gc va (.slice AI I.length cI) vl A2 c2 l2 n x w' (by rw [hb'.block _ (blk_lt BK24.out)]; exact BK24.out) (by rw [hb'.block _ (blk_lt BK34.out)]; exact BK34.out) (by rw [hb'.block _ (blk_lt BKC.out)]; exact BKC.out) (Kd.C_below (Kd.C_below HR2.out HB4.out) hb') H0.out H1.out)).mono ?_
  rintro e w5 ⟨rfl, hb⟩
  have hz5 := hb.block g4 (blk_lt BK44.out)
  have BK45 := Aside0.mk (hz5.trans BK44.out)
  have HI5 := Aside0.mk (Kd.C_below (Kd.C_below HRI.out HB4.out) hb)
  have HB5 := Aside0.mk (below_step HB4.out hb)
  clear hz5
  replace hcz := (hb.cell (World.block_lt_of_cell? _ _ hcz)).trans hcz
  replace hcp := (hb.cell (World.block_lt_of_cell? _ _ hcp)).trans hcp
  clear hb
  have hza : w5.cell? ⟨g4, 0, none⟩ = some (.int .i64 0) := (blk_cell BK45.out 0).trans rfl
  have hzb : w5.cell? ⟨g4, 1, none⟩ = some (.int .i64 0) := (blk_cell BK45.out 1).trans rfl
  have hzc : w5.cell? ⟨g4, 2, none⟩ = some (.int .u32 0) := (blk_cell BK45.out 2).trans rfl
  have hfa := blk_frozen BK45.out 0
  have hfb := blk_frozen BK45.out 1
  have hfc := blk_frozen BK45.out 2
  have hixb := idxOf_lt (fun x : S49 => decide (x.f0 = (rd_T41 l2 n).f1)) I
  have hv : infoV I (rd_T41 l2 n).f1 = if idxOf (fun x : S49 => decide (x.f0 = (rd_T41 l2 n).f1)) I < 0 then z49 else rd_T49 I (idxOf (fun x : S49 => decide (x.f0 = (rd_T41 l2 n).f1)) I) := rfl
  generalize idxOf (fun x : S49 => decide (x.f0 = (rd_T41 l2 n).f1)) I = ix at *
  by_cases hix : ix < 0
  · have c6b0 : decide (ix < 0) = true := decide_eq_true hix
    have HV := Aside0.mk (hv.trans (if_pos hix))
    clear hixb hix hv HRI HR2 H0 H1 HSC HPP HB BK24 BK34 BK44 BKC HI5 HB4
    go_wp2
    refine bodyPost_ret (results_cell_row rfl _ _ g4 49 #[.int .i64 z49.f0, .int .i64 z49.f1, .int .u32 z49.f2] (0, 0) _ rfl (by refine blk_put (cs := #[.int .i64 z49.f0, .int .i64 z49.f1, .int .u32 0]) ?_ 2 _ rfl; refine blk_put (cs := #[.int .i64 z49.f0, .int .i64 0, .int .u32 0]) ?_ 1 _ rfl; refine blk_put (cs := #[.int .i64 0, .int .i64 0, .int .u32 0]) ?_ 0 _ rfl; exact BK45.out) Try.underlying49 rfl (by kernel_rfl)) rfl ?_
    exact ⟨by rw [HV.out], by repeat (first | (with_reducible first | exact HB5.out | apply below_alloc | apply pw_below_drewN | apply below_drew1 | refine below_set ?_ GE4.out) | exact HB5.out)⟩
  · have c6b0 : decide (ix < 0) = false := decide_eq_false hix
    replace hv := hv.trans (if_neg hix)
    obtain ⟨ad, e, h0, h1, h2⟩ := at_T49 HI5.out ix (by omega) hixb.2
    cases e
    have HV := Aside0.mk hv
    generalize rd_T49 I ix = V at *
    have p1 := eq_true (show 0 ≤ ix by omega)
    have q1 := eq_true hixb.2
    clear hixb hix hv HRI HR2 H0 H1 HSC HPP HB BK24 BK34 BK44 BKC HI5 HB4
    go_wp2
    refine bodyPost_ret (results_cell_row rfl _ _ g4 49 #[.int .i64 V.f0, .int .i64 V.f1, .int .u32 V.f2] (0, 0) _ rfl (by refine blk_put (cs := #[.int .i64 V.f0, .int .i64 V.f1, .int .u32 0]) ?_ 2 _ rfl; refine blk_put (cs := #[.int .i64 V.f0, .int .i64 0, .int .u32 0]) ?_ 1 _ rfl; refine blk_put (cs := #[.int .i64 0, .int .i64 0, .int .u32 0]) ?_ 0 _ rfl; exact BK45.out) Try.underlying49 rfl (by kernel_rfl)) rfl ?_
    exact ⟨by rw [HV.out], by repeat (first | (with_reducible first | exact HB5.out | apply below_alloc | apply pw_below_drewN | apply below_drew1 | refine below_set ?_ GE4.out) | exact HB5.out)⟩
theorem infoFld1 (a b c : Value) (w : World) : Sem.run Try.prog (Instr.field 49 (.agg #[a, b, c]) 1) w = .ok b w := by
  have hu := Try.underlying49
  simp [Instr.field, underlying, hu]
  rfl
theorem infoFld2 (a b c : Value) (w : World) : Sem.run Try.prog (Instr.field 49 (.agg #[a, b, c]) 2) w = .ok c w := by
  have hu := Try.underlying49
  simp [Instr.field, underlying, hu]
  rfl
attribute [local go_sem] infoFld1 infoFld2
set_option maxHeartbeats 4000000 in
set_option maxRecDepth 100000 in
theorem float_7 (gp gc : Nat) (va vl : Value) (AI : Option Addr) (cI : Nat) (I : List S49) (A2 : Option Addr) (c2 : Nat) (l2 : List S41) (L : List Int) (w : World) (hp : w.heap[gp]? = some (.cells #[.pointer (some ⟨gc, 0, none⟩)] 52 (0, 0))) (hS : w.heap[gc]? = some (.cells #[va, .slice AI I.length cI, .slice A2 l2.length c2, vl] 54 (0, 0))) (hI : Kd.C k49 w AI I.length I) (hr2 : Kd.C k41 w A2 l2.length l2) (hL : ∀ n ∈ L, 0 ≤ n ∧ n < (l2.length : Int)) (hv : ∀ n ∈ L, (infoV I (rd_T41 l2 n).f1).f2.natAbs ≤ 9007199254740992) :
    Floats 29 #[] #[.pointer (some ⟨gp, 0, none⟩)] (fun n => (infoV I (rd_T41 l2 n).f1).f2) L w := by
  intro n hn w' hb
  obtain ⟨h0, h1⟩ := hL n hn
  have hcl : w'.cell? ⟨gp, 0, none⟩ = some (.pointer (some ⟨gc, 0, none⟩)) := (blk_cell (by rw [hb.block _ (blk_lt hp)]; exact hp) 0).trans rfl
  have HA := Aside0.mk (chooser_info gc va vl AI cI I A2 c2 l2 n _ w' (by rw [hb.block _ (blk_lt hS)]; exact hS) (Kd.C_below hI hb) (Kd.C_below hr2 hb) h0 h1 rfl)
  have HN := Aside0.mk (Go.Proofs.Ytediicgkcgfghaa.Flo.FV.nearest _ (hv n hn))
  show Calls Try.prog 29 #[.int .i64 n, .pointer (some ⟨gp, 0, none⟩)] w' (fun e w'' => (∃ x, e = .returned (.float .f64 x) ∧ Go.Proofs.Ytediicgkcgfghaa.Flo.FV x (infoV I (rd_T41 l2 n).f1).f2) ∧ Below w'.heap.size w' w'')
  clear hp hS hI hr2 hL hv hb hn h0 h1
  generalize (infoV I (rd_T41 l2 n).f1) = V at *
  go_enter Try.func29, Try.ntmps29
  go_wp2_with fail
  refine HA.out.mono ?_
  rintro e w1 ⟨rfl, hb⟩
  have HB1 := Aside0.mk hb
  clear hb HA
  go_wp2
  go_ret
  exact ⟨⟨_, rfl, HN.out⟩, HB1.out⟩
set_option maxHeartbeats 4000000 in
set_option maxRecDepth 100000 in
theorem will_6 (gp ga gc : Nat) (a : Int) (va vl : Value) (AI : Option Addr) (cI : Nat) (I : List S49) (A2 : Option Addr) (c2 : Nat) (l2 : List S41) (L : List Int) (w : World) (hp : w.heap[gp]? = some (.cells #[.pointer (some ⟨gc, 0, none⟩)] 52 (0, 0))) (ha : w.heap[ga]? = some (.cells #[.int .i64 a] 3 (0, 0))) (hS : w.heap[gc]? = some (.cells #[va, .slice AI I.length cI, .slice A2 l2.length c2, vl] 54 (0, 0))) (hI : Kd.C k49 w AI I.length I) (hr2 : Kd.C k41 w A2 l2.length l2) (hL : ∀ n ∈ L, 0 ≤ n ∧ n < (l2.length : Int)) :
    Wills 27 #[] #[.pointer (some ⟨gp, 0, none⟩), .pointer (some ⟨ga, 0, none⟩)] (fun n => (infoV I (rd_T41 l2 n).f1).f1 != a) L w := by
  intro n hn w' hb
  obtain ⟨h0, h1⟩ := hL n hn
  have hcf : w'.cell? ⟨gp, 0, none⟩ = some (.pointer (some ⟨gc, 0, none⟩)) := (blk_cell (by rw [hb.block _ (blk_lt hp)]; exact hp) 0).trans rfl
  have hcl : w'.cell? ⟨ga, 0, none⟩ = some (.int .i64 a) := (blk_cell (by rw [hb.block _ (blk_lt ha)]; exact ha) 0).trans rfl
  have HA := Aside0.mk (show ∀ w'', Below w'.heap.size w' w'' → Calls Try.prog 28 #[.pointer (some ⟨gc, 0, none⟩), .int .i64 n] w'' fun e w3 => e = .returned (.agg #[.int .i64 (infoV I (rd_T41 l2 n).f1).f0, .int .i64 (infoV I (rd_T41 l2 n).f1).f1, .int .u32 (infoV I (rd_T41 l2 n).f1).f2]) ∧ Below w''.heap.size w'' w3 from fun w'' hb2 => have hb3 := hb.trans (hb2.mono hb.size); chooser_info gc va vl AI cI I A2 c2 l2 n _ w'' (by rw [hb3.block _ (blk_lt hS)]; exact hS) (Kd.C_below hI hb3) (Kd.C_below hr2 hb3) h0 h1 rfl)
  have HB := Aside0.mk (Below.refl w'.heap.size w')
  show Calls Try.prog 27 #[.int .i64 n, .pointer (some ⟨gp, 0, none⟩), .pointer (some ⟨ga, 0, none⟩)] w' (fun e w'' => e = .returned (.bool ((infoV I (rd_T41 l2 n).f1).f1 != a)) ∧ Below w'.heap.size w' w'')
  clear hp ha hS hI hr2 hL hb hn h0 h1
  generalize (infoV I (rd_T41 l2 n).f1) = V at *
  go_enter Try.func27, Try.ntmps27
  go_upto_region 1 with (fail)
  go_region_held3 (fun w_ => w_.cell? ⟨gp, 0, none⟩ = some (.pointer (some ⟨gc, 0, none⟩)) ∧ w_.cell? ⟨ga, 0, none⟩ = some (.int .i64 a)) (first | exact ⟨hcf, hcl⟩ | exact ⟨hcf1, hcl1⟩) (first | (refine goes_ Try.func28 (by kernel_rfl) rfl #[.pointer (some ⟨gc, 0, none⟩), .int .i64 n] (by rfl) rfl rfl (by (try simp only [List.map_toArray, List.map_cons, List.map_nil]); first | done | rfl) ?_; refine (HA.out _ ?g1).mono ?_; (case g1 => exact (by repeat (first | (with_reducible first | exact HB.out | apply below_alloc | apply pw_below_drewN | apply below_drew1) | exact HB.out))); rintro e w2 ⟨rfl, hb2⟩; have HB2 := Aside0.mk (below_step (by repeat (first | (with_reducible first | exact HB.out | apply below_alloc | apply pw_below_drewN | apply below_drew1) | exact HB.out)) hb2); have hcf1 := (HB2.out.cell (World.block_lt_of_cell? _ _ hcf)).trans hcf; have hcl1 := (HB2.out.cell (World.block_lt_of_cell? _ _ hcl)).trans hcl; clear hb2; refine ⟨_, rfl, ?_⟩))
  go_wp2
  go_ret
  exact ⟨by first | rfl | (simp; done) | (simp [*]; done), HB2.out⟩
def firstV (p : List S47) : Int × Bool :=
  match p with
  | [] => (0, false)
  | s :: _ => if s.f0 = true then (0, false) else match s.f1 with | [] => (0, false) | a :: _ => (a, true)
theorem first_eq (p : List S47) : path_First.f 1 p = some (firstV p) := by
  unfold path_First.f firstV
  cases p with
  | nil => simp [path_First.j0]
  | cons s t =>
    have hr : rd_T47 (s :: t) 0 = s := rfl
    rw [hr, if_neg (by simp only [List.length_cons]; omega), if_pos (by simp only [List.length_cons]; omega)]
    obtain ⟨b, l⟩ := s
    cases b with
    | true => simp [path_First.j0]
    | false =>
      cases l with
      | nil => simp [path_First.j0]
      | cons a l =>
        have h2 : (((a :: l).length : Int) == 0) = false := by simp only [List.length_cons, beq_eq_false_iff_ne, ne_eq]; omega
        simp only [h2, path_First.j0, hr, Bool.false_eq_true, if_false]
        rw [if_pos (by simp only [List.length_cons]; omega), if_pos (by simp only [List.length_cons]; omega)]
        rfl
def beatsB (f : Int) (m n : S41) : Bool := (firstV m.f2.f1).2 && (decide ((firstV m.f2.f1).1 = f) && decide (max m.f2.f3 0 < max n.f2.f3 0))
set_option maxHeartbeats 4000000 in
set_option maxRecDepth 100000 in
theorem beaten_1 (gp gf gn gc : Nat) (va vi vl : Value) (A2 : Option Addr) (c2 : Nat) (l2 : List S41) (f n m : Int) (w : World) (hp : w.heap[gp]? = some (.cells #[.pointer (some ⟨gc, 0, none⟩)] 52 (0, 0))) (hf : w.heap[gf]? = some (.cells #[.int .i64 f] 3 (0, 0))) (hn : w.heap[gn]? = some (.cells #[.int .i64 n] 3 (0, 0))) (hS : w.heap[gc]? = some (.cells #[va, vi, .slice A2 l2.length c2, vl] 54 (0, 0))) (hr2 : Kd.C k41 w A2 l2.length l2) (h0 : 0 ≤ n) (h1 : n < (l2.length : Int)) (h2 : 0 ≤ m) (h3 : m < (l2.length : Int)) :
    Calls Try.prog 38 #[.int .i64 m, .pointer (some ⟨gp, 0, none⟩), .pointer (some ⟨gf, 0, none⟩), .pointer (some ⟨gn, 0, none⟩)] w fun e w' => e = .returned (.bool (beatsB f (rd_T41 l2 m) (rd_T41 l2 n))) ∧ Below w.heap.size w w' := by
  have hA : ∀ k, 0 ≤ k → k < (l2.length : Int) → ∀ w', Below w.heap.size w w' → ∃ P4 c4 P8 c8 P9 c9, (rd_T41 l2 k).f2.f1.length ≤ c4 ∧ Kd.C k47 w' P4 (rd_T41 l2 k).f2.f1.length (rd_T41 l2 k).f2.f1 ∧
      Calls Try.prog 23 #[.pointer (some ⟨gc, 0, none⟩), .int .i64 k] w' fun e w'' => e = .returned (.agg #[.int .i64 (rd_T41 l2 k).f2.f0, .slice P4 (rd_T41 l2 k).f2.f1.length c4, .int .u32 (rd_T41 l2 k).f2.f2, .int .i64 (rd_T41 l2 k).f2.f3, .int .i64 (rd_T41 l2 k).f2.f4, .slice P8 (rd_T41 l2 k).f2.f5.length c8, .slice P9 (rd_T41 l2 k).f2.f6.length c9]) ∧ Below w'.heap.size w' w'' :=
    fun k k0 k1 w' hb => chooser_attrs gc va vi vl A2 c2 l2 k w' (by rw [hb.block _ (blk_lt hS)]; exact hS) (Kd.C_below hr2 hb) k0 k1
  obtain ⟨P4, c4, P8, c8, P9, c9, hc4, hr4, hM⟩ := hA m h2 h3 w (Below.refl _ _)
  have HM := Aside0.mk hM
  have hA' : ∀ k, 0 ≤ k → k < (l2.length : Int) → ∀ w', Below w.heap.size w w' → Calls Try.prog 23 #[.pointer (some ⟨gc, 0, none⟩), .int .i64 k] w' fun e w'' => (∃ P4 c4 P8 c8 P9 c9, e = .returned (.agg #[.int .i64 (rd_T41 l2 k).f2.f0, .slice P4 (rd_T41 l2 k).f2.f1.length c4, .int .u32 (rd_T41 l2 k).f2.f2, .int .i64 (rd_T41 l2 k).f2.f3, .int .i64 (rd_T41 l2 k).f2.f4, .slice P8 (rd_T41 l2 k).f2.f5.length c8, .slice P9 (rd_T41 l2 k).f2.f6.length c9])) ∧ Below w'.heap.size w' w'' := fun k k0 k1 w' hb => by
    obtain ⟨P4, c4, P8, c8, P9, c9, _, _, h⟩ := hA k k0 k1 w' hb
    exact h.mono (fun e w'' he => ⟨⟨P4, c4, P8, c8, P9, c9, he.1⟩, he.2⟩)
  have HA2 := Aside0.mk (hA' m h2 h3)
  have HA3 := Aside0.mk (hA' n h0 h1)
  have HR4 := Aside0.mk hr4
  have HC4 := Aside0.mk hc4
  have hcp : w.cell? ⟨gp, 0, none⟩ = some (.pointer (some ⟨gc, 0, none⟩)) := (blk_cell hp 0).trans rfl
  have hcf : w.cell? ⟨gf, 0, none⟩ = some (.int .i64 f) := (blk_cell hf 0).trans rfl
  have hcn : w.cell? ⟨gn, 0, none⟩ = some (.int .i64 n) := (blk_cell hn 0).trans rfl
  have HF := Aside0.mk (first_eq (rd_T41 l2 m).f2.f1)
  have HB := Aside0.mk (Below.refl w.heap.size w)
  have HE := Aside0.mk (show beatsB f (rd_T41 l2 m) (rd_T41 l2 n) = ((firstV (rd_T41 l2 m).f2.f1).2 && (decide ((firstV (rd_T41 l2 m).f2.f1).1 = f) && decide (max (rd_T41 l2 m).f2.f3 0 < max (rd_T41 l2 n).f2.f3 0))) from rfl)
  rw [HE.out]
  clear hp hf hn hS hr2 h0 h1 h2 h3 hA hA' hM hr4 hc4 HE
  generalize rd_T41 l2 m = M at *
  generalize rd_T41 l2 n = N at *
  generalize firstV M.f2.f1 = fv at *
  obtain ⟨o, y⟩ := fv
  go_enter Try.func38, Try.ntmps38
  go_wp2_with fail
  refine HM.out.mono ?_
  rintro e w1 ⟨rfl, hb⟩
  have HB1 := Aside0.mk hb
  replace hcp := (hb.cell (World.block_lt_of_cell? _ _ hcp)).trans hcp
  replace hcf := (hb.cell (World.block_lt_of_cell? _ _ hcf)).trans hcf
  replace hcn := (hb.cell (World.block_lt_of_cell? _ _ hcn)).trans hcn
  clear hb HM
  go_wp2_with fail
  refine (path_First.calls 1 P4 c4 M.f2.f1 o y w1 (Kd.C_below HR4.out HB1.out) HC4.out HF.out).mono ?_
  rintro e w2 ⟨rfl, ⟨nd, rfl⟩⟩
  have HB2 := Aside0.mk (pw_below_drewN HB1.out nd)
  replace hcp : (w1.drewN nd).cell? ⟨gp, 0, none⟩ = some (.pointer (some ⟨gc, 0, none⟩)) := hcp
  replace hcf : (w1.drewN nd).cell? ⟨gf, 0, none⟩ = some (.int .i64 f) := hcf
  replace hcn : (w1.drewN nd).cell? ⟨gn, 0, none⟩ = some (.int .i64 n) := hcn
  clear HB1 HR4 HC4
  generalize w1.drewN nd = w2 at *
  replace HA2 := Aside0.mk (fun w' (h : Below w2.heap.size w2 w') => HA2.out w' (HB2.out.trans (h.mono HB2.out.size)))
  replace HA3 := Aside0.mk (fun w' (h : Below w2.heap.size w2 w') => HA3.out w' (HB2.out.trans (h.mono HB2.out.size)))
  go_upto_region 2 with (fail)
  have HBr := Aside0.mk (Below.refl w2.heap.size w2)
  cases y with
  | false =>
    go_quiet (fail)
    go_wp2
    go_ret
    exact ⟨by first | rfl | (simp; done) | (simp [*]; done), pw_below_drewN HB2.out _⟩
  | true =>
    by_cases ho : o = f
    · have c3b0 : decide (o = f) = true := decide_eq_true ho
      go_region_held3 (fun w_ => w_.cell? ⟨gp, 0, none⟩ = some (.pointer (some ⟨gc, 0, none⟩)) ∧ w_.cell? ⟨gf, 0, none⟩ = some (.int .i64 f) ∧ w_.cell? ⟨gn, 0, none⟩ = some (.int .i64 n)) (first | exact ⟨hcp, hcf, hcn⟩ | exact ⟨hcp1, hcf1, hcn1⟩ | exact ⟨hcp2, hcf2, hcn2⟩) (first | (refine goes_ Try.func23 (by kernel_rfl) rfl #[.pointer (some ⟨gc, 0, none⟩), .int .i64 m] (by rfl) rfl rfl (by (try simp only [List.map_toArray, List.map_cons, List.map_nil]); first | done | rfl) ?_; refine (HA2.out _ ?g1).mono ?_; (case g1 => exact (by repeat (first | (with_reducible first | exact HBr.out | apply below_alloc | apply pw_below_drewN | apply below_drew1) | exact HBr.out))); rintro e w3 ⟨⟨Q4, d4, Q8, d8, Q9, d9, rfl⟩, hb2⟩; have HB3 := Aside0.mk (below_step (by repeat (first | (with_reducible first | exact HBr.out | apply below_alloc | apply pw_below_drewN | apply below_drew1) | exact HBr.out)) hb2); have hcp1 := (HB3.out.cell (World.block_lt_of_cell? _ _ hcp)).trans hcp; have hcf1 := (HB3.out.cell (World.block_lt_of_cell? _ _ hcf)).trans hcf; have hcn1 := (HB3.out.cell (World.block_lt_of_cell? _ _ hcn)).trans hcn; clear hb2; refine ⟨_, rfl, ?_⟩) | (refine goes_ Try.func23 (by kernel_rfl) rfl #[.pointer (some ⟨gc, 0, none⟩), .int .i64 n] (by rfl) rfl rfl (by (try simp only [List.map_toArray, List.map_cons, List.map_nil]); first | done | rfl) ?_; refine (HA3.out _ ?g1).mono ?_; (case g1 => exact (by repeat (first | (with_reducible first | exact HB3.out | apply below_alloc | apply pw_below_drewN | apply below_drew1) | exact HB3.out))); rintro e w4 ⟨⟨Q4, d4, Q8, d8, Q9, d9, rfl⟩, hb2⟩; have HB4 := Aside0.mk (below_step (by repeat (first | (with_reducible first | exact HB3.out | apply below_alloc | apply pw_below_drewN | apply below_drew1) | exact HB3.out)) hb2); have hcp2 := (HB4.out.cell (World.block_lt_of_cell? _ _ hcp)).trans hcp; have hcf2 := (HB4.out.cell (World.block_lt_of_cell? _ _ hcf)).trans hcf; have hcn2 := (HB4.out.cell (World.block_lt_of_cell? _ _ hcn)).trans hcn; clear hb2; refine ⟨_, rfl, ?_⟩))
      all_goals go_wp2
      all_goals (
        go_ret
        refine ⟨congrArg (fun b => Ending.returned (Value.bool b)) ?_, HB2.out.trans (HB4.out.mono HB2.out.size)⟩
        first
          | exact (decide_eq_false (by omega)).symm
          | exact (decide_eq_true (by omega)).symm
          | exact decide_eq_decide.mpr (by omega)
          | (simp; omega))
    · have c3b0 : decide (o = f) = false := decide_eq_false ho
      go_quiet (fail)
      go_wp2
      go_ret
      exact ⟨by first | rfl | (simp; done) | (simp [*]; done), pw_below_drewN HB2.out _⟩
theorem rd_mem (l : List Int) (x : Int) (h0 : 0 ≤ x) (h1 : x < (l.length : Int)) : rd l x ∈ l := by
  unfold rd
  rw [List.getD_eq_getElem?_getD, List.getElem?_eq_getElem (show x.toNat < l.length by omega)]
  exact List.getElem_mem _
set_option maxHeartbeats 4000000 in
set_option maxRecDepth 100000 in
theorem index_beaten (gp gf gn : Nat) (p : Int → Bool) (A0 : Option Addr) (c0 : Nat) (l0 : List Int) (w : World) (hr0 : Kd.C (Kd.int .i64) w A0 l0.length l0) (hX : ∀ x ∈ l0, ∀ (w' : World), Below w.heap.size w w' → Calls Try.prog 38 #[.int .i64 x, .pointer (some ⟨gp, 0, none⟩), .pointer (some ⟨gf, 0, none⟩), .pointer (some ⟨gn, 0, none⟩)] w' fun e w'' => e = .returned (.bool (p x)) ∧ Below w'.heap.size w' w'') :
    Calls Try.prog 52 #[.slice A0 l0.length c0, .func (.func 38) #[] #[.pointer (some ⟨gp, 0, none⟩), .pointer (some ⟨gf, 0, none⟩), .pointer (some ⟨gn, 0, none⟩)]] w fun e w' => e = .returned (.int .i64 (idxOf p l0)) ∧ Below w.heap.size w w' := by
  have HM := Aside0.mk (Kd.C_max hr0)
  have HR := Aside0.mk hr0
  have HX0 := Aside0.mk hX
  clear hr0 hX
  go_enter Try.func52, Try.ntmps52
  go_wp2
  go_loopg [8] (l0.length + 1) (fun kq v8 wr => ∃ x : Int, v8 = .int .i64 x ∧ Aside0 (0 ≤ x ∧ x + kq = l0.length + 1 ∧ (∀ y ∈ l0.take x.toNat, p y = false)) ∧ Aside0 (Below w.heap.size w wr))
  case atStart => exact ⟨0, rfl, ⟨by simp⟩, ⟨Below.refl _ _⟩⟩
  case round =>
    obtain ⟨x, rfl, HF, HB⟩ := hrel
    by_cases hlt : x < (l0.length : Int)
    · have q1 := hlt
      have p1 := HF.out.1
      have c4b0 : decide (x < (l0.length : Int)) = true := decide_eq_true hlt
      have HL := Aside0.mk hlt
      clear hlt
      obtain ⟨ad, e, h0⟩ := Kd.at_int (Kd.C_below HR.out HB.out) x p1 q1
      cases e
      have HX := HX0.out (rd l0 x) (rd_mem l0 x p1 q1) wr HB.out
      have hg : l0.getD x.toNat 0 = rd l0 x := rfl
      replace p1 := eq_true p1
      replace q1 := eq_true q1
      rcases hqx : p (rd l0 x) with _ | _
      · rw [hqx] at HX
        have HX := Aside0.mk HX
        have HQX := Aside0.mk hqx
        clear hqx hg
        cases gk with
        | zero => exact absurd HF.out.2.1 (by have := HL.out; omega)
        | succ k1 =>
          go_wp2_with fail
          refine HX.out.mono ?_
          rintro e w1 ⟨rfl, hb1⟩
          have HB1 := Aside0.mk (HB.out.trans (hb1.mono HB.out.size))
          clear HX hb1
          go_wp2
          go_roundg k1
          case measure => omega
          case rel =>
            refine ⟨x + 1, (by have hw : wrap64 (x + 1) = x + 1 := (by have := HM.out; have := HL.out; have := HF.out.1; unfold wrap64; omega); first | rfl | (simp [hw]; done)), ⟨by have := HF.out.1; omega, by have := HF.out.2.1; omega, take_next p 0 _ _ HF.out.1 HL.out HF.out.2.2 HQX.out⟩, HB1⟩
      · rw [hqx] at HX
        have HX := Aside0.mk HX
        have HQX := Aside0.mk hqx
        clear hqx hg
        go_wp2_with fail
        refine HX.out.mono ?_
        rintro e w1 ⟨rfl, hb1⟩
        have HB1 := Aside0.mk (HB.out.trans (hb1.mono HB.out.size))
        clear HX hb1
        go_wp2
        go_ret
        exact ⟨by rw [idxOf_at p 0 l0 x HF.out.1 HL.out HF.out.2.2 HQX.out]; rfl, HB1.out⟩
    · have c4b0 : decide (x < (l0.length : Int)) = false := decide_eq_false hlt
      have HL := Aside0.mk hlt
      clear hlt
      go_wp2
      go_ret
      exact ⟨by rw [idxOf_none p l0 (by have := HF.out.2.2; rwa [List.take_of_length_le (by have := HL.out; omega)] at this)]; rfl, HB.out⟩
set_option maxHeartbeats 4000000 in
set_option maxRecDepth 100000 in
theorem contains_beaten (gp gf gn : Nat) (p : Int → Bool) (A0 : Option Addr) (c0 : Nat) (l0 : List Int) (w : World) (hr0 : Kd.C (Kd.int .i64) w A0 l0.length l0) (hX : ∀ x ∈ l0, ∀ (w' : World), Below w.heap.size w w' → Calls Try.prog 38 #[.int .i64 x, .pointer (some ⟨gp, 0, none⟩), .pointer (some ⟨gf, 0, none⟩), .pointer (some ⟨gn, 0, none⟩)] w' fun e w'' => e = .returned (.bool (p x)) ∧ Below w'.heap.size w' w'') :
    Calls Try.prog 37 #[.slice A0 l0.length c0, .func (.func 38) #[] #[.pointer (some ⟨gp, 0, none⟩), .pointer (some ⟨gf, 0, none⟩), .pointer (some ⟨gn, 0, none⟩)]] w fun e w' => e = .returned (.bool (l0.any p)) ∧ Below w.heap.size w w' := by
  have HI := Aside0.mk (index_beaten gp gf gn p A0 c0 l0 w hr0 hX)
  have HE := Aside0.mk (idxOf_any p l0)
  generalize idxOf p l0 = ix at HI HE
  clear hr0 hX
  go_enter Try.func37, Try.ntmps37
  go_wp2_with fail
  refine HI.out.mono ?_
  rintro e w1 ⟨rfl, hb1⟩
  have HB := Aside0.mk hb1
  clear hb1 HI
  go_wp2
  go_ret
  exact ⟨by rw [← HE.out]; rfl, HB.out⟩
def beatenB (l2 : List S41) (L : List Int) (n : Int) : Bool := (firstV (rd_T41 l2 n).f2.f1).2 && L.any (fun m => beatsB (firstV (rd_T41 l2 n).f2.f1).1 (rd_T41 l2 m) (rd_T41 l2 n))
set_option maxHeartbeats 4000000 in
set_option maxRecDepth 100000 in
theorem chooser_beaten (gc : Nat) (va vi : Value) (A2 : Option Addr) (c2 : Nat) (l2 : List S41) (A : Option Addr) (c : Nat) (L : List Int) (n : Int) (w : World) (hS : Chose gc va vi (.slice A2 l2.length c2) A c L w) (hr2 : Kd.C k41 w A2 l2.length l2) (h0 : 0 ≤ n) (h1 : n < (l2.length : Int)) (hL : ∀ n ∈ L, 0 ≤ n ∧ n < (l2.length : Int)) :
    Calls Try.prog 26 #[.pointer (some ⟨gc, 0, none⟩), .int .i64 n] w fun e w' => e = .returned (.bool (beatenB l2 L n)) ∧ Below w.heap.size w w' := by
  have hcz : w.cell? ⟨gc, 3, none⟩ = some (.slice A L.length c) := (blk_cell hS.cells 3).trans rfl
  have HSC := Aside0.mk hS
  have HR2 := Aside0.mk hr2
  have H0 := Aside0.mk (And.intro h0 h1)
  have HL := Aside0.mk hL
  have HB := Aside0.mk (Below.refl w.heap.size w)
  have HE := Aside0.mk (show beatenB l2 L n = ((firstV (rd_T41 l2 n).f2.f1).2 && L.any (fun m => beatsB (firstV (rd_T41 l2 n).f2.f1).1 (rd_T41 l2 m) (rd_T41 l2 n))) from rfl)
  have HF := Aside0.mk (first_eq (rd_T41 l2 n).f2.f1)
  rw [HE.out]
  clear hS hr2 h0 h1 hL HE
  go_enter Try.func26, Try.ntmps26
  go_upto_region 1 with (first | ((with_reducible refine gate_dst (N := 2) rfl ?_); refine box_event ?hg (N := 2) ?hd (cs := #[.pointer (some ⟨gc, 0, none⟩)]) (t := 52) ?hr ?_; (case hd => rfl); (case hg => rfl); (case hr => first | (go_simp; done) | (go_simp; rfl)); intro g2 hg w2 hbox hb; have HB2 := Aside0.mk (below_step HB.out hb); have BK2 := Aside0.mk hbox; have hcp := (show w2.cell? ⟨g2, 0, none⟩ = some (.pointer (some ⟨gc, 0, none⟩)) from (blk_cell hbox 0).trans rfl); replace hcz := (hb.cell (World.block_lt_of_cell? _ _ hcz)).trans hcz; clear hbox hb hg) | ((with_reducible refine gate_dst (N := 3) rfl ?_); refine box_event ?hg (N := 3) ?hd (cs := #[.int .i64 n]) (t := 3) ?hr ?_; (case hd => rfl); (case hg => rfl); (case hr => first | (go_simp; done) | (go_simp; rfl)); intro g3 hg w3 hbox hb; have HB3 := Aside0.mk (below_step HB2.out hb); have BK23 := Aside0.mk (show w3.heap[g2]? = _ from (hb.block _ (blk_lt BK2.out)).trans BK2.out); have BK3 := Aside0.mk hbox; have hcn := (show w3.cell? ⟨g3, 0, none⟩ = some (.int .i64 n) from (blk_cell hbox 0).trans rfl); replace hcz := (hb.cell (World.block_lt_of_cell? _ _ hcz)).trans hcz; replace hcp := (hb.cell (World.block_lt_of_cell? _ _ hcp)).trans hcp; clear hbox hb hg))
  obtain ⟨P4, c4, P8, c8, P9, c9, hc4, hr4, hM⟩ := chooser_attrs gc va vi (.slice A L.length c) A2 c2 l2 n w3 (by rw [HB3.out.block _ (blk_lt HSC.out.cells)]; exact HSC.out.cells) (Kd.C_below HR2.out HB3.out) H0.out.1 H0.out.2
  have HM := Aside0.mk hM
  have HR4 := Aside0.mk hr4
  have HC4 := Aside0.mk hc4
  clear hM hr4 hc4 BK2 HB2
  go_wp2_with fail
  refine HM.out.mono ?_
  rintro e w4 ⟨rfl, hb⟩
  have HB4 := Aside0.mk (below_step HB3.out hb)
  have HR44 := Aside0.mk (Kd.C_below HR4.out hb)
  have BK24 := Aside0.mk (show w4.heap[g2]? = _ from (hb.block _ (blk_lt BK23.out)).trans BK23.out)
  have BK34 := Aside0.mk (show w4.heap[g3]? = _ from (hb.block _ (blk_lt BK3.out)).trans BK3.out)
  replace hcz := (hb.cell (World.block_lt_of_cell? _ _ hcz)).trans hcz; replace hcp := (hb.cell (World.block_lt_of_cell? _ _ hcp)).trans hcp; replace hcn := (hb.cell (World.block_lt_of_cell? _ _ hcn)).trans hcn
  clear hb HM HR4 HB3 BK3 BK23
  have BKC4 := Aside0.mk (show w4.heap[gc]? = some (.cells #[va, vi, .slice A2 l2.length c2, .slice A L.length c] 54 (0, 0)) from (HB4.out.block _ (blk_lt HSC.out.cells)).trans HSC.out.cells)
  go_wp2_with fail
  generalize hfv : firstV (rd_T41 l2 n).f2.f1 = fv at *
  have HFV := Aside0.mk hfv
  clear hfv
  obtain ⟨o, y⟩ := fv
  refine (path_First.calls 1 P4 c4 _ o y w4 HR44.out HC4.out HF.out).mono ?_
  rintro e w5 ⟨rfl, ⟨nd, rfl⟩⟩
  replace HB4 := Aside0.mk (pw_below_drewN HB4.out nd)
  replace BK24 := Aside0.mk (blk_drewN BK24.out nd)
  replace BK34 := Aside0.mk (blk_drewN BK34.out nd)
  replace BKC4 := Aside0.mk (blk_drewN BKC4.out nd)
  clear hcz hcp hcn HR44 HC4
  generalize w4.drewN nd = w5 at *
  go_upto_region 2 with (first | ((with_reducible refine gate_dst (N := 5) rfl ?_); refine box_event ?hg (N := 5) ?hd (cs := #[.int .i64 0]) (t := 3) ?hr ?_; (case hd => rfl); (case hg => rfl); (case hr => first | (go_simp; done) | (go_simp; rfl)); intro g5 hg w6 hbox hb; have HB5 := Aside0.mk (below_step HB4.out hb); have BK25 := Aside0.mk (show w6.heap[g2]? = _ from (hb.block _ (blk_lt BK24.out)).trans BK24.out); have BK35 := Aside0.mk (show w6.heap[g3]? = _ from (hb.block _ (blk_lt BK34.out)).trans BK34.out); have BKC5 := Aside0.mk (show w6.heap[gc]? = _ from (hb.block _ (blk_lt BKC4.out)).trans BKC4.out); have BK55 := Aside0.mk hbox; have GE5 := Aside0.mk (show w.heap.size ≤ g5 ∧ g2 < g5 ∧ g3 < g5 ∧ gc < g5 from by rw [hg]; exact ⟨below_size HB4.out, blk_lt BK24.out, blk_lt BK34.out, blk_lt BKC4.out⟩); have hcz5 := (show w6.cell? ⟨g5, 0, none⟩ = some (.int .i64 0) from (blk_cell hbox 0).trans rfl); have hfz5 := blk_frozen hbox 0; clear hbox hb hg))
  have HB6 := Aside0.mk (below_set (v := .int .i64 o) (j := 0) HB5.out GE5.out.1)
  have BK56 := Aside0.mk (blk_put (cs := #[.int .i64 0]) BK55.out 0 (.int .i64 o) rfl)
  have BK26 := Aside0.mk (show (w6.setCell ⟨g5, 0, none⟩ (.int .i64 o)).heap[g2]? = some (.cells #[.pointer (some ⟨gc, 0, none⟩)] 52 (0, 0)) from (Below.heap_setCell w6 ⟨g5, 0, none⟩ _ g2 (by have := GE5.out; show g2 ≠ g5; omega)).trans BK25.out)
  have BK36 := Aside0.mk (show (w6.setCell ⟨g5, 0, none⟩ (.int .i64 o)).heap[g3]? = some (.cells #[.int .i64 n] 3 (0, 0)) from (Below.heap_setCell w6 ⟨g5, 0, none⟩ _ g3 (by have := GE5.out; show g3 ≠ g5; omega)).trans BK35.out)
  have BKC6 := Aside0.mk (show (w6.setCell ⟨g5, 0, none⟩ (.int .i64 o)).heap[gc]? = some (.cells #[va, vi, .slice A2 l2.length c2, .slice A L.length c] 54 (0, 0)) from (Below.heap_setCell w6 ⟨g5, 0, none⟩ _ gc (by have := GE5.out; show gc ≠ g5; omega)).trans BKC5.out)
  clear hcz5 hfz5 HB5 BK55 BK25 BK35 BKC5 HB4 BK24 BK34 BKC4
  generalize w6.setCell ⟨g5, 0, none⟩ (.int .i64 o) = w7 at *
  have hcp : w7.cell? ⟨g2, 0, none⟩ = some (.pointer (some ⟨gc, 0, none⟩)) := (blk_cell BK26.out 0).trans rfl
  have hcz : w7.cell? ⟨gc, 3, none⟩ = some (.slice A L.length c) := (blk_cell BKC6.out 3).trans rfl
  cases y with
  | false =>
    go_wp2
    go_ret
    exact ⟨by rw [HFV.out]; rfl, HB6.out⟩
  | true =>
    go_wp2_with fail
    refine (contains_beaten g2 g5 g3 (fun m => beatsB o (rd_T41 l2 m) (rd_T41 l2 n)) A c L w7 (Kd.C_below HSC.out.row HB6.out) (fun m hm w' hb' => beaten_1 g2 g5 g3 gc va vi (.slice A L.length c) A2 c2 l2 o n m w' (by rw [hb'.block _ (blk_lt BK26.out)]; exact BK26.out) (by rw [hb'.block _ (blk_lt BK56.out)]; exact BK56.out) (by rw [hb'.block _ (blk_lt BK36.out)]; exact BK36.out) (by rw [hb'.block _ (blk_lt BKC6.out)]; exact BKC6.out) (Kd.C_below (Kd.C_below HR2.out HB6.out) hb') H0.out.1 H0.out.2 (HL.out m hm).1 (HL.out m hm).2)).mono ?_
    rintro e w8 ⟨rfl, hb⟩
    have HB8 := Aside0.mk (below_step HB6.out hb)
    clear hb hcp hcz
    go_wp2
    go_ret
    exact ⟨by rw [HFV.out]; rfl, HB8.out⟩
set_option maxHeartbeats 4000000 in
set_option maxRecDepth 100000 in
theorem will_5 (gp gc : Nat) (va vi : Value) (A2 : Option Addr) (c2 : Nat) (l2 : List S41) (A : Option Addr) (c : Nat) (L : List Int) (w : World) (hp : w.heap[gp]? = some (.cells #[.pointer (some ⟨gc, 0, none⟩)] 52 (0, 0))) (hS : Chose gc va vi (.slice A2 l2.length c2) A c L w) (hr2 : Kd.C k41 w A2 l2.length l2) (hL : ∀ n ∈ L, 0 ≤ n ∧ n < (l2.length : Int)) :
    Wills 25 #[] #[.pointer (some ⟨gp, 0, none⟩)] (fun n => !beatenB l2 L n) L w := by
  intro n hn w' hb
  have hcl : w'.cell? ⟨gp, 0, none⟩ = some (.pointer (some ⟨gc, 0, none⟩)) := (blk_cell (by rw [hb.block _ (blk_lt hp)]; exact hp) 0).trans rfl
  have HA := Aside0.mk (chooser_beaten gc va vi A2 c2 l2 A c L n w' (hS.below hb) (Kd.C_below hr2 hb) (hL n hn).1 (hL n hn).2 hL)
  show Calls Try.prog 25 #[.int .i64 n, .pointer (some ⟨gp, 0, none⟩)] w' (fun e w'' => e = .returned (.bool (!beatenB l2 L n)) ∧ Below w'.heap.size w' w'')
  clear hp hS hr2 hL hb hn
  generalize beatenB l2 L n = b at *
  go_enter Try.func25, Try.ntmps25
  go_wp2_with fail
  refine HA.out.mono ?_
  rintro e w1 ⟨rfl, hb⟩
  have HB1 := Aside0.mk hb
  clear hb HA
  go_wp2
  go_ret
  exact ⟨by first | rfl | (simp; done), HB1.out⟩
/-- Where a choice stands: the chooser, and the cells of what its closures captured. -/
structure Held (w0 : World) (gc gp gl ga : Nat) (a : Int) (AI : Option Addr) (cI : Nat) (I : List S49) (A2 : Option Addr) (c2 : Nat) (l2 : List S41) (L : List Int) (w : World) : Prop where
  chose : ∃ A c, Chose gc (.int .i64 a) (.slice AI I.length cI) (.slice A2 l2.length c2) A c L w
  cp : w.heap[gp]? = some (.cells #[.pointer (some ⟨gc, 0, none⟩)] 52 (0, 0))
  cl : w.heap[gl]? = some (.cells #[.slice A2 l2.length c2] 23 (0, 0))
  ca : w.heap[ga]? = some (.cells #[.int .i64 a] 3 (0, 0))
  rI : Kd.C k49 w AI I.length I
  r2 : Kd.C k41 w A2 l2.length l2
  oldI : Kd.C k49 w0 AI I.length I
  old2 : Kd.C k41 w0 A2 l2.length l2
  low : w0.heap.size ≤ gc
  ne : gp ≠ gc ∧ gl ≠ gc ∧ ga ≠ gc
  below : Below w0.heap.size w0 w
  len : L.length < 4000
  rng : ∀ n ∈ L, 0 ≤ n ∧ n < (l2.length : Int)
theorem keepL_sub (p : Int → Bool) (L : List Int) : ∀ n ∈ keepL p L, n ∈ L := by
  unfold keepL
  intro n hn
  split at hn
  · exact (List.mem_filter.1 hn).1
  · exact hn
theorem keepL_len (p : Int → Bool) (L : List Int) : (keepL p L).length ≤ L.length := by
  unfold keepL
  split
  · exact List.length_filter_le _ _
  · exact Nat.le_refl _
theorem Held.next {w0 : World} {gc gp gl ga : Nat} {a : Int} {AI : Option Addr} {cI : Nat} {I : List S49} {A2 : Option Addr} {c2 : Nat} {l2 : List S41} {L : List Int} {w w' : World} (h : Held w0 gc gp gl ga a AI cI I A2 c2 l2 L w) (p : Int → Bool) (hk : KeepBut w w' gc none) (hkb : Below gc w w') (hc : ∃ A c, Chose gc (.int .i64 a) (.slice AI I.length cI) (.slice A2 l2.length c2) A c (keepL p L) w') : Held w0 gc gp gl ga a AI cI I A2 c2 l2 (keepL p L) w' :=
  ⟨hc, by rw [hk.2 gp (blk_lt h.cp) h.ne.1 (by simp)]; exact h.cp, by rw [hk.2 gl (blk_lt h.cl) h.ne.2.1 (by simp)]; exact h.cl, by rw [hk.2 ga (blk_lt h.ca) h.ne.2.2 (by simp)]; exact h.ca, Kd.C_below h.oldI (h.below.trans (hkb.mono h.low)), Kd.C_below h.old2 (h.below.trans (hkb.mono h.low)), h.oldI, h.old2, h.low, h.ne, h.below.trans (hkb.mono h.low), Nat.lt_of_le_of_lt (keepL_len p L) h.len, fun n hn => h.rng n (keepL_sub p L n hn)⟩
theorem step_1 (w0 : World) (gc gp gl ga : Nat) (a : Int) (AI : Option Addr) (cI : Nat) (I : List S49) (A2 : Option Addr) (c2 : Nat) (l2 : List S41) (L : List Int) (w : World) (h : Held w0 gc gp gl ga a AI cI I A2 c2 l2 L w)  :
    Calls Try.prog 16 #[.pointer (some ⟨gc, 0, none⟩), .func (.func 17) #[] #[.pointer (some ⟨gl, 0, none⟩)]] w fun e w' => e = .returned (.tuple #[]) ∧ ∃ L', L' = keepL (fun n => decide ((rd_T41 l2 n).f1 < 0)) L ∧ Held w0 gc gp gl ga a AI cI I A2 c2 l2 L' w' := by
  obtain ⟨A, c, hS⟩ := h.chose
  refine (chooser_keep gc _ _ _ A c L 17 #[] #[.pointer (some ⟨gl, 0, none⟩)] ((fun n => decide ((rd_T41 l2 n).f1 < 0))) w h.len hS (fun args w => enters_ Try.func17 rfl rfl args w) (will_1 gl A2 c2 l2 L w h.cl h.r2 h.rng)).mono ?_
  rintro e w' ⟨rfl, hk, hkb, hc⟩
  exact ⟨rfl, _, rfl, h.next _ hk hkb hc⟩
theorem step_2 (w0 : World) (gc gp gl ga : Nat) (a : Int) (AI : Option Addr) (cI : Nat) (I : List S49) (A2 : Option Addr) (c2 : Nat) (l2 : List S41) (L : List Int) (w : World) (h : Held w0 gc gp gl ga a AI cI I A2 c2 l2 L w)  :
    Calls Try.prog 16 #[.pointer (some ⟨gc, 0, none⟩), .func (.func 18) #[] #[.pointer (some ⟨gl, 0, none⟩)]] w fun e w' => e = .returned (.tuple #[]) ∧ ∃ L', L' = keepL (fun n => (rd_T41 l2 n).f3 != 2) L ∧ Held w0 gc gp gl ga a AI cI I A2 c2 l2 L' w' := by
  obtain ⟨A, c, hS⟩ := h.chose
  refine (chooser_keep gc _ _ _ A c L 18 #[] #[.pointer (some ⟨gl, 0, none⟩)] ((fun n => (rd_T41 l2 n).f3 != 2)) w h.len hS (fun args w => enters_ Try.func18 rfl rfl args w) (will_2 gl A2 c2 l2 L w h.cl h.r2 h.rng)).mono ?_
  rintro e w' ⟨rfl, hk, hkb, hc⟩
  exact ⟨rfl, _, rfl, h.next _ hk hkb hc⟩
theorem step_p (w0 : World) (gc gp gl ga : Nat) (a : Int) (AI : Option Addr) (cI : Nat) (I : List S49) (A2 : Option Addr) (c2 : Nat) (l2 : List S41) (L : List Int) (w : World) (h : Held w0 gc gp gl ga a AI cI I A2 c2 l2 L w) (hv : ∀ n ∈ L, (rd_T41 l2 n).f2.f4.natAbs ≤ 9007199254740992) :
    Calls Try.prog 19 #[.pointer (some ⟨gc, 0, none⟩), .func (.func 20) #[.pointer (some ⟨gc, 0, none⟩)] #[]] w fun e w' => e = .returned (.tuple #[]) ∧ ∃ L', L' = keepL (fun n => decide (some ((fun n => prefV (rd_T41 l2 n).f2.f4) n) = lowOf (fun n => prefV (rd_T41 l2 n).f2.f4) L)) L ∧ Held w0 gc gp gl ga a AI cI I A2 c2 l2 L' w' := by
  obtain ⟨A, c, hS⟩ := h.chose
  refine (chooser_least gc _ _ _ A c L 20 #[.pointer (some ⟨gc, 0, none⟩)] #[] (fun n => prefV (rd_T41 l2 n).f2.f4) w h.len hS (fun args w => enters_ Try.func20 rfl rfl args w) (fun n hn w' hb => by
    have hS' := hS.below hb
    exact chooser_pref gc _ _ _ A2 c2 l2 n w' hS'.cells (Kd.C_below h.r2 hb) (h.rng n hn).1 (h.rng n hn).2 (hv n hn))).mono ?_
  rintro e w' ⟨rfl, hk, hkb, hc⟩
  exact ⟨rfl, _, rfl, h.next _ hk hkb hc⟩
theorem step_3 (w0 : World) (gc gp gl ga : Nat) (a : Int) (AI : Option Addr) (cI : Nat) (I : List S49) (A2 : Option Addr) (c2 : Nat) (l2 : List S41) (L : List Int) (w : World) (h : Held w0 gc gp gl ga a AI cI I A2 c2 l2 L w) (K : Int → Nat) (lv : Int → Int) (hq : ∀ n ∈ L, path_Length.f (K n) (rd_T41 l2 n).f2.f1 = some (lv n)) (hv : ∀ n ∈ L, (lv n).natAbs ≤ 9007199254740992) :
    Calls Try.prog 19 #[.pointer (some ⟨gc, 0, none⟩), .func (.func 21) #[] #[.pointer (some ⟨gp, 0, none⟩)]] w fun e w' => e = .returned (.tuple #[]) ∧ ∃ L', L' = keepL (fun n => decide (some ((lv) n) = lowOf (lv) L)) L ∧ Held w0 gc gp gl ga a AI cI I A2 c2 l2 L' w' := by
  obtain ⟨A, c, hS⟩ := h.chose
  refine (chooser_least gc _ _ _ A c L 21 #[] #[.pointer (some ⟨gp, 0, none⟩)] (lv) w h.len hS (fun args w => enters_ Try.func21 rfl rfl args w) (float_3 gp gc _ _ _ A2 c2 l2 L K lv w h.cp hS.cells h.r2 h.rng hq hv)).mono ?_
  rintro e w' ⟨rfl, hk, hkb, hc⟩
  exact ⟨rfl, _, rfl, h.next _ hk hkb hc⟩
theorem step_4 (w0 : World) (gc gp gl ga : Nat) (a : Int) (AI : Option Addr) (cI : Nat) (I : List S49) (A2 : Option Addr) (c2 : Nat) (l2 : List S41) (L : List Int) (w : World) (h : Held w0 gc gp gl ga a AI cI I A2 c2 l2 L w) (hv : ∀ n ∈ L, (rd_T41 l2 n).f2.f0.natAbs ≤ 9007199254740992) :
    Calls Try.prog 19 #[.pointer (some ⟨gc, 0, none⟩), .func (.func 24) #[] #[.pointer (some ⟨gp, 0, none⟩)]] w fun e w' => e = .returned (.tuple #[]) ∧ ∃ L', L' = keepL (fun n => decide (some ((fun n => (rd_T41 l2 n).f2.f0) n) = lowOf (fun n => (rd_T41 l2 n).f2.f0) L)) L ∧ Held w0 gc gp gl ga a AI cI I A2 c2 l2 L' w' := by
  obtain ⟨A, c, hS⟩ := h.chose
  refine (chooser_least gc _ _ _ A c L 24 #[] #[.pointer (some ⟨gp, 0, none⟩)] (fun n => (rd_T41 l2 n).f2.f0) w h.len hS (fun args w => enters_ Try.func24 rfl rfl args w) (float_4 gp gc _ _ _ A2 c2 l2 L w h.cp hS.cells h.r2 h.rng hv)).mono ?_
  rintro e w' ⟨rfl, hk, hkb, hc⟩
  exact ⟨rfl, _, rfl, h.next _ hk hkb hc⟩
theorem step_5 (w0 : World) (gc gp gl ga : Nat) (a : Int) (AI : Option Addr) (cI : Nat) (I : List S49) (A2 : Option Addr) (c2 : Nat) (l2 : List S41) (L : List Int) (w : World) (h : Held w0 gc gp gl ga a AI cI I A2 c2 l2 L w)  :
    Calls Try.prog 16 #[.pointer (some ⟨gc, 0, none⟩), .func (.func 25) #[] #[.pointer (some ⟨gp, 0, none⟩)]] w fun e w' => e = .returned (.tuple #[]) ∧ ∃ L', L' = keepL (fun n => !beatenB l2 L n) L ∧ Held w0 gc gp gl ga a AI cI I A2 c2 l2 L' w' := by
  obtain ⟨A, c, hS⟩ := h.chose
  refine (chooser_keep gc _ _ _ A c L 25 #[] #[.pointer (some ⟨gp, 0, none⟩)] ((fun n => !beatenB l2 L n)) w h.len hS (fun args w => enters_ Try.func25 rfl rfl args w) (will_5 gp gc _ _ A2 c2 l2 A c L w h.cp hS h.r2 h.rng)).mono ?_
  rintro e w' ⟨rfl, hk, hkb, hc⟩
  exact ⟨rfl, _, rfl, h.next _ hk hkb hc⟩
theorem step_6 (w0 : World) (gc gp gl ga : Nat) (a : Int) (AI : Option Addr) (cI : Nat) (I : List S49) (A2 : Option Addr) (c2 : Nat) (l2 : List S41) (L : List Int) (w : World) (h : Held w0 gc gp gl ga a AI cI I A2 c2 l2 L w)  :
    Calls Try.prog 16 #[.pointer (some ⟨gc, 0, none⟩), .func (.func 27) #[] #[.pointer (some ⟨gp, 0, none⟩), .pointer (some ⟨ga, 0, none⟩)]] w fun e w' => e = .returned (.tuple #[]) ∧ ∃ L', L' = keepL (fun n => (infoV I (rd_T41 l2 n).f1).f1 != a) L ∧ Held w0 gc gp gl ga a AI cI I A2 c2 l2 L' w' := by
  obtain ⟨A, c, hS⟩ := h.chose
  refine (chooser_keep gc _ _ _ A c L 27 #[] #[.pointer (some ⟨gp, 0, none⟩), .pointer (some ⟨ga, 0, none⟩)] ((fun n => (infoV I (rd_T41 l2 n).f1).f1 != a)) w h.len hS (fun args w => enters_ Try.func27 rfl rfl args w) (will_6 gp ga gc a _ _ AI cI I A2 c2 l2 L w h.cp h.ca hS.cells h.rI h.r2 h.rng)).mono ?_
  rintro e w' ⟨rfl, hk, hkb, hc⟩
  exact ⟨rfl, _, rfl, h.next _ hk hkb hc⟩
theorem step_7 (w0 : World) (gc gp gl ga : Nat) (a : Int) (AI : Option Addr) (cI : Nat) (I : List S49) (A2 : Option Addr) (c2 : Nat) (l2 : List S41) (L : List Int) (w : World) (h : Held w0 gc gp gl ga a AI cI I A2 c2 l2 L w) (hv : ∀ n ∈ L, (infoV I (rd_T41 l2 n).f1).f2.natAbs ≤ 9007199254740992) :
    Calls Try.prog 19 #[.pointer (some ⟨gc, 0, none⟩), .func (.func 29) #[] #[.pointer (some ⟨gp, 0, none⟩)]] w fun e w' => e = .returned (.tuple #[]) ∧ ∃ L', L' = keepL (fun n => decide (some ((fun n => (infoV I (rd_T41 l2 n).f1).f2) n) = lowOf (fun n => (infoV I (rd_T41 l2 n).f1).f2) L)) L ∧ Held w0 gc gp gl ga a AI cI I A2 c2 l2 L' w' := by
  obtain ⟨A, c, hS⟩ := h.chose
  refine (chooser_least gc _ _ _ A c L 29 #[] #[.pointer (some ⟨gp, 0, none⟩)] (fun n => (infoV I (rd_T41 l2 n).f1).f2) w h.len hS (fun args w => enters_ Try.func29 rfl rfl args w) (float_7 gp gc _ _ AI cI I A2 c2 l2 L w h.cp hS.cells h.rI h.r2 h.rng hv)).mono ?_
  rintro e w' ⟨rfl, hk, hkb, hc⟩
  exact ⟨rfl, _, rfl, h.next _ hk hkb hc⟩
theorem step_8 (w0 : World) (gc gp gl ga : Nat) (a : Int) (AI : Option Addr) (cI : Nat) (I : List S49) (A2 : Option Addr) (c2 : Nat) (l2 : List S41) (L : List Int) (w : World) (h : Held w0 gc gp gl ga a AI cI I A2 c2 l2 L w) (hv : ∀ n ∈ L, (rd_T41 l2 n).f1.natAbs ≤ 9007199254740992) :
    Calls Try.prog 19 #[.pointer (some ⟨gc, 0, none⟩), .func (.func 30) #[] #[.pointer (some ⟨gl, 0, none⟩)]] w fun e w' => e = .returned (.tuple #[]) ∧ ∃ L', L' = keepL (fun n => decide (some ((fun n => (rd_T41 l2 n).f1) n) = lowOf (fun n => (rd_T41 l2 n).f1) L)) L ∧ Held w0 gc gp gl ga a AI cI I A2 c2 l2 L' w' := by
  obtain ⟨A, c, hS⟩ := h.chose
  refine (chooser_least gc _ _ _ A c L 30 #[] #[.pointer (some ⟨gl, 0, none⟩)] (fun n => (rd_T41 l2 n).f1) w h.len hS (fun args w => enters_ Try.func30 rfl rfl args w) (float_8 gl A2 c2 l2 L w h.cl h.r2 h.rng hv)).mono ?_
  rintro e w' ⟨rfl, hk, hkb, hc⟩
  exact ⟨rfl, _, rfl, h.next _ hk hkb hc⟩
/-- While the list is gone through: what is left so far is the chooser's own. -/
structure Left (w0 : World) (gc gp gl ga : Nat) (a : Int) (AI : Option Addr) (cI : Nat) (I : List S49) (A2 : Option Addr) (c2 : Nat) (l2 : List S41) (M : List Int) (A : Option Addr) (c : Nat) (w : World) : Prop where
  cells : w.heap[gc]? = some (.cells #[.int .i64 a, .slice AI I.length cI, .slice A2 l2.length c2, .slice A M.length c] 54 (0, 0))
  own : Kd.R (Kd.int .i64) 3 w w0.heap.size (fun k => k ≠ gc ∧ k ≠ gp ∧ k ≠ gl ∧ k ≠ ga) (.slice A M.length c) M
  cp : w.heap[gp]? = some (.cells #[.pointer (some ⟨gc, 0, none⟩)] 52 (0, 0))
  cl : w.heap[gl]? = some (.cells #[.slice A2 l2.length c2] 23 (0, 0))
  ca : w.heap[ga]? = some (.cells #[.int .i64 a] 3 (0, 0))
  oldI : Kd.C k49 w0 AI I.length I
  old2 : Kd.C k41 w0 A2 l2.length l2
  low : w0.heap.size ≤ gc
  ne : gp ≠ gc ∧ gl ≠ gc ∧ ga ≠ gc
  below : Below w0.heap.size w0 w
section
variable {w0 : World} {gc gp gl ga : Nat} {a : Int} {AI : Option Addr} {cI : Nat} {I : List S49} {A2 : Option Addr} {c2 : Nat} {l2 : List S41} {M : List Int} {A : Option Addr} {c : Nat} {w w' : World}
theorem Left.step (h : Left w0 gc gp gl ga a AI cI I A2 c2 l2 M A c w) (hb : Below w.heap.size w w') : Left w0 gc gp gl ga a AI cI I A2 c2 l2 M A c w' :=
  ⟨by rw [hb.block _ (blk_lt h.cells)]; exact h.cells, Kd.R_below h.own hb, by rw [hb.block _ (blk_lt h.cp)]; exact h.cp, by rw [hb.block _ (blk_lt h.cl)]; exact h.cl, by rw [hb.block _ (blk_lt h.ca)]; exact h.ca, h.oldI, h.old2, h.low, h.ne, h.below.trans (hb.mono h.below.size)⟩
theorem Left.put (h : Left w0 gc gp gl ga a AI cI I A2 c2 l2 M A c w) {v1 : Value} {N : List Int} (hb : Below w0.heap.size w0 w') (hg : w.grownBy w' (Value.slice A M.length c).ownBlock) (ho : Kd.R (Kd.int .i64) 3 w' w0.heap.size (fun k => k ≠ gc ∧ k ≠ gp ∧ k ≠ gl ∧ k ≠ ga) v1 N) :
    ∃ A' c', v1 = .slice A' N.length c' ∧ Left w0 gc gp gl ga a AI cI I A2 c2 l2 N A' c' (w'.setCell ⟨gc, 3, none⟩ v1) := by
  obtain ⟨A', c', e⟩ := Kd.R_slice ho
  subst e
  refine ⟨A', c', rfl, ?_⟩
  have hf := h.own.1
  have same : ∀ k, k < w.heap.size → (k = gc ∨ k = gp ∨ k = gl ∨ k = ga) → w'.heap[k]? = w.heap[k]? := fun k hk hq => hg.block k hk (fun e => by
    have := hf k e.symm
    rcases hq with rfl | rfl | rfl | rfl
    · exact this.1 rfl
    · exact this.2.1 rfl
    · exact this.2.2.1 rfl
    · exact this.2.2.2 rfl)
  have far : ∀ k, k ≠ gc → (w'.setCell ⟨gc, 3, none⟩ (.slice A' N.length c')).heap[k]? = w'.heap[k]? := fun k hk => Below.heap_setCell w' ⟨gc, 3, none⟩ _ k hk
  exact ⟨blk_put (cs := #[.int .i64 a, .slice AI I.length cI, .slice A2 l2.length c2, .slice A M.length c]) ((same gc (blk_lt h.cells) (.inl rfl)).trans h.cells) 3 _ rfl,
    Kd.R_keep ho (KeepBut.set_ (KeepBut.refl _ _ _) 3 _) (fun k hk => hk.1),
    ((far gp h.ne.1).trans (same gp (blk_lt h.cp) (.inr (.inl rfl)))).trans h.cp,
    ((far gl h.ne.2.1).trans (same gl (blk_lt h.cl) (.inr (.inr (.inl rfl))))).trans h.cl,
    ((far ga h.ne.2.2).trans (same ga (blk_lt h.ca) (.inr (.inr (.inr rfl))))).trans h.ca,
    h.oldI, h.old2, h.low, h.ne, below_set hb h.low⟩
theorem Left.held (h : Left w0 gc gp gl ga a AI cI I A2 c2 l2 M A c w) (hl : M.length < 4000) (hr : ∀ n ∈ M, 0 ≤ n ∧ n < (l2.length : Int)) : Held w0 gc gp gl ga a AI cI I A2 c2 l2 M w :=
  ⟨⟨A, c, h.cells, (Kd.R_reads' h.own).2.2, (Kd.R_reads' h.own).2.1, fun ad ha _ => by subst ha; exact (h.own.1 ad.block rfl).1⟩, h.cp, h.cl, h.ca, Kd.C_below h.oldI h.below, Kd.C_below h.old2 h.below, h.oldI, h.old2, h.low, h.ne, h.below, hl, hr⟩
end
def idx (k : Nat) : List Int := (List.range k).map (fun (n : Nat) => (n : Int))
theorem idx_next (p : Int → Bool) (k : Nat) : (idx (k + 1)).filter p = (idx k).filter p ++ if p k = true then [(k : Int)] else [] := by
  unfold idx
  rw [List.range_succ, List.map_append, List.filter_append]
  congr 1
  rw [List.map_cons, List.map_nil, List.filter_cons]
  split <;> rfl
theorem idx_len (k : Nat) : (idx k).length = k := by simp [idx]
theorem idx_mem {k : Nat} {n : Int} (h : n ∈ idx k) : 0 ≤ n ∧ n < (k : Int) := by
  simp only [idx, List.mem_map, List.mem_range] at h
  obtain ⟨m, hm, rfl⟩ := h
  omega
def leastL (v : Int → Int) (L : List Int) : List Int := keepL (fun n => decide (some (v n) = lowOf v L)) L
theorem keepL_pos (p : Int → Bool) {L : List Int} (h : 0 < L.length) : 0 < (keepL p L).length := by
  unfold keepL
  split
  · assumption
  · exact h
def useB (a : Int) (r : S41) : Bool := !(r.f2.f1.any (segHas a))
def lenR (r : S41) : Int := (path_Length.f (r.f2.f1.length + 1) r.f2.f1).getD 0
def okR (I : List S49) (r : S41) : Prop := r.f1.natAbs ≤ 9007199254740992 ∧ r.f2.f4.natAbs ≤ 9007199254740992 ∧ r.f2.f0.natAbs ≤ 9007199254740992 ∧ path_Length.f (r.f2.f1.length + 1) r.f2.f1 = some (lenR r) ∧ (lenR r).natAbs ≤ 9007199254740992 ∧ (infoV I r.f1).f2.natAbs ≤ 9007199254740992
instance (I : List S49) (r : S41) : Decidable (okR I r) := by unfold okR; infer_instance
def leftL (a : Int) (l2 : List S41) : List Int := (idx l2.length).filter (fun n => useB a (rd_T41 l2 n))
def bestA (l2 : List S41) (L : List Int) : List Int := leastL (fun n => rd_T41 l2 n |>.f2.f0) (leastL (fun n => lenR (rd_T41 l2 n)) (leastL (fun n => prefV (rd_T41 l2 n).f2.f4) (keepL (fun n => (rd_T41 l2 n).f3 != 2) (keepL (fun n => decide ((rd_T41 l2 n).f1 < 0)) L))))
def bestB (a : Int) (I : List S49) (l2 : List S41) (L : List Int) : List Int := leastL (fun n => (rd_T41 l2 n).f1) (leastL (fun n => (infoV I (rd_T41 l2 n).f1).f2) (keepL (fun n => (infoV I (rd_T41 l2 n).f1).f1 != a) (keepL (fun n => !beatenB l2 L n) L)))
def decide_Best.f (a : Int) (I : List S49) (l2 : List S41) : Option (Int × Bool) :=
  if l2.length < 4000 ∧ ∀ r ∈ l2, okR I r then (if (leftL a l2).length = 0 then some (0, false) else some (rd (bestB a I l2 (bestA l2 (leftL a l2))) 0, true)) else none
theorem rdR_mem (l2 : List S41) (n : Int) (h0 : 0 ≤ n) (h1 : n < (l2.length : Int)) : rd_T41 l2 n ∈ l2 := by
  unfold rd_T41
  rw [List.getD_eq_getElem?_getD, List.getElem?_eq_getElem (show n.toNat < l2.length by omega)]
  exact List.getElem_mem _
set_option maxHeartbeats 8000000 in
set_option maxRecDepth 100000 in
theorem decide_Best.calls (a : Int) (AI : Option Addr) (cI : Nat) (I : List S49) (A2 : Option Addr) (c2 : Nat) (l2 : List S41) (r1 : Int) (r2 : Bool) (w : World) (hr1 : Kd.C k49 w AI I.length I) (hc1 : I.length ≤ cI) (hr2 : Kd.C k41 w A2 l2.length l2) (hc2 : l2.length ≤ c2) (h : decide_Best.f a I l2 = some (r1, r2)) :
    Calls Try.prog 10 #[.int .i64 a, .slice AI I.length cI, .slice A2 l2.length c2] w fun e w' => e = .returned (.tuple #[.int .i64 r1, .bool r2]) ∧ Below w.heap.size w w' := by
  unfold decide_Best.f at h
  split at h
  case isFalse => cases h
  case isTrue hc =>
  have HOK := Aside0.mk hc.2
  have HLN := Aside0.mk hc.1
  have HH0 := Aside0.mk h
  have HRI := Aside0.mk hr1
  have HR2 := Aside0.mk hr2
  have HB := Aside0.mk (Below.refl w.heap.size w)
  have hu41 := Try.underlying41
  have hu54 := Try.underlying54
  clear hc h hr1 hr2 hc1 hc2
  go_enter Try.func10, Try.ntmps10
  go_upto_region 2 with (first | ((with_reducible refine gate_dst (N := 3) rfl ?_); refine box_event ?hg (N := 3) ?hd (cs := #[.int .i64 a]) (t := 3) ?hr ?_; (case hd => rfl); (case hg => rfl); (case hr => first | (go_simp; done) | (go_simp; rfl)); intro g3 hg w1 hbox hb; have HB1 := Aside0.mk (below_step HB.out hb); have BA1 := Aside0.mk hbox; have hca := (show w1.cell? ⟨g3, 0, none⟩ = some (.int .i64 a) from (blk_cell hbox 0).trans rfl); clear hbox hb hg) | ((with_reducible refine gate_dst (N := 5) rfl ?_); refine box_event ?hg (N := 5) ?hd (cs := #[.slice A2 l2.length c2]) (t := 23) ?hr ?_; (case hd => rfl); (case hg => rfl); (case hr => first | (go_simp; done) | (go_simp; rfl)); intro g5 hg w2 hbox hb; have HB2 := Aside0.mk (below_step HB1.out hb); have BA2 := Aside0.mk (show w2.heap[g3]? = _ from (hb.block _ (blk_lt BA1.out)).trans BA1.out); have BL2 := Aside0.mk hbox; have hcl := (show w2.cell? ⟨g5, 0, none⟩ = some (.slice A2 l2.length c2) from (blk_cell hbox 0).trans rfl); replace hca := (hb.cell (World.block_lt_of_cell? _ _ hca)).trans hca; clear hbox hb hg) | ((with_reducible refine gate_dst (N := 15) rfl ?_); refine box_event ?hg (N := 15) ?hd (cs := #[.int .i64 a, .slice AI I.length cI, .slice A2 l2.length c2, .slice none 0 0]) (t := 54) ?hr ?_; (case hd => rfl); (case hg => rfl); (case hr => first | (go_simp; done) | (go_simp; rfl)); intro g15 hg w3 hbox hb; have HB3 := Aside0.mk (below_step HB2.out hb); have BA3 := Aside0.mk (show w3.heap[g3]? = _ from (hb.block _ (blk_lt BA2.out)).trans BA2.out); have BL3 := Aside0.mk (show w3.heap[g5]? = _ from (hb.block _ (blk_lt BL2.out)).trans BL2.out); have BC3 := Aside0.mk hbox; have GC := Aside0.mk (show w.heap.size ≤ g15 ∧ g3 < g15 ∧ g5 < g15 from by rw [hg]; exact ⟨below_size HB2.out, blk_lt BA2.out, blk_lt BL2.out⟩); replace hca := (hb.cell (World.block_lt_of_cell? _ _ hca)).trans hca; replace hcl := (hb.cell (World.block_lt_of_cell? _ _ hcl)).trans hcl; clear hbox hb hg) | ((with_reducible refine gate_dst (N := 8) rfl ?_); refine box_event ?hg (N := 8) ?hd (cs := #[.pointer none]) (t := 52) ?hr ?_; (case hd => rfl); (case hg => rfl); (case hr => first | (go_simp; done) | (go_simp; rfl)); intro g8 hg w4 hbox hb; have HB4 := Aside0.mk (below_step HB3.out hb); have BA4 := Aside0.mk (show w4.heap[g3]? = _ from (hb.block _ (blk_lt BA3.out)).trans BA3.out); have BL4 := Aside0.mk (show w4.heap[g5]? = _ from (hb.block _ (blk_lt BL3.out)).trans BL3.out); have BC4 := Aside0.mk (show w4.heap[g15]? = _ from (hb.block _ (blk_lt BC3.out)).trans BC3.out); have BP4 := Aside0.mk hbox; have GP := Aside0.mk (show g15 < g8 from by rw [hg]; exact blk_lt BC3.out); have hcp0 := (show w4.cell? ⟨g8, 0, none⟩ = some (.pointer none) from (blk_cell hbox 0).trans rfl); have hfp0 := blk_frozen hbox 0; replace hca := (hb.cell (World.block_lt_of_cell? _ _ hca)).trans hca; replace hcl := (hb.cell (World.block_lt_of_cell? _ _ hcl)).trans hcl; clear hbox hb hg))
  have HL0 := Aside0.mk (show Left w g15 g8 g5 g3 a AI cI I A2 c2 l2 [] none 0 (w4.setCell ⟨g8, 0, none⟩ (.pointer (some ⟨g15, 0, none⟩))) from
    ⟨(Below.heap_setCell w4 ⟨g8, 0, none⟩ _ g15 (by have := GP.out; show g15 ≠ g8; omega)).trans BC4.out, Kd.R_nil _ _ _ _ _, blk_put (cs := #[.pointer none]) BP4.out 0 _ rfl, (Below.heap_setCell w4 ⟨g8, 0, none⟩ _ g5 (by have := GP.out; have := GC.out; show g5 ≠ g8; omega)).trans BL4.out, (Below.heap_setCell w4 ⟨g8, 0, none⟩ _ g3 (by have := GP.out; have := GC.out; show g3 ≠ g8; omega)).trans BA4.out, HRI.out, HR2.out, GC.out.1, by have := GP.out; have := GC.out; omega, below_set HB4.out (by have := GP.out; have := GC.out; omega)⟩)
  clear hca hcl hcp0 hfp0 HB1 HB2 HB3 HB4 BA1 BA2 BA3 BA4 BL2 BL3 BL4 BC3 BC4 BP4 GC GP
  generalize w4.setCell ⟨g8, 0, none⟩ (.pointer (some ⟨g15, 0, none⟩)) = w5 at HL0 ⊢
  rename_i gx1
  have hcl : w5.cell? ⟨g5, 0, none⟩ = some (.slice A2 l2.length c2) := (blk_cell HL0.out.cl 0).trans rfl
  go_wp2
  clear hcl
  go_loopg [18] (l2.length + 1) (fun kq v18 w' => ∃ (x : Nat) (M : List Int) (Am : Option Addr) (cm : Nat), v18 = .int .i64 (x : Int) ∧ Aside0 (x + kq = l2.length + 1 ∧ M = (idx x).filter (fun n => useB a (rd_T41 l2 n)) ∧ x ≤ l2.length) ∧ Aside0 (Left w g15 g8 g5 g3 a AI cI I A2 c2 l2 M Am cm w'))
  case atStart => exact ⟨0, [], none, 0, rfl, ⟨by omega, rfl, by omega⟩, HL0⟩
  case round =>
    clear HL0
    obtain ⟨x, M, Am, cm, rfl, HM, HL⟩ := hrel
    by_cases hlt : x < l2.length
    · have q0 : 0 ≤ ((x : Nat) : Int) := by omega
      have q1 : ((x : Nat) : Int) < (l2.length : Int) := by omega
      have c4b0 : decide (((x : Nat) : Int) < (l2.length : Int)) = true := decide_eq_true q1
      have c4b1 : decide (x < l2.length) = true := decide_eq_true hlt
      obtain ⟨ad, A4, c4, A8, c8, A9, c9, e, hx0, hx1, hx2, hx3, hx4, hx5, hx6, hx7, hx8, hx9, hx10, l4, g4, l8, g8_, l9, g9⟩ := at_T41 (Kd.C_below HR2.out HL.out.below) ((x : Nat) : Int) q0 q1
      cases e
      have HR4 := Aside0.mk g4
      have HR8 := Aside0.mk g8_
      have HR9 := Aside0.mk g9
      have HC4 := Aside0.mk (And.intro l4 (And.intro l8 l9))
      have HQ := Aside0.mk hlt
      have HN := Aside0.mk (show (idx (x + 1)).filter (fun n => useB a (rd_T41 l2 n)) = (idx x).filter (fun n => useB a (rd_T41 l2 n)) ++ if useB a (rd_T41 l2 ((x : Nat) : Int)) = true then [((x : Nat) : Int)] else [] from idx_next (fun n => useB a (rd_T41 l2 n)) x)
      clear l4 l8 l9 g4 g8_ g9 hlt
      generalize rd_T41 l2 ((x : Nat) : Int) = R at hx0 hx1 hx2 hx3 hx4 hx5 hx6 hx7 hx8 hx9 hx10 HR4 HR8 HR9 HC4 HN
      simp only [Int.toNat_natCast] at hx0 hx1 hx2 hx3 hx4 hx5 hx6 hx7 hx8 hx9 hx10
      replace q0 := eq_true q0
      replace q1 := eq_true q1
      go_upto_region 5 with (first | ((with_reducible refine gate_dst (N := 10) rfl ?_); refine box_event ?hg (N := 10) ?hd (cs := #[.int .u32 0, .int .i64 0, .int .i64 0, .int .i64 0, .slice none 0 0, .int .u32 0, .int .i64 0, .int .i64 0, .slice none 0 0, .slice none 0 0, .int .i64 0]) (t := 41) ?hr ?_; (case hd => rfl); (case hg => rfl); (case hr => first | (go_simp; done) | (go_simp; rfl)); intro g10 hg w5 hbox hb; have HB5 := Aside0.mk hb; have GE10 := Aside0.mk (show wr.heap.size ≤ g10 from by rw [hg]; exact Nat.le_refl _); have BK10 := Aside0.mk hbox; have hz0 := (show w5.cell? ⟨g10, 0, none⟩ = some (.int .u32 0) from (blk_cell hbox 0).trans rfl); have hf0 := blk_frozen hbox 0; have hz1 := (show w5.cell? ⟨g10, 1, none⟩ = some (.int .i64 0) from (blk_cell hbox 1).trans rfl); have hf1 := blk_frozen hbox 1; have hz2 := (show w5.cell? ⟨g10, 2, none⟩ = some (.int .i64 0) from (blk_cell hbox 2).trans rfl); have hf2 := blk_frozen hbox 2; have hz3 := (show w5.cell? ⟨g10, 3, none⟩ = some (.int .i64 0) from (blk_cell hbox 3).trans rfl); have hf3 := blk_frozen hbox 3; have hz4 := (show w5.cell? ⟨g10, 4, none⟩ = some (.slice none 0 0) from (blk_cell hbox 4).trans rfl); have hf4 := blk_frozen hbox 4; have hz5 := (show w5.cell? ⟨g10, 5, none⟩ = some (.int .u32 0) from (blk_cell hbox 5).trans rfl); have hf5 := blk_frozen hbox 5; have hz6 := (show w5.cell? ⟨g10, 6, none⟩ = some (.int .i64 0) from (blk_cell hbox 6).trans rfl); have hf6 := blk_frozen hbox 6; have hz7 := (show w5.cell? ⟨g10, 7, none⟩ = some (.int .i64 0) from (blk_cell hbox 7).trans rfl); have hf7 := blk_frozen hbox 7; have hz8 := (show w5.cell? ⟨g10, 8, none⟩ = some (.slice none 0 0) from (blk_cell hbox 8).trans rfl); have hf8 := blk_frozen hbox 8; have hz9 := (show w5.cell? ⟨g10, 9, none⟩ = some (.slice none 0 0) from (blk_cell hbox 9).trans rfl); have hf9 := blk_frozen hbox 9; have hz10 := (show w5.cell? ⟨g10, 10, none⟩ = some (.int .i64 0) from (blk_cell hbox 10).trans rfl); have hf10 := blk_frozen hbox 10; replace hx0 := (hb.cell (World.block_lt_of_cell? _ _ hx0)).trans hx0; replace hx1 := (hb.cell (World.block_lt_of_cell? _ _ hx1)).trans hx1; replace hx2 := (hb.cell (World.block_lt_of_cell? _ _ hx2)).trans hx2; replace hx3 := (hb.cell (World.block_lt_of_cell? _ _ hx3)).trans hx3; replace hx4 := (hb.cell (World.block_lt_of_cell? _ _ hx4)).trans hx4; replace hx5 := (hb.cell (World.block_lt_of_cell? _ _ hx5)).trans hx5; replace hx6 := (hb.cell (World.block_lt_of_cell? _ _ hx6)).trans hx6; replace hx7 := (hb.cell (World.block_lt_of_cell? _ _ hx7)).trans hx7; replace hx8 := (hb.cell (World.block_lt_of_cell? _ _ hx8)).trans hx8; replace hx9 := (hb.cell (World.block_lt_of_cell? _ _ hx9)).trans hx9; replace hx10 := (hb.cell (World.block_lt_of_cell? _ _ hx10)).trans hx10; clear hbox hb hg))
      have BKR := Aside0.mk (show (((((((((((w5.setCell ⟨g10, 0, none⟩ (.int .u32 R.f0.f0)).setCell ⟨g10, 1, none⟩ (.int .i64 R.f0.f1)).setCell ⟨g10, 2, none⟩ (.int .i64 R.f1)).setCell ⟨g10, 3, none⟩ (.int .i64 R.f2.f0)).setCell ⟨g10, 4, none⟩ (.slice A4 R.f2.f1.length c4)).setCell ⟨g10, 5, none⟩ (.int .u32 R.f2.f2)).setCell ⟨g10, 6, none⟩ (.int .i64 R.f2.f3)).setCell ⟨g10, 7, none⟩ (.int .i64 R.f2.f4)).setCell ⟨g10, 8, none⟩ (.slice A8 R.f2.f5.length c8)).setCell ⟨g10, 9, none⟩ (.slice A9 R.f2.f6.length c9)).setCell ⟨g10, 10, none⟩ (.int .i64 R.f3)).heap[g10]? = some (.cells #[.int .u32 R.f0.f0, .int .i64 R.f0.f1, .int .i64 R.f1, .int .i64 R.f2.f0, .slice A4 R.f2.f1.length c4, .int .u32 R.f2.f2, .int .i64 R.f2.f3, .int .i64 R.f2.f4, .slice A8 R.f2.f5.length c8, .slice A9 R.f2.f6.length c9, .int .i64 R.f3] 41 (0, 0)) from by
        refine blk_put (cs := #[.int .u32 R.f0.f0, .int .i64 R.f0.f1, .int .i64 R.f1, .int .i64 R.f2.f0, .slice A4 R.f2.f1.length c4, .int .u32 R.f2.f2, .int .i64 R.f2.f3, .int .i64 R.f2.f4, .slice A8 R.f2.f5.length c8, .slice A9 R.f2.f6.length c9, .int .i64 0]) ?_ 10 _ rfl
        refine blk_put (cs := #[.int .u32 R.f0.f0, .int .i64 R.f0.f1, .int .i64 R.f1, .int .i64 R.f2.f0, .slice A4 R.f2.f1.length c4, .int .u32 R.f2.f2, .int .i64 R.f2.f3, .int .i64 R.f2.f4, .slice A8 R.f2.f5.length c8, .slice none 0 0, .int .i64 0]) ?_ 9 _ rfl
        refine blk_put (cs := #[.int .u32 R.f0.f0, .int .i64 R.f0.f1, .int .i64 R.f1, .int .i64 R.f2.f0, .slice A4 R.f2.f1.length c4, .int .u32 R.f2.f2, .int .i64 R.f2.f3, .int .i64 R.f2.f4, .slice none 0 0, .slice none 0 0, .int .i64 0]) ?_ 8 _ rfl
        refine blk_put (cs := #[.int .u32 R.f0.f0, .int .i64 R.f0.f1, .int .i64 R.f1, .int .i64 R.f2.f0, .slice A4 R.f2.f1.length c4, .int .u32 R.f2.f2, .int .i64 R.f2.f3, .int .i64 0, .slice none 0 0, .slice none 0 0, .int .i64 0]) ?_ 7 _ rfl
        refine blk_put (cs := #[.int .u32 R.f0.f0, .int .i64 R.f0.f1, .int .i64 R.f1, .int .i64 R.f2.f0, .slice A4 R.f2.f1.length c4, .int .u32 R.f2.f2, .int .i64 0, .int .i64 0, .slice none 0 0, .slice none 0 0, .int .i64 0]) ?_ 6 _ rfl
        refine blk_put (cs := #[.int .u32 R.f0.f0, .int .i64 R.f0.f1, .int .i64 R.f1, .int .i64 R.f2.f0, .slice A4 R.f2.f1.length c4, .int .u32 0, .int .i64 0, .int .i64 0, .slice none 0 0, .slice none 0 0, .int .i64 0]) ?_ 5 _ rfl
        refine blk_put (cs := #[.int .u32 R.f0.f0, .int .i64 R.f0.f1, .int .i64 R.f1, .int .i64 R.f2.f0, .slice none 0 0, .int .u32 0, .int .i64 0, .int .i64 0, .slice none 0 0, .slice none 0 0, .int .i64 0]) ?_ 4 _ rfl
        refine blk_put (cs := #[.int .u32 R.f0.f0, .int .i64 R.f0.f1, .int .i64 R.f1, .int .i64 0, .slice none 0 0, .int .u32 0, .int .i64 0, .int .i64 0, .slice none 0 0, .slice none 0 0, .int .i64 0]) ?_ 3 _ rfl
        refine blk_put (cs := #[.int .u32 R.f0.f0, .int .i64 R.f0.f1, .int .i64 0, .int .i64 0, .slice none 0 0, .int .u32 0, .int .i64 0, .int .i64 0, .slice none 0 0, .slice none 0 0, .int .i64 0]) ?_ 2 _ rfl
        refine blk_put (cs := #[.int .u32 R.f0.f0, .int .i64 0, .int .i64 0, .int .i64 0, .slice none 0 0, .int .u32 0, .int .i64 0, .int .i64 0, .slice none 0 0, .slice none 0 0, .int .i64 0]) ?_ 1 _ rfl
        refine blk_put (cs := #[.int .u32 0, .int .i64 0, .int .i64 0, .int .i64 0, .slice none 0 0, .int .u32 0, .int .i64 0, .int .i64 0, .slice none 0 0, .slice none 0 0, .int .i64 0]) ?_ 0 _ rfl
        exact BK10.out)
      have HBR := Aside0.mk (show Below wr.heap.size wr (((((((((((w5.setCell ⟨g10, 0, none⟩ (.int .u32 R.f0.f0)).setCell ⟨g10, 1, none⟩ (.int .i64 R.f0.f1)).setCell ⟨g10, 2, none⟩ (.int .i64 R.f1)).setCell ⟨g10, 3, none⟩ (.int .i64 R.f2.f0)).setCell ⟨g10, 4, none⟩ (.slice A4 R.f2.f1.length c4)).setCell ⟨g10, 5, none⟩ (.int .u32 R.f2.f2)).setCell ⟨g10, 6, none⟩ (.int .i64 R.f2.f3)).setCell ⟨g10, 7, none⟩ (.int .i64 R.f2.f4)).setCell ⟨g10, 8, none⟩ (.slice A8 R.f2.f5.length c8)).setCell ⟨g10, 9, none⟩ (.slice A9 R.f2.f6.length c9)).setCell ⟨g10, 10, none⟩ (.int .i64 R.f3)) from by
        refine below_set ?_ GE10.out
        refine below_set ?_ GE10.out
        refine below_set ?_ GE10.out
        refine below_set ?_ GE10.out
        refine below_set ?_ GE10.out
        refine below_set ?_ GE10.out
        refine below_set ?_ GE10.out
        refine below_set ?_ GE10.out
        refine below_set ?_ GE10.out
        refine below_set ?_ GE10.out
        refine below_set ?_ GE10.out
        exact HB5.out)
      clear BK10 HB5 hz0 hf0 hx0 hz1 hf1 hx1 hz2 hf2 hx2 hz3 hf3 hx3 hz4 hf4 hx4 hz5 hf5 hx5 hz6 hf6 hx6 hz7 hf7 hx7 hz8 hf8 hx8 hz9 hf9 hx9 hz10 hf10 hx10
      generalize (((((((((((w5.setCell ⟨g10, 0, none⟩ (.int .u32 R.f0.f0)).setCell ⟨g10, 1, none⟩ (.int .i64 R.f0.f1)).setCell ⟨g10, 2, none⟩ (.int .i64 R.f1)).setCell ⟨g10, 3, none⟩ (.int .i64 R.f2.f0)).setCell ⟨g10, 4, none⟩ (.slice A4 R.f2.f1.length c4)).setCell ⟨g10, 5, none⟩ (.int .u32 R.f2.f2)).setCell ⟨g10, 6, none⟩ (.int .i64 R.f2.f3)).setCell ⟨g10, 7, none⟩ (.int .i64 R.f2.f4)).setCell ⟨g10, 8, none⟩ (.slice A8 R.f2.f5.length c8)).setCell ⟨g10, 9, none⟩ (.slice A9 R.f2.f6.length c9)).setCell ⟨g10, 10, none⟩ (.int .i64 R.f3)) = w6 at BKR HBR ⊢
      have HL6 := Aside0.mk (HL.out.step HBR.out)
      have hy0 : w6.cell? ⟨g10, 0, none⟩ = some (.int .u32 R.f0.f0) := (blk_cell BKR.out 0).trans rfl
      have hy1 : w6.cell? ⟨g10, 1, none⟩ = some (.int .i64 R.f0.f1) := (blk_cell BKR.out 1).trans rfl
      have hy2 : w6.cell? ⟨g10, 2, none⟩ = some (.int .i64 R.f1) := (blk_cell BKR.out 2).trans rfl
      have hy3 : w6.cell? ⟨g10, 3, none⟩ = some (.int .i64 R.f2.f0) := (blk_cell BKR.out 3).trans rfl
      have hy4 : w6.cell? ⟨g10, 4, none⟩ = some (.slice A4 R.f2.f1.length c4) := (blk_cell BKR.out 4).trans rfl
      have hy5 : w6.cell? ⟨g10, 5, none⟩ = some (.int .u32 R.f2.f2) := (blk_cell BKR.out 5).trans rfl
      have hy6 : w6.cell? ⟨g10, 6, none⟩ = some (.int .i64 R.f2.f3) := (blk_cell BKR.out 6).trans rfl
      have hy7 : w6.cell? ⟨g10, 7, none⟩ = some (.int .i64 R.f2.f4) := (blk_cell BKR.out 7).trans rfl
      have hy8 : w6.cell? ⟨g10, 8, none⟩ = some (.slice A8 R.f2.f5.length c8) := (blk_cell BKR.out 8).trans rfl
      have hy9 : w6.cell? ⟨g10, 9, none⟩ = some (.slice A9 R.f2.f6.length c9) := (blk_cell BKR.out 9).trans rfl
      have hy10 : w6.cell? ⟨g10, 10, none⟩ = some (.int .i64 R.f3) := (blk_cell BKR.out 10).trans rfl
      have hca : w6.cell? ⟨g3, 0, none⟩ = some (.int .i64 a) := (blk_cell HL6.out.ca 0).trans rfl
      go_wp2_with fail
      refine (route_Usable.calls R.f0.f0 R.f0.f1 R.f1 R.f2.f0 A4 c4 R.f2.f1 R.f2.f2 R.f2.f3 R.f2.f4 A8 c8 R.f2.f5 A9 c9 R.f2.f6 R.f3 a (useB a R) w6 (Kd.C_below HR4.out HBR.out) HC4.out.1 (Kd.C_below HR8.out HBR.out) HC4.out.2.1 (Kd.C_below HR9.out HBR.out) HC4.out.2.2 rfl).mono ?_
      rintro e w7 ⟨rfl, hb7⟩
      have HL7 := Aside0.mk (HL6.out.step hb7)
      clear hca hb7 BKR HBR HL6 hy0 hy1 hy2 hy3 hy4 hy5 hy6 hy7 hy8 hy9 hy10
      generalize useB a R = u at HN ⊢
      cases u with
      | false =>
        go_wp2
        cases gk with
        | zero => exact absurd HM.out.1 (by have := HQ.out; omega)
        | succ k1 =>
          go_roundg k1
          case measure => omega
          case rel => exact ⟨x + 1, M, Am, cm, (by have hw : wrap64 ((x : Int) + 1) = ((x + 1 : Nat) : Int) := (by have := HQ.out; have := HLN.out; unfold wrap64; omega); first | rfl | (simp [hw]; done)), ⟨by have := HM.out.1; omega, by rw [HN.out, HM.out.2.1]; simp, by have := HQ.out; omega⟩, HL7⟩
      | true =>
        go_upto_region 6 with (fail)
        have HLD := Aside0.mk (HL7.out.step (below_drew1 (Below.refl w7.heap.size w7)))
        have hcpD : w7.drew.cell? ⟨g8, 0, none⟩ = some (.pointer (some ⟨g15, 0, none⟩)) := (blk_cell HLD.out.cp 0).trans rfl
        have hczD : w7.drew.cell? ⟨g15, 3, none⟩ = some (.slice Am M.length cm) := (blk_cell HLD.out.cells 3).trans rfl
        have HML := Aside0.mk (show M.length < 4000 by
          have h1 := HM.out.2.1
          have h2 := List.length_filter_le (fun n => useB a (rd_T41 l2 n)) (idx x)
          rw [← h1, idx_len] at h2
          have := HLN.out
          have := HQ.out
          omega)
        refine start_ (n := 11) (S := fun w' => w'.cell? ⟨g8, 0, none⟩ = some (.pointer (some ⟨g15, 0, none⟩)) ∧ w'.cell? ⟨g15, 3, none⟩ = some (.slice Am M.length cm)) (ds := [10]) #[false, false, false, false, false, false, false, false, false, false, false] (by kernel_rfl) rfl rfl ⟨hcpD, hczD⟩ (fun hHeld => ?_)
        generalize w7.drew = wD at HLD hHeld ⊢
        refine pure_ (i := 5) (N := some 31) (v := ?_) (a' := ?_) #[false, false, false, false, false, true, false, false, false, false, false] rfl rfl (by kernel_rfl) (fun _ _ _ h => h) (Or.inl ⟨by rfl, ?_⟩) ?_ ?_
        rotate_left
        · intro w'
          go_simp
          with_reducible rfl
        rotate_left
        · simp only [Act.put, List.setIfInBounds_toArray, List.set_cons_zero, List.set_cons_succ, i64_w, i32_w]
          rfl
        refine take_ (i := 0) (N := some 26) (v := ?_) (a' := ?_) #[true, false, false, false, false, true, false, false, false, false, false] rfl rfl (by kernel_rfl) (fun _ _ _ h => h) (Or.inl ⟨by rfl, ?_⟩) hHeld ?_ ?_
        rotate_left
        · rintro w' ⟨s0, s1⟩
          go_simp
          with_reducible rfl
        rotate_left
        · simp only [Act.put, List.setIfInBounds_toArray, List.set_cons_zero, List.set_cons_succ, i64_w, i32_w]
          rfl
        refine take_ (i := 1) (N := some 27) (v := ?_) (a' := ?_) #[true, true, false, false, false, true, false, false, false, false, false] rfl rfl (by kernel_rfl) (fun _ _ _ h => h) (Or.inl ⟨by rfl, ?_⟩) hHeld ?_ ?_
        rotate_left
        · rintro w' ⟨s0, s1⟩
          go_simp
          with_reducible rfl
        rotate_left
        · simp only [Act.put, List.setIfInBounds_toArray, List.set_cons_zero, List.set_cons_succ, i64_w, i32_w]
          rfl
        refine pure_ (i := 2) (N := some 28) (v := ?_) (a' := ?_) #[true, true, true, false, false, true, false, false, false, false, false] rfl rfl (by kernel_rfl) (fun _ _ _ h => h) (Or.inl ⟨by rfl, ?_⟩) ?_ ?_
        rotate_left
        · intro w'
          go_simp
          with_reducible rfl
        rotate_left
        · simp only [Act.put, List.setIfInBounds_toArray, List.set_cons_zero, List.set_cons_succ, i64_w, i32_w]
          rfl
        refine pure_ (i := 3) (N := some 29) (v := ?_) (a' := ?_) #[true, true, true, true, false, true, false, false, false, false, false] rfl rfl (by kernel_rfl) (fun _ _ _ h => h) (Or.inl ⟨by rfl, ?_⟩) ?_ ?_
        rotate_left
        · intro w'
          go_simp
          with_reducible rfl
        rotate_left
        · simp only [Act.put, List.setIfInBounds_toArray, List.set_cons_zero, List.set_cons_succ, i64_w, i32_w]
          rfl
        refine take_ (i := 4) (N := some 30) (v := ?_) (a' := ?_) #[true, true, true, true, true, true, false, false, false, false, false] rfl rfl (by kernel_rfl) (fun _ _ _ h => h) (Or.inl ⟨by rfl, ?_⟩) hHeld ?_ ?_
        rotate_left
        · rintro w' ⟨s0, s1⟩
          go_simp
          with_reducible rfl
        rotate_left
        · simp only [Act.put, List.setIfInBounds_toArray, List.set_cons_zero, List.set_cons_succ, i64_w, i32_w]
          rfl
        refine one_ (i := 6) (N := some 32) #[true, true, true, true, true, true, true, false, false, false, false] rfl rfl (by kernel_rfl) (by decide) (fun K hK => ?_)
        refine value_ (w1 := ?_) (v := ?_) (by rfl) rfl ?_ ?_
        rotate_left 2
        · go_simp
          constructor
          · rfl
          · rfl
        refine hK.out _ _ ⟨((below_alloc (Below.refl _ _) _).cell (World.block_lt_of_cell? _ _ hHeld.1)).trans hHeld.1, ((below_alloc (Below.refl _ _) _).cell (World.block_lt_of_cell? _ _ hHeld.2)).trans hHeld.2⟩ (fun hHeld => ?_)
        clear hK K
        refine norm_ (a' := ?_) ?_ ?_
        rotate_left
        · show Act.put _ (some 32) _ = _
          simp only [Act.put, List.setIfInBounds_toArray, List.set_cons_zero, List.set_cons_succ, i64_w, i32_w]
          rfl
        refine one_ (i := 7) (N := some 33) #[true, true, true, true, true, true, true, true, false, false, false] rfl rfl (by kernel_rfl) (by decide) (fun K hK => ?_)
        refine Kd.R_append_step (Kd.int .i64) (w0 := w) w.heap.size (by rfl) (.tmp 30) (.tmp 32) 45 3 (.int .i64 0) 8 rfl Try.underlying45 infoInt rfl (by decide) (by omega) (.slice Am M.length cm) M (x : Int) [.int .i64 (x : Int)] (fun k => k ≠ g15 ∧ k ≠ g8 ∧ k ≠ g5 ∧ k ≠ g3) (fun _ => False) rfl rfl ?aP (fun _ hk => hk.elim) ?aF ?aO ?aB ?aS ?aL ?_
        (case aP => exact rfl)
        (case aB => exact HLD.out.below)
        (case aF => exact (fun k hk => ⟨by have := blk_lt HLD.out.cells; omega, by have := blk_lt HLD.out.cp; omega, by have := blk_lt HLD.out.cl; omega, by have := blk_lt HLD.out.ca; omega⟩))
        (case aO => exact HLD.out.own)
        (case aS => exact HLD.out.below.size)
        (case aL => have := HML.out; omega)
        intro v1 w9 ho9 hb9 hg9 hat9
        have hcp9 : w9.cell? ⟨g8, 0, none⟩ = some (.pointer (some ⟨g15, 0, none⟩)) := (blk_cell ((hg9.block g8 (blk_lt HLD.out.cp) (fun e => (HLD.out.own.1 g8 e.symm).2.1 rfl)).trans HLD.out.cp) 0).trans rfl
        have hbc9 := (hg9.block g15 (blk_lt HLD.out.cells) (fun e => (HLD.out.own.1 g15 e.symm).1 rfl)).trans HLD.out.cells
        have hcz9 : w9.cell? ⟨g15, 3, none⟩ = some (.slice Am M.length cm) := (blk_cell hbc9 3).trans rfl
        have hfz9 := blk_frozen hbc9 3
        obtain ⟨A', c', e9, hL9⟩ := HLD.out.put hb9 hg9 ho9
        subst e9
        have HP9 := Aside0.mk hL9
        clear hbc9 ho9 hb9 hg9 hat9 hL9
        refine hK.out _ _ ⟨hcp9, hcz9⟩ (fun hHeld => ?_)
        clear hK K
        refine norm_ (a' := ?_) ?_ ?_
        rotate_left
        · show Act.put _ (some 33) _ = _
          simp only [Act.put, List.setIfInBounds_toArray, List.set_cons_zero, List.set_cons_succ, i64_w, i32_w]
          rfl
        refine pure_ (i := 8) (N := some 34) (v := ?_) (a' := ?_) #[true, true, true, true, true, true, true, true, true, false, false] rfl rfl (by kernel_rfl) (fun _ _ _ h => h) (Or.inl ⟨by rfl, ?_⟩) ?_ ?_
        rotate_left
        · intro w'
          go_simp
          with_reducible rfl
        rotate_left
        · simp only [Act.put, List.setIfInBounds_toArray, List.set_cons_zero, List.set_cons_succ, i64_w, i32_w]
          rfl
        refine pure_ (i := 9) (N := some 35) (v := ?_) (a' := ?_) #[true, true, true, true, true, true, true, true, true, true, false] rfl rfl (by kernel_rfl) (fun _ _ _ h => h) (Or.inl ⟨by rfl, ?_⟩) ?_ ?_
        rotate_left
        · intro w'
          go_simp
          with_reducible rfl
        rotate_left
        · simp only [Act.put, List.setIfInBounds_toArray, List.set_cons_zero, List.set_cons_succ, i64_w, i32_w]
          rfl
        refine last_ (i := 10) (N := none) #[true, true, true, true, true, true, true, true, true, true, true] rfl rfl (by kernel_rfl) (by decide) (fun K hK => ?_)
        refine skip_ (w1 := ?_) (by rfl) rfl ?_ ?_
        rotate_left
        · go_simp
          rfl
        refine hK.out _ _ ?_
        clear hK K
        refine done_ (by kernel_rfl) ?_
        rw [show (M ++ [((x : Nat) : Int)]).length = M.length + 1 by simp] at HP9
        go_wp2
        cases gk with
        | zero => exact absurd HM.out.1 (by have := HQ.out; omega)
        | succ k1 =>
          go_roundg k1
          case measure => omega
          case rel => exact ⟨x + 1, M ++ [((x : Nat) : Int)], A', c', (by have hw : wrap64 ((x : Int) + 1) = ((x + 1 : Nat) : Int) := (by have := HQ.out; have := HLN.out; unfold wrap64; omega); first | rfl | (simp [hw]; done)), ⟨by have := HM.out.1; omega, by rw [HN.out, HM.out.2.1]; simp, by have := HQ.out; omega⟩, HP9⟩
    · have c4b0 : decide (((x : Nat) : Int) < (l2.length : Int)) = false := decide_eq_false (by omega)
      have c4b1 : decide (x < l2.length) = false := decide_eq_false hlt
      have hx : x = l2.length := by have := HM.out.2.2; omega
      subst hx
      have hM : M = leftL a l2 := HM.out.2.1
      have hMl : M.length ≤ l2.length := by
        have h2 := List.length_filter_le (fun n => useB a (rd_T41 l2 n)) (idx l2.length)
        rw [idx_len] at h2
        rw [hM]
        exact h2
      have HH := Aside0.mk (HL.out.held (by have := HLN.out; omega) (fun n hn => by rw [hM] at hn; exact idx_mem (List.mem_filter.1 hn).1))
      have hcp : wr.cell? ⟨g8, 0, none⟩ = some (.pointer (some ⟨g15, 0, none⟩)) := (blk_cell HL.out.cp 0).trans rfl
      have hcz : wr.cell? ⟨g15, 3, none⟩ = some (.slice Am M.length cm) := (blk_cell HL.out.cells 3).trans rfl
      have HF := HH0.out
      rw [← hM] at HF
      clear hlt HM HL hMl hM
      by_cases hm : M.length = 0
      · have c5b0 : decide ((M.length : Int) = 0) = true := decide_eq_true (by omega)
        have c5b1 : decide (M.length = 0) = true := decide_eq_true hm
        rw [if_pos hm] at HF
        have HF := Option.some.inj HF
        obtain ⟨rfl, rfl⟩ : (0 : Int) = r1 ∧ false = r2 := ⟨congrArg Prod.fst HF, congrArg Prod.snd HF⟩
        have hm2 : M = [] := List.length_eq_zero_iff.1 hm
        have c5b2 : decide (M = []) = true := decide_eq_true hm2
        have c5b3 : ((M.length : Int) == 0) = true := beq_iff_eq.2 (by omega)
        clear hm HF
        go_wp2
        go_ret2
        exact ⟨rfl, HH.out.below⟩
      · have c5b0 : decide ((M.length : Int) = 0) = false := decide_eq_false (by omega)
        have c5b1 : decide (M.length = 0) = false := decide_eq_false hm
        rw [if_neg hm] at HF
        have HF := Aside0.mk (Option.some.inj HF)
        have HPS := Aside0.mk (Nat.pos_of_ne_zero hm)
        have hm2 : ¬ M = [] := fun e => hm (by rw [e]; rfl)
        have c5b2 : decide (M = []) = false := decide_eq_false hm2
        have c5b3 : ((M.length : Int) == 0) = false := beq_eq_false_iff_ne.2 (by omega)
        clear hm
        go_wp2_with fail
        refine (step_1 w g15 g8 g5 g3 a AI cI I A2 c2 l2 _ _ HH.out).mono ?_
        rintro e w20 ⟨rfl, L20, hE20, hh⟩
        have HE20 := Aside0.mk hE20
        replace HH := Aside0.mk hh
        clear hh hcp hE20
        have hcp : w20.cell? ⟨g8, 0, none⟩ = some (.pointer (some ⟨g15, 0, none⟩)) := (blk_cell HH.out.cp 0).trans rfl
        go_wp2_with fail
        refine (step_2 w g15 g8 g5 g3 a AI cI I A2 c2 l2 _ _ HH.out).mono ?_
        rintro e w21 ⟨rfl, L21, hE21, hh⟩
        have HE21 := Aside0.mk hE21
        replace HH := Aside0.mk hh
        clear hh hcp hE21
        have hcp : w21.cell? ⟨g8, 0, none⟩ = some (.pointer (some ⟨g15, 0, none⟩)) := (blk_cell HH.out.cp 0).trans rfl
        go_wp2_with fail
        refine (step_p w g15 g8 g5 g3 a AI cI I A2 c2 l2 _ _ HH.out (fun n hn => (HOK.out _ (rdR_mem l2 n (HH.out.rng n hn).1 (HH.out.rng n hn).2)).2.1)).mono ?_
        rintro e w22 ⟨rfl, L22, hE22, hh⟩
        have HE22 := Aside0.mk hE22
        replace HH := Aside0.mk hh
        clear hh hcp hE22
        have hcp : w22.cell? ⟨g8, 0, none⟩ = some (.pointer (some ⟨g15, 0, none⟩)) := (blk_cell HH.out.cp 0).trans rfl
        go_wp2_with fail
        refine (step_3 w g15 g8 g5 g3 a AI cI I A2 c2 l2 _ _ HH.out (fun n => (rd_T41 l2 n).f2.f1.length + 1) (fun n => lenR (rd_T41 l2 n)) (fun n hn => (HOK.out _ (rdR_mem l2 n (HH.out.rng n hn).1 (HH.out.rng n hn).2)).2.2.2.1) (fun n hn => (HOK.out _ (rdR_mem l2 n (HH.out.rng n hn).1 (HH.out.rng n hn).2)).2.2.2.2.1)).mono ?_
        rintro e w23 ⟨rfl, L23, hE23, hh⟩
        have HE23 := Aside0.mk hE23
        replace HH := Aside0.mk hh
        clear hh hcp hE23
        have hcp : w23.cell? ⟨g8, 0, none⟩ = some (.pointer (some ⟨g15, 0, none⟩)) := (blk_cell HH.out.cp 0).trans rfl
        go_wp2_with fail
        refine (step_4 w g15 g8 g5 g3 a AI cI I A2 c2 l2 _ _ HH.out (fun n hn => (HOK.out _ (rdR_mem l2 n (HH.out.rng n hn).1 (HH.out.rng n hn).2)).2.2.1)).mono ?_
        rintro e w24 ⟨rfl, L24, hE24, hh⟩
        have HE24 := Aside0.mk hE24
        replace HH := Aside0.mk hh
        clear hh hcp hE24
        have hcp : w24.cell? ⟨g8, 0, none⟩ = some (.pointer (some ⟨g15, 0, none⟩)) := (blk_cell HH.out.cp 0).trans rfl
        go_wp2_with fail
        refine (step_5 w g15 g8 g5 g3 a AI cI I A2 c2 l2 _ _ HH.out).mono ?_
        rintro e w25 ⟨rfl, L25, hE25, hh⟩
        have HE25 := Aside0.mk hE25
        replace HH := Aside0.mk hh
        clear hh hcp hE25
        have hcp : w25.cell? ⟨g8, 0, none⟩ = some (.pointer (some ⟨g15, 0, none⟩)) := (blk_cell HH.out.cp 0).trans rfl
        go_wp2_with fail
        refine (step_6 w g15 g8 g5 g3 a AI cI I A2 c2 l2 _ _ HH.out).mono ?_
        rintro e w26 ⟨rfl, L26, hE26, hh⟩
        have HE26 := Aside0.mk hE26
        replace HH := Aside0.mk hh
        clear hh hcp hE26
        have hcp : w26.cell? ⟨g8, 0, none⟩ = some (.pointer (some ⟨g15, 0, none⟩)) := (blk_cell HH.out.cp 0).trans rfl
        go_wp2_with fail
        refine (step_7 w g15 g8 g5 g3 a AI cI I A2 c2 l2 _ _ HH.out (fun n hn => (HOK.out _ (rdR_mem l2 n (HH.out.rng n hn).1 (HH.out.rng n hn).2)).2.2.2.2.2)).mono ?_
        rintro e w27 ⟨rfl, L27, hE27, hh⟩
        have HE27 := Aside0.mk hE27
        replace HH := Aside0.mk hh
        clear hh hcp hE27
        have hcp : w27.cell? ⟨g8, 0, none⟩ = some (.pointer (some ⟨g15, 0, none⟩)) := (blk_cell HH.out.cp 0).trans rfl
        go_wp2_with fail
        refine (step_8 w g15 g8 g5 g3 a AI cI I A2 c2 l2 _ _ HH.out (fun n hn => (HOK.out _ (rdR_mem l2 n (HH.out.rng n hn).1 (HH.out.rng n hn).2)).1)).mono ?_
        rintro e w28 ⟨rfl, L28, hE28, hh⟩
        have HE28 := Aside0.mk hE28
        replace HH := Aside0.mk hh
        clear hh hcp hE28
        have hcp : w28.cell? ⟨g8, 0, none⟩ = some (.pointer (some ⟨g15, 0, none⟩)) := (blk_cell HH.out.cp 0).trans rfl
        have h20 : 0 < L20.length := by
          rw [HE20.out]
          exact keepL_pos _ HPS.out
        have h21 : 0 < L21.length := by
          rw [HE21.out]
          exact keepL_pos _ h20
        have h22 : 0 < L22.length := by
          rw [HE22.out]
          exact keepL_pos _ h21
        have h23 : 0 < L23.length := by
          rw [HE23.out]
          exact keepL_pos _ h22
        have h24 : 0 < L24.length := by
          rw [HE24.out]
          exact keepL_pos _ h23
        have h25 : 0 < L25.length := by
          rw [HE25.out]
          exact keepL_pos _ h24
        have h26 : 0 < L26.length := by
          rw [HE26.out]
          exact keepL_pos _ h25
        have h27 : 0 < L27.length := by
          rw [HE27.out]
          exact keepL_pos _ h26
        have h28 : 0 < L28.length := by
          rw [HE28.out]
          exact keepL_pos _ h27
        have hb : bestB a I l2 (bestA l2 M) = L28 := by
          rw [HE28.out, HE27.out, HE26.out, HE25.out, HE24.out, HE23.out, HE22.out, HE21.out, HE20.out]
          rfl
        have HF := HF.out
        rw [hb] at HF
        have HR := Aside0.mk (show rd L28 0 = r1 ∧ true = r2 from ⟨congrArg Prod.fst HF, congrArg Prod.snd HF⟩)
        obtain ⟨A9, c9, hS9⟩ := HH.out.chose
        have hcz : w28.cell? ⟨g15, 3, none⟩ = some (.slice A9 L28.length c9) := (blk_cell hS9.cells 3).trans rfl
        obtain ⟨ad, e, hx0⟩ := Kd.at_int hS9.row 0 (Int.le_refl 0) (by omega)
        cases e
        have q1 : (0 : Int) < (L28.length : Int) := by omega
        have c6b0 : decide ((0 : Int) < (L28.length : Int)) = true := decide_eq_true q1
        have c6b1 : decide (0 < L28.length) = true := decide_eq_true h28
        clear hb HF hS9 c5b0 c5b1 c5b2 c5b3 hm2 h20 h21 h22 h23 h24 h25 h26 h27 HE20 HE21 HE22 HE23 HE24 HE25 HE26 HE27 HE28
        replace q1 := eq_true q1
        rw [HR.out.1, show ad.add (Int.toNat 0) = ad by first | rfl | (simp; done) | (simp [Addr.add]; done)] at hx0
        go_wp2
        go_ret2
        exact ⟨by rw [← HR.out.2]; rfl, HH.out.below⟩


end Go.Proofs.Ytediicgkcgfghaa.PDecideSteps
