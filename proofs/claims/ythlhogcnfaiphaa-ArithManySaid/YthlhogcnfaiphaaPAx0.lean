-- Laid by this work's own program; Lean checks it.
import Derived.Test.YthlhogcnfaiphaaProg
import Derived.Below
import Derived.Deep.Draws
import Derived.Deep.AppendLies
import Derived.Maps.AppendAt
import Derived.OwnWalk
import Derived.Laws.BytesArg
import Derived.Laws.MakeOwn
import Derived.Laws.OwnMore
import Derived.Deep.OwnRows
import Derived.Tactics
import Derived.Lib.ConvBytes
import Derived.Laws.Slices
import Derived.WalkKit
import Derived.KernelRfl
import Derived.RowKit3
import Derived.Deep.LoopGhost
import Derived.Deep.QuietTactic
import Derived.BigQuiet
import Derived.WideLaws
import Derived.Deep.DeepCutAuto
import Derived.Deep.CutBlock
import Derived.Deep.RegionHeld3
import Derived.Laws.Rows
import Derived.Lib.AppendStr
import Derived.ArgAppend
import Derived.Laws.IdiomCopy
import Derived.OrdersHeld
import Derived.Laws.BitsLemmas
import Derived.RowKit
import Derived.Lib.SliceRun
import Derived.ScopeJumps
import Derived.WalkMore
import Derived.Laws.Externs
import Derived.Test.YthlhogcnfaiphaaVWords
import Derived.Test.YthlhogcnfaiphaaVLast
import Derived.Test.YthlhogcnfaiphaaVTab
import Derived.Test.YthlhogcnfaiphaaVFour
import Derived.Test.YthlhogcnfaiphaaVQPut
import Derived.Test.YthlhogcnfaiphaaVApart
import Derived.Test.YthlhogcnfaiphaaVArr
import Derived.Test.YthlhogcnfaiphaaVZeros
import Derived.Test.YthlhogcnfaiphaaVFoot
import Derived.Test.YthlhogcnfaiphaaVKept
import Derived.Test.YthlhogcnfaiphaaVShare
import Derived.Test.YthlhogcnfaiphaaVN
import Derived.Test.YthlhogcnfaiphaaVFootNe
import Derived.Test.YthlhogcnfaiphaaVAt
import Derived.Test.YthlhogcnfaiphaaVEqStruct
import Derived.Test.YthlhogcnfaiphaaVRepsOne
import Derived.Test.YthlhogcnfaiphaaVInv
import Derived.Test.YthlhogcnfaiphaaVInvWords
import Derived.Test.YthlhogcnfaiphaaVGuard
import Derived.Test.YthlhogcnfaiphaaVNEv
import Derived.Test.YthlhogcnfaiphaaVMore
namespace Go.Proofs.Ythlhogcnfaiphaa.PA
open Go.RowKit Go.Proofs.YthlhogcnfaiphaaW.PrintWords Go.Proofs.YthlhogcnfaiphaaW.PrintLast Go.Proofs.YthlhogcnfaiphaaW.PrintMore
attribute [local go_sem] max2_int min2_int max_two min_two max_three min_three max_four min_four   -- for this text's walks alone
set_option linter.unusedVariables false
set_option linter.unusedSimpArgs false



def errW : Option Int → Value
  | none => .nilIface
  | some c => .iface 0 (.int .i64 c)
theorem errW_none : errW none = .nilIface := rfl
theorem errW_some (c : Int) : errW (some c) = .iface 0 (.int .i64 c) := rfl

/-- A call of a function for which the model stands in. -/
def XCalls (P : Program) (f : FuncId) (args : Array Value) (w : World) (Post : Ending → World → Prop) : Prop := ∃ v, (callFunc f args).run P w = .ok (.value v) w ∧ Post (.returned v) w
theorem XCalls.mono {P : Program} {f : FuncId} {args : Array Value} {w : World} {A B : Ending → World → Prop} (h : XCalls P f args w A) (k : ∀ e w', A e w' → B e w') : XCalls P f args w B := ⟨h.choose, h.choose_spec.1, k _ _ h.choose_spec.2⟩
theorem goesX_ {P : Program} {ops : Array Oper} {Q : Exit → Act → World → Prop} {rest : List Oper} {oi : Oper} {a : Act} {w : World} (N : Option Tmp) (hd : oi.dst = N) (hg : oi.guard = none) {f : FuncId} {os_ : Array Operand} {ts : Array TypeId} (args : Array Value)
    (hop : oi.op = .call { callee := .value (.func f), args := os_, argTypes := ts }) (hargs : os_.map a.eval = args)
    (h : XCalls P f args w fun e w' => ∃ v, e = .returned v ∧ wpList P ops Q rest (a.put N v) w') : wpList P ops Q (oi :: rest) a w := by
  refine wpList_plain hg fun K hK => ?_
  obtain ⟨v, he, v', hv, hk⟩ := h
  have hrun : (execOp a.eval oi).run P w = .ok (.value v) w := by
    unfold execOp
    simp [hop, resolve, Deferred.ofValue, invoke, Act.eval, hargs, he]
  unfold Oper.wp
  rw [hrun]
  subst hd
  obtain rfl := Ending.returned.inj hv
  exact hK _ _ hk

theorem isSome_set_ (w : World) (p q : Addr) (v : Value) : ((w.setCell p v).cell? q).isSome = (w.cell? q).isSome := by
  by_cases e : p = q
  · subst e
    cases hc : w.cell? p with
    | some u => rw [World.cell?_setCell_same w p v hc]; rfl
    | none =>
      simp only [World.setCell, World.cell?, Array.getElem?_modify] at hc ⊢
      cases hh : w.heap[p.block]? with
      | none => simp
      | some x => rw [hh] at hc; cases x <;> simp_all
  · rw [World.cell?_setCell_other w p q v e]
theorem kb_ {w w0 : World} {g : Nat} {o : Obj} (h : w0.heap[g]? = some o) (k : w0.heap[g]? = some o → w.heap[g]? = some o := by intro h_; (with_reducible repeat (first | refine blk_drewN ?_ _ | refine blk_drew ?_ | refine blk_alloc ?_ _)); exact h_) : w.heap[g]? = some o := k h
theorem kq_ {w w0 w1 : World} {g : Nat} {o : Obj} (h : Aside0 (w0.heap[g]? = some o)) (hb : Below w.heap.size w w1) (k : w0.heap[g]? = some o → w.heap[g]? = some o := by intro h_; (with_reducible repeat (first | refine blk_drewN ?_ _ | refine blk_drew ?_ | refine blk_alloc ?_ _)); exact h_) : Aside0 (w1.heap[g]? = some o) := ⟨blk_below (k h.out) hb⟩
theorem nb_ {w w0 : World} {g g2 : Nat} {o : Obj} (hg : g2 = w.heap.size) (h : Aside0 (w0.heap[g]? = some o)) (k : w0.heap[g]? = some o → w.heap[g]? = some o := by intro h_; (with_reducible repeat (first | refine blk_drewN ?_ _ | refine blk_drew ?_ | refine blk_alloc ?_ _)); exact h_) : Aside0 (g ≠ g2) := ⟨by rw [hg]; exact Nat.ne_of_lt (blk_lt (k h.out))⟩
theorem nc_ {w w0 : World} {g g2 : Nat} {o : Obj} (hg : g2 = w.heap.size) (h : Aside0 (w0.heap[g]? = some o)) (k : w0.heap[g]? = some o → w.heap[g]? = some o := by intro h_; (with_reducible repeat (first | refine blk_drewN ?_ _ | refine blk_drew ?_ | refine blk_alloc ?_ _)); exact h_) : Aside0 (g2 ≠ g) := ⟨by rw [hg]; exact Nat.ne_of_gt (blk_lt (k h.out))⟩
theorem bw_ {w w0 w1 : World} (h : Below w.heap.size w w0) (k : Below w.heap.size w w0 → Below w.heap.size w w1 := by intro h_; repeat (first | (with_reducible first | exact h_ | apply below_alloc | apply pw_below_drewN | apply below_drew1 | refine below_set ?_ (Aside0.out (by assumption))) | exact h_)) : Below w.heap.size w w1 := k h
theorem bq_ {w w0 w1 w2 : World} (h : Aside0 (Below w.heap.size w w0)) (hb : Below w1.heap.size w1 w2) (k : Below w.heap.size w w0 → Below w.heap.size w w1 := by intro h_; repeat (first | (with_reducible first | exact h_ | apply below_alloc | apply pw_below_drewN | apply below_drew1 | refine below_set ?_ (Aside0.out (by assumption))) | exact h_)) : Aside0 (Below w.heap.size w w2) := ⟨below_step (k h.out) hb⟩
theorem ge_ {w w0 w1 : World} {g : Nat} (hg : g = w1.heap.size) (h : Aside0 (Below w.heap.size w w0)) (k : Below w.heap.size w w0 → Below w.heap.size w w1 := by intro h_; repeat (first | (with_reducible first | exact h_ | apply below_alloc | apply pw_below_drewN | apply below_drew1 | refine below_set ?_ (Aside0.out (by assumption))) | exact h_)) : Aside0 (w.heap.size ≤ g) := ⟨by rw [hg]; exact below_size (k h.out)⟩
theorem cz_ {w : World} {g : Nat} {t : TypeId} {cs : Array Value} {v : Value} (h : Aside0 (w.heap[g]? = some (.cells cs t (0, 0)))) (i : Nat) (e : cs[i]? = some v) : w.cell? ⟨g, i, none⟩ = some v := (blk_cell h.out i).trans e
theorem bp_ {w w0 : World} {g : Nat} {t : TypeId} {u : Value} {cs' : Array Value} (cs : Array Value) (i : Nat) (h : w0.heap[g]? = some (.cells cs t (0, 0))) (k : w0.heap[g]? = some (.cells cs t (0, 0)) → w.heap[g]? = some (.cells cs t (0, 0)) := by intro h_; (with_reducible repeat (first | refine blk_drewN ?_ _ | refine blk_drew ?_ | refine blk_alloc ?_ _)); exact h_) (e : cs.setIfInBounds i u = cs' := by first | rfl | (simp [*]; done)) : (w.setCell ⟨g, i, none⟩ u).heap[g]? = some (.cells cs' t (0, 0)) := blk_put (k h) i u e
theorem bf_ {w w0 : World} {g : Nat} {t : TypeId} {u : Value} {cs : Array Value} {p : Addr} (hp : Aside0 (g ≠ p.block)) (h : w0.heap[g]? = some (.cells cs t (0, 0))) (k : w0.heap[g]? = some (.cells cs t (0, 0)) → w.heap[g]? = some (.cells cs t (0, 0)) := by intro h_; (with_reducible repeat (first | refine blk_drewN ?_ _ | refine blk_drew ?_ | refine blk_alloc ?_ _)); exact h_) : (w.setCell p u).heap[g]? = some (.cells cs t (0, 0)) := blk_far (k h) hp.out u
theorem bx_ {P : Program} {ops : Array Oper} {rest : List Oper} {o : Oper} {a : Act} {Q : Exit → Act → World → Prop} {W : World} (N : Tmp) (cs : Array Value) (t : TypeId) (h : ∀ g, g = W.heap.size → ∀ w1, w1.heap[g]? = some (.cells cs t (0, 0)) → Below W.heap.size W w1 → wpList P ops Q rest (a.put o.dst (.pointer (some ⟨g, 0, none⟩))) w1) (hgd : o.guard = none := by rfl) (hd : o.dst = some N := by rfl)
    (hrun : (execOp a.eval o).run P W = .ok (.value (.pointer (some ⟨W.heap.size, 0, none⟩))) (W.alloc (.cells cs t (0, 0))) := by first | (go_simp; done) | (go_simp; rfl)) : wpList P ops Q (o :: rest) a W := box_event hgd hd hrun h
theorem gl_ {P : Program} {ops : Array Oper} {Q : Exit → Act → World → Prop} {rest : List Oper} {oi : Oper} {a : Act} {w : World} (N : Option Tmp) {f : FuncId} {fn : Func} {as_ : Array Operand} {ts : Array TypeId} (hf : P.funcs[f]? = some fn) (args : Array Value) (h : Calls P f args w fun e w' => ∃ v, e = .returned v ∧ wpList P ops Q rest (a.put N v) w')
    (hd : oi.dst = N := by rfl) (hg : oi.guard = none := by rfl) (hop : oi.op = .call { callee := .value (.func f), args := as_, argTypes := ts } := by rfl) (hname : (fn.name == "runtime.NumGoroutine") = false := by kernel_rfl) (hb : fn.body.isSome = true := by rfl)
    (hargs : as_.map a.eval = args := by (try simp only [List.map_toArray, List.map_cons, List.map_nil]); first | done | rfl | (simp only [List.length_drop, List.length_take]; rfl) | (simp only [*]; rfl) | (simp [*]; done)) : wpList P ops Q (oi :: rest) a w := goesL_ N hd hg hf hname hb args hop hargs h
theorem gs_ {P : Program} {ops : Array Oper} {Q : Exit → Act → World → Prop} {oi : Oper} {N : Option Tmp} {a : Act} {w : World} {K : Act → World → Prop} {f : FuncId} {fn : Func} {as_ : Array Operand} {ts : Array TypeId} (hf : P.funcs[f]? = some fn) (args : Array Value) (h : Calls P f args w fun e w' => ∃ v, e = .returned v ∧ K (a.put N v) w')
    (hw : Region.wanted oi (yielded ops a.tmps) = true := by rfl) (hN : oi.dst = N := by rfl) (hop : oi.op = .call { callee := .value (.func f), args := as_, argTypes := ts } := by rfl) (hname : (fn.name == "runtime.NumGoroutine") = false := by kernel_rfl) (hb : fn.body.isSome = true := by rfl)
    (hargs : as_.map a.eval = args := by (try simp only [List.map_toArray, List.map_cons, List.map_nil]); first | done | rfl | (simp only [List.length_drop, List.length_take]; rfl) | (simp only [*]; rfl) | (simp [*]; done)) : if Region.wanted oi (yielded ops a.tmps) = true then Oper.wp P oi a w K Q else K (a.put N undef) w := goes_ hf hname hb args hw hN hop hargs h
theorem pt_ {α : Type} {x y : α} (h : x = y := by (simp only [Act.put, List.setIfInBounds_toArray, List.set_cons_zero, List.set_cons_succ, i64_w, i32_w]; rfl)) : x = y := h
theorem rf_ {α : Type} {x y : α} (h : x = y := by first | rfl | (simp [errW_none, errW_some] <;> rfl) | (simp [*, errW_none, errW_some] <;> rfl)) : x = y := h
theorem c2_ {w : World} {g : Nat} {t : TypeId} {a b : Value} (h : Aside0 (w.heap[g]? = some (.cells #[a, b] t (0, 0)))) : w.cell? ⟨g, 0, none⟩ = some a ∧ w.cell? ⟨g, 1, none⟩ = some b ∧ w.frozen? ⟨g, 0, none⟩ = false ∧ w.frozen? ⟨g, 1, none⟩ = false := ⟨(blk_cell h.out 0).trans rfl, (blk_cell h.out 1).trans rfl, blk_frozen h.out 0, blk_frozen h.out 1⟩
theorem c3_ {w : World} {g : Nat} {t : TypeId} {a b c : Value} (h : Aside0 (w.heap[g]? = some (.cells #[a, b, c] t (0, 0)))) : w.cell? ⟨g, 0, none⟩ = some a ∧ w.cell? ⟨g, 1, none⟩ = some b ∧ w.cell? ⟨g, 2, none⟩ = some c ∧ w.frozen? ⟨g, 0, none⟩ = false ∧ w.frozen? ⟨g, 1, none⟩ = false ∧ w.frozen? ⟨g, 2, none⟩ = false := ⟨(blk_cell h.out 0).trans rfl, (blk_cell h.out 1).trans rfl, (blk_cell h.out 2).trans rfl, blk_frozen h.out 0, blk_frozen h.out 1, blk_frozen h.out 2⟩
theorem c4_ {w : World} {g : Nat} {t : TypeId} {a b c d : Value} (h : Aside0 (w.heap[g]? = some (.cells #[a, b, c, d] t (0, 0)))) : w.cell? ⟨g, 0, none⟩ = some a ∧ w.cell? ⟨g, 1, none⟩ = some b ∧ w.cell? ⟨g, 2, none⟩ = some c ∧ w.cell? ⟨g, 3, none⟩ = some d ∧ w.frozen? ⟨g, 0, none⟩ = false ∧ w.frozen? ⟨g, 1, none⟩ = false ∧ w.frozen? ⟨g, 2, none⟩ = false ∧ w.frozen? ⟨g, 3, none⟩ = false := ⟨(blk_cell h.out 0).trans rfl, (blk_cell h.out 1).trans rfl, (blk_cell h.out 2).trans rfl, (blk_cell h.out 3).trans rfl, blk_frozen h.out 0, blk_frozen h.out 1, blk_frozen h.out 2, blk_frozen h.out 3⟩
theorem fz_ {w : World} {g : Nat} {t : TypeId} {cs : Array Value} (h : Aside0 (w.heap[g]? = some (.cells cs t (0, 0)))) (i : Nat) : w.frozen? ⟨g, i, none⟩ = false := blk_frozen h.out i

theorem bnb_ {α : Type} [BEq α] (a b : α) : (!(a == b)) = (a != b) := rfl
theorem ob_map (A : Option Addr) (n c : Nat) : (Value.slice A n c).ownBlock = A.map (·.block) := by cases A <;> rfl
theorem rr_len {α : Type} {Rr : α → List Value → Prop} {size : Nat} {w : World} {A : Option Addr} {m n : Nat} {xs : List α} (h : m = n) (hr : ReadsRow Rr size w A m xs) : ReadsRow Rr size w A n xs := h ▸ hr
theorem info68 : (Try.prog.info? 68).map (fun i => (i.zero, i.size, i.bytes)) = some (some (.int .u32 0), 1, 4) := by kernel_rfl
-- the values' own types
/-! #### struct type 24 -/
structure S24 where
  f0 : Int
  f1 : Bool
  f2 : Int
  f3 : Int
def z24 : S24 := ⟨(0 : Int), false, (0 : Int), (0 : Int)⟩
def k24 : Kd S24 := Kd.iso (Kd.pair (Kd.int .i64) (Kd.pair Kd.bool (Kd.pair (Kd.int .u64) (Kd.int .i64)))) (fun x : S24 => (x.f0, x.f1, x.f2, x.f3))
theorem k24_open {w : World} {x : S24} {cs : List Value} (h : k24.K w x cs) : cs = [.int .i64 x.f0, .bool x.f1, .int .u64 x.f2, .int .i64 x.f3] := by
  obtain ⟨_, _, rfl, rfl, ⟨_, _, rfl, rfl, ⟨_, _, rfl, rfl, rfl⟩⟩⟩ := h
  exact rfl
theorem k24_openM {w : World} {base : Nat} {ok : Nat → Prop} {x : S24} {cs : List Value} (h : k24.M w base ok x cs) : cs = [.int .i64 x.f0, .bool x.f1, .int .u64 x.f2, .int .i64 x.f3] := by
  obtain ⟨_, _, rfl, rfl, ⟨_, _, rfl, rfl, ⟨_, _, rfl, rfl, rfl⟩⟩⟩ := h
  exact rfl
theorem k24_mk (w : World) (x : S24)  : k24.K w x [.int .i64 x.f0, .bool x.f1, .int .u64 x.f2, .int .i64 x.f3] := ⟨[.int .i64 x.f0], [.bool x.f1, .int .u64 x.f2, .int .i64 x.f3], rfl, rfl, ⟨[.bool x.f1], [.int .u64 x.f2, .int .i64 x.f3], rfl, rfl, ⟨[.int .u64 x.f2], [.int .i64 x.f3], rfl, rfl, rfl⟩⟩⟩
theorem k24_mkM (w : World) (base : Nat) (ok : Nat → Prop) (x : S24)  : k24.M w base ok x [.int .i64 x.f0, .bool x.f1, .int .u64 x.f2, .int .i64 x.f3] := ⟨[.int .i64 x.f0], [.bool x.f1, .int .u64 x.f2, .int .i64 x.f3], rfl, rfl, ⟨[.bool x.f1], [.int .u64 x.f2, .int .i64 x.f3], rfl, rfl, ⟨[.int .u64 x.f2], [.int .i64 x.f3], rfl, rfl, rfl⟩⟩⟩
def rd_T24 (xs : List S24) (i : Int) : S24 := xs.getD i.toNat z24
theorem at_T24 {w : World} {A : Option Addr} {n : Nat} {xs : List S24} (h : Kd.C k24 w A n xs) (i : Int) (h0 : 0 ≤ i) (h1 : i < n) : ∃ ad , A = some ad ∧ w.cell? (ad.add (i.toNat * 4)) = some (.int .i64 (rd_T24 xs i).f0) ∧ w.cell? ⟨(ad.add (i.toNat * 4)).block, (ad.add (i.toNat * 4)).off + 1, none⟩ = some (.bool (rd_T24 xs i).f1) ∧ w.cell? ⟨(ad.add (i.toNat * 4)).block, (ad.add (i.toNat * 4)).off + 2, none⟩ = some (.int .u64 (rd_T24 xs i).f2) ∧ w.cell? ⟨(ad.add (i.toNat * 4)).block, (ad.add (i.toNat * 4)).off + 3, none⟩ = some (.int .i64 (rd_T24 xs i).f3) := by
  obtain ⟨ad, c, e, _, hK, hc0⟩ := Kd.C_get h z24 i h0 h1
  have hc : ∀ j u, c[j]? = some u → w.cell? (ad.add (i.toNat * 4 + j)) = some u := hc0
  obtain rfl := k24_open hK
  exact ⟨ad, e, hc 0 _ rfl, by rw [← add_field _ _ 1 (by omega)]; exact hc 1 _ rfl, by rw [← add_field _ _ 2 (by omega)]; exact hc 2 _ rfl, by rw [← add_field _ _ 3 (by omega)]; exact hc 3 _ rfl⟩

def ok24 (x : S24) : Prop := (Lit.int .i64 x.f0).wf = true ∧ True ∧ (Lit.int .u64 x.f2).wf = true ∧ (Lit.int .i64 x.f3).wf = true
end Go.Proofs.Ythlhogcnfaiphaa.PA
