/- A function's code run upon plain values, in the operations' own order, and that it is what the machine does: whatever the program (part 1). No condition. -/
import Derived.Below
import Derived.OrdersIn
import Derived.RangeFuncRecord
import Derived.Laws.CopyRow
import Derived.Laws.Rows
import Derived.Laws.StructEq
import Derived.Laws.AppendOwn
import Derived.RangeFuncCalls
import Derived.Laws.OwnMore
import Derived.Laws.Slices
namespace Go.Proofs.YtliiapjinminlaaGreat.Rf
open Go Go.RowKit Go.Proofs
set_option linter.unusedVariables false
set_option linter.unusedSimpArgs false
inductive Ty where
 | int (k : IntKind)
 | bool
 | pair (x y : Ty)
 | list (t : Ty)
 deriving DecidableEq
abbrev Ty.den : Ty -> Type
 | .int _ => Int
 | .bool => Bool
 | .pair x y => x.den × y.den
 | .list t => List t.den
def Ty.size : Ty -> Nat
 | .pair x y => x.size + y.size
 | _ => 1
def All2 {α β : Type} (R : α -> β -> Prop) : List α -> List β -> Prop
 | [], [] => True
 | x :: xs, y :: ys => R x y /\ All2 R xs ys
 | _, _ => False
theorem All2.imp {α β : Type} {R R' : α -> β -> Prop} (h : ∀ x y, R x y -> R' x y) : ∀ {l : List α} {m : List β}, All2 R l m -> All2 R' l m
 | [], [], _ => trivial
 | _ :: _, _ :: _, ⟨a, b⟩ => ⟨h _ _ a, All2.imp h b⟩
theorem All2.length {α β : Type} {R : α -> β -> Prop} : ∀ {l : List α} {m : List β}, All2 R l m -> l.length = m.length
 | [], [], _ => rfl
 | _ :: _, _ :: _, ⟨_, b⟩ => by simp [All2.length b]
theorem All2.get {α β : Type} {R : α -> β -> Prop} : ∀ {l : List α} {m : List β} {n : Nat} {x : α}, All2 R l m -> l[n]? = some x -> ∃ y, m[n]? = some y /\ R x y
 | [], [], _, _, _, h => by simp at h
 | _ :: _, y :: _, 0, _, ⟨a, _⟩, h => ⟨y, rfl, by simp at h; exact h ▸ a⟩
 | _ :: _, _ :: _, n + 1, _, ⟨_, b⟩, h => by simpa using All2.get b (by simpa using h)
theorem All2.append {α β : Type} {R : α -> β -> Prop} : ∀ {l l' : List α} {m m' : List β}, All2 R l m -> All2 R l' m' -> All2 R (l ++ l') (m ++ m')
 | [], _, [], _, _, h => h
 | _ :: _, _, _ :: _, _, ⟨a, b⟩, h => ⟨a, All2.append b h⟩
theorem All2.drop {α β : Type} {R : α -> β -> Prop} (n : Nat) : ∀ {l : List α} {m : List β}, All2 R l m -> All2 R (l.drop n) (m.drop n) := by
 induction n with
 | zero => intro l m h; simpa using h
 | succ n ih =>
  intro l m h
  match l, m, h with
  | [], [], _ => exact trivial
  | _ :: _, _ :: _, ⟨_, b⟩ => simpa using ih b
theorem All2.take {α β : Type} {R : α -> β -> Prop} (n : Nat) : ∀ {l : List α} {m : List β}, All2 R l m -> All2 R (l.take n) (m.take n) := by
 induction n with
 | zero => intro l m _; simp [All2]
 | succ n ih =>
  intro l m h
  match l, m, h with
  | [], [], _ => exact trivial
  | _ :: _, _ :: _, ⟨a, b⟩ => exact ⟨a, ih b⟩
def At (w : World) (g off : Nat) (l : List Value) : Prop :=
 ∃ c e z, w.heap[g]? = some (.cells c e z) /\ ∀ j v, l[j]? = some v -> c[off + j]? = some v
def Holds (w : World) (ok : Nat -> Prop) : (T : Ty) -> T.den -> List Value -> Prop
 | .int k, x, cs => cs = [.int k x]
 | .bool, x, cs => cs = [.bool x]
 | .pair a b, x, cs => ∃ c1 c2, cs = c1 ++ c2 /\ Holds w ok a x.1 c1 /\ Holds w ok b x.2 c2
 | .list t, x, cs => ∃ (A : Option Addr) (cap : Nat) (css : List (List Value)), cs = [.slice A x.length cap] /\ (x.length <= cap /\ x.length <= 9223372036854775807) /\
   All2 (Holds w ok t) x css /\ (x ≠ [] -> ∃ ad, A = some ad /\ ad.spot = none /\ ok ad.block /\ At w ad.block ad.off css.flatten)
theorem Holds.map {w w' : World} {ok ok' : Nat -> Prop} (h : ∀ k c e z, ok k -> w.heap[k]? = some (.cells c e z) -> ok' k /\ w'.heap[k]? = some (.cells c e z)) :
  ∀ (T : Ty) (x : T.den) (cs : List Value), Holds w ok T x cs -> Holds w' ok' T x cs
 | .int _, _, _, H => H
 | .bool, _, _, H => H
 | .pair a b, x, _, ⟨c1, c2, e, h1, h2⟩ => ⟨c1, c2, e, Holds.map h a x.1 c1 h1, Holds.map h b x.2 c2 h2⟩
 | .list t, x, _, ⟨A, cap, css, e, hc, h1, h2⟩ => ⟨A, cap, css, e, hc, All2.imp (fun y d hd => Holds.map h t y d hd) h1, fun hx => by
   obtain ⟨ad, hA, hs, hok, c, e, z, hh, hv⟩ := h2 hx
   obtain ⟨ho, hh'⟩ := h _ _ _ _ hok hh
   exact ⟨ad, hA, hs, ho, c, e, z, hh', hv⟩⟩
theorem Holds.bound {w : World} {ok : Nat -> Prop} {T : Ty} {x : T.den} {cs : List Value} (h : Holds w ok T x cs) : Holds w (fun k => ok k /\ k < w.heap.size) T x cs :=
 Holds.map (fun k c e z hk hh => ⟨⟨hk, (Array.getElem?_eq_some_iff.1 hh).1⟩, hh⟩) T x cs h
theorem Holds.len {w : World} {ok : Nat -> Prop} : ∀ (T : Ty) (x : T.den) (cs : List Value), Holds w ok T x cs -> cs.length = T.size
 | .int _, _, _, h => by simp [h, Ty.size, show _ = _ from h]
 | .bool, _, _, h => by simp [show _ = _ from h, Ty.size]
 | .pair a b, x, _, ⟨c1, c2, e, h1, h2⟩ => by simp [e, Ty.size, Holds.len a x.1 c1 h1, Holds.len b x.2 c2 h2]
 | .list t, x, _, ⟨A, cap, css, e, _⟩ => by simp [e, Ty.size]
theorem tySize_pos : ∀ T : Ty, 0 < T.size
 | .int _ => Nat.one_pos
 | .bool => Nat.one_pos
 | .pair a b => Nat.lt_of_lt_of_le (tySize_pos a) (Nat.le_add_right _ _)
 | .list _ => Nat.one_pos
def mkV : Ty -> List Value -> Value
 | .pair _ _, cs => .agg cs.toArray
 | _, cs => cs.headD undef
def Rep (w : World) (ok : Nat -> Prop) (T : Ty) (x : T.den) (v : Value) : Prop := ∃ cs, Holds w ok T x cs /\ v = mkV T cs
theorem Rep.cells {w : World} {ok : Nat -> Prop} {T : Ty} {x : T.den} {v : Value} (h : Rep w ok T x v) : Holds w ok T x v.cells.toList := by
 obtain ⟨cs, hc, rfl⟩ := h
 cases T with
 | int k => have := (show _ = _ from hc); subst this; exact rfl
 | bool => have := (show _ = _ from hc); subst this; exact rfl
 | pair a b => exact hc
 | list t => obtain ⟨A, cap, css, e, r⟩ := hc; subst e; exact ⟨A, cap, css, rfl, r⟩
theorem Rep.map {w w' : World} {ok ok' : Nat -> Prop} (h : ∀ k c e z, ok k -> w.heap[k]? = some (.cells c e z) -> ok' k /\ w'.heap[k]? = some (.cells c e z))
  {T : Ty} {x : T.den} {v : Value} (hr : Rep w ok T x v) : Rep w' ok' T x v := let ⟨cs, a, b⟩ := hr; ⟨cs, Holds.map h T x cs a, b⟩

def decI (k : IntKind) : List Value -> Option Int
 | [.int k' n] => if k = k' then some n else none
 | _ => none
def decB : List Value -> Option Bool
 | [.bool x] => some x
 | _ => none
def decN {α : Type} : List Value -> Option (List α)
 | [.slice none 0 0] => some []
 | _ => none
def decL : (U : Ty) -> List Value -> Option U.den
 | .int k, cs => decI k cs
 | .bool, cs => decB cs
 | .pair a b, cs => (decL a (cs.take a.size)).bind fun x => (decL b (cs.drop a.size)).bind fun y => some (x, y)
 | .list _, cs => decN cs
theorem decL_holds {w : World} {ok : Nat -> Prop} : ∀ (U : Ty) (cs : List Value) (x : U.den), decL U cs = some x -> Holds w ok U x cs
 | .int k, cs, x, h => by
  have h' : decI k cs = some x := h
  unfold decI at h'
  split at h'
  ·split at h'
   ·rename_i e; subst e; cases h'; exact rfl
   ·cases h'
  ·cases h'
 | .bool, cs, x, h => by
  have h' : decB cs = some x := h
  unfold decB at h'
  split at h'
  ·cases h'; exact rfl
  ·cases h'
 | .pair a b, cs, x, h => by
  simp only [decL, Option.bind_eq_some_iff] at h
  obtain ⟨y, hy, z, hz, e⟩ := h
  cases e
  exact ⟨_, _, (List.take_append_drop a.size cs).symm, decL_holds a _ y hy, decL_holds b _ z hz⟩
 | .list t, cs, x, h => by
  have h' : decN cs = some x := h
  unfold decN at h'
  split at h'
  ·cases h'; exact ⟨none, 0, [], rfl, ⟨Nat.le_refl _, Nat.zero_le _⟩, trivial, fun h => absurd rfl h⟩
  ·cases h'
def decV : (U : Ty) -> Value -> Option U.den
 | .pair a b, .agg cs => decL (.pair a b) cs.toList
 | .pair _ _, _ => none
 | .int k, v => decL (.int k) [v]
 | .bool, v => decL .bool [v]
 | .list t, v => decL (.list t) [v]
theorem decV_rep {w : World} {ok : Nat -> Prop} {U : Ty} {v : Value} {x : U.den} (h : decV U v = some x) : Rep w ok U x v := by
 cases U with
 | int k => exact ⟨[v], decL_holds _ _ _ h, rfl⟩
 | bool => exact ⟨[v], decL_holds _ _ _ h, rfl⟩
 | list t => exact ⟨[v], decL_holds _ _ _ h, rfl⟩
 | pair a b =>
  cases v <;> simp only [decV] at h <;> try cases h
  rename_i cs
  exact ⟨cs.toList, decL_holds _ _ _ h, rfl⟩
def sub : (T : Ty) -> T.den -> Nat -> (U : Ty) -> Option U.den
 | .pair a b, x, off, U => if h : Ty.pair a b = U then (if off = 0 then some (h ▸ x) else none) else if off < a.size then sub a x.1 off U else sub b x.2 (off - a.size) U
 | .int k, x, off, U => if h : Ty.int k = U then (if off = 0 then some (h ▸ x) else none) else none
 | .bool, x, off, U => if h : Ty.bool = U then (if off = 0 then some (h ▸ x) else none) else none
 | .list t, x, off, U => if h : Ty.list t = U then (if off = 0 then some (h ▸ x) else none) else none
def upd : (T : Ty) -> T.den -> Nat -> (U : Ty) -> U.den -> Option T.den
 | .pair a b, x, off, U, y => if h : U = Ty.pair a b then (if off = 0 then some (h ▸ y) else none) else if off < a.size then (upd a x.1 off U y).bind fun z => some (z, x.2)
   else (upd b x.2 (off - a.size) U y).bind fun z => some (x.1, z)
 | .int k, _, off, U, y => if h : U = Ty.int k then (if off = 0 then some (h ▸ y) else none) else none
 | .bool, _, off, U, y => if h : U = Ty.bool then (if off = 0 then some (h ▸ y) else none) else none
 | .list t, _, off, U, y => if h : U = Ty.list t then (if off = 0 then some (h ▸ y) else none) else none
theorem upd_self {w : World} {ok : Nat -> Prop} {T U : Ty} {z : T.den} {y : U.den} {off : Nat} {cs ds : List Value} (h : U = T) (hy : (if off = 0 then some (h ▸ y) else none) = some z)
  (hc : cs.length = T.size) (hd : Holds w ok U y ds) : Holds w ok T z (cs.take off ++ ds ++ cs.drop (off + U.size)) /\ off + U.size <= T.size := by
 subst h
 split at hy
 ·rename_i h0
  cases hy
  subst h0
  rw [List.take_zero, List.nil_append, List.drop_of_length_le (by omega), List.append_nil]
  exact ⟨hd, by omega⟩
 ·cases hy
theorem upd_holds {w : World} {ok : Nat -> Prop} : ∀ (T : Ty) (x : T.den) (off : Nat) (U : Ty) (y : U.den) (z : T.den) (cs ds : List Value),
  upd T x off U y = some z -> Holds w ok T x cs -> Holds w ok U y ds -> Holds w ok T z (cs.take off ++ ds ++ cs.drop (off + U.size)) /\ off + U.size <= T.size
 | .int k, x, off, U, y, z, cs, ds, h, hh, hd => by
  unfold upd at h
  split at h
  ·rename_i e; exact upd_self e h (Holds.len _ _ _ hh) hd
  ·cases h
 | .bool, x, off, U, y, z, cs, ds, h, hh, hd => by
  unfold upd at h
  split at h
  ·rename_i e; exact upd_self e h (Holds.len _ _ _ hh) hd
  ·cases h
 | .list t, x, off, U, y, z, cs, ds, h, hh, hd => by
  unfold upd at h
  split at h
  ·rename_i e; exact upd_self e h (Holds.len _ _ _ hh) hd
  ·cases h
 | .pair a b, x, off, U, y, z, cs, ds, h, hh, hd => by
  unfold upd at h
  split at h
  ·rename_i e; exact upd_self e h (Holds.len _ _ _ hh) hd
  ·obtain ⟨c1, c2, rfl, h1, h2⟩ := hh
   have l1 := Holds.len _ _ _ h1
   have l2 := Holds.len _ _ _ h2
   split at h
   ·simp only [Option.bind_eq_some_iff] at h
    obtain ⟨q, hq, e⟩ := h
    cases e
    obtain ⟨r, hr⟩ := upd_holds a x.1 off U y q c1 ds hq h1 hd
    refine ⟨⟨_, c2, ?_, r, h2⟩, by simp only [Ty.size]; omega⟩
    rw [List.take_append_of_le_length (by omega), List.drop_append_of_le_length (by omega)]
    simp [List.append_assoc]
   ·simp only [Option.bind_eq_some_iff] at h
    obtain ⟨q, hq, e⟩ := h
    cases e
    obtain ⟨r, hr⟩ := upd_holds b x.2 (off - a.size) U y q c2 ds hq h2 hd
    refine ⟨⟨c1, _, ?_, h1, r⟩, by simp only [Ty.size]; omega⟩
    rw [List.take_append, List.take_of_length_le (by omega), l1, List.drop_append, List.drop_of_length_le (by omega), List.nil_append, l1]
    rw [show off + U.size - a.size = off - a.size + U.size by omega]
    simp [List.append_assoc]
def zeroT : (T : Ty) -> T.den
 | .int _ => (0 : Int)
 | .bool => false
 | .pair a b => (zeroT a, zeroT b)
 | .list _ => []

inductive AV where
 | cst (v : Value)
 | v (T : Ty) (x : T.den)
 | ptr (id ver off : Nat)
 | elt (id ver sz i off : Nat)
 | ro (T : Ty) (x : T.den) (off : Nat)
 | arr (id ver : Nat)
 | clo (f : FuncId) (c : AV)
 | yld (k : Nat)
 | pr (a b : AV)
 | nl
 | tup (c : AV)
def Ty.isPair : Ty -> Bool
 | .pair _ _ => true
 | _ => false
structure Mm where
 w : World
 ok : Nat -> Prop
 ρ : Nat -> Value
 cur : Nat -> Option Nat
 lm : Nat -> Option Nat
 rd : Nat -> Prop
def Mm.okv (M : Mm) (k : Nat) : Prop := M.ok k /\ M.rd k
def HoldsA (M : Mm) : AV -> List Value -> Prop
 | .cst v, cs => cs = v.cells.toList /\ ∀ u ∈ cs, u.oneCell' = true
 | .v T x, cs => Holds M.w M.okv T x cs
 | .ptr id ver off, cs => ∃ u, cs = [u] /\ u.oneCell' = true /\ (M.cur id = some ver -> ∃ g, M.ρ id = .pointer (some ⟨g, 0, none⟩) /\ u = .pointer (some ⟨g, off, none⟩))
 | .elt id ver sz i off, cs => ∃ u, cs = [u] /\ u.oneCell' = true /\ (M.cur id = some ver -> ∃ g n c, M.ρ id = .slice (some ⟨g, 0, none⟩) n c /\ u = .pointer (some ⟨g, i * sz + off, none⟩))
 | .ro T x off, cs => ∃ g o ds, cs = [.pointer (some ⟨g, o + off, none⟩)] /\ M.okv g /\ At M.w g o ds /\ Holds M.w M.okv T x ds
 | .arr id ver, cs => ∃ u, cs = [u] /\ u.oneCell' = true /\ (M.cur id = some ver -> u = M.ρ id)
 | .clo f c, cs => ∃ l : List Value, cs = [.func (.func f) #[] l.toArray] /\ HoldsA M c l
 | .yld k, cs => ∃ u, cs = [u] /\ u.oneCell' = true /\ ∀ l, M.lm k = some l -> u = .func (.yield l) #[] #[]
 | .pr a b, cs => ∃ c1 c2, cs = c1 ++ c2 /\ HoldsA M a c1 /\ HoldsA M b c2
 | .nl, cs => cs = []
 | .tup _, _ => False
def mkA : AV -> List Value -> Value
 | .pr _ _, cs => .agg cs.toArray
 | .v T _, cs => mkV T cs
 | .cst v, _ => v
 | _, cs => cs.headD undef
def RepB (M : Mm) : AV -> Value -> Prop
 | .cst v, u => u = v
 | av, u => ∃ cs, HoldsA M av cs /\ u = mkA av cs
def TupA (M : Mm) : AV -> List Value -> Prop
 | .nl, l => l = []
 | .pr a b, l => ∃ u r, l = u :: r /\ RepB M a u /\ TupA M b r
 | _, _ => False
def RepA (M : Mm) : AV -> Value -> Prop
 | .tup c, u => ∃ l, u = .tuple l.toArray /\ TupA M c l
 | av, u => RepB M av u
def AV.size : AV -> Nat
 | .cst u => u.cells.size
 | .v T _ => T.size
 | .pr a b => a.size + b.size
 | .nl => 0
 | _ => 1
def Value.isAgg : Value -> Bool
 | .agg _ => true
 | _ => false
def AV.agg : AV -> Bool
 | .pr _ _ => true
 | .v T _ => T.isPair
 | .cst u => Value.isAgg u
 | _ => false
def AV.fit : AV -> Bool
 | .cst u => u.cells.all (·.oneCell')
 | .nl => false
 | .tup _ => false
 | .pr a b => a.fit && b.fit
 | _ => true
def AV.bd (us : Nat -> Nat) (nl : Nat) : AV -> Bool
 | .ptr id ver _ => Nat.blt ver (us id)
 | .elt id ver _ _ _ => Nat.blt ver (us id)
 | .arr id ver => Nat.blt ver (us id)
 | .yld k => Nat.blt k nl
 | .clo _ c => c.bd us nl
 | .pr a b => a.bd us nl && b.bd us nl
 | .tup c => c.bd us nl
 | _ => true
structure Mm.Ext (M M' : Mm) (us : Nat -> Nat) (nl : Nat) : Prop where
 heap : ∀ k c e z, M.ok k -> M.w.heap[k]? = some (.cells c e z) -> M'.ok k /\ M'.w.heap[k]? = some (.cells c e z)
 cur : ∀ id ver, ver < us id -> M'.cur id = some ver -> M.cur id = some ver /\ M'.ρ id = M.ρ id
 lm : ∀ k l, k < nl -> M'.lm k = some l -> M.lm k = some l
 rd : ∀ k, M.rd k -> M'.rd k
theorem Mm.Ext.heapv {M M' : Mm} {us : Nat -> Nat} {nl : Nat} (h : M.Ext M' us nl) : ∀ k c e z, M.okv k -> M.w.heap[k]? = some (.cells c e z) -> M'.okv k /\ M'.w.heap[k]? = some (.cells c e z) :=
 fun k c e z hk hh => ⟨⟨(h.heap k c e z hk.1 hh).1, h.rd k hk.2⟩, (h.heap k c e z hk.1 hh).2⟩
theorem Mm.Ext.refl (M : Mm) (us : Nat -> Nat) (nl : Nat) : M.Ext M us nl := ⟨fun _ _ _ _ h1 h2 => ⟨h1, h2⟩, fun _ _ _ h => ⟨h, rfl⟩, fun _ _ _ h => h, fun _ h => h⟩
def AV.on (g : Nat -> Bool) : AV -> Bool
 | .ptr id _ _ => g id
 | .elt id _ _ _ _ => g id
 | .arr id _ => g id
 | .clo _ c => c.on g
 | .pr a b => a.on g && b.on g
 | .tup c => c.on g
 | _ => true
theorem AV.on_true : ∀ av : AV, av.on (fun _ => true) = true
 | .ptr _ _ _ => rfl
 | .elt _ _ _ _ _ => rfl
 | .arr _ _ => rfl
 | .clo _ c => AV.on_true c
 | .pr a b => by simp only [AV.on, AV.on_true a, AV.on_true b, Bool.and_self]
 | .tup c => AV.on_true c
 | .cst _ => rfl
 | .v _ _ => rfl
 | .ro _ _ _ => rfl
 | .yld _ => rfl
 | .nl => rfl
structure Mm.ExtV (M M' : Mm) (g : Nat -> Bool) (us : Nat -> Nat) (nl : Nat) : Prop where
 heap : ∀ k c e z, M.okv k -> M.w.heap[k]? = some (.cells c e z) -> M'.okv k /\ M'.w.heap[k]? = some (.cells c e z)
 cur : ∀ id ver, g id = true -> ver < us id -> M'.cur id = some ver -> M.cur id = some ver /\ M'.ρ id = M.ρ id
 lm : ∀ k l, k < nl -> M'.lm k = some l -> M.lm k = some l
theorem Mm.Ext.toV {M M' : Mm} {us : Nat -> Nat} {nl : Nat} (h : M.Ext M' us nl) : M.ExtV M' (fun _ => true) us nl := ⟨h.heapv, fun id ver _ => h.cur id ver, h.lm⟩
section
variable {M M' : Mm} {us : Nat -> Nat} {nl : Nat} {g : Nat -> Bool}
theorem HoldsA.mapV (h : M.ExtV M' g us nl) : ∀ (av : AV) (cs : List Value), av.bd us nl = true -> av.on g = true -> HoldsA M av cs -> HoldsA M' av cs
 | .cst _, _, _, _, H => H
 | .v T x, cs, _, _, H => Holds.map h.heap T x cs H
 | .ptr id ver off, cs, hb, ho, ⟨u, e, h1, h2⟩ => ⟨u, e, h1, fun hc => by
   have hb' : ver < us id := by simpa [AV.bd] using hb
   obtain ⟨h3, h4⟩ := h.cur id ver ho hb' hc
   rw [h4]; exact h2 h3⟩
 | .elt id ver sz i off, cs, hb, ho, ⟨u, e, h1, h2⟩ => ⟨u, e, h1, fun hc => by
   have hb' : ver < us id := by simpa [AV.bd] using hb
   obtain ⟨h3, h4⟩ := h.cur id ver ho hb' hc
   rw [h4]; exact h2 h3⟩
 | .ro T x off, cs, _, _, ⟨g, o, ds, e, hok, ⟨c, el, z, hg, hv⟩, hh⟩ => by
   obtain ⟨h1, h2⟩ := h.heap _ _ _ _ hok hg
   exact ⟨g, o, ds, e, h1, ⟨c, el, z, h2, hv⟩, Holds.map h.heap _ _ _ hh⟩
 | .arr id ver, cs, hb, ho, ⟨u, e, h1, h2⟩ => ⟨u, e, h1, fun hc => by
   have hb' : ver < us id := by simpa [AV.bd] using hb
   obtain ⟨h3, h4⟩ := h.cur id ver ho hb' hc
   rw [h4]; exact h2 h3⟩
 | .clo f c, cs, hb, ho, ⟨l, e, hl⟩ => ⟨l, e, HoldsA.mapV h c l hb ho hl⟩
 | .yld k, cs, hb, _, ⟨u, e, h1, h2⟩ => ⟨u, e, h1, fun l hl => h2 l (h.lm k l (by simpa [AV.bd] using hb) hl)⟩
 | .pr a b, cs, hb, ho, ⟨c1, c2, e, h1, h2⟩ => by
   simp only [AV.bd, Bool.and_eq_true] at hb
   simp only [AV.on, Bool.and_eq_true] at ho
   exact ⟨c1, c2, e, HoldsA.mapV h a c1 hb.1 ho.1 h1, HoldsA.mapV h b c2 hb.2 ho.2 h2⟩
 | .nl, _, _, _, H => H
 | .tup _, _, _, _, H => H
theorem RepB.mapV (h : M.ExtV M' g us nl) {av : AV} {u : Value} (hb : av.bd us nl = true) (ho : av.on g = true) (H : RepB M av u) : RepB M' av u := by
 cases av with
 | cst v => exact H
 | _ => obtain ⟨cs, h1, h2⟩ := H; exact ⟨cs, HoldsA.mapV h _ _ hb ho h1, h2⟩
theorem TupA.mapV (h : M.ExtV M' g us nl) : ∀ (c : AV) (l : List Value), c.bd us nl = true -> c.on g = true -> TupA M c l -> TupA M' c l
 | .nl, _, _, _, H => H
 | .pr a b, l, hb, ho, ⟨u, r, e, h1, h2⟩ => by
  simp only [AV.bd, Bool.and_eq_true] at hb
  simp only [AV.on, Bool.and_eq_true] at ho
  exact ⟨u, r, e, RepB.mapV h hb.1 ho.1 h1, TupA.mapV h b r hb.2 ho.2 h2⟩
 | .cst _, _, _, _, H => H.elim
 | .v _ _, _, _, _, H => H.elim
 | .ptr _ _ _, _, _, _, H => H.elim
 | .elt _ _ _ _ _, _, _, _, H => H.elim
 | .ro _ _ _, _, _, _, H => H.elim
 | .arr _ _, _, _, _, H => H.elim
 | .clo _ _, _, _, _, H => H.elim
 | .yld _, _, _, _, H => H.elim
 | .tup _, _, _, _, H => H.elim
theorem RepA.mapV (h : M.ExtV M' g us nl) {av : AV} {u : Value} (hb : av.bd us nl = true) (ho : av.on g = true) (H : RepA M av u) : RepA M' av u := by
 cases av with
 | tup c => obtain ⟨l, e, hl⟩ := H; exact ⟨l, e, TupA.mapV h c l hb ho hl⟩
 | _ => exact RepB.mapV h hb ho H
theorem HoldsA.map (h : M.Ext M' us nl) (av : AV) (cs : List Value) (hb : av.bd us nl = true) (H : HoldsA M av cs) : HoldsA M' av cs := HoldsA.mapV h.toV av cs hb (AV.on_true av) H
theorem RepB.map (h : M.Ext M' us nl) {av : AV} {u : Value} (hb : av.bd us nl = true) (H : RepB M av u) : RepB M' av u := RepB.mapV h.toV hb (AV.on_true av) H
theorem TupA.map (h : M.Ext M' us nl) (c : AV) (l : List Value) (hb : c.bd us nl = true) (H : TupA M c l) : TupA M' c l := TupA.mapV h.toV c l hb (AV.on_true c) H
theorem RepA.map (h : M.Ext M' us nl) {av : AV} {u : Value} (hb : av.bd us nl = true) (H : RepA M av u) : RepA M' av u := RepA.mapV h.toV hb (AV.on_true av) H
theorem RepA.toB {av : AV} {u : Value} (hf : ∀ c, av ≠ .tup c) (H : RepA M av u) : RepB M av u := by
 cases av with
 | tup c => exact absurd rfl (hf c)
 | _ => exact H
theorem RepB.toA {av : AV} {u : Value} (H : RepB M av u) : RepA M av u := by
 cases av with
 | tup c => obtain ⟨cs, h1, _⟩ := H; exact h1.elim
 | _ => exact H
theorem oneCell_cells {u : Value} (h : u.oneCell' = true) : u.cells = #[u] := by cases u <;> first | rfl | cases h
theorem HoldsA.len : ∀ (av : AV) (cs : List Value), HoldsA M av cs -> cs.length = av.size
 | .cst v, cs, H => by rw [H.1]; simp [AV.size]
 | .v T x, cs, H => Holds.len T x cs H
 | .ptr _ _ _, cs, ⟨u, e, _⟩ => by rw [e]; rfl
 | .elt _ _ _ _ _, cs, ⟨u, e, _⟩ => by rw [e]; rfl
 | .ro _ _ _, cs, ⟨g, o, ds, e, _⟩ => by rw [e]; rfl
 | .arr _ _, cs, ⟨u, e, _⟩ => by rw [e]; rfl
 | .clo _ _, cs, ⟨l, e, _⟩ => by rw [e]; rfl
 | .yld _, cs, ⟨u, e, _⟩ => by rw [e]; rfl
 | .pr a b, cs, ⟨c1, c2, e, h1, h2⟩ => by rw [e, List.length_append, HoldsA.len a c1 h1, HoldsA.len b c2 h2]; rfl
 | .nl, cs, H => by rw [show cs = [] from H]; rfl
 | .tup _, _, H => H.elim
theorem Holds.one {w : World} {ok : Nat -> Prop} : ∀ (T : Ty) (x : T.den) (cs : List Value), Holds w ok T x cs -> ∀ v ∈ cs, v.oneCell' = true
 | .int _, _, _, h, v, hv => by rw [show _ = _ from h] at hv; simp at hv; subst hv; rfl
 | .bool, _, _, h, v, hv => by rw [show _ = _ from h] at hv; simp at hv; subst hv; rfl
 | .pair a b, x, _, ⟨c1, c2, e, h1, h2⟩, v, hv => by
  rw [e, List.mem_append] at hv
  rcases hv with hv | hv
  ·exact Holds.one a x.1 c1 h1 v hv
  ·exact Holds.one b x.2 c2 h2 v hv
 | .list _, _, _, ⟨_, _, _, e, _⟩, v, hv => by rw [e] at hv; simp at hv; subst hv; rfl
theorem HoldsA.one : ∀ (av : AV) (cs : List Value), HoldsA M av cs -> ∀ u ∈ cs, u.oneCell' = true
 | .cst v, cs, H, u, hu => H.2 u hu
 | .v T x, cs, H, u, hu => Holds.one T x cs H u hu
 | .ptr _ _ _, cs, ⟨u, e, h, _⟩, v, hv => by rw [e] at hv; simp at hv; rw [hv]; exact h
 | .elt _ _ _ _ _, cs, ⟨u, e, h, _⟩, v, hv => by rw [e] at hv; simp at hv; rw [hv]; exact h
 | .ro _ _ _, cs, ⟨g, o, ds, e, _⟩, v, hv => by rw [e] at hv; simp at hv; rw [hv]; rfl
 | .arr _ _, cs, ⟨u, e, h, _⟩, v, hv => by rw [e] at hv; simp at hv; rw [hv]; exact h
 | .clo _ _, cs, ⟨l, e, _⟩, v, hv => by rw [e] at hv; simp at hv; rw [hv]; rfl
 | .yld _, cs, ⟨u, e, h, _⟩, v, hv => by rw [e] at hv; simp at hv; rw [hv]; exact h
 | .pr a b, cs, ⟨c1, c2, e, h1, h2⟩, v, hv => by
  rw [e, List.mem_append] at hv
  rcases hv with hv | hv
  ·exact HoldsA.one a c1 h1 v hv
  ·exact HoldsA.one b c2 h2 v hv
 | .nl, cs, H, v, hv => by rw [show cs = [] from H] at hv; cases hv
 | .tup _, _, H, _, _ => H.elim
theorem RepB.cells {av : AV} {u : Value} (H : RepB M av u) (hf : av.fit = true) : HoldsA M av u.cells.toList := by
 cases av with
 | cst v =>
  have e : u = v := H
  subst e
  refine ⟨rfl, fun x hx => ?_⟩
  simp only [AV.fit, Array.all_eq_true'] at hf
  exact hf x (by simpa using hx)
 | v T x => obtain ⟨cs, h1, h2⟩ := H; exact Rep.cells ⟨cs, h1, h2⟩
 | pr a b => obtain ⟨cs, h1, h2⟩ := H; subst h2; exact h1
 | nl => cases hf
 | tup c => cases hf
 | ptr _ _ _ =>
  obtain ⟨cs, ⟨x, e, h1, h3⟩, h2⟩ := H
  have hu : u = x := by rw [h2, e]; rfl
  rw [hu, oneCell_cells h1]; exact ⟨x, rfl, h1, h3⟩
 | elt _ _ _ _ _ =>
  obtain ⟨cs, ⟨x, e, h1, h3⟩, h2⟩ := H
  have hu : u = x := by rw [h2, e]; rfl
  rw [hu, oneCell_cells h1]; exact ⟨x, rfl, h1, h3⟩
 | arr _ _ =>
  obtain ⟨cs, ⟨x, e, h1, h3⟩, h2⟩ := H
  have hu : u = x := by rw [h2, e]; rfl
  rw [hu, oneCell_cells h1]; exact ⟨x, rfl, h1, h3⟩
 | yld _ =>
  obtain ⟨cs, ⟨x, e, h1, h3⟩, h2⟩ := H
  have hu : u = x := by rw [h2, e]; rfl
  rw [hu, oneCell_cells h1]; exact ⟨x, rfl, h1, h3⟩
 | ro _ _ _ =>
  obtain ⟨cs, ⟨g, o, ds, e, r⟩, h2⟩ := H
  subst e; subst h2
  exact ⟨g, o, ds, rfl, r⟩
 | clo _ _ =>
  obtain ⟨cs, ⟨l, e, r⟩, h2⟩ := H
  subst e; subst h2
  exact ⟨l, rfl, r⟩
theorem HoldsA.rep {av : AV} {cs : List Value} (H : HoldsA M av cs) : RepB M av (mkA av cs) := by
 cases av with
 | cst v => exact rfl
 | _ => exact ⟨cs, H, rfl⟩
theorem HoldsA.mk {av : AV} {cs : List Value} (H : HoldsA M av cs) (hf : av.fit = true) : mkA av cs = if av.agg = true then .agg cs.toArray else cs.headD undef := by
 cases av with
 | pr a b => rfl
 | v T x => cases T <;> rfl
 | cst v =>
  obtain ⟨e, h1⟩ := H
  subst e
  cases v <;> first | rfl | (simp [mkA, AV.agg, Value.isAgg, Value.cells])
 | nl => cases hf
 | _ => rfl
def subS : (T : Ty) -> T.den -> Nat -> Nat -> Option AV
 | .pair A B, x, off, n => if off = 0 /\ n = A.size + B.size then some (.v (.pair A B) x) else if off + n <= A.size then subS A x.1 off n else if A.size <= off then subS B x.2 (off - A.size) n else none
 | .int k, x, off, n => if off = 0 /\ n = 1 then some (.v (.int k) x) else none
 | .bool, x, off, n => if off = 0 /\ n = 1 then some (.v .bool x) else none
 | .list t, x, off, n => if off = 0 /\ n = 1 then some (.v (.list t) x) else none
def subC (cs : Array Value) (off n : Nat) : Option AV :=
 if off + n <= cs.size then (if n = 1 then (cs[off]?).map .cst else some (.cst (.agg (cs.extract off (off + n))))) else none
def subA : AV -> Nat -> Nat -> Option AV
 | .pr a b, off, n => if off = 0 /\ n = a.size + b.size then some (.pr a b) else if off + n <= a.size then subA a off n else if a.size <= off then subA b (off - a.size) n else none
 | .v T x, off, n => subS T x off n
 | .cst v, off, n => if off = 0 /\ n = v.cells.size then some (.cst v) else subC v.cells off n
 | av, off, n => if off = 0 /\ n = av.size then some av else none
theorem take_all {cs : List Value} {n : Nat} (h : cs.length = n) : (cs.drop 0).take n = cs := by
 rw [List.drop_zero, List.take_of_length_le (by omega)]
theorem subS_holds : ∀ (T : Ty) (x : T.den) (off n : Nat) (av : AV) (cs : List Value), subS T x off n = some av -> Holds M.w M.okv T x cs -> HoldsA M av ((cs.drop off).take n) /\ off + n <= cs.length
 | .int k, x, off, n, av, cs, h, hh => by
  unfold subS at h
  split at h
  ·rename_i e; obtain ⟨rfl, rfl⟩ := e; cases h
   have hl : cs.length = 1 := Holds.len _ _ _ hh
   exact ⟨by rw [take_all hl]; exact hh, by omega⟩
  ·cases h
 | .bool, x, off, n, av, cs, h, hh => by
  unfold subS at h
  split at h
  ·rename_i e; obtain ⟨rfl, rfl⟩ := e; cases h
   have hl : cs.length = 1 := Holds.len _ _ _ hh
   exact ⟨by rw [take_all hl]; exact hh, by omega⟩
  ·cases h
 | .list t, x, off, n, av, cs, h, hh => by
  unfold subS at h
  split at h
  ·rename_i e; obtain ⟨rfl, rfl⟩ := e; cases h
   have hl : cs.length = 1 := Holds.len _ _ _ hh
   exact ⟨by rw [take_all hl]; exact hh, by omega⟩
  ·cases h
 | .pair A B, x, off, n, av, cs, h, hh => by
  have hl : cs.length = A.size + B.size := Holds.len _ _ _ hh
  unfold subS at h
  split at h
  ·rename_i e; obtain ⟨rfl, rfl⟩ := e; cases h
   exact ⟨by rw [take_all hl]; exact hh, by omega⟩
  ·obtain ⟨c1, c2, rfl, h1, h2⟩ := hh
   have l1 := Holds.len _ _ _ h1
   have l2 := Holds.len _ _ _ h2
   split at h
   ·obtain ⟨r, hr⟩ := subS_holds A x.1 off n av c1 h h1
    refine ⟨?_, by simp; omega⟩
    rw [List.drop_append_of_le_length (by omega), List.take_append_of_le_length (by simp; omega)]
    exact r
   ·split at h
    ·obtain ⟨r, hr⟩ := subS_holds B x.2 (off - A.size) n av c2 h h2
     refine ⟨?_, by simp; omega⟩
     rw [List.drop_append, List.drop_of_length_le (by omega), List.nil_append, l1]
     exact r
    ·cases h
theorem subA_one {av av' : AV} {off n : Nat} {cs : List Value} (hl : HoldsA M av cs) (h : (if off = 0 /\ n = av.size then some av else none) = some av') :
  HoldsA M av' ((cs.drop off).take n) /\ off + n <= cs.length := by
 split at h
 ·rename_i e; obtain ⟨rfl, rfl⟩ := e; cases h
  have := HoldsA.len _ _ hl
  exact ⟨by rw [take_all this]; exact hl, by omega⟩
 ·cases h
theorem subA_holds : ∀ (av : AV) (off n : Nat) (av' : AV) (cs : List Value), subA av off n = some av' -> HoldsA M av cs -> HoldsA M av' ((cs.drop off).take n) /\ off + n <= cs.length
 | .pr a b, off, n, av', cs, h, hh => by
  have hl := HoldsA.len _ _ hh
  unfold subA at h
  split at h
  ·rename_i e; obtain ⟨rfl, rfl⟩ := e; cases h
   exact ⟨by rw [take_all (show cs.length = a.size + b.size from hl)]; exact hh, by rw [hl]; simp [AV.size]⟩
  ·obtain ⟨c1, c2, rfl, h1, h2⟩ := hh
   have l1 := HoldsA.len _ _ h1
   have l2 := HoldsA.len _ _ h2
   split at h
   ·obtain ⟨r, hr⟩ := subA_holds a off n av' c1 h h1
    refine ⟨?_, by simp; omega⟩
    rw [List.drop_append_of_le_length (by omega), List.take_append_of_le_length (by simp; omega)]
    exact r
   ·split at h
    ·obtain ⟨r, hr⟩ := subA_holds b (off - a.size) n av' c2 h h2
     refine ⟨?_, by simp; omega⟩
     rw [List.drop_append, List.drop_of_length_le (by omega), List.nil_append, l1]
     exact r
    ·cases h
 | .v T x, off, n, av', cs, h, hh => subS_holds T x off n av' cs h hh
 | .cst v, off, n, av', cs, h, hh => by
  unfold subA at h
  split at h
  ·rename_i e; obtain ⟨rfl, rfl⟩ := e; cases h
   have := HoldsA.len _ _ hh
   exact ⟨by rw [take_all (show cs.length = v.cells.size from this)]; exact hh, by rw [this]; simp [AV.size]⟩
  ·obtain ⟨e, h1⟩ := hh
   subst e
   unfold subC at h
   split at h
   ·rename_i hle
    refine ⟨?_, by simpa using hle⟩
    split at h
    ·rename_i e1
     subst e1
     rw [Option.map_eq_some_iff] at h
     obtain ⟨u, hu, e⟩ := h
     subst e
     have h2 : (v.cells.toList.drop off).take 1 = [u] := by
      obtain ⟨hlt, hv⟩ := Array.getElem?_eq_some_iff.1 hu
      rw [List.drop_eq_getElem_cons (by simpa using hlt)]
      simp [hv]
     rw [h2]
     have hone : u.oneCell' = true := h1 u (by simpa using Array.mem_of_getElem? hu)
     refine ⟨by rw [oneCell_cells hone], fun x hx => ?_⟩
     simp at hx; rw [hx]; exact hone
    ·cases h
     refine ⟨?_, fun x hx => h1 x (List.mem_of_mem_drop (List.mem_of_mem_take hx))⟩
     simp [Value.cells]
   ·cases h
 | .ptr id ver o, off, n, av', cs, h, hh => subA_one hh h
 | .elt id ver sz i o, off, n, av', cs, h, hh => subA_one hh h
 | .ro T x o, off, n, av', cs, h, hh => subA_one hh h
 | .arr id ver, off, n, av', cs, h, hh => subA_one hh h
 | .clo f c, off, n, av', cs, h, hh => subA_one hh h
 | .yld k, off, n, av', cs, h, hh => subA_one hh h
 | .nl, off, n, av', cs, h, hh => subA_one hh h
 | .tup c, off, n, av', cs, h, hh => hh.elim
def updS : (T : Ty) -> T.den -> Nat -> AV -> Option AV
 | .pair A B, x, off, y => if off = 0 /\ y.size = A.size + B.size then some y else if off + y.size <= A.size then (updS A x.1 off y).map fun z => .pr z (.v B x.2)
   else if A.size <= off then (updS B x.2 (off - A.size) y).map fun z => .pr (.v A x.1) z else none
 | _, _, off, y => if off = 0 /\ y.size = 1 then some y else none
def updA : AV -> Nat -> AV -> Option AV
 | .pr a b, off, y => if off = 0 /\ y.size = a.size + b.size then some y else if off + y.size <= a.size then (updA a off y).map fun z => .pr z b
   else if a.size <= off then (updA b (off - a.size) y).map fun z => .pr a z else none
 | .v T x, off, y => updS T x off y
 | av, off, y => if off = 0 /\ y.size = av.size then some y else none
theorem upd_all {av y : AV} {cs ds : List Value} {n : Nat} (hc : cs.length = n) (hd : HoldsA M y ds) (hy : y.size = n) : HoldsA M y (cs.take 0 ++ ds ++ cs.drop (0 + y.size)) /\ 0 + y.size <= cs.length := by
 have := HoldsA.len _ _ hd
 refine ⟨?_, by omega⟩
 rw [List.take_zero, List.nil_append, List.drop_of_length_le (by omega), List.append_nil]
 exact hd
theorem updS_holds : ∀ (T : Ty) (x : T.den) (off : Nat) (y z : AV) (cs ds : List Value), updS T x off y = some z -> Holds M.w M.okv T x cs -> HoldsA M y ds ->
  HoldsA M z (cs.take off ++ ds ++ cs.drop (off + y.size)) /\ off + y.size <= cs.length
 | .int k, x, off, y, z, cs, ds, h, hh, hd => by
  unfold updS at h
  split at h
  ·rename_i e; obtain ⟨rfl, e⟩ := e; cases h
   exact upd_all (av := y) (Holds.len _ _ _ hh) hd e
  ·cases h
 | .bool, x, off, y, z, cs, ds, h, hh, hd => by
  unfold updS at h
  split at h
  ·rename_i e; obtain ⟨rfl, e⟩ := e; cases h
   exact upd_all (av := y) (Holds.len _ _ _ hh) hd e
  ·cases h
 | .list k, x, off, y, z, cs, ds, h, hh, hd => by
  unfold updS at h
  split at h
  ·rename_i e; obtain ⟨rfl, e⟩ := e; cases h
   exact upd_all (av := y) (Holds.len _ _ _ hh) hd e
  ·cases h
 | .pair A B, x, off, y, z, cs, ds, h, hh, hd => by
  unfold updS at h
  split at h
  ·rename_i e; obtain ⟨rfl, e⟩ := e; cases h
   exact upd_all (av := y) (Holds.len _ _ _ hh) hd e
  ·obtain ⟨c1, c2, rfl, h1, h2⟩ := hh
   have l1 := Holds.len _ _ _ h1
   have l2 := Holds.len _ _ _ h2
   split at h
   ·rw [Option.map_eq_some_iff] at h
    obtain ⟨q, hq, e⟩ := h
    subst e
    obtain ⟨r, hr⟩ := updS_holds A x.1 off y q c1 ds hq h1 hd
    refine ⟨⟨_, c2, ?_, r, h2⟩, by simp; omega⟩
    rw [List.take_append_of_le_length (by omega), List.drop_append_of_le_length (by omega)]
    simp [List.append_assoc]
   ·split at h
    ·rw [Option.map_eq_some_iff] at h
     obtain ⟨q, hq, e⟩ := h
     subst e
     obtain ⟨r, hr⟩ := updS_holds B x.2 (off - A.size) y q c2 ds hq h2 hd
     refine ⟨⟨c1, _, ?_, h1, r⟩, by simp; omega⟩
     rw [List.take_append, List.take_of_length_le (by omega), l1, List.drop_append, List.drop_of_length_le (by omega), List.nil_append, l1]
     rw [show off + y.size - A.size = off - A.size + y.size by omega]
     simp [List.append_assoc]
    ·cases h
theorem updA_one {av y z : AV} {off : Nat} {cs ds : List Value} (hl : HoldsA M av cs) (hd : HoldsA M y ds) (h : (if off = 0 /\ y.size = av.size then some y else none) = some z) :
  HoldsA M z (cs.take off ++ ds ++ cs.drop (off + y.size)) /\ off + y.size <= cs.length := by
 split at h
 ·rename_i e; obtain ⟨rfl, e⟩ := e; cases h
  exact upd_all (av := y) (HoldsA.len _ _ hl) hd e
 ·cases h
theorem updA_holds : ∀ (av : AV) (off : Nat) (y z : AV) (cs ds : List Value), updA av off y = some z -> HoldsA M av cs -> HoldsA M y ds ->
  HoldsA M z (cs.take off ++ ds ++ cs.drop (off + y.size)) /\ off + y.size <= cs.length
 | .pr a b, off, y, z, cs, ds, h, hh, hd => by
  have hl := HoldsA.len _ _ hh
  unfold updA at h
  split at h
  ·rename_i e; obtain ⟨rfl, e⟩ := e; cases h
   exact upd_all (av := y) hl hd e
  ·obtain ⟨c1, c2, rfl, h1, h2⟩ := hh
   have l1 := HoldsA.len _ _ h1
   have l2 := HoldsA.len _ _ h2
   split at h
   ·rw [Option.map_eq_some_iff] at h
    obtain ⟨q, hq, e⟩ := h
    subst e
    obtain ⟨r, hr⟩ := updA_holds a off y q c1 ds hq h1 hd
    refine ⟨⟨_, c2, ?_, r, h2⟩, by simp; omega⟩
    rw [List.take_append_of_le_length (by omega), List.drop_append_of_le_length (by omega)]
    simp [List.append_assoc]
   ·split at h
    ·rw [Option.map_eq_some_iff] at h
     obtain ⟨q, hq, e⟩ := h
     subst e
     obtain ⟨r, hr⟩ := updA_holds b (off - a.size) y q c2 ds hq h2 hd
     refine ⟨⟨c1, _, ?_, h1, r⟩, by simp; omega⟩
     rw [List.take_append, List.take_of_length_le (by omega), l1, List.drop_append, List.drop_of_length_le (by omega), List.nil_append, l1]
     rw [show off + y.size - a.size = off - a.size + y.size by omega]
     simp [List.append_assoc]
    ·cases h
 | .v T x, off, y, z, cs, ds, h, hh, hd => updS_holds T x off y z cs ds h hh hd
 | .cst v, off, y, z, cs, ds, h, hh, hd => updA_one hh hd h
 | .ptr id ver o, off, y, z, cs, ds, h, hh, hd => updA_one hh hd h
 | .elt id ver sz i o, off, y, z, cs, ds, h, hh, hd => updA_one hh hd h
 | .ro T x o, off, y, z, cs, ds, h, hh, hd => updA_one hh hd h
 | .arr id ver, off, y, z, cs, ds, h, hh, hd => updA_one hh hd h
 | .clo f c, off, y, z, cs, ds, h, hh, hd => updA_one hh hd h
 | .yld k, off, y, z, cs, ds, h, hh, hd => updA_one hh hd h
 | .nl, off, y, z, cs, ds, h, hh, hd => updA_one hh hd h
 | .tup c, off, y, z, cs, ds, h, hh, hd => hh.elim
end

inductive Box where
 | cells (ver : Nat) (av : AV)
 | arr (ver : Nat) (e : TypeId) (T : Ty) (l : List T.den)
def Box.ver : Box -> Nat
 | .cells ver _ => ver
 | .arr ver _ _ _ => ver
inductive Jmp where
 | ret
 | exit (id : Nat)
 | busy
def Jmp.code : Jmp -> Code
 | .ret => .ret
 | .exit id => .exit id
 | .busy => .skip
structure St where
 tm : Nat -> Nat -> Option AV
 bx : Nat -> Option Box
 us : Nat -> Nat
 nl : Nat
 jp : Nat -> Option Jmp
structure Octx where
 w0 : World
 ok0 : Nat -> Prop
 ups : List (Nat × Array Value)
 lps : List (Nat × Nat × Loop)
 keep : List (Nat × Obj)
 rd : Nat -> Prop
 fz : List (Nat × Obj)
def Octx.lm (O : Octx) (k : Nat) : Option Nat := ((O.lps.find? fun q => q.1 == k)).map fun q => q.2.1
def refB : Value -> Option Nat
 | .pointer (some a) => some a.block
 | .slice (some a) _ _ => some a.block
 | _ => none
def frS (O : Octx) (ρ : Nat -> Value) (bx : Nat -> Option Box) (k : Nat) : Prop := (O.ok0 k \/ O.w0.heap.size <= k) /\ ∀ id, (bx id).isSome = true -> refB (ρ id) ≠ some k
def okS (O : Octx) (ρ : Nat -> Value) (bx : Nat -> Option Box) (k : Nat) : Prop := frS O ρ bx k /\ O.rd k
def mem (O : Octx) (ρ : Nat -> Value) (bx : Nat -> Option Box) (w : World) : Mm := ⟨w, frS O ρ bx, ρ, fun id => (bx id).map Box.ver, O.lm, O.rd⟩
def BoxOK (O : Octx) (ρ : Nat -> Value) (bx : Nat -> Option Box) (w : World) (us : Nat -> Nat) (nl id : Nat) : Box -> Prop
 | .cells ver av => ver < us id /\ av.bd us nl = true /\ ∃ g cs e, ρ id = .pointer (some ⟨g, 0, none⟩) /\ O.w0.heap.size <= g /\ w.heap[g]? = some (.cells cs e (0, 0)) /\ HoldsA (mem O ρ bx w) av cs.toList
 | .arr ver e T l => ver < us id /\ ∃ css, All2 (Holds w (okS O ρ bx) T) l css /\ w.ownsRow O.w0.heap.size e T.size (ρ id) l.length css.flatten
def loopAt (r : Loop) : Option Jmp -> Obj
 | none => .loop { r with state := .ready, pending := none }
 | some .busy => .loop { r with state := .busy, pending := none }
 | some j => .loop { r with state := .done, pending := some j.code }
structure RelO (O : Octx) (ρ : Nat -> Value) (s : St) (w : World) : Prop where
 up : ∀ p ∈ O.ups, ∀ t av, s.tm p.1 t = some av -> av.bd s.us s.nl = true /\ RepA (mem O ρ s.bx w) av (p.2.getD t undef)
 bx : ∀ id B, s.bx id = some B -> BoxOK O ρ s.bx w s.us s.nl id B
 inj : ∀ i j k, (s.bx i).isSome = true -> (s.bx j).isSome = true -> refB (ρ i) = some k -> refB (ρ j) = some k -> i = j
 below : Below O.w0.heap.size O.w0 w
 lps : ∀ q ∈ O.lps, w.heap[q.2.1]? = some (loopAt q.2.2 (s.jp q.1)) /\ O.w0.heap.size <= q.2.1
 keep : ∀ q ∈ O.keep, w.heap[q.1]? = some q.2 /\ q.2.isCells = false /\ O.w0.heap.size <= q.1
 brd : ∀ i k, (s.bx i).isSome = true -> refB (ρ i) = some k -> O.rd k
 rdf : ∀ k, w.heap.size <= k -> O.rd k
 fz : ∀ q ∈ O.fz, w.heap[q.1]? = some q.2 /\ q.2.isCells = true /\ frS O ρ s.bx q.1
def mark (D : Nat) : Deferred := { target := .collected D, args := #[] }
structure RelC (b n : Nat) (O : Octx) (ρ : Nat -> Value) (s : St) (a : Act) (w : World) : Prop extends RelO O ρ s w where
 fresh : ∀ p ∈ O.ups, p.1 ≠ b
 size : a.tmps.size = n
 tm : ∀ t av, s.tm b t = some av -> av.bd s.us s.nl = true /\ RepA (mem O ρ s.bx w) av (a.tmps.getD t undef)
 defers : ∃ Ds : List Nat, a.defers = Ds.map mark /\ Ds.Nodup /\ ∀ D ∈ Ds, w.heap[D]? = some (.deferred (some [])) /\ O.w0.heap.size <= D /\ (∀ q ∈ O.lps, q.2.1 ≠ D) /\ ∀ q ∈ O.keep, q.1 ≠ D
def Rel (b n : Nat) (O : Octx) (s : St) (a : Act) (w : World) : Prop := ∃ ρ, RelC b n O ρ s a w
theorem bif_beq {α : Type} {t d : Nat} {x y : α} : (bif Nat.beq t d then x else y) = if t = d then x else y := by
 by_cases h : t = d
 ·rw [if_pos h, h, Nat.beq_refl]; rfl
 ·rw [if_neg h, Bool.eq_false_iff.2 (fun e => h (Nat.eq_of_beq_eq_true e))]; rfl
def St.put (s : St) (b d : Nat) (av : AV) : St := { s with tm := fun f t => bif Nat.beq t d && Nat.beq f b then some av else s.tm f t }
theorem St.put_tm {s : St} {b d f t : Nat} {av : AV} : (s.put b d av).tm f t = if t = d /\ f = b then some av else s.tm f t := by
 simp only [St.put]
 by_cases h1 : t = d <;> by_cases h2 : f = b
 ·subst h1; subst h2; simp
 ·have : Nat.beq f b = false := Bool.eq_false_iff.2 fun e => h2 (Nat.eq_of_beq_eq_true e)
  simp [h2, this]
 ·have : Nat.beq t d = false := Bool.eq_false_iff.2 fun e => h1 (Nat.eq_of_beq_eq_true e)
  simp [h1, this]
 ·have : Nat.beq t d = false := Bool.eq_false_iff.2 fun e => h1 (Nat.eq_of_beq_eq_true e)
  simp [h1, this]
section
variable {b n : Nat} {O : Octx} {ρ ρ' : Nat -> Value} {s s' : St} {a : Act} {w w' : World}
theorem getD_set_self {xs : Array Value} {d : Nat} {v : Value} (h : d < xs.size) : (xs.setIfInBounds d v).getD d undef = v := by
 simp [h]
theorem getD_set_other {xs : Array Value} {d t : Nat} {v : Value} (h : d ≠ t) : (xs.setIfInBounds d v).getD t undef = xs.getD t undef := by
 simp [Array.getElem?_setIfInBounds_ne h]
theorem RelC.put (h : RelC b n O ρ s a w) {d : Nat} {av : AV} {v : Value} (hd : d < n) (hb : av.bd s.us s.nl = true) (hr : RepA (mem O ρ s.bx w) av v) : RelC b n O ρ (s.put b d av) (a.put (some d) v) w where
 up := fun p hp t av' ht => by
  rw [St.put_tm, if_neg (fun e => h.fresh p hp e.2)] at ht
  exact h.up p hp t av' ht
 bx := h.bx
 inj := h.inj
 below := h.below
 lps := h.lps
 keep := h.keep
 brd := h.brd
 rdf := h.rdf
 fz := h.fz
 fresh := h.fresh
 size := by simp [Act.put, h.size]
 tm := fun t av' ht => by
  rw [St.put_tm] at ht
  simp only [Act.put]
  split at ht
  ·rename_i e
   obtain ⟨rfl, _⟩ := e
   cases ht
   rw [getD_set_self (by rw [h.size]; exact hd)]
   exact ⟨hb, hr⟩
  ·rename_i e
   rw [getD_set_other (fun e' => e ⟨e'.symm, rfl⟩)]
   exact h.tm t av' ht
 defers := h.defers
structure Step (O : Octx) (ρ ρ' : Nat -> Value) (bx bx' : Nat -> Option Box) (us us' : Nat -> Nat) (nl : Nat) (w w' : World) : Prop where
 ext : (mem O ρ bx w).Ext (mem O ρ' bx' w') us nl
 us : ∀ id, us id <= us' id
 brd : ∀ i k, (bx' i).isSome = true -> refB (ρ' i) = some k -> (∃ j, (bx j).isSome = true /\ refB (ρ j) = some k) \/ w.heap.size <= k
 bx : ∀ id B, bx' id = some B -> BoxOK O ρ' bx' w' us' nl id B
 inj : ∀ i j k, (bx' i).isSome = true -> (bx' j).isSome = true -> refB (ρ' i) = some k -> refB (ρ' j) = some k -> i = j
 below : Below O.w0.heap.size w w'
 objs : ∀ (k : Nat) (o : Obj), w.heap[k]? = some o -> o.isCells = false -> w'.heap[k]? = some o
theorem AV.bd_mono {us us' : Nat -> Nat} {nl : Nat} (h : ∀ id, us id <= us' id) : ∀ (av : AV), av.bd us nl = true -> av.bd us' nl = true
 | .ptr id ver _, hb => by simp only [AV.bd, Nat.blt_eq] at *; exact Nat.lt_of_lt_of_le hb (h id)
 | .elt id ver _ _ _, hb => by simp only [AV.bd, Nat.blt_eq] at *; exact Nat.lt_of_lt_of_le hb (h id)
 | .arr id ver, hb => by simp only [AV.bd, Nat.blt_eq] at *; exact Nat.lt_of_lt_of_le hb (h id)
 | .yld k, hb => hb
 | .clo f c, hb => AV.bd_mono h c hb
 | .tup c, hb => AV.bd_mono h c hb
 | .pr x y, hb => by simp only [AV.bd, Bool.and_eq_true] at *; exact ⟨AV.bd_mono h x hb.1, AV.bd_mono h y hb.2⟩
 | .cst _, _ => rfl
 | .v _ _, _ => rfl
 | .ro _ _ _, _ => rfl
 | .nl, _ => rfl
theorem loopAt_notCells (r : Loop) (j : Option Jmp) : (loopAt r j).isCells = false := by
 cases j with
 | none => rfl
 | some j => cases j <;> rfl
theorem RelO.move (h : RelO O ρ s w) {bx' : Nat -> Option Box} {us' : Nat -> Nat} (hs : Step O ρ ρ' s.bx bx' s.us us' s.nl w w') : RelO O ρ' { s with bx := bx', us := us' } w' where
 up := fun p hp t av ht => by
  obtain ⟨h1, h2⟩ := h.up p hp t av ht
  exact ⟨AV.bd_mono hs.us av h1, RepA.map hs.ext h1 h2⟩
 bx := hs.bx
 inj := hs.inj
 below := h.below.trans hs.below
 lps := fun q hq => ⟨hs.objs _ _ (h.lps q hq).1 (loopAt_notCells _ _), (h.lps q hq).2⟩
 keep := fun q hq => ⟨hs.objs _ _ (h.keep q hq).1 (h.keep q hq).2.1, (h.keep q hq).2⟩
 brd := fun i k hi hk => by
  rcases hs.brd i k hi hk with ⟨j, h1, h2⟩ | h1
  ·exact h.brd j k h1 h2
  ·exact h.rdf k h1
 rdf := fun k hk => h.rdf k (Nat.le_trans hs.below.size hk)
 fz := fun q hq => by
  obtain ⟨h1, h2, h3⟩ := h.fz q hq
  obtain ⟨k, o⟩ := q
  cases o <;> first | (cases h2; done) | skip
  rename_i c e z
  obtain ⟨h4, h5⟩ := hs.ext.heap k c e z h3 h1
  exact ⟨h5, h2, h4⟩
theorem RelC.move (h : RelC b n O ρ s a w) {bx' : Nat -> Option Box} {us' : Nat -> Nat} (hs : Step O ρ ρ' s.bx bx' s.us us' s.nl w w') : RelC b n O ρ' { s with bx := bx', us := us' } a w' where
 toRelO := h.toRelO.move hs
 fresh := h.fresh
 size := h.size
 tm := fun t av ht => by
  obtain ⟨h1, h2⟩ := h.tm t av ht
  exact ⟨AV.bd_mono hs.us av h1, RepA.map hs.ext h1 h2⟩
 defers := by
  obtain ⟨Ds, h1, h2, h3⟩ := h.defers
  exact ⟨Ds, h1, h2, fun D hD => ⟨hs.objs _ _ (h3 D hD).1 rfl, (h3 D hD).2⟩⟩
theorem ownsRow_step {w w' : World} {base : Nat} {e : TypeId} {size : Nat} {v : Value} {n : Nat} {xs : List Value} (h : w.ownsRow base e size v n xs) (hb : ∀ k, refB v = some k -> w'.heap[k]? = w.heap[k]?) : w'.ownsRow base e size v n xs := by
 refine ⟨h.1, ?_⟩
 rcases h.2 with h2 | ⟨g, cap, cur, rfl, h1, h2, h3⟩
 ·exact .inl h2
 ·exact .inr ⟨g, cap, cur, rfl, h1, by rw [hb g rfl]; exact h2, h3⟩
theorem ownsRow_refB {w : World} {base : Nat} {e : TypeId} {size : Nat} {v : Value} {n : Nat} {xs : List Value} (h : w.ownsRow base e size v n xs) {k : Nat} (hk : refB v = some k) :
  base <= k /\ ∃ cur, w.heap[k]? = some (.cells cur e (0, 0)) := by
 rcases h.2 with ⟨rfl, _⟩ | ⟨g, cap, cur, rfl, h1, h2, _⟩
 ·cases hk
 ·have : g = k := Option.some.inj hk
  subst this
  exact ⟨h1, cur, h2⟩
theorem BoxOK.block {us : Nat -> Nat} {nl id : Nat} {bx : Nat -> Option Box} {B : Box} (h : BoxOK O ρ bx w us nl id B) {k : Nat} (hk : refB (ρ id) = some k) : O.w0.heap.size <= k /\ ∃ cs e, w.heap[k]? = some (.cells cs e (0, 0)) := by
 cases B with
 | cells ver av =>
  obtain ⟨_, _, g, cs, e, h1, h2, h3, _⟩ := h
  rw [h1] at hk
  have : g = k := Option.some.inj hk
  subst this
  exact ⟨h2, cs, e, h3⟩
 | arr ver e T l =>
  obtain ⟨_, css, _, h2⟩ := h
  obtain ⟨h3, cur, h4⟩ := ownsRow_refB h2 hk
  exact ⟨h3, cur, e, h4⟩
theorem RelO.lt (h : RelO O ρ s w) {id : Nat} {B : Box} (hB : s.bx id = some B) {k : Nat} (hk : refB (ρ id) = some k) : k < w.heap.size := by
 obtain ⟨_, cs, e, h1⟩ := (h.bx id B hB).block hk
 exact (Array.getElem?_eq_some_iff.1 h1).1
theorem RelO.ver (h : RelO O ρ s w) {id : Nat} {B : Box} (hB : s.bx id = some B) : B.ver < s.us id := by
 have := h.bx id B hB
 cases B with
 | cells ver av => exact this.1
 | arr ver e T l => exact this.1
theorem BoxOK.keep {bx bx' : Nat -> Option Box} {us us' : Nat -> Nat} {nl id : Nat} {B : Box} (h : BoxOK O ρ bx w us nl id B) (he : (mem O ρ bx w).Ext (mem O ρ' bx' w') us nl) (hu : ∀ i, us i <= us' i) (hρ : ρ' id = ρ id)
  (hk : ∀ k, refB (ρ id) = some k -> w'.heap[k]? = w.heap[k]?) : BoxOK O ρ' bx' w' us' nl id B := by
 cases B with
 | cells ver av =>
  obtain ⟨h1, h2, g, cs, e, h3, h4, h5, h6⟩ := h
  exact ⟨Nat.lt_of_lt_of_le h1 (hu id), AV.bd_mono hu av h2, g, cs, e, by rw [hρ, h3], h4, by rw [hk g (by rw [h3]; rfl)]; exact h5, HoldsA.map he _ _ h2 h6⟩
 | arr ver e T l =>
  obtain ⟨h1, css, h2, h3⟩ := h
  exact ⟨Nat.lt_of_lt_of_le h1 (hu id), css, All2.imp (fun x c hc => Holds.map he.heapv _ _ _ hc) h2, by rw [hρ]; exact ownsRow_step h3 hk⟩
theorem RelO.same (h : RelO O ρ s w) (hb : Below w.heap.size w w') : Step O ρ ρ s.bx s.bx s.us s.us s.nl w w' := by
 have hext : (mem O ρ s.bx w).Ext (mem O ρ s.bx w') s.us s.nl := ⟨fun k c e z hk hh => ⟨hk, by
  show w'.heap[k]? = _
  rw [hb.block k (Array.getElem?_eq_some_iff.1 hh).1]; exact hh⟩, fun _ _ _ hc => ⟨hc, rfl⟩, fun _ _ _ h => h, fun _ h => h⟩
 refine ⟨hext, fun _ => Nat.le_refl _, fun i k hi hk => .inl ⟨i, hi, hk⟩, fun id B hB => (h.bx id B hB).keep hext (fun _ => Nat.le_refl _) rfl fun k hk => hb.block k (h.lt hB hk), h.inj, hb.mono h.below.size, fun k o hk _ => by
  rw [hb.block k (Array.getElem?_eq_some_iff.1 hk).1]; exact hk⟩
def updB (f : Nat -> Option Box) (id : Nat) (B : Option Box) : Nat -> Option Box := fun t => bif Nat.beq t id then B else f t
def updU (f : Nat -> Nat) (id : Nat) (v : Nat) : Nat -> Nat := fun t => bif Nat.beq t id then v else f t
theorem RelO.new (h : RelO O ρ s w) {id : Nat} {av : AV} {cs : Array Value} {e : TypeId} (hb : av.bd s.us s.nl = true) (hh : HoldsA (mem O ρ s.bx w) av cs.toList) :
  Step O ρ (fun i => if i = id then .pointer (some ⟨w.heap.size, 0, none⟩) else ρ i) s.bx (updB s.bx id (some (.cells (s.us id) av))) s.us (updU s.us id (s.us id + 1)) s.nl w (w.alloc (.cells cs e)) /\
  RepA (mem O (fun i => if i = id then .pointer (some ⟨w.heap.size, 0, none⟩) else ρ i) (updB s.bx id (some (.cells (s.us id) av))) (w.alloc (.cells cs e))) (.ptr id (s.us id) 0) (.pointer (some ⟨w.heap.size, 0, none⟩)) := by
 have hu : ∀ i, s.us i <= updU s.us id (s.us id + 1) i := fun i => by
  simp only [updU, bif_beq]; split
  ·rename_i e; subst e; omega
  ·exact Nat.le_refl _
 have hblk : ∀ k, k < w.heap.size -> (w.alloc (.cells cs e)).heap[k]? = w.heap[k]? := fun k hk => Below.heap_alloc _ _ _ hk
 have hext : (mem O ρ s.bx w).Ext (mem O (fun i => if i = id then .pointer (some ⟨w.heap.size, 0, none⟩) else ρ i) (updB s.bx id (some (.cells (s.us id) av))) (w.alloc (.cells cs e))) s.us s.nl := by
  refine ⟨fun k c e' z hk hh => ?_, fun i ver hv hc => ?_, fun _ _ _ h => h, fun _ h => h⟩
  ·have hlt : k < w.heap.size := (Array.getElem?_eq_some_iff.1 hh).1
   refine ⟨⟨hk.1, fun i hi => ?_⟩, (hblk k hlt).trans hh⟩
   simp only [updB, bif_beq] at hi ⊢
   by_cases hii : i = id
   ·simp only [hii, if_true, refB]; intro e; cases e; omega
   ·simp only [hii, if_false] at hi ⊢; exact hk.2 i hi
  ·simp only [mem, updB, bif_beq] at hc ⊢
   by_cases hii : i = id
   ·simp only [hii, if_true, Option.map_some, Box.ver, Option.some.injEq] at hc
    rw [hii] at hv; omega
   ·simp only [hii, if_false] at hc ⊢; exact ⟨hc, trivial⟩
 have hnew : (w.alloc (.cells cs e)).heap[w.heap.size]? = some (.cells cs e (0, 0)) := by
  show (w.heap.push _)[w.heap.size]? = _
  simp
 have hbr : ∀ i k, (updB s.bx id (some (.cells (s.us id) av)) i).isSome = true -> refB (if i = id then .pointer (some ⟨w.heap.size, 0, none⟩) else ρ i) = some k -> (∃ j, (s.bx j).isSome = true /\ refB (ρ j) = some k) \/ w.heap.size <= k := fun i k hi hk => by
  simp only [updB, bif_beq] at hi
  by_cases e0 : i = id
  ·rw [if_pos e0] at hk
   exact .inr (Nat.le_of_eq (Option.some.inj hk))
  ·rw [if_neg e0] at hi hk
   exact .inl ⟨i, hi, hk⟩
 refine ⟨⟨hext, hu, hbr, fun i B hB => ?_, fun i j k hi hj h1 h2 => ?_, Below.alloc (Below.refl _ _) h.below.size _, fun k o hk _ => (hblk k (Array.getElem?_eq_some_iff.1 hk).1).trans hk⟩, ?_⟩
 ·simp only [updB, bif_beq] at hB
  split at hB
  ·rename_i e0; subst e0; cases hB
   refine ⟨by simp [updU, bif_beq], AV.bd_mono hu _ hb, w.heap.size, cs, e, by simp, h.below.size, hnew, HoldsA.map hext _ _ hb hh⟩
  ·rename_i e0
   exact (h.bx i B hB).keep hext hu (by simp [e0]) fun k hk => hblk k (h.lt hB hk)
 ·simp only [updB, bif_beq] at hi hj h1 h2
  have hlt : ∀ i, (s.bx i).isSome = true -> ∀ k, refB (ρ i) = some k -> k < w.heap.size := fun i hi k hk => by
   obtain ⟨B, hB⟩ := Option.isSome_iff_exists.1 hi
   exact h.lt hB hk
  by_cases e1 : i = id <;> by_cases e2 : j = id
  ·rw [e1, e2]
  ·simp only [e1, e2, if_true, if_false, refB, Option.some.injEq] at h1 h2 hj
   have := hlt j hj k h2; omega
  ·simp only [e1, e2, if_true, if_false, refB, Option.some.injEq] at h1 h2 hi
   have := hlt i hi k h1; omega
  ·simp only [e1, e2, if_false] at hi hj h1 h2
   exact h.inj i j k hi hj h1 h2
 ·refine ⟨[_], ⟨_, rfl, rfl, fun _ => ⟨w.heap.size, by simp [mem], rfl⟩⟩, rfl⟩
theorem RelO.sto (h : RelO O ρ s w) {id ver g : Nat} {av av0 : AV} {cs : Array Value} (hB : s.bx id = some (.cells ver av0)) (hg : ρ id = .pointer (some ⟨g, 0, none⟩)) (hb : av.bd s.us s.nl = true) (hh : HoldsA (mem O ρ s.bx w) av cs.toList) :
  Step O ρ ρ s.bx (updB s.bx id (some (.cells ver av))) s.us s.us s.nl w (w.setRow g cs) := by
 obtain ⟨hv, _, g', cs0, e0, hg', hge, hh0, _⟩ := h.bx id _ hB
 obtain rfl : g' = g := by rw [hg] at hg'; cases hg'; rfl
 have hother : ∀ k, k ≠ g' -> (w.setRow g' cs).heap[k]? = w.heap[k]? := fun k hk => by
  simp only [World.setRow, Array.getElem?_modify]
  rw [if_neg (Ne.symm hk)]
 have hsome : ∀ i, ((updB s.bx id (some (.cells ver av))) i).isSome = true -> (s.bx i).isSome = true := fun i hi => by
  simp only [updB, bif_beq] at hi
  split at hi
  ·rename_i e; rw [e, hB]; rfl
  ·exact hi
 have hext : (mem O ρ s.bx w).Ext (mem O ρ (updB s.bx id (some (.cells ver av))) (w.setRow g' cs)) s.us s.nl := by
  refine ⟨fun k c e' z hk hh => ⟨⟨hk.1, fun i hi => hk.2 i (hsome i hi)⟩, ?_⟩, fun i ver' hv' hc => ⟨?_, rfl⟩, fun _ _ _ h => h, fun _ h => h⟩
  ·refine (hother k fun e => hk.2 id (by rw [hB]; rfl) ?_).trans hh
   rw [hg, e]; rfl
  ·simp only [mem, updB, bif_beq] at hc ⊢
   split at hc
   ·rename_i e; subst e; rw [hB]; exact hc
   ·exact hc
 refine ⟨hext, fun _ => Nat.le_refl _, fun i k hi hk => .inl ⟨i, hsome i hi, hk⟩, fun i B hBi => ?_, fun i j k hi hj => h.inj i j k (hsome i hi) (hsome j hj), ?_, fun k o hk ho => ?_⟩
 ·simp only [updB, bif_beq] at hBi
  split at hBi
  ·rename_i e; subst e; cases hBi
   exact ⟨hv, hb, g', cs, e0, hg, hge, setRow_heap w g' cs0 cs e0 _ hh0, HoldsA.map hext _ _ hb hh⟩
  ·rename_i e
   refine (h.bx i B hBi).keep hext (fun _ => Nat.le_refl _) rfl fun k hk => hother k fun e1 => e ?_
   subst e1
   exact h.inj i id k (by rw [hBi]; rfl) (by rw [hB]; rfl) hk (by rw [hg]; rfl)
 ·exact ⟨rfl, rfl, rfl, by simp [World.setRow], fun k hk => hother k (by omega)⟩
 ·refine (hother k fun e => ?_).trans hk
  subst e
  rw [hh0] at hk
  cases hk
  cases ho
theorem RelO.del (h : RelO O ρ s w) {bx' : Nat -> Option Box} (hd : ∀ i B, bx' i = some B -> s.bx i = some B) : Step O ρ ρ s.bx bx' s.us s.us s.nl w w := by
 have hsome : ∀ i, (bx' i).isSome = true -> (s.bx i).isSome = true := fun i hi => by
  obtain ⟨B, hB⟩ := Option.isSome_iff_exists.1 hi
  rw [hd i B hB]; rfl
 have hext : (mem O ρ s.bx w).Ext (mem O ρ bx' w) s.us s.nl := by
  refine ⟨fun k c e' z hk hh => ⟨⟨hk.1, fun i hi => hk.2 i (hsome i hi)⟩, hh⟩, fun i ver' hv' hc => ⟨?_, rfl⟩, fun _ _ _ h => h, fun _ h => h⟩
  simp only [mem, Option.map_eq_some_iff] at hc ⊢
  obtain ⟨B, hB, e⟩ := hc
  exact ⟨B, hd i B hB, e⟩
 exact ⟨hext, fun _ => Nat.le_refl _, fun i k hi hk => .inl ⟨i, hsome i hi, hk⟩, fun i B hB => (h.bx i B (hd i B hB)).keep hext (fun _ => Nat.le_refl _) rfl fun _ _ => rfl, fun i j k hi hj => h.inj i j k (hsome i hi) (hsome j hj), Below.refl _ _, fun k o hk _ => hk⟩
end
section
variable {b n : Nat} {O : Octx} {ρ ρ' : Nat -> Value} {s s' : St} {a : Act} {w w' : World}
theorem RelO.arr_rep {id ver : Nat} {e : TypeId} {T : Ty} {l : List T.den} {us : Nat -> Nat} {nl : Nat} {bx : Nat -> Option Box} (hB : BoxOK O ρ bx w us nl id (.arr ver e T l)) : RepA (mem O ρ bx w) (.arr id ver) (ρ id) := by
 obtain ⟨_, css, _, h⟩ := hB
 refine ⟨[ρ id], ⟨_, rfl, ?_, fun _ => rfl⟩, rfl⟩
 rcases h.2 with ⟨h2, _⟩ | ⟨g, cap, cur, h2, _⟩ <;> rw [h2] <;> rfl
theorem RelO.arr (h : RelO O ρ s w) {id : Nat} {e : TypeId} {T : Ty} {l : List T.den} {v' : Value} {css : List (List Value)} {row : Option Nat}
  (hg : w.grownBy w' row) (hrow : ∀ k, row = some k -> (s.bx id).isSome = true /\ refB (ρ id) = some k)
  (hown : w'.ownsRow O.w0.heap.size e T.size v' l.length css.flatten) (hnew : ∀ k, refB v' = some k -> w.heap.size <= k \/ row = some k) (hcs : All2 (Holds w (okS O ρ s.bx) T) l css) :
  Step O ρ (fun i => if i = id then v' else ρ i) s.bx (updB s.bx id (some (.arr (s.us id) e T l))) s.us (updU s.us id (s.us id + 1)) s.nl w w' /\
  RepA (mem O (fun i => if i = id then v' else ρ i) (updB s.bx id (some (.arr (s.us id) e T l))) w') (.arr id (s.us id)) v' := by
 have hu : ∀ i, s.us i <= updU s.us id (s.us id + 1) i := fun i => by
  simp only [updU, bif_beq]; split
  ·rename_i e; subst e; omega
  ·exact Nat.le_refl _
 have hlt : ∀ i, (s.bx i).isSome = true -> ∀ k, refB (ρ i) = some k -> k < w.heap.size := fun i hi k hk => by
  obtain ⟨B, hB⟩ := Option.isSome_iff_exists.1 hi
  exact h.lt hB hk
 have hnr : ∀ i, (s.bx i).isSome = true -> i ≠ id -> ∀ k, refB (ρ i) = some k -> row ≠ some k := fun i hi hne k hk hr => by
  obtain ⟨h1, h2⟩ := hrow k hr
  exact hne (h.inj i id k hi h1 hk h2)
 have hext : (mem O ρ s.bx w).Ext (mem O (fun i => if i = id then v' else ρ i) (updB s.bx id (some (.arr (s.us id) e T l))) w') s.us s.nl := by
  refine ⟨fun k c e' z hk hh => ?_, fun i ver hv hc => ?_, fun _ _ _ h => h, fun _ h => h⟩
  ·have hklt : k < w.heap.size := (Array.getElem?_eq_some_iff.1 hh).1
   have hkr : some k ≠ row := fun e => by
    obtain ⟨h1, h2⟩ := hrow k e.symm
    exact hk.2 id h1 h2
   refine ⟨⟨hk.1, fun i hi => ?_⟩, (hg.block k hklt hkr).trans hh⟩
   simp only [updB, bif_beq] at hi ⊢
   by_cases hii : i = id
   ·simp only [hii, if_true]
    intro e1
    rcases hnew k e1 with h1 | h1
    ·omega
    ·exact hkr h1.symm
   ·simp only [hii, if_false] at hi ⊢; exact hk.2 i hi
  ·simp only [mem, updB, bif_beq] at hc ⊢
   by_cases hii : i = id
   ·simp only [hii, if_true, Option.map_some, Box.ver, Option.some.injEq] at hc
    rw [hii] at hv; omega
   ·simp only [hii, if_false] at hc ⊢; exact ⟨hc, trivial⟩
 have hbox : BoxOK O (fun i => if i = id then v' else ρ i) (updB s.bx id (some (.arr (s.us id) e T l))) w' (updU s.us id (s.us id + 1)) s.nl id (.arr (s.us id) e T l) := by
  refine ⟨by simp [updU], css, All2.imp (fun x c hc => Holds.map hext.heapv _ _ _ hc) hcs, by simpa using hown⟩
 have hbr : ∀ i k, (updB s.bx id (some (.arr (s.us id) e T l)) i).isSome = true -> refB (if i = id then v' else ρ i) = some k -> (∃ j, (s.bx j).isSome = true /\ refB (ρ j) = some k) \/ w.heap.size <= k := fun i k hi hk => by
  simp only [updB, bif_beq] at hi
  by_cases e0 : i = id
  ·rw [if_pos e0] at hk
   rcases hnew k hk with h1 | h1
   ·exact .inr h1
   ·exact .inl ⟨id, hrow k h1⟩
  ·rw [if_neg e0] at hi hk
   exact .inl ⟨i, hi, hk⟩
 refine ⟨⟨hext, hu, hbr, fun i B hB => ?_, fun i j k hi hj h1 h2 => ?_, ?_, fun k o hk ho => ?_⟩, by simpa using RelO.arr_rep hbox⟩
 ·simp only [updB, bif_beq] at hB
  split at hB
  ·rename_i e0; subst e0; cases hB
   exact hbox
  ·rename_i e0
   exact (h.bx i B hB).keep hext hu (by simp [e0]) fun k hk => hg.block k (h.lt hB hk) fun e1 => hnr i (by rw [hB]; rfl) e0 k hk e1.symm
 ·simp only [updB, bif_beq] at hi hj h1 h2
  by_cases e1 : i = id <;> by_cases e2 : j = id
  ·rw [e1, e2]
  ·simp only [e1, e2, if_true, if_false] at h1 h2 hj
   rcases hnew k h1 with h3 | h3
   ·have := hlt j hj k h2; omega
   ·exact absurd h3 (hnr j hj e2 k h2)
  ·simp only [e1, e2, if_true, if_false] at h1 h2 hi
   rcases hnew k h2 with h3 | h3
   ·have := hlt i hi k h1; omega
   ·exact absurd h3 (hnr i hi e1 k h1)
  ·simp only [e1, e2, if_false] at hi hj h1 h2
   exact h.inj i j k hi hj h1 h2
 ·refine ⟨hg.os, hg.tape, hg.output, hg.size, fun k hk => hg.block k (Nat.lt_of_lt_of_le hk h.below.size) fun e1 => ?_⟩
  obtain ⟨h1, h2⟩ := hrow k e1.symm
  obtain ⟨B, hB⟩ := Option.isSome_iff_exists.1 h1
  have := ((h.bx id B hB).block h2).1
  omega
 ·refine (hg.block k (Array.getElem?_eq_some_iff.1 hk).1 fun e1 => ?_).trans hk
  obtain ⟨h1, h2⟩ := hrow k e1.symm
  obtain ⟨B, hB⟩ := Option.isSome_iff_exists.1 h1
  obtain ⟨_, cs, e', h3⟩ := (h.bx id B hB).block h2
  rw [h3] at hk
  cases hk
  cases ho
theorem take_set_len {α : Type} (xs cs : List α) (m k : Nat) (hk : m + cs.length <= k) (hl : k <= xs.length) :
  (xs.take m ++ cs ++ xs.drop (m + cs.length)).take k = (xs.take k).take m ++ cs ++ (xs.take k).drop (m + cs.length) := by
 rw [List.take_take, Nat.min_eq_left (by omega)]
 rw [List.take_append, List.take_of_length_le (by simp; omega)]
 congr 1
 rw [List.drop_take]
 congr 1
 simp
 omega
theorem flatten_set {size : Nat} : ∀ (css : List (List Value)) (i : Nat) (c : List Value), (∀ d ∈ css, d.length = size) -> i < css.length ->
  (css.set i c).flatten = css.flatten.take (i * size) ++ c ++ css.flatten.drop (i * size + size)
 | [], _, _, _, h => by simp at h
 | d :: css, 0, c, hl, _ => by
  have := hl d List.mem_cons_self
  simp [<- this]
 | d :: css, i + 1, c, hl, h => by
  have hd := hl d List.mem_cons_self
  have ih := flatten_set css i c (fun d hd => hl d (List.mem_cons_of_mem _ hd)) (by simpa using h)
  rw [List.set_cons_succ, List.flatten_cons, ih, List.flatten_cons, Nat.add_mul, Nat.one_mul]
  rw [List.take_append, List.drop_append, show d.take (i * size + size) = d from List.take_of_length_le (by omega), show d.drop (i * size + size + size) = [] from List.drop_of_length_le (by omega), hd]
  rw [show i * size + size - size = i * size by omega, show i * size + size + size - size = i * size + size by omega]
  simp [List.append_assoc]
theorem All2.set {α β : Type} {R : α -> β -> Prop} {x : α} {y : β} : ∀ {l : List α} {m : List β} (i : Nat), All2 R l m -> R x y -> All2 R (l.set i x) (m.set i y)
 | [], [], _, _, _ => trivial
 | _ :: _, _ :: _, 0, ⟨_, b⟩, h => ⟨h, b⟩
 | _ :: _, _ :: _, i + 1, ⟨a, b⟩, h => ⟨a, All2.set i b h⟩
theorem All2.lens {w : World} {ok : Nat -> Prop} {T : Ty} : ∀ {l : List T.den} {css : List (List Value)}, All2 (Holds w ok T) l css -> ∀ d ∈ css, d.length = T.size
 | [], [], _, _, h => by cases h
 | _ :: _, d :: css, ⟨h1, h2⟩, e, h => by
  rcases List.mem_cons.1 h with rfl | h
  ·exact Holds.len _ _ _ h1
  ·exact All2.lens h2 e h
theorem flatten_len {size : Nat} : ∀ (css : List (List Value)), (∀ d ∈ css, d.length = size) -> css.flatten.length = css.length * size
 | [], _ => by simp
 | d :: css, h => by
  rw [List.flatten_cons, List.length_append, h d List.mem_cons_self, flatten_len css fun d hd => h d (List.mem_cons_of_mem _ hd), List.length_cons, Nat.add_mul]
  omega
theorem Holds.flat {ok : Nat -> Prop} {T : Ty} : ∀ {l : List T.den} {css : List (List Value)}, All2 (Holds w ok T) l css -> ∀ (m : Nat) (c : List Value), css[m]? = some c ->
  ∀ j v, c[j]? = some v -> css.flatten[m * T.size + j]? = some v
 | [], [], _, m, c, hc => by simp at hc
 | x :: l, d :: css, ⟨h1, h2⟩, 0, c, hc => fun j v hj => by
  simp at hc
  subst hc
  have : j < d.length := (List.getElem?_eq_some_iff.1 hj).1
  rw [List.flatten_cons, Nat.zero_mul, Nat.zero_add, List.getElem?_append_left this]
  exact hj
 | x :: l, d :: css, ⟨h1, h2⟩, m + 1, c, hc => fun j v hj => by
  have hl := Holds.len _ _ _ h1
  have := Holds.flat h2 m c (by simpa using hc) j v hj
  rw [List.flatten_cons, List.getElem?_append_right (by rw [hl, Nat.add_mul]; omega), hl]
  rw [show (m + 1) * T.size + j - T.size = m * T.size + j by rw [Nat.add_mul]; omega]
  exact this
theorem RelO.stoE (h : RelO O ρ s w) {id ver i g m cap : Nat} {e : TypeId} {T : Ty} {l : List T.den} {y : T.den} {ds : List Value} {cur : Array Value}
  (hB : s.bx id = some (.arr ver e T l)) (hi : i < l.length) (hg : ρ id = .slice (some ⟨g, 0, none⟩) m cap) (hcur : w.heap[g]? = some (.cells cur e (0, 0))) (hh : Holds w (okS O ρ s.bx) T y ds) :
  Step O ρ ρ s.bx (updB s.bx id (some (.arr ver e T (l.set i y)))) s.us s.us s.nl w (w.setRow g (cur.toList.take (i * T.size) ++ ds ++ cur.toList.drop (i * T.size + T.size)).toArray) := by
 obtain ⟨hv, css, hcs, hown⟩ := h.bx id _ hB
 have hother : ∀ (x : Array Value) k, k ≠ g -> (w.setRow g x).heap[k]? = w.heap[k]? := fun x k hk => by
  simp only [World.setRow, Array.getElem?_modify]
  rw [if_neg (Ne.symm hk)]
 have hsome : ∀ j, ((updB s.bx id (some (.arr ver e T (l.set i y)))) j).isSome = true -> (s.bx j).isSome = true := fun j hj => by
  simp only [updB, bif_beq] at hj
  split at hj
  ·rename_i e; rw [e, hB]; rfl
  ·exact hj
 obtain ⟨cs', ecs⟩ : ∃ cs', cs' = (cur.toList.take (i * T.size) ++ ds ++ cur.toList.drop (i * T.size + T.size)).toArray := ⟨_, rfl⟩
 rw [<- ecs]
 have hext : (mem O ρ s.bx w).Ext (mem O ρ (updB s.bx id (some (.arr ver e T (l.set i y)))) (w.setRow g cs')) s.us s.nl := by
  refine ⟨fun k c e' z hk hh => ⟨⟨hk.1, fun j hj => hk.2 j (hsome j hj)⟩, ?_⟩, fun j ver' hv' hc => ⟨?_, rfl⟩, fun _ _ _ h => h, fun _ h => h⟩
  ·refine (hother cs' k fun e => hk.2 id (by rw [hB]; rfl) ?_).trans hh
   rw [hg, e]; rfl
  ·simp only [mem, updB, bif_beq] at hc ⊢
   split at hc
   ·rename_i e; subst e; rw [hB]; exact hc
   ·exact hc
 have hlen := Holds.len _ _ _ hh
 have hlens := All2.lens hcs
 have hll := All2.length hcs
 have hown' : (w.setRow g cs').ownsRow O.w0.heap.size e T.size (ρ id) (l.set i y).length ((css.set i ds).flatten) := by
  rcases hown.2 with ⟨h2, h0⟩ | ⟨g', cap', cur', h2, h3, h4, h5, h6, h7, h8⟩
  ·omega
  ·rw [hg] at h2
   cases h2
   rw [hcur] at h4
   cases h4
   have hfl := flatten_len css hlens
   have hset := flatten_set css i ds hlens (by omega)
   have hmul : i * T.size + T.size <= l.length * T.size := by rw [<- Nat.succ_mul]; exact Nat.mul_le_mul_right _ (by omega)
   have hcl : l.length * T.size <= cur.toList.length := by simp; rw [h7]; exact Nat.mul_le_mul_right _ h5
   refine ⟨?_, .inr ⟨g, cap, cs', by rw [hg, List.length_set], h3, setRow_heap w g cur cs' e _ hcur, by simpa using h5, h6, ?_, ?_⟩⟩
   ·rw [flatten_len (size := T.size) _ (fun d hd => ?_), List.length_set, List.length_set, hll]
    rcases List.mem_or_eq_of_mem_set hd with hd | hd
    ·exact hlens d hd
    ·rw [hd]; exact hlen
   ·rw [ecs, <- h7]
    simp at hcl ⊢
    omega
   ·rw [ecs, hset, List.length_set]
    have := take_set_len cur.toList ds (i * T.size) (l.length * T.size) (by omega) hcl
    rw [hlen] at this
    rw [List.toList_toArray, this, h8]
 refine ⟨hext, fun _ => Nat.le_refl _, fun j k hj hk => .inl ⟨j, hsome j hj, hk⟩, fun j B hBi => ?_, fun j j' k hi hj => h.inj j j' k (hsome j hi) (hsome j' hj), ?_, fun k o hk ho => ?_⟩
 ·simp only [updB, bif_beq] at hBi
  split at hBi
  ·rename_i e0; subst e0; cases hBi
   exact ⟨hv, css.set i ds, All2.imp (fun x c hc => Holds.map hext.heapv _ _ _ hc) (All2.set i hcs hh), hown'⟩
  ·rename_i e0
   refine (h.bx j B hBi).keep hext (fun _ => Nat.le_refl _) rfl fun k hk => hother cs' k fun e1 => e0 ?_
   subst e1
   exact h.inj j id k (by rw [hBi]; rfl) (by rw [hB]; rfl) hk (by rw [hg]; rfl)
 ·have hge := ((h.bx id _ hB).block (k := g) (by rw [hg]; rfl)).1
  exact ⟨rfl, rfl, rfl, by simp [World.setRow], fun k hk => hother cs' k (by omega)⟩
 ·refine (hother cs' k fun e => ?_).trans hk
  subst e
  rw [hcur] at hk
  cases hk
  cases ho
end

abbrev HL : List Ty -> Type
 | [] => Unit
 | T :: l => T.den × HL l
def RepL (w : World) (ok : Nat -> Prop) : (l : List Ty) -> HL l -> List Value -> Prop
 | [], _, vs => vs = []
 | T :: l, x, vs => ∃ v r, vs = v :: r /\ Rep w ok T x.1 v /\ RepL w ok l x.2 r
def RepR (w : World) (ok : Nat -> Prop) : (l : List Ty) -> HL l -> Value -> Prop
 | [T], x, v => Rep w ok T x.1 v
 | l, x, v => ∃ vs : List Value, v = .tuple vs.toArray /\ RepL w ok l x vs
def tupAV : (l : List Ty) -> HL l -> AV
 | [], _ => .nl
 | T :: l, x => .pr (.v T x.1) (tupAV l x.2)
def resAV : (l : List Ty) -> HL l -> AV
 | [T], x => .v T x.1
 | l, x => .tup (tupAV l x)
structure Spec where
 args : List Ty
 res : List Ty
 F : HL args -> Option (HL res)
def SpecOK (P : Program) (G : World -> Prop) (f : FuncId) (S : Spec) : Prop :=
 (∃ fn c, P.funcs[f]? = some fn /\ (fn.name == "runtime.NumGoroutine") = false /\ fn.body = some c) /\
 ∀ (w : World) (ok : Nat -> Prop) (xs : HL S.args) (vs : List Value) (r : HL S.res), (∀ w', Below w.heap.size w w' -> G w') -> RepL w ok S.args xs vs -> S.F xs = some r ->
  Calls P f vs.toArray w fun e w' => ∃ v, e = .returned v /\ Below w.heap.size w w' /\ RepR w' (fun k => ok k \/ w.heap.size <= k) S.res r v
def XSpecOK (P : Program) (f : FuncId) (S : Spec) : Prop :=
 ∀ (w : World) (ok : Nat -> Prop) (xs : HL S.args) (vs : List Value) (r : HL S.res), RepL w ok S.args xs vs -> S.F xs = some r ->
  ∃ v, (callFunc f vs.toArray).run P w = .ok (.value v) w /\ RepR w ok S.res r v
structure Env where
 G : World -> Prop
 ty : TypeId -> Option Ty
 lay : TypeId -> Option (Nat × Bool × AV)
 el : TypeId -> Option (TypeId × Nat)
 eq : TypeId -> Bool
 str : TypeId -> Bool
 pt : TypeId -> Bool
 fld : TypeId -> Nat -> Option (Nat × TypeId)
 arr : TypeId -> Option (Nat × TypeId)
 one : TypeId -> Bool
 fn : FuncId -> Option Func
 cln : FuncId -> Option TypeId
 xt : FuncId -> Option Spec
 tab : FuncId -> Option Spec
def aggD : TypeDesc -> Bool
 | .struct _ | .array _ _ => true
 | _ => false
structure LayOK (P : Program) (t : TypeId) (q : Nat × Bool × AV) (ti : TypeInfo) (d : TypeDesc) : Prop where
 info : P.info? t = some ti
 desc : P.underlying t = some d
 size : ti.size = q.1
 pos : 0 < q.1
 agg : aggD d = q.2.1
 fit : q.2.2.fit = true
 bd : ∀ us nl, q.2.2.bd us nl = true
 zsize : q.2.2.size = q.1
 zagg : q.2.2.agg = q.2.1
 zero : ∃ z, ti.zero = some z /\ ∀ M, RepB M q.2.2 z
 flds : ∀ fs, d = .struct fs -> ∀ fd ∈ fs.toList, ∃ ti, P.info? fd.type = some ti
structure TyOK (P : Program) (E : Env) (t : TypeId) (U : Ty) (d : TypeDesc) : Prop where
 desc : P.underlying t = some d
 lay : ∃ z, E.lay t = some (U.size, U.isPair, z)
 zero : ∃ ti z, P.info? t = some ti /\ ti.zero = some z /\ decV U z = some (zeroT U)
 int : ∀ k, U = .int k -> d = .int k
 bool : U = .bool -> d = .bool
 list : ∀ T, U = .list T -> ∃ e b, d = .slice e /\ E.ty e = some T /\ E.el t = some (e, b)
def eqFs (rec : TypeId -> Ty -> Bool) (E : Env) : List Field -> Ty -> Nat -> Bool
 | [], _, _ => false
 | [f], U, off => (f.name != "_") && f.offset == off && decide (E.ty f.type = some U) && rec f.type U
 | f :: g :: fs, .pair A B, off => (f.name != "_") && f.offset == off && decide (E.ty f.type = some A) && rec f.type A && eqFs rec E (g :: fs) B (off + A.size)
 | _, _, _ => false
def eqB (P : Program) (E : Env) : Nat -> TypeId -> Ty -> Bool
 | 0, _, _ => false
 | k + 1, t, U =>
  match P.underlying t with
  | some .bool => decide (U = .bool)
  | some (.int j) => decide (U = .int j)
  | some (.struct fs) => !P.stoodInHeld t && U.isPair && eqFs (eqB P E k) E fs.toList U 0
  | _ => false
def beqT : (T : Ty) -> T.den -> T.den -> Bool
 | .int _, x, y => decide ((x : Int) = y)
 | .bool, x, y => x == y
 | .pair a b, x, y => beqT a x.1 y.1 && beqT b x.2 y.2
 | .list _, _, _ => false
def IsSlice (w : World) (size n : Nat) (cs : List Value) (v : Value) : Prop :=
 ∃ A cap, v = .slice A n cap /\ cs.length = n * size /\ (∀ u ∈ cs, u.oneCell' = true) /\ (n ≠ 0 -> ∃ a, A = some a /\ ∀ j u, cs[j]? = some u -> w.cell? (a.add j) = some u)
def CloneOK (P : Program) (f : FuncId) (t : TypeId) : Prop :=
 (∃ fn c, P.funcs[f]? = some fn /\ (fn.name == "runtime.NumGoroutine") = false /\ fn.body = some c) /\
 ∀ (w : World) (v : Value) (n : Nat) (cs : List Value) (e : TypeId) (ti : TypeInfo) (z : Value), P.underlying t = some (.slice e) -> P.info? e = some ti -> ti.zero = some z -> z.cells.size = ti.size -> 0 < ti.size ->
  IsSlice w ti.size n cs v -> n <= maxLen -> n * ti.bytes <= 140737488355328 ->
  Calls P f #[v] w fun en w' => ∃ v', en = .returned v' /\ w.grownBy w' none /\ w'.ownsRow w.heap.size e ti.size v' n cs
structure OneOK (P : Program) (t : TypeId) : Prop where
 ex : ∃ ti fd tf, P.info? t = some ti /\ ti.size = 1 /\ ti.zero = some (.agg #[.slice none 0 0]) /\ P.underlying t = some (.struct #[fd]) /\ fd.offset = 0 /\ P.info? fd.type = some tf /\ tf.size = 1
structure Env.OK (E : Env) (P : Program) : Prop where
 str : ∀ t, E.str t = true -> P.underlying t = some .string
 pt : ∀ t, E.pt t = true -> ∃ e, P.underlying t = some (.pointer e)
 eq : ∀ t U, E.eq t = true -> E.ty t = some U -> P.eqGuardType P.depth t = false /\ eqB P E 20 t U = true
 lay : ∀ t q, E.lay t = some q -> ∃ ti d, LayOK P t q ti d
 ty : ∀ t U, E.ty t = some U -> ∃ d, TyOK P E t U d
 el : ∀ t e b, E.el t = some (e, b) -> P.underlying t = some (.slice e) /\ (∃ ti, P.info? e = some ti /\ ti.bytes = b) /\ 0 < b
 fld : ∀ t f q, E.fld t f = some q -> ∃ fs fd, P.underlying t = some (.struct fs) /\ fs[f]? = some fd /\ fd.offset = q.1 /\ fd.type = q.2
 arr : ∀ t n e, E.arr t = some (n, e) -> P.underlying t = some (.array n e)
 one : ∀ t, E.one t = true -> OneOK P t
 fn : ∀ f fn, E.fn f = some fn -> P.funcs[f]? = some fn /\ (fn.name == "runtime.NumGoroutine") = false /\ fn.body.isSome = true
 cln : ∀ f t, E.cln f = some t -> CloneOK P f t
 xt : ∀ f S, E.xt f = some S -> XSpecOK P f S
 tab : ∀ f S, E.tab f = some S -> SpecOK P E.G f S
inductive Eff where
 | put (av : AV)
 | new (id : Nat) (av : AV)
 | sto (id ver : Nat) (av : AV)
 | stoE (id ver : Nat) (e : TypeId) (T : Ty) (l : List T.den)
 | arr (id : Nat) (fresh : Bool) (e : TypeId) (T : Ty) (l : List T.den)
 | del (ids : List Nat) (av : AV)
def delB (bx : Nat -> Option Box) : List Nat -> Nat -> Option Box
 | [] => bx
 | i :: l => delB (updB bx i none) l
def Eff.av (us : Nat -> Nat) : Eff -> AV
 | .put av => av
 | .new id _ => .ptr id (us id) 0
 | .sto _ _ _ => .cst undef
 | .stoE _ _ _ _ _ => .cst undef
 | .arr id _ _ _ _ => .arr id (us id)
 | .del _ av => av
def Eff.bx (bx : Nat -> Option Box) (us : Nat -> Nat) : Eff -> Nat -> Option Box
 | .put _ => bx
 | .new id av => updB bx id (some (.cells (us id) av))
 | .sto id ver av => updB bx id (some (.cells ver av))
 | .stoE id ver e T l => updB bx id (some (.arr ver e T l))
 | .arr id _ e T l => updB bx id (some (.arr (us id) e T l))
 | .del ids _ => delB bx ids
def Eff.us (us : Nat -> Nat) : Eff -> Nat -> Nat
 | .new id _ => updU us id (us id + 1)
 | .arr id _ _ _ _ => updU us id (us id + 1)
 | _ => us
def asT (U : Ty) (av : AV) : Option U.den :=
 match av with
 | .v T x => if h : T = U then some (h ▸ x) else none
 | .cst c => decV U c
 | .pr a b => match U with
  | .pair A B => (asT A a).bind fun x => (asT B b).bind fun y => some (x, y)
  | _ => none
 | _ => none
termination_by structural av
def asB (bx : Nat -> Option Box) (U : Ty) (av : AV) : Option U.den :=
 match av with
 | .v T x => if h : T = U then some (h ▸ x) else none
 | .cst c => decV U c
 | .pr a b => match U with
  | .pair A B => (asB bx A a).bind fun x => (asB bx B b).bind fun y => some (x, y)
  | _ => none
 | .arr id ver => match bx id with
  | some (.arr ver' _ T l) => if h : Ty.list T = U then (if ver = ver' then some (h ▸ l) else none) else none
  | _ => none
 | _ => none
termination_by structural av
def arrIds : AV -> List Nat
 | .arr id _ => [id]
 | .pr a b => arrIds a ++ arrIds b
 | _ => []
def asI : AV -> Option Int
 | .v (.int _) x => some x
 | .cst (.int _ n) => some n
 | _ => none
def asBL (bx : Nat -> Option Box) : (l : List Ty) -> List (Option AV) -> Option (HL l)
 | [], [] => some ()
 | T :: l, av :: r => (av.bind (asB bx T)).bind fun x => (asBL bx l r).bind fun y => some (x, y)
 | _, _ => none
def idsL : List (Option AV) -> List Nat
 | [] => []
 | some av :: l => arrIds av ++ idsL l
 | none :: l => idsL l
def Ty.free : Ty -> Bool
 | .list _ => false
 | .pair a b => a.free && b.free
 | _ => true
def freeL : List Ty -> Bool
 | [] => true
 | T :: l => T.free && freeL l
def binI (op : BinOp) (k : IntKind) (x y : Int) : Option AV :=
 match op with
 | .add => some (.v (.int k) (k.wrap (x + y)))
 | .sub => some (.v (.int k) (k.wrap (x - y)))
 | .mul => some (.v (.int k) (k.wrap (x * y)))
 | .quo => if y = 0 then none else some (.v (.int k) (k.wrap (x.tdiv y)))
 | .rem => if y = 0 then none else some (.v (.int k) (x.tmod y))
 | .eql => some (.v .bool (x == y))
 | .neq => some (.v .bool (x != y))
 | .lss => some (.v .bool (decide (x < y)))
 | .leq => some (.v .bool (decide (x <= y)))
 | .gtr => some (.v .bool (decide (x > y)))
 | .geq => some (.v .bool (decide (x >= y)))
 | .and => some (.v (.int k) (k.wrap (BitVec.ofInt k.bits x &&& BitVec.ofInt k.bits y).toNat))
 | .or => some (.v (.int k) (k.wrap (BitVec.ofInt k.bits x ||| BitVec.ofInt k.bits y).toNat))
 | .xor => some (.v (.int k) (k.wrap (BitVec.ofInt k.bits x ^^^ BitVec.ofInt k.bits y).toNat))
 | _ => none
def shiftI (op : BinOp) (k : IntKind) (x y : Int) : Option AV :=
 if y < 0 then none else
 match op with
 | .shl => some (.v (.int k) (k.wrap (x * 2 ^ min y.toNat k.bits)))
 | .shr => some (.v (.int k) (x.fdiv (2 ^ min y.toNat k.bits)))
 | _ => none
def St.ev (s : St) (b : Nat) : Operand -> Option AV
 | .tmp t => s.tm b t
 | .const c => some (.cst c)
 | .func f => some (.clo f .nl)
 | _ => none
def buildA (E : Env) (t : TypeId) (ev : Operand -> Option AV) : List (Nat × Operand) -> AV -> Option AV
 | [], x => some x
 | (i, o) :: r, x =>
  match E.fld t i with
  | some q => match E.lay q.2, ev o with
   | some y, some av => bif av.fit && Nat.beq av.size y.1 then (match updA x q.1 av with | some z => buildA E t ev r z | none => none) else none
   | _, _ => none
  | none => none
def buildL (T : Ty) (ev : Operand -> Option AV) : List (Nat × Operand) -> List T.den -> Option (List T.den)
 | [], l => some l
 | (i, o) :: r, l =>
  match (ev o).bind (asT T) with
  | some y => bif Nat.blt i l.length then buildL T ev r (l.set i y) else none
  | none => none
def capsA (ev : Operand -> Option AV) : List Operand -> Option AV
 | [] => some .nl
 | x :: l => match ev x with
  | some av => bif av.fit && Nat.beq av.size 1 && !av.agg then (capsA ev l).map (.pr av) else none
  | none => none
def nthA : AV -> Nat -> Option AV
 | .pr a _, 0 => some a
 | .pr _ b, k + 1 => nthA b k
 | _, _ => none
structure How where
 b : Nat
 own : Bool
def newId (h : How) (dst : Option Nat) : Nat := h.b * 4096 + dst.getD 0
def elemsA (bx : Nat -> Option Box) (T : Ty) (av : AV) : Option (List T.den) := asB bx (.list T) av
def specE (own : Bool) (S : Spec) (avs : List (Option AV)) (r : HL S.res) : Option Eff :=
 bif freeL S.res then some (.put (resAV S.res r))
 else bif own then some (.del (idsL avs) (resAV S.res r))
 else bif (idsL avs).isEmpty then some (.put (resAV S.res r)) else none
def evalCall (E : Env) (h : How) (bx : Nat -> Option Box) (dst : Option Nat) (ats : Array TypeId) (callee : Callee) (avs : List (Option AV)) : Option Eff :=
 match callee with
 | .value (.func f) =>
  match E.tab f with
  | some S => (asBL bx S.args avs).bind fun xs => (S.F xs).bind (specE h.own S avs)
  | none => match E.cln f with
   | some t => match E.ty t, E.el t, avs with
    | some (.list T), some (e, by_), [some x] => (elemsA bx T x).bind fun l => if l.length * by_ <= 140737488355328 then some (.arr (newId h dst) true e T l) else none
    | _, _, _ => none
   | none => match E.xt f with
    | some S => bif freeL S.args && freeL S.res then (asBL bx S.args avs).bind fun xs => (S.F xs).map fun r => .put (resAV S.res r) else none
    | none => none
 | .builtin .len => ((ats[0]?).bind E.ty).bind fun U =>
   match U, avs with
   | .list T, [x] => (x.bind (elemsA bx T)).map fun l => .put (.v (.int .i64) (l.length : Int))
   | _, _ => none
 | .builtin .append =>
  match ats[0]?, ats[1]? with
  | some t, some t' => if t = t' /\ ats.size = 2 then
    match E.ty t, E.el t, avs with
    | some (.list T), some (e, by_), [some x, some y] => (elemsA bx T y).bind fun m =>
     match x with
     | .arr id ver => match bx id with
      | some (.arr ver' e' T' l) => if h' : T' = T then (if ver = ver' /\ e = e' /\ (l.length + m.length) * by_ <= 140737488355328 then some (.arr id false e T ((h' ▸ l) ++ m)) else none) else none
      | _ => none
     | .cst (.slice none 0 0) => if m.length * by_ <= 140737488355328 then some (.arr (newId h dst) true e T m) else none
     | _ => none
    | _, _, _ => none
   else none
  | _, _ => none
 | _ => none
def loadA (bx : Nat -> Option Box) (n : Nat) (agg : Bool) : AV -> Option AV
 | .ptr id ver off => match bx id with
  | some (.cells ver' c) => bif Nat.beq ver ver' then (match subA c off n with | some p => bif p.fit && (p.agg == agg) then some p else none | none => none) else none
  | _ => none
 | .elt id ver sz i off => match bx id with
  | some (.arr ver' _ T l) => bif Nat.beq ver ver' && Nat.beq sz T.size then (l[i]?).bind fun y => (match subS T y off n with | some p => bif p.fit && (p.agg == agg) then some p else none | none => none) else none
  | _ => none
 | .ro T x off => match subS T x off n with | some p => bif p.fit && (p.agg == agg) then some p else none | none => none
 | _ => none
def storeA (bx : Nat -> Option Box) (U : Option Ty) (n : Nat) (z : AV) : AV -> Option Eff
 | .ptr id ver off => match bx id with
  | some (.cells ver' c) => bif Nat.beq ver ver' && z.fit && Nat.beq z.size n then (match updA c off z with | some c' => some (.sto id ver c') | none => none) else none
  | _ => none
 | .elt id ver sz i off => match bx id, U with
  | some (.arr ver' e T l), some U => bif Nat.beq ver ver' && Nat.beq sz T.size then (match asT U z with
    | some x => (l[i]?).bind fun y => (match upd T y off U x with | some y' => some (.stoE id ver e T (l.set i y')) | none => none)
    | none => none) else none
  | _, _ => none
 | _ => none
def isNilP : AV -> Bool
 | .cst (.pointer none) => true
 | _ => false
def isPtr (bx : Nat -> Option Box) : AV -> Bool
 | .ptr id ver _ => match bx id with | some B => Nat.beq ver B.ver | none => false
 | _ => false
def idxA (E : Env) (bx : Nat -> Option Box) (t : TypeId) (x i : AV) : Option AV :=
 match E.arr t with
 | some (n, e) => match x, i, E.lay e with
  | .ptr id ver off, .cst (.int _ m), some q => match m with
   | .ofNat m => bif Nat.blt m n && isPtr bx (.ptr id ver off) then some (.ptr id ver (off + m * q.1)) else none
   | _ => none
  | _, _, _ => none
 | none => match E.ty t with
  | some (.list T) => match x with
   | .arr id ver => match bx id with
    | some (.arr ver' _ T' l) => bif Nat.beq ver ver' && decide (T' = T) then (asI i).bind fun m => if 0 <= m then (l[m.toNat]?).bind fun _ => some (.elt id ver T'.size m.toNat 0) else none else none
    | _ => none
   | x => (asT (.list T) x).bind fun l => (asI i).bind fun m => if 0 <= m then (l[m.toNat]?).bind fun y => some (.ro T y 0) else none
  | _ => none
def dynF (ev : Operand -> Option AV) : Callee -> Option FuncId
 | .value (.tmp t) => match ev (.tmp t) with
  | some (.clo f .nl) => some f
  | _ => none
 | _ => none
def dynCall (E : Env) (bx : Nat -> Option Box) (f : FuncId) (avs : List (Option AV)) : Option Eff :=
 match E.tab f with
 | some S => bif freeL S.args && freeL S.res then (asBL bx S.args avs).bind fun xs => (S.F xs).map fun r => .put (resAV S.res r) else none
 | none => none
def boundA (ev : Operand -> Option AV) : Option Operand -> Int -> Option Int
 | none, d => some d
 | some o, _ => (ev o).bind asI
def evalOp (E : Env) (h : How) (dst : Option Nat) (ev : Operand -> Option AV) (bx : Nat -> Option Box) (op : Op) : Option Eff :=
 match op with
 | .move x | .assign x => (ev x).map .put
 | .load t x => (E.lay t).bind fun q => (ev x).bind fun av => (loadA bx q.1 q.2.1 av).map .put
 | .store t x y => (E.lay t).bind fun q => (ev y).bind fun z => (ev x).bind fun av => storeA bx (E.ty t) q.1 z av
 | .alloc t => (E.lay t).map fun q => .new (newId h dst) q.2.2
 | .pick c x y => ((ev c).bind (asT .bool)).bind fun b => (bif b then ev x else ev y).map .put
 | .box _ x => (ev x).bind fun av => bif av.fit then some (.new (newId h dst) av) else none
 | .build t ps => (E.lay t).bind fun q => if (E.fld t 0).isSome = true then (buildA E t ev ps.toList q.2.2).bind fun x => bif x.agg then some (.put x) else none else none
 | .buildSlice t len ps => (E.ty t).bind fun U =>
   match U with
   | .list T => if len * T.size <= 16777216 then (buildL T ev ps.toList (List.replicate len (zeroT T))).bind fun l => bif h.own then (E.el t).map fun q => .arr (newId h dst) true q.1 T l else some (.put (.v (.list T) l)) else none
   | _ => none
 | .field t x f => (ev x).bind fun av => (E.fld t f).bind fun q => (E.lay q.2).bind fun y => bif av.agg && av.fit then (subA av q.1 y.1).bind fun p => bif p.fit && (p.agg == y.2.1) then some (.put p) else none else none
 | .fieldAddr t x f => (E.fld t f).bind fun q => bif (E.lay q.2).isSome then (ev x).bind fun av =>
   match av with
   | .ptr id ver off => bif isPtr bx av then some (.put (.ptr id ver (off + q.1))) else none
   | .elt id ver sz i off => match bx id with
    | some (.arr ver' _ _ _) => bif Nat.beq ver ver' then some (.put (.elt id ver sz i (off + q.1))) else none
    | _ => none
   | .ro T x off => some (.put (.ro T x (off + q.1)))
   | _ => none
   else none
 | .nilCheck x => (ev x).bind fun av =>
   match av with
   | .ptr _ _ _ => bif isPtr bx av then some (.put av) else none
   | .elt id ver _ _ _ => match bx id with
    | some (.arr ver' _ _ _) => bif Nat.beq ver ver' then some (.put av) else none
    | _ => none
   | .ro _ _ _ => some (.put av)
   | _ => none
 | .indexAddr t x i => (ev x).bind fun av => (ev i).bind fun j => (idxA E bx t av j).map .put
 | .index t x i => if E.str t = true then (ev x).bind fun av =>
   match av with
   | .cst (.string b) => ((ev i).bind asI).bind fun m => if 0 <= m then (b[m.toNat]?).map fun y => .put (.v (.int .u8) (y.toNat : Int)) else none
   | _ => none
   else none
 | .extract x k => (ev x).bind fun av =>
   match av with
   | .tup c => (nthA c k).map .put
   | _ => none
 | .binOp op t x y _ =>
   bif E.pt t then
    match op, ev x, ev y with
    | .eql, some p, some q => bif isPtr bx p && isNilP q then some (.put (.cst (.bool false))) else none
    | .neq, some p, some q => bif isPtr bx p && isNilP q then some (.put (.cst (.bool true))) else none
    | _, _, _ => none
   else (E.ty t).bind fun U =>
   match U with
   | .int k => ((ev x).bind (asT (.int k))).bind fun a =>
     match op with
     | .shl | .shr => ((ev y).bind asI).bind fun b => (shiftI op k a b).map .put
     | _ => ((ev y).bind (asT (.int k))).bind fun b => (binI op k a b).map .put
   | .bool => ((ev x).bind (asT .bool)).bind fun a => ((ev y).bind (asT .bool)).bind fun b =>
     match op with
     | .eql => some (.put (.v .bool (a == b)))
     | .neq => some (.put (.v .bool (!(a == b))))
     | _ => none
   | .pair p q => ((ev x).bind (asT (.pair p q))).bind fun a => ((ev y).bind (asT (.pair p q))).bind fun b =>
     if E.eq t = true then
      match op with
      | .eql => some (.put (.v .bool (beqT (.pair p q) a b)))
      | .neq => some (.put (.v .bool (!(beqT (.pair p q) a b))))
      | _ => none
     else none
   | _ => none
 | .unOp op t x => (E.ty t).bind fun U =>
   match U, op with
   | .bool, .not => ((ev x).bind (asT .bool)).map fun a => .put (.v .bool (!a))
   | .int k, .neg => ((ev x).bind (asT (.int k))).map fun a => .put (.v (.int k) (k.wrap (0 - a)))
   | .int k, .xor => ((ev x).bind (asT (.int k))).map fun a => .put (.v (.int k) (k.wrap (BitVec.ofInt k.bits (if k.signed then -1 else k.max) ^^^ BitVec.ofInt k.bits a).toNat))
   | _, _ => none
 | .convert src dst x => (E.ty src).bind fun U => (E.ty dst).bind fun V =>
   match U, V with
   | .int k, .int k' => ((ev x).bind (asT (.int k))).map fun a => .put (.v (.int k') (k'.wrap a))
   | _, _ => none
 | .makeFunc (.func f) first caps => bif first.isEmpty then (capsA ev caps.toList).map fun c => .put (.clo f c) else none
 | .makeSlice t l c => (E.ty t).bind fun U =>
   match U with
   | .list T => (E.el t).bind fun q => ((ev l).bind asI).bind fun n => ((ev c).bind asI).bind fun m => if n = m /\ 0 <= n /\ n.toNat * q.2 <= 140737488355328 then some (.arr (newId h dst) true q.1 T (List.replicate n.toNat (zeroT T))) else none
   | _ => none
 | .slice t x lo hi mx => (E.ty t).bind fun U =>
   match U with
   | .list T => bif mx.isNone then ((ev x).bind (asT (.list T))).bind fun l => (boundA ev lo 0).bind fun i => (boundA ev hi (l.length : Int)).bind fun j => if 0 <= i /\ i <= j /\ j <= (l.length : Int) then some (.put (.v (.list T) ((l.take j.toNat).drop i.toNat))) else none
     else bif lo.isNone then ((ev x).bind (asT (.list T))).bind fun l => (boundA ev hi (-1)).bind fun j => (boundA ev mx (-1)).bind fun m => if 0 <= j /\ j <= m /\ m <= (l.length : Int) then some (.put (.v (.list T) (l.take j.toNat))) else none else none
   | _ => none
 | .call c => match dynF ev c.callee with
  | some f => dynCall E bx f (c.args.toList.map ev)
  | none => evalCall E h bx dst c.argTypes c.callee (c.args.toList.map ev)
 | _ => none
section
variable {P : Program} {E : Env} {b n : Nat} {O : Octx} {ρ : Nat -> Value} {s : St} {a : Act} {w w' : World} {o : Oper} {M : Mm}
def After (O : Octx) (ρ : Nat -> Value) (s : St) (w : World) (e : Eff) (v : Value) (w' : World) : Prop :=
 ∃ ρ', Step O ρ ρ' s.bx (e.bx s.bx s.us) s.us (e.us s.us) s.nl w w' /\ RepA (mem O ρ' (e.bx s.bx s.us) w') (e.av s.us) v
def EffOK (P : Program) (o : Oper) (a : Act) (w : World) (O : Octx) (ρ : Nat -> Value) (s : St) (e : Eff) : Prop :=
 (∃ v w', (execOp a.eval o).run P w = .ok (.value v) w' /\ After O ρ s w e v w') \/
 (∃ w', (execOp a.eval o).run P w = .ok .skip w' /\ After O ρ s w e undef w') \/
 (∃ f args, (execOp a.eval o).run P w = .ok (.enter f args) w /\ Calls P f args w fun en w' => ∃ v, en = .returned v /\ After O ρ s w e v w')
theorem EffOK.val (h : RelC b n O ρ s a w) {v : Value} {av : AV} (hv : (execOp a.eval o).run P w = .ok (.value v) w) (hr : RepA (mem O ρ s.bx w) av v) : EffOK P o a w O ρ s (.put av) :=
 .inl ⟨v, w, hv, ρ, h.toRelO.same (Below.refl _ _), hr⟩
theorem RelC.ev (h : RelC b n O ρ s a w) {x : Operand} {av : AV} (he : s.ev b x = some av) : RepA (mem O ρ s.bx w) av (a.eval x) := by
 cases x with
 | tmp t => exact (h.tm t av he).2
 | const v => cases he; exact rfl
 | global g => cases he
 | func f => cases he; exact ⟨[.func (.func f) #[] #[]], ⟨[], rfl, rfl⟩, rfl⟩
theorem asT_holds : ∀ (av : AV) (U : Ty) (x : U.den) (cs : List Value), asT U av = some x -> HoldsA M av cs -> Holds M.w M.okv U x cs
 | .v T y, U, x, cs, h, hh => by
  simp only [asT] at h
  split at h
  ·rename_i e; subst e; cases h; exact hh
  ·cases h
 | .cst c, U, x, cs, h, hh => by
  obtain ⟨e, _⟩ := hh
  subst e
  exact (decV_rep (w := M.w) (ok := M.okv) h).cells
 | .pr p q, U, x, cs, h, hh => by
  obtain ⟨c1, c2, e, h1, h2⟩ := hh
  cases U with
  | pair A B =>
   simp only [asT, Option.bind_eq_some_iff] at h
   obtain ⟨y, hy, z, hz, e2⟩ := h
   cases e2
   exact ⟨c1, c2, e, asT_holds p A y c1 hy h1, asT_holds q B z c2 hz h2⟩
  | _ => simp [asT] at h
 | .ptr _ _ _, _, _, _, h, _ => by cases h
 | .elt _ _ _ _ _, _, _, _, h, _ => by cases h
 | .ro _ _ _, _, _, _, h, _ => by cases h
 | .arr _ _, _, _, _, h, _ => by cases h
 | .clo _ _, _, _, _, h, _ => by cases h
 | .yld _, _, _, _, h, _ => by cases h
 | .nl, _, _, _, h, _ => by cases h
 | .tup _, _, _, _, h, _ => by cases h
theorem asT_rep {U : Ty} {av : AV} {x : U.den} {v : Value} (h : asT U av = some x) (hr : RepA M av v) : Rep M.w M.okv U x v := by
 cases av with
 | cst c => rw [show v = c from hr]; exact decV_rep h
 | v T y =>
  simp only [asT] at h
  split at h
  ·rename_i e; subst e; cases h; exact hr
  ·cases h
 | pr p q =>
  obtain ⟨cs, h1, h2⟩ := hr
  have := asT_holds _ _ _ _ h h1
  cases U with
  | pair A B => exact ⟨cs, this, h2⟩
  | _ => simp [asT] at h
 | _ => cases h
theorem arr_holds {bx : Nat -> Option Box} {us : Nat -> Nat} {nl id ver : Nat} {e : TypeId} {T : Ty} {l : List T.den} {ok' : Nat -> Prop} {cs : List Value} (hB : BoxOK O ρ bx w us nl id (.arr ver e T l)) (hb : bx id = some (.arr ver e T l))
  (hok : ∀ k, okS O ρ bx k -> ok' k) (hid : ∀ k, refB (ρ id) = some k -> ok' k) (hh : HoldsA (mem O ρ bx w) (.arr id ver) cs) : Holds w ok' (.list T) l cs := by
 obtain ⟨u, e1, _, h2⟩ := hh
 have hu : u = ρ id := h2 (by simp [mem, hb, Box.ver])
 subst hu
 obtain ⟨_, css, hcs, hown⟩ := hB
 have hall : All2 (Holds w ok' T) l css := All2.imp (fun x c hc => Holds.map (fun k c e z hk hh => ⟨hok k hk, hh⟩) _ _ _ hc) hcs
 rcases hown.2 with ⟨h3, h0⟩ | ⟨g, cap, cur, h3, h4, h5, h6, h7, h8, h9⟩
 ·have : l = [] := List.length_eq_zero_iff.1 h0
  subst this
  exact ⟨none, 0, css, by rw [e1, h3]; rfl, ⟨Nat.le_refl _, Nat.zero_le _⟩, hall, fun h => absurd rfl h⟩
 ·have h7' : cap <= 9223372036854775807 := h7
  refine ⟨some ⟨g, 0, none⟩, cap, css, by rw [e1, h3], ⟨h6, by omega⟩, hall, fun _ => ⟨_, rfl, rfl, hid g (by rw [h3]; rfl), cur, e, (0, 0), h5, fun j v hj => ?_⟩⟩
  rw [<- h9, List.getElem?_take] at hj
  split at hj
  ·simpa using hj
  ·cases hj
theorem asB_holds {bx : Nat -> Option Box} {us : Nat -> Nat} {nl : Nat} {ok' : Nat -> Prop} (hbx : ∀ id B, bx id = some B -> BoxOK O ρ bx w us nl id B) (hok : ∀ k, okS O ρ bx k -> ok' k) :
  ∀ (av : AV) (U : Ty) (x : U.den) (cs : List Value), asB bx U av = some x -> (∀ id ∈ arrIds av, ∀ k, (bx id).isSome = true -> refB (ρ id) = some k -> ok' k) -> HoldsA (mem O ρ bx w) av cs -> Holds w ok' U x cs
 | .v T y, U, x, cs, h, _, hh => by
  simp only [asB] at h
  split at h
  ·rename_i e; subst e; cases h; exact Holds.map (fun k c e z hk hh => ⟨hok k hk, hh⟩) _ _ _ hh
  ·cases h
 | .cst c, U, x, cs, h, _, hh => by
  obtain ⟨e, _⟩ := hh
  subst e
  exact (decV_rep h).cells
 | .pr p q, U, x, cs, h, hi, hh => by
  obtain ⟨c1, c2, e, h1, h2⟩ := hh
  cases U with
  | pair A B =>
   simp only [asB, Option.bind_eq_some_iff] at h
   obtain ⟨y, hy, z, hz, e2⟩ := h
   cases e2
   exact ⟨c1, c2, e, asB_holds hbx hok p A y c1 hy (fun id hid => hi id (by simp [arrIds, hid])) h1, asB_holds hbx hok q B z c2 hz (fun id hid => hi id (by simp [arrIds, hid])) h2⟩
  | _ => simp [asB] at h
 | .arr id ver, U, x, cs, h, hi, hh => by
  simp only [asB] at h
  split at h
  ·rename_i ver' e T l hb
   split at h
   ·rename_i eU
    subst eU
    split at h
    ·rename_i ev
     subst ev
     cases h
     exact arr_holds (hbx id _ hb) hb hok (fun k hk => hi id (by simp [arrIds]) k (by rw [hb]; rfl) hk) hh
    ·cases h
   ·cases h
  ·cases h
 | .ptr _ _ _, _, _, _, h, _, _ => by cases h
 | .elt _ _ _ _ _, _, _, _, h, _, _ => by cases h
 | .ro _ _ _, _, _, _, h, _, _ => by cases h
 | .clo _ _, _, _, _, h, _, _ => by cases h
 | .yld _, _, _, _, h, _, _ => by cases h
 | .nl, _, _, _, h, _, _ => by cases h
 | .tup _, _, _, _, h, _, _ => by cases h
theorem asB_rep {bx : Nat -> Option Box} {us : Nat -> Nat} {nl : Nat} {ok' : Nat -> Prop} (hbx : ∀ id B, bx id = some B -> BoxOK O ρ bx w us nl id B) (hok : ∀ k, okS O ρ bx k -> ok' k) {U : Ty} {av : AV} {x : U.den} {v : Value}
  (h : asB bx U av = some x) (hi : ∀ id ∈ arrIds av, ∀ k, (bx id).isSome = true -> refB (ρ id) = some k -> ok' k) (hr : RepA (mem O ρ bx w) av v) : Rep w ok' U x v := by
 cases av with
 | cst c => rw [show v = c from hr]; exact decV_rep h
 | v T y =>
  obtain ⟨cs, h1, h2⟩ := hr
  have := asB_holds hbx hok _ _ _ _ h hi h1
  simp only [asB] at h
  split at h
  ·rename_i e; subst e; exact ⟨cs, this, h2⟩
  ·cases h
 | pr p q =>
  obtain ⟨cs, h1, h2⟩ := hr
  have := asB_holds hbx hok _ _ _ _ h hi h1
  cases U with
  | pair A B => exact ⟨cs, this, h2⟩
  | _ => simp [asB] at h
 | arr id ver =>
  obtain ⟨cs, h1, h2⟩ := hr
  have := asB_holds hbx hok _ _ _ _ h hi h1
  cases U with
  | list T => exact ⟨cs, this, h2⟩
  | _ =>
   exfalso
   simp only [asB] at h
   split at h
   ·split at h
    ·rename_i e; cases e
    ·cases h
   ·cases h
 | _ => cases h
theorem RelC.evT (h : RelC b n O ρ s a w) {x : Operand} {U : Ty} {y : U.den} (he : (s.ev b x).bind (asT U) = some y) : Rep w (okS O ρ s.bx) U y (a.eval x) := by
 rw [Option.bind_eq_some_iff] at he
 obtain ⟨av, h1, h2⟩ := he
 exact asT_rep h2 (h.ev h1)
theorem asI_rep {av : AV} {n : Int} {v : Value} (h : asI av = some n) (hr : RepA M av v) : ∃ k, v = .int k n := by
 unfold asI at h
 split at h
 ·cases h
  obtain ⟨cs, hc, rfl⟩ := hr
  rw [show cs = _ from hc]
  exact ⟨_, rfl⟩
 ·cases h
  exact ⟨_, hr⟩
 ·cases h
theorem Rep.int {ok : Nat -> Prop} {k : IntKind} {x : Int} {v : Value} (h : Rep w ok (.int k) x v) : v = .int k x := by
 obtain ⟨cs, hc, rfl⟩ := h
 rw [show cs = _ from hc]; rfl
theorem Rep.bool {ok : Nat -> Prop} {x : Bool} {v : Value} (h : Rep w ok .bool x v) : v = .bool x := by
 obtain ⟨cs, hc, rfl⟩ := h
 rw [show cs = _ from hc]; rfl
theorem Rep.of_int {k : IntKind} {x : Int} : RepA M (.v (.int k) x) (.int k x) := ⟨[.int k x], rfl, rfl⟩
theorem Rep.of_bool {x : Bool} : RepA M (.v .bool x) (.bool x) := ⟨[.bool x], rfl, rfl⟩
theorem ptr_at (h : RelO O ρ s w) {id ver off : Nat} {c : AV} {v : Value} (hB : s.bx id = some (.cells ver c)) (hr : RepA (mem O ρ s.bx w) (.ptr id ver off) v) :
  ∃ g cs e, v = .pointer (some ⟨g, off, none⟩) /\ ρ id = .pointer (some ⟨g, 0, none⟩) /\ w.heap[g]? = some (.cells cs e (0, 0)) /\ HoldsA (mem O ρ s.bx w) c cs.toList := by
 obtain ⟨cs, ⟨u, e, _, h2⟩, h3⟩ := hr
 obtain ⟨g, h4, h5⟩ := h2 (by simp [mem, hB, Box.ver])
 obtain ⟨_, _, g', cs', e', h6, _, h7, h8⟩ := h.bx id _ hB
 have : g' = g := by have h4' : ρ id = _ := h4; rw [h4'] at h6; cases h6; rfl
 subst this
 exact ⟨g', cs', e', by rw [h3, e]; exact h5, h6, h7, h8⟩
theorem elt_at (h : RelO O ρ s w) {id ver i off : Nat} {e : TypeId} {T : Ty} {l : List T.den} {y : T.den} {v : Value} (hB : s.bx id = some (.arr ver e T l)) (hr : RepA (mem O ρ s.bx w) (.elt id ver T.size i off) v) (hi : l[i]? = some y) :
  ∃ g m cap cur c, v = .pointer (some ⟨g, i * T.size + off, none⟩) /\ ρ id = .slice (some ⟨g, 0, none⟩) m cap /\ w.heap[g]? = some (.cells cur e (0, 0)) /\ At w g (i * T.size) c /\ Holds w (okS O ρ s.bx) T y c /\
   i * T.size + T.size <= cur.size /\ c = (cur.toList.drop (i * T.size)).take T.size := by
 obtain ⟨cs, ⟨u, eu, _, h2⟩, h3⟩ := hr
 obtain ⟨g, m, cap, h4, h5⟩ := h2 (by simp [mem, hB, Box.ver])
 obtain ⟨_, css, hcs, hown⟩ := h.bx id _ hB
 have hlt : i < l.length := (List.getElem?_eq_some_iff.1 hi).1
 rcases hown.2 with ⟨h6, h0⟩ | ⟨g', cap', cur, h6, _, h7, h8, _, h9, h10⟩
 ·omega
 ·have : g' = g /\ cap' = cap /\ l.length = m := by have h4' : ρ id = _ := h4; rw [h4'] at h6; cases h6; exact ⟨rfl, rfl, rfl⟩
  obtain ⟨rfl, rfl, rfl⟩ := this
  obtain ⟨c, hc, hy⟩ := All2.get hcs hi
  have hcl := Holds.len _ _ _ hy
  have hmul : i * T.size + T.size <= l.length * T.size := by rw [<- Nat.succ_mul]; exact Nat.mul_le_mul_right _ (by omega)
  have hsz : l.length * T.size <= cur.size := by rw [h9]; exact Nat.mul_le_mul_right _ h8
  have hcell : ∀ j v, c[j]? = some v -> cur[i * T.size + j]? = some v := fun j v hj => by
   have := Holds.flat hcs i c hc j v hj
   rw [<- h10, List.getElem?_take] at this
   split at this
   ·simpa using this
   ·cases this
  refine ⟨g', l.length, cap', cur, c, by rw [h3, eu]; exact h5, h4, h7, ⟨cur, e, (0, 0), h7, hcell⟩, hy, by omega, ?_⟩
  apply List.ext_getElem?
  intro j
  rw [List.getElem?_take]
  split
  ·rename_i hj
   rw [List.getElem?_drop]
   have hj' : j < c.length := by omega
   have := hcell j _ (List.getElem?_eq_getElem hj')
   rw [List.getElem?_eq_getElem hj', <- this]
   simp
  ·rename_i hj
   rw [List.getElem?_eq_none (by omega)]
theorem At.part {g off k m : Nat} {cs : List Value} (h : At w g off cs) : At w g (off + k) ((cs.drop k).take m) := by
 obtain ⟨c, e, z, hh, hv⟩ := h
 refine ⟨c, e, z, hh, fun j v hj => ?_⟩
 rw [List.getElem?_take] at hj
 split at hj
 ·rw [List.getElem?_drop] at hj
  rw [Nat.add_assoc]
  exact hv _ _ hj
 ·cases hj
theorem run_loadVar_at {t : TypeId} {q : Nat × Bool × AV} {ti : TypeInfo} {d : TypeDesc} (hL : LayOK P t q ti d) {g off : Nat} {ds : List Value} (ha : At w g off ds) (hl : ds.length = q.1) (hone : q.2.1 = false -> q.1 = 1) :
  (loadVar t ⟨g, off, none⟩).run P w = .ok (if q.2.1 = true then .agg ds.toArray else ds.headD undef) w := by
 obtain ⟨c, e, z, hh, hv⟩ := ha
 have hadd : ∀ j, (⟨g, off, none⟩ : Addr).add j = ⟨g, off + j, none⟩ := fun j => by unfold Addr.add; split <;> simp_all
 have hc : ∀ j v, ds[j]? = some v -> w.cell? ((⟨g, off, none⟩ : Addr).add j) = some v := fun j v hj => by
  rw [hadd]; simp only [World.cell?, hh]; exact hv j v hj
 have hag : (isAgg t).run P w = .ok q.2.1 w := by
  unfold isAgg
  rw [Sem.run_bind, run_underlying hL.desc w, <- hL.agg]
  cases d <;> rfl
 have hsz : (sizeOf t).run P w = .ok q.1 w := by simp [sizeOf, typeInfo, hL.info, hL.size]
 unfold loadVar
 rw [Sem.run_bind, hag]
 simp only [Result.andThen_ok]
 cases hq : q.2.1 with
 | true =>
  have h2 := run_loadCells_list (P := P) w ⟨g, off, none⟩ ds hc
  rw [hl] at h2
  simp only [if_true, Sem.run_bind, hsz, Result.andThen_ok, h2, Sem.run_pure]
 | false =>
  have h1 := hone hq
  match ds, hl with
  | [v], _ =>
   have := hc 0 v rfl
   simp only [Bool.false_eq_true, if_false, run_load]
   rw [show (⟨g, off, none⟩ : Addr) = (⟨g, off, none⟩ : Addr).add 0 from rfl, this]
   rfl
  | [], hl => simp at hl; omega
  | _ :: _ :: _, hl => simp at hl; omega
end
section
variable {P : Program} {E : Env} {b n : Nat} {O : Octx} {ρ : Nat -> Value} {s : St} {a : Act} {w w' : World} {o : Oper} {hw : How} {dst : Option Nat}
theorem drop_glue {α : Type} (l : List α) (m k j : Nat) (h : k <= j) : l.drop (m + k) = ((l.drop m).take j).drop k ++ l.drop (m + j) := by
 rw [List.drop_take, List.drop_drop, show l.drop (m + j) = (l.drop (m + k)).drop (j - k) by rw [List.drop_drop]; congr 1; omega]
 exact (List.take_append_drop _ _).symm
theorem load_part (hE : E.OK P) {t : TypeId} {q : Nat × Bool × AV} (hq : E.lay t = some q) {x : Operand} (ho : o.op = .load t x) {g off : Nat} {ds : List Value} {p : AV} (hx : a.eval x = .pointer (some ⟨g, off, none⟩))
  (ha : At w g off ds) (hl : ds.length = q.1) (hd : HoldsA (mem O ρ s.bx w) p ds) (hf : p.fit = true) (hag : p.agg = q.2.1) (h : RelC b n O ρ s a w) (h1 : q.2.1 = false -> q.1 = 1) : EffOK P o a w O ρ s (.put p) := by
 obtain ⟨ti, d, hL⟩ := hE.lay t q hq
 refine EffOK.val h (v := mkA p ds) ?_ (RepB.toA hd.rep)
 simp only [execOp, ho, hx, Instr.loadAt, Instr.sureAddr, Sem.run_bind, Sem.run_pure, Result.andThen_ok, run_loadVar_at hL ha hl h1, hd.mk hf, hag]
theorem agg_one : ∀ (p : AV), p.fit = true -> p.agg = false -> p.size = 1
 | .cst v, hf, ha => by
  cases v <;> first | rfl | (simp [AV.agg, Value.isAgg] at ha)
 | .v T x, _, ha => by cases T <;> first | rfl | (simp [AV.agg, Ty.isPair] at ha)
 | .pr _ _, _, ha => by simp [AV.agg] at ha
 | .nl, hf, _ => by simp [AV.fit] at hf
 | .tup _, hf, _ => by simp [AV.fit] at hf
 | .ptr _ _ _, _, _ => rfl
 | .elt _ _ _ _ _, _, _ => rfl
 | .ro _ _ _, _, _ => rfl
 | .arr _ _, _, _ => rfl
 | .clo _ _, _, _ => rfl
 | .yld _, _, _ => rfl
theorem pick_of {R : Type} {p : AV} {c : Bool} {r : AV} (h : (bif p.fit && (p.agg == c) then some p else none) = some r) : r = p /\ p.fit = true /\ p.agg = c := by
 cases hc : (p.fit && (p.agg == c)) with
 | false => rw [hc] at h; cases h
 | true =>
  rw [hc] at h
  simp only [cond_true, Option.some.injEq] at h
  simp only [Bool.and_eq_true, beq_iff_eq] at hc
  exact ⟨h.symm, hc.1, hc.2⟩
theorem evalOp_load (hE : E.OK P) (h : RelC b n O ρ s a w) {t : TypeId} {x : Operand} (ho : o.op = .load t x) {eff : Eff} (he : evalOp E hw dst (s.ev b) s.bx (.load t x) = some eff) : EffOK P o a w O ρ s eff := by
 simp only [evalOp, Option.bind_eq_some_iff, Option.map_eq_some_iff] at he
 obtain ⟨q, hq, av, hav, p, hp, e⟩ := he
 subst e
 have hrep := h.ev hav
 have fin : ∀ (g off : Nat) (ds : List Value) (p' : AV), a.eval x = .pointer (some ⟨g, off, none⟩) -> At w g off ds -> ds.length = q.1 -> HoldsA (mem O ρ s.bx w) p' ds -> (bif p'.fit && (p'.agg == q.2.1) then some p' else none) = some p -> EffOK P o a w O ρ s (.put p) :=
  fun g off ds p' hx ha hl hd hc => by
   obtain ⟨rfl, hf, hag⟩ := pick_of (R := Unit) hc
   exact load_part hE hq ho hx ha hl hd hf hag h fun hb => by rw [<- hl, HoldsA.len _ _ hd]; exact agg_one _ hf (hag.trans hb)
 unfold loadA at hp
 split at hp
 ·rename_i id ver off
  split at hp
  ·rename_i ver' c hB
   cases hv : Nat.beq ver ver' with
   | false => rw [hv] at hp; cases hp
   | true =>
    rw [hv] at hp
    have hv' := Nat.eq_of_beq_eq_true hv
    subst hv'
    simp only [cond_true] at hp
    split at hp
    ·rename_i p' hp'
     obtain ⟨g, cs, e, hx, _, hh, hc⟩ := ptr_at h.toRelO hB hrep
     obtain ⟨h1, h2⟩ := subA_holds _ _ _ _ _ hp' hc
     have hat : At w g 0 cs.toList := ⟨cs, e, _, hh, fun j v hj => by simpa using hj⟩
     have hat' := At.part (k := off) (m := q.1) hat
     rw [Nat.zero_add] at hat'
     exact fin g off _ p' hx hat' (by simp at h2 ⊢; omega) h1 hp
    ·cases hp
  ·cases hp
 ·rename_i id ver sz i off
  split at hp
  ·rename_i ver' e T l hB
   cases hv : (Nat.beq ver ver' && Nat.beq sz T.size) with
   | false => rw [hv] at hp; cases hp
   | true =>
    rw [hv] at hp
    rw [Bool.and_eq_true] at hv
    have hv1 := Nat.eq_of_beq_eq_true hv.1
    have hv2 := Nat.eq_of_beq_eq_true hv.2
    subst hv1; subst hv2
    simp only [cond_true, Option.bind_eq_some_iff] at hp
    obtain ⟨y, hy, hp⟩ := hp
    split at hp
    ·rename_i p' hp'
     obtain ⟨g, m, cap, cur, c, hx, _, _, hat, hc, _, _⟩ := elt_at h.toRelO hB hrep hy
     obtain ⟨h1, h2⟩ := subS_holds (M := mem O ρ s.bx w) _ _ _ _ _ _ hp' hc
     exact fin g _ _ p' hx (At.part hat) (by simp; omega) h1 hp
    ·cases hp
  ·cases hp
 ·rename_i T y off
  split at hp
  ·rename_i p' hp'
   obtain ⟨cs, ⟨g, o', ds, e, hk, ha, hc⟩, hx⟩ := hrep
   have hx' : a.eval x = .pointer (some ⟨g, o' + off, none⟩) := by rw [hx, e]; rfl
   obtain ⟨h1, h2⟩ := subS_holds (M := mem O ρ s.bx w) _ _ _ _ _ _ hp' hc
   exact fin g _ _ p' hx' (At.part ha) (by simp; omega) h1 hp
  ·cases hp
 ·cases hp
theorem evalOp_move (h : RelC b n O ρ s a w) {x : Operand} (ho : o.op = .move x \/ o.op = .assign x) {eff : Eff} (he : (s.ev b x).map Eff.put = some eff) : EffOK P o a w O ρ s eff := by
 rw [Option.map_eq_some_iff] at he
 obtain ⟨av, hav, e⟩ := he
 subst e
 refine EffOK.val h (v := a.eval x) ?_ (h.ev hav)
 rcases ho with ho | ho <;> simp only [execOp, ho, Sem.run_pure]
theorem fit_tup {av : AV} (hf : av.fit = true) : ∀ c, av ≠ .tup c := fun c e => by rw [e] at hf; cases hf
theorem evalOp_store (hE : E.OK P) (h : RelC b n O ρ s a w) {t : TypeId} {x y : Operand} (ho : o.op = .store t x y) {eff : Eff} (he : evalOp E hw dst (s.ev b) s.bx (.store t x y) = some eff)
  (hbd : ∀ id ver av, eff = .sto id ver av -> av.bd s.us s.nl = true) : EffOK P o a w O ρ s eff := by
 simp only [evalOp, Option.bind_eq_some_iff] at he
 obtain ⟨q, hq, z, hz, av, hav, he⟩ := he
 obtain ⟨ti, d, hL⟩ := hE.lay t q hq
 have hrep := h.ev hav
 have hzr := h.ev hz
 have hsz : (sizeOf t).run P w = .ok q.1 w := by simp [sizeOf, typeInfo, hL.info, hL.size]
 have run : ∀ (g off : Nat) (cs : Array Value) (el : TypeId) (ds : List Value), a.eval x = .pointer (some ⟨g, off, none⟩) -> w.heap[g]? = some (.cells cs el (0, 0)) -> (a.eval y).cells.toList = ds -> ds.length = q.1 -> off + ds.length <= cs.size -> (∀ u ∈ ds, u.oneCell' = true) ->
   (execOp a.eval o).run P w = .ok .skip (w.setRow g (cs.toList.take off ++ ds ++ cs.toList.drop (off + ds.length)).toArray) := fun g off cs el ds hx hh hy hl hle hone => by
  have hst := run_storeCells_at (P := P) g off el ds 0 cs w hh (by omega) hone
  simp only [Nat.add_zero] at hst
  simp only [execOp, ho, hx, Instr.storeAt, Instr.sureAddr, storeVar, Sem.run_bind, Sem.run_pure, Result.andThen_ok, hsz]
  rw [if_neg (by rw [<- hl, <- hy]; simp)]
  simp only [Sem.run_bind, Sem.run_pure, Result.andThen_ok, hy, hst]
 unfold storeA at he
 split at he
 ·rename_i id ver off
  split at he
  ·rename_i ver' c hB
   cases hv : (Nat.beq ver ver' && z.fit && Nat.beq z.size q.1) with
   | false => rw [hv] at he; cases he
   | true =>
    rw [hv] at he
    simp only [Bool.and_eq_true] at hv
    obtain ⟨⟨hv1, hf⟩, hv2⟩ := hv
    have hv1 := Nat.eq_of_beq_eq_true hv1
    have hv2 := Nat.eq_of_beq_eq_true hv2
    subst hv1
    simp only [cond_true] at he
    split at he
    ·rename_i c' hc'
     cases he
     obtain ⟨g, cs, el, hx, hg, hh, hc⟩ := ptr_at h.toRelO hB hrep
     have hd := RepB.cells (RepA.toB (fit_tup hf) hzr) hf
     have hl := HoldsA.len _ _ hd
     obtain ⟨h1, h2⟩ := updA_holds _ _ _ _ _ _ hc' hc hd
     refine .inr (.inl ⟨_, run g off cs el _ hx hh rfl (by omega) (by rw [hl]; simpa using h2) (HoldsA.one _ _ hd), ρ, ?_, rfl⟩)
     rw [hl]
     exact h.toRelO.sto hB hg (hbd _ _ _ rfl) (by rw [List.toList_toArray]; exact h1)
    ·cases he
  ·cases he
 ·rename_i id ver sz i off
  split at he
  ·rename_i ver' e T l U hB hU
   cases hv : (Nat.beq ver ver' && Nat.beq sz T.size) with
   | false => rw [hv] at he; cases he
   | true =>
    rw [hv] at he
    rw [Bool.and_eq_true] at hv
    have hv1 := Nat.eq_of_beq_eq_true hv.1
    have hv2 := Nat.eq_of_beq_eq_true hv.2
    subst hv1; subst hv2
    simp only [cond_true] at he
    split at he
    ·rename_i u hu
     rw [Option.bind_eq_some_iff] at he
     obtain ⟨y0, hy0, he⟩ := he
     split at he
     ·rename_i y' hy'
      cases he
      obtain ⟨g, m, cap, cur, c, hx, hg, hh, hat, hc, hbnd, ecur⟩ := elt_at h.toRelO hB hrep hy0
      have hd := (asT_rep hu hzr).cells
      have hl := Holds.len _ _ _ hd
      obtain ⟨d', hTy⟩ := hE.ty t U hU
      obtain ⟨z0, hz0⟩ := hTy.lay
      have hq1 : q.1 = U.size := by rw [hq] at hz0; cases hz0; rfl
      obtain ⟨h1, h2⟩ := upd_holds _ _ _ _ _ _ _ _ hy' hc hd
      have hcl := Holds.len _ _ _ hc
      refine .inr (.inl ⟨_, run g _ cur e _ hx hh rfl (by rw [hq1]; exact hl) (by rw [hl]; omega) (Holds.one _ _ _ hd), ρ, ?_, rfl⟩)
      have hst := h.toRelO.stoE hB (List.getElem?_eq_some_iff.1 hy0).1 hg hh h1
      have hcells : cur.toList.take (i * T.size + off) ++ (a.eval y).cells.toList ++ cur.toList.drop (i * T.size + off + (a.eval y).cells.toList.length) =
        cur.toList.take (i * T.size) ++ (c.take off ++ (a.eval y).cells.toList ++ c.drop (off + U.size)) ++ cur.toList.drop (i * T.size + T.size) := by
       rw [ecur, hl, List.take_add, Nat.add_assoc, drop_glue cur.toList (i * T.size) (off + U.size) T.size (by omega), List.take_take, Nat.min_eq_left (by omega)]
       simp only [List.append_assoc]
      rw [hcells]
      exact hst
     ·cases he
    ·cases he
  ·cases he
 ·cases he
theorem run_zero (hE : E.OK P) {t : TypeId} {q : Nat × Bool × AV} (hq : E.lay t = some q) (w : World) : ∃ z, (zeroValue t).run P w = .ok z w /\ ∀ M, RepB M q.2.2 z := by
 obtain ⟨ti, d, hL⟩ := hE.lay t q hq
 obtain ⟨z, h1, h2⟩ := hL.zero
 exact ⟨z, by simp [zeroValue, typeInfo, hL.info, h1], h2⟩
theorem evalOp_alloc (hE : E.OK P) (h : RelC b n O ρ s a w) {t : TypeId} (ho : o.op = .alloc t) {eff : Eff} (he : evalOp E hw dst (s.ev b) s.bx (.alloc t) = some eff) : EffOK P o a w O ρ s eff := by
 simp only [evalOp, Option.map_eq_some_iff] at he
 obtain ⟨q, hq, e⟩ := he
 subst e
 obtain ⟨ti, d, hL⟩ := hE.lay t q hq
 obtain ⟨z, hz, hr⟩ := run_zero hE hq w
 obtain ⟨h1, h2⟩ := h.toRelO.new (id := newId hw dst) (cs := z.cells) (e := t) (hL.bd _ _) (RepB.cells (hr _) hL.fit)
 refine .inl ⟨_, _, ?_, _, h1, h2⟩
 simp only [execOp, ho, Instr.alloc, Sem.run_bind, hz, Result.andThen_ok, newVar, newRow, run_newObj, Sem.run_pure, World.alloc_eq]
theorem evalOp_box (h : RelC b n O ρ s a w) {t : TypeId} {x : Operand} (ho : o.op = .box t x) {eff : Eff} (he : evalOp E hw dst (s.ev b) s.bx (.box t x) = some eff) (hbd : ∀ id av, eff = .new id av -> av.bd s.us s.nl = true) : EffOK P o a w O ρ s eff := by
 simp only [evalOp, Option.bind_eq_some_iff] at he
 obtain ⟨av, hav, he⟩ := he
 cases hf : av.fit with
 | false => rw [hf] at he; cases he
 | true =>
  rw [hf] at he
  cases he
  obtain ⟨h1, h2⟩ := h.toRelO.new (id := newId hw dst) (cs := (a.eval x).cells) (e := t) (hbd _ _ rfl) (RepB.cells (RepA.toB (fit_tup hf) (h.ev hav)) hf)
  refine .inl ⟨_, _, ?_, _, h1, h2⟩
  simp only [execOp, ho, Instr.box, Sem.run_bind, Result.andThen_ok, newVar, newRow, run_newObj, Sem.run_pure, World.alloc_eq]
theorem evalOp_pick (h : RelC b n O ρ s a w) {c x y : Operand} (ho : o.op = .pick c x y) {eff : Eff} (he : evalOp E hw dst (s.ev b) s.bx (.pick c x y) = some eff) : EffOK P o a w O ρ s eff := by
 simp only [evalOp, Option.bind_eq_some_iff (x := (s.ev b c).bind _), Option.map_eq_some_iff] at he
 obtain ⟨t, ht, av, hav, e⟩ := he
 subst e
 have hc := (h.evT ht).bool
 cases t with
 | true => exact EffOK.val h (v := a.eval x) (by simp [execOp, ho, hc, asBool]) (h.ev hav)
 | false => exact EffOK.val h (v := a.eval y) (by simp [execOp, ho, hc, asBool]) (h.ev hav)
end
section
variable {P : Program} {E : Env} {b n : Nat} {O : Octx} {ρ : Nat -> Value} {s : St} {a : Act} {w w' : World} {o : Oper} {hw : How} {dst : Option Nat} {M : Mm}
theorem fold_set (off : Nat) : ∀ (l : List Value) (k : Nat) (c : Array Value), off + k + l.length <= c.size ->
  (l.zipIdx k).foldl (fun cs (q : Value × Nat) => cs.setIfInBounds (off + q.2) q.1) c = (c.toList.take (off + k) ++ l ++ c.toList.drop (off + k + l.length)).toArray
 | [], k, c, _ => by simp
 | v :: l, k, c, h => by
  simp only [List.length_cons] at h
  rw [List.zipIdx_cons, List.foldl_cons, fold_set off l (k + 1) _ (by simp; omega)]
  have hk : off + k < c.size := by omega
  simp only [Array.toList_setIfInBounds, List.length_cons, List.toArray_inj]
  rw [show off + (k + 1) = off + k + 1 by omega, List.take_set, List.drop_set_of_lt (by omega), show off + k + 1 + l.length = off + k + (l.length + 1) by omega]
  rw [List.take_add_one, List.set_append_right _ _ (by simp; omega)]
  simp [hk, Nat.min_eq_left (Nat.le_of_lt hk)]
theorem fill_cons {place : Nat -> Option (Nat × Nat)} {cells : Array Value} {i off size : Nat} {v : Value} {r : List (Nat × Value)} (hp : place i = some (off, size)) (hs : v.cells.size = size) (hb : off + size <= cells.size) :
  Instr.fill place cells ((i, v) :: r) = Instr.fill place (cells.toList.take off ++ v.cells.toList ++ cells.toList.drop (off + size)).toArray r := by
 simp only [Instr.fill, hp]
 rw [if_neg (by rw [hs]; simp; omega)]
 congr 1
 have := fold_set off v.cells.toList 0 cells (by simp [hs]; omega)
 simp only [Nat.add_zero, Array.length_toList, hs] at this
 rw [<- this, <- Array.foldl_toList]
 simp
theorem fill_build (h : RelC b n O ρ s a w) {t : TypeId} {place : Nat -> Option (Nat × Nat)} (hplace : ∀ i q y, E.fld t i = some q -> E.lay q.2 = some y -> place i = some (q.1, y.1)) :
  ∀ (ps : List (Nat × Operand)) (x : AV) (cells : Array Value) (z : AV), HoldsA (mem O ρ s.bx w) x cells.toList -> buildA E t (s.ev b) ps x = some z ->
  ∃ cells', Instr.fill place cells (ps.map fun q => (q.1, a.eval q.2)) = some cells' /\ HoldsA (mem O ρ s.bx w) z cells'.toList
 | [], x, cells, z, hh, hb => by cases hb; exact ⟨cells, rfl, hh⟩
 | (i, x0) :: r, x, cells, z, hh, hb => by
  simp only [buildA] at hb
  split at hb
  ·rename_i q hq
   split at hb
   ·rename_i y av hy hav
    cases hc : (av.fit && Nat.beq av.size y.1) with
    | false => rw [hc] at hb; cases hb
    | true =>
     rw [hc] at hb
     rw [Bool.and_eq_true] at hc
     have hs := Nat.eq_of_beq_eq_true hc.2
     simp only [cond_true] at hb
     split at hb
     ·rename_i x' hx'
      have hr := RepB.cells (RepA.toB (fit_tup hc.1) (h.ev hav)) hc.1
      obtain ⟨h1, h2⟩ := updA_holds _ _ _ _ _ _ hx' hh hr
      have hl := HoldsA.len _ _ hr
      obtain ⟨c', h3, h4⟩ := fill_build h hplace r x' (cells.toList.take q.1 ++ (a.eval x0).cells.toList ++ cells.toList.drop (q.1 + av.size)).toArray z h1 hb
      refine ⟨c', ?_, h4⟩
      rw [List.map_cons, fill_cons (hplace i q y hq hy) (by rw [<- hs]; simpa using hl) (by rw [<- hs]; simpa using h2), <- hs]
      exact h3
     ·cases hb
   ·cases hb
  ·cases hb
theorem run_places (fs : List Field) (h : ∀ fd ∈ fs, ∃ ti, P.info? fd.type = some ti) :
  ∃ pl : List (Nat × Nat), (fs.mapM (fun f => do pure (f.offset, <- sizeOf f.type) : Field -> Sem (Nat × Nat))).run P w = .ok pl w /\ ∀ (i : Nat) (fd : Field) (ti : TypeInfo), fs[i]? = some fd -> P.info? fd.type = some ti -> pl[i]? = some (fd.offset, ti.size) := by
 induction fs with
 | nil => exact ⟨[], rfl, fun i fd ti e => by simp at e⟩
 | cons f fs ih =>
  obtain ⟨pl, h1, h2⟩ := ih fun fd hfd => h fd (List.mem_cons_of_mem _ hfd)
  obtain ⟨ti, hti⟩ := h f List.mem_cons_self
  have hsz : (sizeOf f.type).run P w = .ok ti.size w := by simp [sizeOf, typeInfo, hti]
  refine ⟨(f.offset, ti.size) :: pl, ?_, fun i fd ti' hi ht => ?_⟩
  ·simp only [List.mapM_cons, Sem.run_bind, hsz, Result.andThen_ok, Sem.run_pure, h1]
  ·cases i with
   | zero => cases hi; rw [hti] at ht; cases ht; rfl
   | succ i => simpa using h2 i fd ti' (by simpa using hi) ht
theorem agg_cells {av : AV} {v : Value} (hr : RepA M av v) (hag : av.agg = true) (hf : av.fit = true) : ∃ cs, v = .agg cs /\ HoldsA M av cs.toList := by
 have hc := RepB.cells (RepA.toB (fit_tup hf) hr) hf
 cases av with
 | cst c =>
  have e : v = c := hr
  subst e
  cases v <;> first | (simp [AV.agg, Value.isAgg] at hag; done) | skip
  rename_i cs
  exact ⟨cs, rfl, hc⟩
 | v T x =>
  obtain ⟨cs, h1, h2⟩ := hr
  cases T with
  | pair A B => exact ⟨cs.toArray, h2, by simpa using h1⟩
  | _ => simp [AV.agg, Ty.isPair] at hag
 | pr x y => obtain ⟨cs, h1, h2⟩ := hr; exact ⟨cs.toArray, h2, by simpa using h1⟩
 | _ => simp [AV.agg] at hag
theorem holds_agg {av : AV} {cs : Array Value} (hh : HoldsA M av cs.toList) (hag : av.agg = true) (hf : av.fit = true) : RepA M av (.agg cs) := by
 have := RepB.toA hh.rep
 rw [hh.mk hf, hag] at this
 simpa using this
theorem updS_fit : ∀ (T : Ty) (x : T.den) (off : Nat) (y z : AV), updS T x off y = some z -> y.fit = true -> z.fit = true := by
 intro T
 induction T with
 | pair A B iA iB =>
  intro x off y z h hy
  unfold updS at h
  split at h
  ·cases h; exact hy
  ·split at h
   ·rw [Option.map_eq_some_iff] at h
    obtain ⟨q, hq, e⟩ := h
    subst e
    simp only [AV.fit, Bool.and_true]
    exact iA _ _ _ _ hq hy
   ·split at h
    ·rw [Option.map_eq_some_iff] at h
     obtain ⟨q, hq, e⟩ := h
     subst e
     simp only [AV.fit, Bool.true_and]
     exact iB _ _ _ _ hq hy
    ·cases h
 | _ =>
  intro x off y z h hy
  unfold updS at h
  split at h
  ·cases h; exact hy
  ·cases h
theorem updA_fit : ∀ (x : AV) (off : Nat) (y z : AV), updA x off y = some z -> x.fit = true -> y.fit = true -> z.fit = true := by
 intro x
 induction x with
 | pr p q ip iq =>
  intro off y z h hx hy
  simp only [AV.fit, Bool.and_eq_true] at hx
  unfold updA at h
  split at h
  ·cases h; exact hy
  ·split at h
   ·rw [Option.map_eq_some_iff] at h
    obtain ⟨r, hr, e⟩ := h
    subst e
    simp only [AV.fit, Bool.and_eq_true]
    exact ⟨ip _ _ _ hr hx.1 hy, hx.2⟩
   ·split at h
    ·rw [Option.map_eq_some_iff] at h
     obtain ⟨r, hr, e⟩ := h
     subst e
     simp only [AV.fit, Bool.and_eq_true]
     exact ⟨hx.1, iq _ _ _ hr hx.2 hy⟩
    ·cases h
 | v T x => intro off y z h _ hy; exact updS_fit T x off y z h hy
 | _ =>
  intro off y z h hx hy
  unfold updA at h
  split at h
  ·cases h; exact hy
  ·cases h
theorem buildA_fit {t : TypeId} {ev : Operand -> Option AV} : ∀ (ps : List (Nat × Operand)) (x z : AV), buildA E t ev ps x = some z -> x.fit = true -> z.fit = true
 | [], x, z, h, hx => by cases h; exact hx
 | (i, x0) :: r, x, z, h, hx => by
  simp only [buildA] at h
  split at h
  ·split at h
   ·rename_i y av hy hav
    cases hc : (av.fit && Nat.beq av.size y.1) with
    | false => rw [hc] at h; cases h
    | true =>
     rw [hc] at h
     rw [Bool.and_eq_true] at hc
     simp only [cond_true] at h
     split at h
     ·rename_i x' hx'
      exact buildA_fit r x' z h (updA_fit _ _ _ _ hx' hx hc.1)
     ·cases h
   ·cases h
  ·cases h
theorem evalOp_build (hE : E.OK P) (h : RelC b n O ρ s a w) {t : TypeId} {ps : Array (Nat × Operand)} (ho : o.op = .build t ps) {eff : Eff} (he : evalOp E hw dst (s.ev b) s.bx (.build t ps) = some eff) : EffOK P o a w O ρ s eff := by
 simp only [evalOp, Option.bind_eq_some_iff (x := E.lay t)] at he
 obtain ⟨q, hq, he⟩ := he
 obtain ⟨ti, d, hL⟩ := hE.lay t q hq
 obtain ⟨z, hz, hzr⟩ := run_zero hE hq w
 split at he
 ·rename_i hf0
  obtain ⟨q0, hq0⟩ := Option.isSome_iff_exists.1 hf0
  rw [Option.bind_eq_some_iff] at he
  obtain ⟨x, hx, he⟩ := he
  cases hag : x.agg with
  | false => rw [hag] at he; cases he
  | true =>
   rw [hag] at he
   cases he
   obtain ⟨fs, fd0, hd, _⟩ := hE.fld t 0 _ hq0
   have hdd : d = .struct fs := Option.some.inj (hL.desc.symm.trans hd)
   subst hdd
   obtain ⟨pl, hpl, hpl'⟩ := run_places (P := P) (w := w) fs.toList (hL.flds fs rfl)
   obtain ⟨c', h3, h4⟩ := fill_build h (t := t) (place := (pl[·]?)) (fun i q y hi hy => by
    obtain ⟨fs', fd, hd', hf, ho1, ho2⟩ := hE.fld t i q hi
    have e : fs' = fs := by have := hd'.symm.trans hd; cases this; rfl
    subst e
    obtain ⟨ti', d', hL'⟩ := hE.lay _ _ hy
    rw [hpl' i fd ti' (by simpa using hf) (by rw [ho2]; exact hL'.info), ho1, hL'.size]) ps.toList _ z.cells x (RepB.cells (hzr _) hL.fit) hx
   have hfit := buildA_fit _ _ _ hx hL.fit
   refine EffOK.val h (v := .agg c') ?_ (holds_agg h4 hag hfit)
   have hpa : (fs.mapM (fun f => do pure (f.offset, <- sizeOf f.type) : Field -> Sem (Nat × Nat))).run P w = .ok pl.toArray w := by
    rw [show fs = fs.toList.toArray by simp, List.mapM_toArray, Sem.run_map]
    rw [show fs.toList.toArray.toList = fs.toList by simp]
    rw [hpl]; rfl
   have hparts : (ps.map fun (q : Nat × Operand) => (q.1, a.eval q.2)).toList = ps.toList.map fun q => (q.1, a.eval q.2) := by simp
   simp only [execOp, ho, Instr.build, Sem.run_bind, hz, Result.andThen_ok, run_underlying hL.desc, hpa]
   have h3' : Instr.fill (fun x => pl.toArray[x]?) z.cells ((ps.map fun (q : Nat × Operand) => (q.1, a.eval q.2)).toList) = some c' := by rw [hparts]; simpa using h3
   rw [h3']
   simp
 ·cases he
end
section
variable {P : Program} {E : Env} {b n : Nat} {O : Octx} {ρ : Nat -> Value} {s : St} {a : Act} {w w' : World} {o : Oper} {hw : How} {dst : Option Nat} {M : Mm}
theorem fill_list (h : RelC b n O ρ s a w) {T : Ty} : ∀ (ps : List (Nat × Operand)) (l : List T.den) (css : List (List Value)) (cells : Array Value) (z : List T.den),
  All2 (Holds w (okS O ρ s.bx) T) l css -> cells.toList = css.flatten -> buildL T (s.ev b) ps l = some z ->
  ∃ cells' css', Instr.fill (fun i => some (i * T.size, T.size)) cells (ps.map fun q => (q.1, a.eval q.2)) = some cells' /\ All2 (Holds w (okS O ρ s.bx) T) z css' /\ cells'.toList = css'.flatten /\ z.length = l.length
 | [], l, css, cells, z, ha, hc, hb => by cases hb; exact ⟨cells, css, rfl, ha, hc, rfl⟩
 | (i, o) :: r, l, css, cells, z, ha, hc, hb => by
  simp only [buildL] at hb
  split at hb
  ·rename_i y hy
   have hr := (h.evT hy).cells
   have hl := Holds.len _ _ _ hr
   cases hi : Nat.blt i l.length with
   | false => rw [hi] at hb; cases hb
   | true =>
    rw [hi] at hb
    have hlt : i < l.length := by simpa using hi
    have hlens := All2.lens ha
    have hll := All2.length ha
    have hfl := flatten_len css hlens
    have hset := flatten_set css i (a.eval o).cells.toList hlens (by omega)
    have hsz : i * T.size + T.size <= cells.size := by
     have : cells.size = css.length * T.size := by rw [<- hfl, <- hc]; simp
     rw [this, <- Nat.succ_mul]
     exact Nat.mul_le_mul_right _ (by omega)
    obtain ⟨c', css', h1, h2, h3, h4⟩ := fill_list h r (l.set i y) (css.set i (a.eval o).cells.toList) (cells.toList.take (i * T.size) ++ (a.eval o).cells.toList ++ cells.toList.drop (i * T.size + T.size)).toArray z
     (All2.set i ha hr) (by simp only [List.toList_toArray, hc, hset]) hb
    refine ⟨c', css', ?_, h2, h3, by simpa using h4⟩
    rw [List.map_cons, fill_cons rfl (by simpa using hl) hsz]
    exact h1
  ·cases hb
theorem zeros_flat {zc : Array Value} {size : Nat} (hs : zc.size = size) (hp : 0 < size) (len : Nat) :
  ((Array.range (len * size)).map (zc[· % zc.size]!)).toList = (List.replicate len zc.toList).flatten := by
 have key : ∀ len, (List.range (len * size)).map (fun i => zc[i % size]!) = (List.replicate len zc.toList).flatten := by
  intro len
  induction len with
  | zero => simp
  | succ len ih =>
   rw [List.replicate_succ', List.flatten_append, <- ih, Nat.add_mul, Nat.one_mul, List.range_add, List.map_append]
   congr 1
   simp only [List.map_map, List.flatten_cons, List.flatten_nil, List.append_nil]
   apply List.ext_getElem
   ·simp [hs]
   ·intro j h1 h2
    simp at h1
    simp [Nat.add_mul_mod_self_right, Nat.mul_add_mod_self_right, Nat.mod_eq_of_lt h1, hs, h1]
 rw [hs]
 simpa using key len
theorem run_buildSlice (hE : E.OK P) (h : RelC b n O ρ s a w) {t : TypeId} {len : Nat} {ps : Array (Nat × Operand)} {T : Ty} (hU : E.ty t = some (.list T)) (ho : o.op = .buildSlice t len ps) (hlim : len * T.size <= 16777216) {l : List T.den}
  (hl : buildL T (s.ev b) ps.toList (List.replicate len (zeroT T)) = some l) : ∃ e c css, P.underlying t = some (.slice e) /\ (∃ by_, E.el t = some (e, by_)) /\ (execOp a.eval o).run P w = .ok (.value (.slice (some ⟨w.heap.size, 0, none⟩) len len)) (w.alloc (.cells c e)) /\
   All2 (Holds w (okS O ρ s.bx) T) l css /\ c.toList = css.flatten /\ l.length = len := by
 obtain ⟨d, hok⟩ := hE.ty t _ hU
 obtain ⟨e, by_, hd, hel, hel'⟩ := hok.list T rfl
 subst hd
 obtain ⟨d', hok'⟩ := hE.ty e T hel
 obtain ⟨z0, hlay⟩ := hok'.lay
 obtain ⟨ti, dd, hL⟩ := hE.lay _ _ hlay
 obtain ⟨ti', z, hti, hz, hzr⟩ := hok'.zero
 have hzc := (decV_rep (w := w) (ok := okS O ρ s.bx) hzr).cells
 have hzl : z.cells.size = T.size := by simpa using Holds.len _ _ _ hzc
 have hpos := tySize_pos T
 have hsz : (sizeOf e).run P w = .ok T.size w := by simp [sizeOf, typeInfo, hL.info, hL.size]
 have hzv : (zeroValue e).run P w = .ok z w := by simp [zeroValue, typeInfo, hti, hz]
 have hall : All2 (Holds w (okS O ρ s.bx) T) (List.replicate len (zeroT T)) (List.replicate len z.cells.toList) := by
  clear hl hlim ho
  induction len with
  | zero => exact trivial
  | succ len ih => exact ⟨hzc, ih⟩
 obtain ⟨c', css', h1, h2, h3, h4⟩ := fill_list h ps.toList _ _ ((Array.range (len * T.size)).map (z.cells[· % z.cells.size]!)) l hall (zeros_flat hzl hpos len) hl
 have h4' : l.length = len := by simpa using h4
 have hparts : (ps.map fun (q : Nat × Operand) => (q.1, a.eval q.2)).toList = ps.toList.map fun q => (q.1, a.eval q.2) := by simp
 refine ⟨e, c', css', hok.desc, ⟨by_, hel'⟩, ?_, h2, h3, h4'⟩
 simp only [execOp, ho, Instr.buildSlice, Sem.run_bind, run_underlying hok.desc, Result.andThen_ok, hsz]
 rw [if_neg (by omega)]
 by_cases h0 : len * T.size = 0
 ·have hln : len = 0 := by
   rcases Nat.mul_eq_zero.1 h0 with h | h
   ·exact h
   ·omega
  subst hln
  have hz0 : ∀ f : Nat -> Value, (Array.range (0 * T.size)).map f = #[] := fun f => by simp
  rw [hz0] at h1
  rw [if_pos h0]
  simp only [Sem.run_pure, Result.andThen_ok, hparts, hz0, h1]
  simp [newRow]
 ·rw [if_neg h0]
  simp only [Sem.run_bind, hzv, Sem.run_pure, Result.andThen_ok, hparts, h1]
  simp [newRow]
theorem evalOp_buildSlice (hE : E.OK P) (h : RelC b n O ρ s a w) {t : TypeId} {len : Nat} {ps : Array (Nat × Operand)} (ho : o.op = .buildSlice t len ps) {eff : Eff} (he : evalOp E hw dst (s.ev b) s.bx (.buildSlice t len ps) = some eff) : EffOK P o a w O ρ s eff := by
 simp only [evalOp, Option.bind_eq_some_iff (x := E.ty t)] at he
 obtain ⟨U, hU, he⟩ := he
 cases U with
 | list T =>
  simp only at he
  split at he
  ·rename_i hlim
   rw [Option.bind_eq_some_iff] at he
   obtain ⟨l, hl, he⟩ := he
   obtain ⟨e, c', css', hd, ⟨by_, hel⟩, hrun, h2, h3, h4⟩ := run_buildSlice hE h hU ho hlim hl
   have hpos := tySize_pos T
   have hll := All2.length h2
   have hfl := flatten_len css' (All2.lens h2)
   have hlen : len <= 16777216 := Nat.le_trans (Nat.le_mul_of_pos_right len hpos) hlim
   have hnew : (w.alloc (.cells c' e)).heap[w.heap.size]? = some (.cells c' e (0, 0)) := by
    show (w.heap.push _)[w.heap.size]? = _
    simp
   cases ho' : hw.own with
   | false =>
    rw [ho'] at he
    cases he
    have hb : Below w.heap.size w (w.alloc (.cells c' e)) := (Below.refl _ _).alloc (Nat.le_refl _) _
    refine .inl ⟨_, _, hrun, ρ, h.toRelO.same hb, [.slice (some ⟨w.heap.size, 0, none⟩) len len], ⟨some ⟨w.heap.size, 0, none⟩, len, css', by rw [h4], ⟨by omega, by omega⟩, All2.imp (fun y c hc => Holds.map (fun k c el z hk hh => ⟨hk, ?_⟩) _ _ _ hc) h2, fun _ => ⟨_, rfl, rfl, ⟨⟨.inr h.below.size, fun id hid hk => ?_⟩, h.rdf _ (Nat.le_refl _)⟩, c', e, (0, 0), hnew, fun j v hj => ?_⟩⟩, rfl⟩
    ·show (w.alloc (.cells c' e)).heap[k]? = _
     rw [hb.block k (Array.getElem?_eq_some_iff.1 hh).1]; exact hh
    ·obtain ⟨B, hB⟩ := Option.isSome_iff_exists.1 hid
     have hlt : w.heap.size < w.heap.size := h.toRelO.lt hB hk
     omega
    ·rw [<- h3] at hj
     simpa using hj
   | true =>
    rw [ho', hel] at he
    cases he
    obtain ⟨h5, h6⟩ := h.toRelO.arr (id := newId hw dst) (row := none) (e := e) (l := l) (v' := .slice (some ⟨w.heap.size, 0, none⟩) len len) (World.grownBy_alloc w (.cells c' e) none) (fun k hk => by cases hk)
     (by
      refine ⟨by rw [hfl, <- hll], .inr ⟨w.heap.size, len, c', by rw [h4], h.below.size, hnew, by omega, by simp only [maxLen]; omega, ?_, ?_⟩⟩
      ·have := congrArg List.length h3
       rw [hfl, <- hll, h4] at this
       simpa using this
      ·rw [h3, List.take_of_length_le (by rw [hfl, <- hll]; exact Nat.le_refl _)])
     (fun k hk => .inl (by simp only [refB, Option.some.injEq] at hk; omega)) h2
    exact .inl ⟨_, _, hrun, _, h5, h6⟩
  ·cases he
 | _ => simp at he
theorem evalOp_field (hE : E.OK P) (h : RelC b n O ρ s a w) {t : TypeId} {x : Operand} {f : Nat} (ho : o.op = .field t x f) {eff : Eff} (he : evalOp E hw dst (s.ev b) s.bx (.field t x f) = some eff) : EffOK P o a w O ρ s eff := by
 simp only [evalOp, Option.bind_eq_some_iff (x := s.ev b x), Option.bind_eq_some_iff (x := E.fld t f), Option.bind_eq_some_iff (x := E.lay _)] at he
 obtain ⟨av, hav, q, hq, y, hy, he⟩ := he
 obtain ⟨fs, fd, hd, hf, ho1, ho2⟩ := hE.fld t f _ hq
 obtain ⟨ti, d, hL⟩ := hE.lay _ _ hy
 cases hc : (av.agg && av.fit) with
 | false => rw [hc] at he; cases he
 | true =>
  rw [hc] at he
  rw [Bool.and_eq_true] at hc
  simp only [cond_true, Option.bind_eq_some_iff] at he
  obtain ⟨p, hp, he⟩ := he
  cases hc2 : (p.fit && (p.agg == y.2.1)) with
  | false => rw [hc2] at he; cases he
  | true =>
   rw [hc2] at he
   cases he
   simp only [Bool.and_eq_true, beq_iff_eq] at hc2
   obtain ⟨cs, hx, hh⟩ := agg_cells (h.ev hav) hc.1 hc.2
   obtain ⟨h1, h2⟩ := subA_holds _ _ _ _ _ hp hh
   refine EffOK.val h (v := mkA p ((cs.toList.drop q.1).take y.1)) ?_ (RepB.toA h1.rep)
   have hag : (isAgg fd.type).run P w = .ok y.2.1 w := by
    unfold isAgg
    rw [ho2, Sem.run_bind, run_underlying hL.desc w, <- hL.agg]
    cases d <;> rfl
   have hsz : (sizeOf fd.type).run P w = .ok y.1 w := by rw [ho2]; simp [sizeOf, typeInfo, hL.info, hL.size]
   have hpart : (part fd.type cs fd.offset).run P w = .ok (mkA p ((cs.toList.drop q.1).take y.1)) w := by
    unfold part
    rw [Sem.run_bind, hag, h1.mk hc2.1, hc2.2]
    simp only [Result.andThen_ok]
    cases hy2 : y.2.1 with
    | true =>
     simp only [if_true, Sem.run_bind, hsz, Result.andThen_ok, Sem.run_pure, ho1]
     congr 2
     rw [<- Array.toList_inj]
     simp [List.extract_eq_take_drop]
    | false =>
     have hone : p.size = 1 := agg_one p hc2.1 (hc2.2.trans hy2)
     have hl := HoldsA.len _ _ h1
     have hlt : q.1 < cs.size := by simp at hl h2; omega
     have hys : y.1 = 1 := by simp at hl h2; omega
     simp [ho1, hlt, hys, List.head?_take]
   simp only [execOp, ho, hx, Instr.field, Sem.run_bind, run_underlying hd, Result.andThen_ok, hf, asAgg, Sem.run_pure, hpart]
theorem isPtr_box {av : AV} {bx : Nat -> Option Box} (h : isPtr bx av = true) : ∃ id ver off B, av = .ptr id ver off /\ bx id = some B /\ ver = B.ver := by
 unfold isPtr at h
 split at h
 ·split at h
  ·rename_i B hB
   exact ⟨_, _, _, B, rfl, hB, Nat.eq_of_beq_eq_true h⟩
  ·cases h
 ·cases h
theorem ptr_live (h : RelO O ρ s w) {id ver off : Nat} {v : Value} (hp : isPtr s.bx (.ptr id ver off) = true) (hr : RepA (mem O ρ s.bx w) (.ptr id ver off) v) : ∃ g, ρ id = .pointer (some ⟨g, 0, none⟩) /\ v = .pointer (some ⟨g, off, none⟩) := by
 obtain ⟨id', ver', off', B, e, hB, hv⟩ := isPtr_box hp
 cases e
 obtain ⟨cs, ⟨u, e, _, h2⟩, h3⟩ := hr
 obtain ⟨g, h4, h5⟩ := h2 (by simp [mem, hB, hv])
 exact ⟨g, h4, by rw [h3, e]; exact h5⟩
theorem evalOp_fieldAddr (hE : E.OK P) (h : RelC b n O ρ s a w) {t : TypeId} {x : Operand} {f : Nat} (ho : o.op = .fieldAddr t x f) {eff : Eff} (he : evalOp E hw dst (s.ev b) s.bx (.fieldAddr t x f) = some eff) : EffOK P o a w O ρ s eff := by
 simp only [evalOp, Option.bind_eq_some_iff (x := E.fld t f)] at he
 obtain ⟨q, hq, he⟩ := he
 obtain ⟨fs, fd, hd, hf, ho1, ho2⟩ := hE.fld t f _ hq
 cases hlay : E.lay q.2 with
 | none => rw [hlay] at he; cases he
 | some y =>
  rw [hlay] at he
  simp only [Option.isSome_some, cond_true, Option.bind_eq_some_iff] at he
  obtain ⟨av, hav, he⟩ := he
  obtain ⟨ti, d, hL⟩ := hE.lay _ _ hlay
  have hadd : ∀ g k j, (⟨g, k, none⟩ : Addr).add j = ⟨g, k + j, none⟩ := fun g k j => by unfold Addr.add; split <;> simp_all
  have hsz : (sizeOf fd.type).run P w = .ok y.1 w := by rw [ho2]; simp [sizeOf, typeInfo, hL.info, hL.size]
  have hrep := h.ev hav
  have hpos := hL.pos
  have key : ∀ g k, a.eval x = .pointer (some ⟨g, k, none⟩) -> (execOp a.eval o).run P w = .ok (.value (.pointer (some ⟨g, k + q.1, none⟩))) w := fun g k hx => by
   simp only [execOp, ho, hx, Instr.fieldAt, Sem.run_bind, run_underlying hd, Result.andThen_ok, hf, Instr.sureAddr, Sem.run_pure, fieldPlace, hsz]
   rw [if_neg (by omega)]
   simp only [Sem.run_pure, Result.andThen_ok, hadd, ho1]
  split at he
  ·rename_i id ver off
   cases hp : isPtr s.bx (.ptr id ver off) with
   | false => rw [hp] at he; cases he
   | true =>
    rw [hp] at he
    cases he
    obtain ⟨g, hg, hx⟩ := ptr_live h.toRelO hp hrep
    exact EffOK.val h (key _ _ hx) ⟨_, ⟨_, rfl, rfl, fun _ => ⟨g, hg, rfl⟩⟩, rfl⟩
  ·rename_i id ver sz i off
   split at he
   ·rename_i ver' e T l hB
    cases hv : Nat.beq ver ver' with
    | false => rw [hv] at he; cases he
    | true =>
     rw [hv] at he
     cases he
     have hv' := Nat.eq_of_beq_eq_true hv
     subst hv'
     obtain ⟨cs, ⟨u, eu, _, h2⟩, h3⟩ := hrep
     obtain ⟨g, m, cap, h4, h5⟩ := h2 (by simp [mem, hB, Box.ver])
     have hx : a.eval x = .pointer (some ⟨g, i * sz + off, none⟩) := by rw [h3, eu]; exact h5
     exact EffOK.val h (key _ _ hx) ⟨_, ⟨_, rfl, rfl, fun _ => ⟨g, m, cap, h4, by rw [Nat.add_assoc]⟩⟩, rfl⟩
   ·cases he
  ·rename_i T y0 off
   cases he
   obtain ⟨cs, ⟨g, o', ds, e, hk, ha, hc⟩, hx⟩ := hrep
   have hx' : a.eval x = .pointer (some ⟨g, o' + off, none⟩) := by rw [hx, e]; rfl
   exact EffOK.val h (key _ _ hx') ⟨_, ⟨g, o', ds, rfl, hk, ha, hc⟩, by rw [Nat.add_assoc]; rfl⟩
  ·cases he
theorem evalOp_nilCheck (h : RelC b n O ρ s a w) {x : Operand} (ho : o.op = .nilCheck x) {eff : Eff} (he : evalOp E hw dst (s.ev b) s.bx (.nilCheck x) = some eff) : EffOK P o a w O ρ s eff := by
 simp only [evalOp, Option.bind_eq_some_iff] at he
 obtain ⟨av, hav, he⟩ := he
 have hrep := h.ev hav
 have key : ∀ g k, a.eval x = .pointer (some ⟨g, k, none⟩) -> EffOK P o a w O ρ s (.put av) := fun g k hx =>
  EffOK.val h (v := a.eval x) (by simp only [execOp, ho, hx, Sem.run_pure]) hrep
 split at he
 ·rename_i id ver off
  cases hp : isPtr s.bx (.ptr id ver off) with
  | false => rw [hp] at he; cases he
  | true =>
   rw [hp] at he
   cases he
   obtain ⟨g, hg, hx⟩ := ptr_live h.toRelO hp hrep
   exact key _ _ hx
 ·rename_i id ver sz i off
  split at he
  ·rename_i ver' e T l hB
   cases hv : Nat.beq ver ver' with
   | false => rw [hv] at he; cases he
   | true =>
    rw [hv] at he
    cases he
    have hv' := Nat.eq_of_beq_eq_true hv
    subst hv'
    obtain ⟨cs, ⟨u, eu, _, h2⟩, h3⟩ := hrep
    obtain ⟨g, m, cap, h4, h5⟩ := h2 (by simp [mem, hB, Box.ver])
    have hx : a.eval x = .pointer (some ⟨g, i * sz + off, none⟩) := by rw [h3, eu]; exact h5
    exact key _ _ hx
  ·cases he
 ·cases he
  obtain ⟨cs, ⟨g, o', ds, e, hk, ha, hc⟩, hx⟩ := hrep
  exact key _ _ (by rw [hx, e]; rfl)
 ·cases he
theorem TupA.nth : ∀ (c : AV) (k : Nat) (l : List Value) (p : AV), TupA M c l -> nthA c k = some p -> ∃ v, l[k]? = some v /\ RepB M p v
 | .pr x y, 0, l, p, ⟨u, r, e, h1, h2⟩, h => by cases h; exact ⟨u, by rw [e]; rfl, h1⟩
 | .pr x y, k + 1, l, p, ⟨u, r, e, h1, h2⟩, h => by
  obtain ⟨v, h3, h4⟩ := TupA.nth y k r p h2 h
  exact ⟨v, by rw [e]; simpa using h3, h4⟩
 | .nl, k, _, _, _, h => by cases k <;> cases h
 | .cst _, k, _, _, H, _ => H.elim
 | .v _ _, k, _, _, H, _ => H.elim
 | .ptr _ _ _, k, _, _, H, _ => H.elim
 | .elt _ _ _ _ _, k, _, _, H, _ => H.elim
 | .ro _ _ _, k, _, _, H, _ => H.elim
 | .arr _ _, k, _, _, H, _ => H.elim
 | .clo _ _, k, _, _, H, _ => H.elim
 | .yld _, k, _, _, H, _ => H.elim
 | .tup _, k, _, _, H, _ => H.elim
theorem evalOp_extract (h : RelC b n O ρ s a w) {x : Operand} {k : Nat} (ho : o.op = .extract x k) {eff : Eff} (he : evalOp E hw dst (s.ev b) s.bx (.extract x k) = some eff) : EffOK P o a w O ρ s eff := by
 simp only [evalOp, Option.bind_eq_some_iff] at he
 obtain ⟨av, hav, he⟩ := he
 have hrep := h.ev hav
 split at he
 ·rename_i c
  rw [Option.map_eq_some_iff] at he
  obtain ⟨p, hp, e⟩ := he
  subst e
  obtain ⟨l, hx, ht⟩ := hrep
  obtain ⟨v, hv, hr⟩ := TupA.nth c k l p ht hp
  exact EffOK.val h (v := v) (by simp [execOp, ho, hx, Instr.extract, hv]) (RepB.toA hr)
 ·cases he
theorem evalOp_index (hE : E.OK P) (h : RelC b n O ρ s a w) {t : TypeId} {x i : Operand} (ho : o.op = .index t x i) {eff : Eff} (he : evalOp E hw dst (s.ev b) s.bx (.index t x i) = some eff) : EffOK P o a w O ρ s eff := by
 simp only [evalOp] at he
 split at he
 ·rename_i hs
  rw [Option.bind_eq_some_iff] at he
  obtain ⟨av, hav, he⟩ := he
  have hrep := h.ev hav
  split at he
  ·rename_i b0
   rw [Option.bind_eq_some_iff] at he
   obtain ⟨m, hm, he⟩ := he
   split at he
   ·rename_i h0
    rw [Option.map_eq_some_iff] at he
    obtain ⟨y, hy, e⟩ := he
    subst e
    rw [Option.bind_eq_some_iff] at hm
    obtain ⟨bv, hbv, hm⟩ := hm
    obtain ⟨k, hi⟩ := asI_rep hm (h.ev hbv)
    have hx : a.eval x = .string b0 := hrep
    refine EffOK.val h (v := .int .u8 y.toNat) ?_ Rep.of_int
    simp only [execOp, ho, hx, hi, Instr.index, asIntOf, Sem.run_bind, Sem.run_pure, Result.andThen_ok, run_underlying (hE.str t hs), if_pos h0, hy]
   ·cases he
  ·cases he
 ·cases he
theorem evalOp_unOp (hE : E.OK P) (h : RelC b n O ρ s a w) {op : UnOp} {t : TypeId} {x : Operand} (ho : o.op = .unOp op t x) {eff : Eff} (he : evalOp E hw dst (s.ev b) s.bx (.unOp op t x) = some eff) : EffOK P o a w O ρ s eff := by
 simp only [evalOp, Option.bind_eq_some_iff (x := E.ty t)] at he
 obtain ⟨U, hU, he⟩ := he
 split at he
 ·rw [Option.map_eq_some_iff] at he
  obtain ⟨c, hc, e⟩ := he
  subst e
  have hx := (h.evT hc).bool
  exact EffOK.val h (v := .bool !c) (by simp [execOp, ho, hx, Op.unary]) Rep.of_bool
 ·rw [Option.map_eq_some_iff] at he
  obtain ⟨c, hc, e⟩ := he
  subst e
  rename_i k
  have hx := (h.evT hc).int
  exact EffOK.val h (v := .int k (k.wrap (0 - c))) (by simp [execOp, ho, hx, Op.unary, Op.intArith]) Rep.of_int
 ·rw [Option.map_eq_some_iff] at he
  obtain ⟨c, hc, e⟩ := he
  subst e
  rename_i k
  have hx := (h.evT hc).int
  exact EffOK.val h (v := .int k (k.wrap (BitVec.ofInt k.bits (if k.signed then -1 else k.max) ^^^ BitVec.ofInt k.bits c).toNat)) (by simp [execOp, ho, hx, Op.unary, Op.intBits]) Rep.of_int
 ·cases he
theorem evalOp_convert (hE : E.OK P) (h : RelC b n O ρ s a w) {t t' : TypeId} {x : Operand} (ho : o.op = .convert t t' x) {eff : Eff} (he : evalOp E hw dst (s.ev b) s.bx (.convert t t' x) = some eff) : EffOK P o a w O ρ s eff := by
 simp only [evalOp, Option.bind_eq_some_iff (x := E.ty t), Option.bind_eq_some_iff (x := E.ty t')] at he
 obtain ⟨U, hU, V, hV, he⟩ := he
 obtain ⟨d, hok⟩ := hE.ty t U hU
 obtain ⟨d', hok'⟩ := hE.ty t' V hV
 split at he
 ·rename_i k k'
  rw [Option.map_eq_some_iff] at he
  obtain ⟨c, hc, e⟩ := he
  subst e
  have hx := (h.evT hc).int
  have e1 := hok.int k rfl
  have e2 := hok'.int k' rfl
  subst e1; subst e2
  exact EffOK.val h (v := .int k' (k'.wrap c)) (by
   simp only [execOp, ho, hx, convert, Sem.run_bind, run_underlying hok.desc, run_underlying hok'.desc, Result.andThen_ok, Conv.intToInt, Sem.run_pure]) Rep.of_int
 ·cases he
theorem capsA_rep (h : RelC b n O ρ s a w) : ∀ (xs : List Operand) (c : AV), capsA (s.ev b) xs = some c -> HoldsA (mem O ρ s.bx w) c (xs.map a.eval)
 | [], c, e => by cases e; exact rfl
 | x :: l, c, e => by
  simp only [capsA] at e
  split at e
  ·rename_i av hav
   cases hc : (av.fit && Nat.beq av.size 1 && !av.agg) with
   | false => rw [hc] at e; cases e
   | true =>
    rw [hc] at e
    simp only [cond_true, Option.map_eq_some_iff] at e
    obtain ⟨c', hc', e⟩ := e
    subst e
    simp only [Bool.and_eq_true, Bool.not_eq_true'] at hc
    obtain ⟨⟨hf, hs⟩, hag⟩ := hc
    have hs := Nat.eq_of_beq_eq_true hs
    have hr := RepA.toB (fit_tup hf) (h.ev hav)
    have hcells := RepB.cells hr hf
    have hl := HoldsA.len _ _ hcells
    have hone : (a.eval x).cells.toList = [a.eval x] := by
     have hmk : a.eval x = mkA av (a.eval x).cells.toList := by
      cases av with
      | cst v => exact hr
      | _ =>
       obtain ⟨cs, h1, h2⟩ := hr
       have : cs = (a.eval x).cells.toList := by
        have := h1.mk hf
        rw [<- h2, hag] at this
        have hlen := HoldsA.len _ _ h1
        rw [hs] at hlen
        match cs, hlen with
        | [u], _ =>
         have hu : a.eval x = u := this
         rw [hu, oneCell_cells (HoldsA.one _ _ h1 u List.mem_cons_self)]
       rw [<- this]; exact h2
     have h3 := hcells.mk hf
     rw [hag] at h3
     rw [hs] at hl
     match hq : (a.eval x).cells.toList, hl with
     | [u], _ =>
      rw [hq] at h3 hmk
      rw [hmk, h3]
      rfl
    refine ⟨[a.eval x], l.map a.eval, rfl, by rw [<- hone]; exact hcells, capsA_rep h l c' hc'⟩
  ·cases e
theorem evalOp_makeFunc (h : RelC b n O ρ s a w) {f : FuncId} {first caps : Array Operand} (ho : o.op = .makeFunc (.func f) first caps) {eff : Eff} (he : evalOp E hw dst (s.ev b) s.bx (.makeFunc (.func f) first caps) = some eff) : EffOK P o a w O ρ s eff := by
 simp only [evalOp] at he
 cases hf : first.isEmpty with
 | false => rw [hf] at he; cases he
 | true =>
  rw [hf] at he
  simp only [cond_true, Option.map_eq_some_iff] at he
  obtain ⟨c, hc, e⟩ := he
  subst e
  have hf' : first = #[] := by simpa using hf
  subst hf'
  have hr := capsA_rep h _ _ hc
  refine EffOK.val h (v := .func (.func f) #[] (caps.map a.eval)) (by simp [execOp, ho, Instr.makeFunc]) ⟨_, ⟨caps.toList.map a.eval, rfl, hr⟩, ?_⟩
  show Value.func _ _ _ = Value.func _ _ _
  rw [<- Array.toList_map, Array.toArray_toList]
end
section
variable {P : Program} {E : Env} {b n : Nat} {O : Octx} {ρ : Nat -> Value} {s : St} {a : Act} {w w' : World} {o : Oper} {hw : How} {dst : Option Nat} {M : Mm}
theorem Rep.elem {ok : Nat -> Prop} {T : Ty} {l : List T.den} {v : Value} {m : Nat} {y : T.den} (h : Rep w ok (.list T) l v) (hm : l[m]? = some y) :
  ∃ A cap cs, v = .slice (some A) l.length cap /\ A.spot = none /\ ok A.block /\ At w A.block (A.off + m * T.size) cs /\ Holds w ok T y cs := by
 obtain ⟨cs, ⟨A, cap, css, e, hc, h1, h2⟩, rfl⟩ := h
 subst e
 obtain ⟨c, hcm, hy⟩ := All2.get h1 hm
 have hne : l ≠ [] := fun e => by rw [e] at hm; simp at hm
 obtain ⟨ad, rfl, hs, hok, cc, el, z, hh, hv⟩ := h2 hne
 refine ⟨ad, cap, c, rfl, hs, hok, ⟨cc, el, z, hh, fun j v hj => ?_⟩, hy⟩
 rw [Nat.add_assoc]
 exact hv _ _ (Holds.flat h1 m c hcm j v hj)
theorem addr_add {A : Addr} (hs : A.spot = none) (k : Nat) : A.add k = ⟨A.block, A.off + k, none⟩ := by
 obtain ⟨b, of, sp⟩ := A
 simp only at hs
 subst hs
 unfold Addr.add; split <;> simp_all
theorem evalOp_indexAddr (hE : E.OK P) (h : RelC b n O ρ s a w) {t : TypeId} {x i : Operand} (ho : o.op = .indexAddr t x i) {eff : Eff} (he : evalOp E hw dst (s.ev b) s.bx (.indexAddr t x i) = some eff) : EffOK P o a w O ρ s eff := by
 simp only [evalOp, Option.bind_eq_some_iff, Option.map_eq_some_iff] at he
 obtain ⟨av, hav, iv, hiv, r, hr, e⟩ := he
 subst e
 have hrep := h.ev hav
 have hirep := h.ev hiv
 unfold idxA at hr
 split at hr
 ·rename_i len e harr
  have hd := hE.arr t len e harr
  split at hr
  ·rename_i id ver off k m q hq
   split at hr
   ·rename_i m
    obtain ⟨ti, d, hL⟩ := hE.lay _ _ hq
    cases hm : (Nat.blt m len && isPtr s.bx (.ptr id ver off)) with
    | false => rw [hm] at hr; cases hr
    | true =>
     rw [hm] at hr
     cases hr
     rw [Bool.and_eq_true] at hm
     have hm' : m < len := by simpa using hm.1
     obtain ⟨g, hg, hx⟩ := ptr_live h.toRelO hm.2 hrep
     have hi : a.eval i = .int k (m : Int) := hirep
     have hsz : (sizeOf e).run P w = .ok q.1 w := by simp [sizeOf, typeInfo, hL.info, hL.size]
     have hc : (0 : Int) <= (m : Int) /\ (m : Int) < (len : Int) := ⟨by omega, by omega⟩
     refine EffOK.val h (v := .pointer (some ⟨g, off + m * q.1, none⟩)) ?_ ⟨_, ⟨_, rfl, rfl, fun _ => ⟨g, hg, rfl⟩⟩, rfl⟩
     have hadd : (⟨g, off, none⟩ : Addr).add (m * q.1) = ⟨g, off + m * q.1, none⟩ := addr_add rfl _
     simp only [execOp, ho, hx, hi, Instr.indexAt, asIntOf, Sem.run_bind, Sem.run_pure, Result.andThen_ok, run_underlying hd, pure_bind, Sem.run_ite, if_pos hc, hsz, Instr.sureAddr, hadd, Int.toNat_natCast]
   ·cases hr
  ·cases hr
 ·split at hr
  ·rename_i T hU
   obtain ⟨d, hok⟩ := hE.ty t _ hU
   obtain ⟨e, by_, hd, hel, _⟩ := hok.list T rfl
   subst hd
   obtain ⟨d', hok'⟩ := hE.ty e T hel
   obtain ⟨z0, hlay⟩ := hok'.lay
   obtain ⟨ti, dd, hL⟩ := hE.lay _ _ hlay
   have hsz : (sizeOf e).run P w = .ok T.size w := by simp [sizeOf, typeInfo, hL.info, hL.size]
   split at hr
   ·rename_i id ver
    split at hr
    ·rename_i ver' e' T' l hB
     cases hv : (Nat.beq ver ver' && decide (T' = T)) with
     | false => rw [hv] at hr; cases hr
     | true =>
      rw [hv] at hr
      rw [Bool.and_eq_true] at hv
      have hv1 := Nat.eq_of_beq_eq_true hv.1
      have hv2 := of_decide_eq_true hv.2
      subst hv1; subst hv2
      simp only [cond_true, Option.bind_eq_some_iff] at hr
      obtain ⟨m, hm, hr⟩ := hr
      split at hr
      ·rename_i h0
       rw [Option.bind_eq_some_iff] at hr
       obtain ⟨y, hy, hr⟩ := hr
       cases hr
       obtain ⟨k, hi⟩ := asI_rep hm hirep
       have hlt : m.toNat < l.length := (List.getElem?_eq_some_iff.1 hy).1
       obtain ⟨cs, ⟨u, eu, _, h2⟩, h3⟩ := hrep
       have hu : u = ρ id := h2 (by simp [mem, hB, Box.ver])
       obtain ⟨_, css, hcs, hown⟩ := h.bx id _ hB
       rcases hown.2 with ⟨h6, hz⟩ | ⟨g, cap, cur, h6, _⟩
       ·omega
       ·have hx : a.eval x = .slice (some ⟨g, 0, none⟩) l.length cap := by rw [h3, eu, hu, h6]; rfl
        have hc : (0 : Int) <= m /\ m < (l.length : Int) := ⟨h0, by omega⟩
        refine EffOK.val h (v := .pointer (some ⟨g, m.toNat * T'.size, none⟩)) ?_ ⟨_, ⟨_, rfl, rfl, fun _ => ⟨g, l.length, cap, h6, by rw [Nat.add_zero]⟩⟩, rfl⟩
        have hadd : (⟨g, 0, none⟩ : Addr).add (m.toNat * T'.size) = ⟨g, m.toNat * T'.size, none⟩ := by rw [addr_add rfl]; simp
        simp only [execOp, ho, hx, hi, Instr.indexAt, asIntOf, Sem.run_bind, Sem.run_pure, Result.andThen_ok, run_underlying hok.desc, pure_bind, Sem.run_ite, if_pos hc, hsz, hadd]
      ·cases hr
    ·cases hr
   ·rename_i av' _
    rw [Option.bind_eq_some_iff] at hr
    obtain ⟨l, hl, hr⟩ := hr
    rw [Option.bind_eq_some_iff] at hr
    obtain ⟨m, hm, hr⟩ := hr
    split at hr
    ·rename_i h0
     rw [Option.bind_eq_some_iff] at hr
     obtain ⟨y, hy, hr⟩ := hr
     cases hr
     obtain ⟨A, cap, cs, hx, hs, hb, hat, hh⟩ := Rep.elem (asT_rep hl hrep) hy
     obtain ⟨k, hi⟩ := asI_rep hm hirep
     have hlt : m.toNat < l.length := (List.getElem?_eq_some_iff.1 hy).1
     refine EffOK.val h (v := .pointer (some ⟨A.block, A.off + m.toNat * T.size, none⟩)) ?_ ⟨_, ⟨_, _, cs, rfl, hb, hat, hh⟩, rfl⟩
     have hc : (0 : Int) <= m /\ m < (l.length : Int) := ⟨h0, by omega⟩
     simp only [execOp, ho, hx, hi, Instr.indexAt, asIntOf, Sem.run_bind, Sem.run_pure, Result.andThen_ok, run_underlying hok.desc, pure_bind, Sem.run_ite, if_pos hc, hsz, addr_add hs]
    ·cases hr
  ·cases hr
end
section
variable {P : Program} {E : Env} {b n : Nat} {O : Octx} {ρ : Nat -> Value} {s : St} {a : Act} {w w' : World} {o : Oper} {hw : How} {dst : Option Nat} {M : Mm}
theorem run_binOp_int {op : BinOp} {k : IntKind} {x y : Int} {t : TypeId} {av : AV} (hb : binI op k x y = some av) (h1 : op ≠ .shl) (h2 : op ≠ .shr) : ∃ v, (binOp op t (.int k x) (.int k y)).run P w = .ok v w /\
  ∀ M, RepA M av v := by
 cases op <;> simp only [binI] at hb
 case shl => exact absurd rfl h1
 case shr => exact absurd rfl h2
 case quo =>
  split at hb <;> cases hb
  rename_i hz
  exact ⟨_, by simp [binOp, Op.intDiv, hz], fun _ => Rep.of_int⟩
 case rem =>
  split at hb <;> cases hb
  rename_i hz
  exact ⟨_, by simp [binOp, Op.intDiv, hz], fun _ => Rep.of_int⟩
 all_goals first | cases hb; exact ⟨_, by first | (simp [binOp, Op.intArith, Op.intBits, Op.intCmp]; done) | (simp [binOp, Op.intArith, Op.intBits, Op.intCmp]; rfl), fun _ => (by first | exact Rep.of_int | exact Rep.of_bool)⟩ | cases hb
theorem run_shift {op : BinOp} {k k' : IntKind} {x y : Int} {t : TypeId} {av : AV} (hb : shiftI op k x y = some av) : ∃ v, (binOp op t (.int k x) (.int k' y)).run P w = .ok v w /\
  ∀ M, RepA M av v := by
 unfold shiftI at hb
 split at hb
 ·cases hb
 ·rename_i hy
  split at hb <;> cases hb
  ·exact ⟨_, by simp [binOp, Op.shift, hy], fun _ => Rep.of_int⟩
  ·exact ⟨_, by simp [binOp, Op.shift, hy], fun _ => Rep.of_int⟩
theorem run_eqGuard_int (op : BinOp) (t : TypeId) (x y : Operand) (k k' : IntKind) (b c : Int) : (eqGuard op t x y (.int k b) (.int k' c)).run P w = .ok () w := by
 unfold eqGuard; split <;> rfl
theorem run_eqGuard_bool (op : BinOp) (t : TypeId) (x y : Operand) (b c : Bool) : (eqGuard op t x y (.bool b) (.bool c)).run P w = .ok () w := by
 unfold eqGuard; split <;> rfl
theorem run_equalIn_bool {t : TypeId} (hd : P.underlying t = some .bool) (x y : Bool) (k : Nat) : (Op.equalIn (k + 1) t (.bool x) (.bool y)).run P w = .ok (x == y) w := by
 simp only [Op.equalIn, Sem.run_bind, run_underlying hd, Result.andThen_ok, Sem.run_pure]
theorem run_equal_bool {t : TypeId} (hd : P.underlying t = some .bool) (x y : Bool) : (Op.equal t (.bool x) (.bool y)).run P w = .ok (x == y) w := run_equalIn_bool hd x y 9999
theorem run_part {t : TypeId} {U : Ty} (hE : E.OK P) (hU : E.ty t = some U) {cs : List Value} {off : Nat} (hl : off + U.size <= cs.length) :
  (part t cs.toArray off).run P w = .ok (mkV U ((cs.drop off).take U.size)) w := by
 obtain ⟨d0, hok⟩ := hE.ty t U hU
 obtain ⟨z0, hlay⟩ := hok.lay
 obtain ⟨ti, d, hL⟩ := hE.lay _ _ hlay
 have hag : (isAgg t).run P w = .ok U.isPair w := by
  unfold isAgg
  rw [Sem.run_bind, run_underlying hL.desc w, <- show aggD d = U.isPair from hL.agg]
  cases d <;> rfl
 have hsz : (sizeOf t).run P w = .ok U.size w := by simp [sizeOf, typeInfo, hL.info, hL.size]
 unfold part
 rw [Sem.run_bind, hag]
 simp only [Result.andThen_ok]
 have sc : U.size = 1 -> (match cs.toArray[off]? with | some v => pure v | none => stuck "part: no such cell" : Sem Value).run P w = .ok (((cs.drop off).take U.size).headD undef) w := fun h1 => by
  rw [h1] at hl ⊢
  have hlt : off < cs.length := by omega
  simp [hlt, List.head?_take]
 cases U with
 | pair x y =>
  simp only [Ty.isPair, if_true, Sem.run_bind, hsz, Result.andThen_ok, Sem.run_pure, mkV]
  congr 2
  rw [List.extract_toArray]
  simp [List.extract_eq_take_drop]
 | int k => exact sc rfl
 | bool => exact sc rfl
 | list k => exact sc rfl
theorem part_two {f : Field} {A : Ty} (hE : E.OK P) (hA : E.ty f.type = some A) {cs : List Value} {off : Nat} (ho : f.offset = off) (hl : off + A.size <= cs.length) :
  (part f.type cs.toArray f.offset).run P w = .ok (mkV A ((cs.drop off).take A.size)) w := by
 rw [ho]
 exact run_part hE hA hl
theorem run_eqFs {ok : Nat -> Prop} {k d : Nat} (hE : E.OK P) (hrec : ∀ t U (x y : U.den) vx vy, eqB P E k t U = true -> Rep w ok U x vx -> Rep w ok U y vy -> (Op.equalIn d t vx vy).run P w = .ok (beqT U x y) w) :
  ∀ (fs : List Field) (U : Ty) (off : Nat) (x y : U.den) (cx cy : List Value), eqFs (eqB P E k) E fs U off = true -> off + U.size <= cx.length -> off + U.size <= cy.length ->
   Holds w ok U x ((cx.drop off).take U.size) -> Holds w ok U y ((cy.drop off).take U.size) -> (Op.eqFields d cx.toArray cy.toArray fs).run P w = .ok (beqT U x y) w
 | [], U, off, x, y, cx, cy, h, _, _, _, _ => by simp [eqFs] at h
 | [f], U, off, x, y, cx, cy, h, l1, l2, hx, hy => by
  simp only [eqFs, Bool.and_eq_true, decide_eq_true_eq, beq_iff_eq, bne_iff_ne] at h
  obtain ⟨⟨⟨hn, ho⟩, hA⟩, hq⟩ := h
  have h1 := part_two (w := w) hE hA ho l1
  have h2 := part_two (w := w) hE hA ho l2
  have h3 := hrec _ _ x y _ _ hq ⟨_, hx, rfl⟩ ⟨_, hy, rfl⟩
  simp only [Op.eqFields, if_pos hn, Sem.run_bind, h1, h2, h3, Result.andThen_ok]
  cases beqT U x y <;> simp
 | f :: g :: fs, U, off, x, y, cx, cy, h, l1, l2, hx, hy => by
  cases U with
  | pair A B =>
   simp only [eqFs, Bool.and_eq_true, decide_eq_true_eq, beq_iff_eq, bne_iff_ne] at h
   obtain ⟨⟨⟨⟨hn, ho⟩, hA⟩, hq⟩, hr⟩ := h
   simp only [Ty.size] at l1 l2
   have split : ∀ (z : (Ty.pair A B).den) (c : List Value), off + (A.size + B.size) <= c.length -> Holds w ok (.pair A B) z ((c.drop off).take (Ty.pair A B).size) ->
     Holds w ok A z.1 ((c.drop off).take A.size) /\ Holds w ok B z.2 ((c.drop (off + A.size)).take B.size) := fun z c hl hz => by
    obtain ⟨c1, c2, e, h1, h2⟩ := hz
    have e1 := Holds.len _ _ _ h1
    have e2 := Holds.len _ _ _ h2
    have ee : (c.drop off).take (A.size + B.size) = c1 ++ c2 := e
    have q1 : (c.drop off).take A.size = c1 := by
     have := congrArg (List.take A.size) ee
     rw [List.take_take, Nat.min_eq_left (by omega), List.take_left' e1] at this
     exact this
    have q2 : (c.drop (off + A.size)).take B.size = c2 := by
     have := congrArg (List.drop A.size) ee
     rw [List.drop_take, List.drop_drop, show A.size + B.size - A.size = B.size by omega, List.drop_left' e1] at this
     exact this
    rw [q1, q2]
    exact ⟨h1, h2⟩
   obtain ⟨x1, x2⟩ := split x cx l1 hx
   obtain ⟨y1, y2⟩ := split y cy l2 hy
   have h1 := part_two (w := w) hE hA ho (show off + A.size <= cx.length by omega)
   have h2 := part_two (w := w) hE hA ho (show off + A.size <= cy.length by omega)
   have h3 := hrec _ _ x.1 y.1 _ _ hq ⟨_, x1, rfl⟩ ⟨_, y1, rfl⟩
   have h4 := run_eqFs hE hrec (g :: fs) B (off + A.size) x.2 y.2 cx cy hr (by omega) (by omega) x2 y2
   rw [Op.eqFields]
   simp only [if_pos hn, Sem.run_bind, h1, h2, h3, Result.andThen_ok, beqT]
   cases beqT A x.1 y.1
   ·simp
   ·simpa using h4
  | _ => simp [eqFs] at h
theorem run_eqB {ok : Nat -> Prop} (hE : E.OK P) : ∀ (k d : Nat) (t : TypeId) (U : Ty) (x y : U.den) (vx vy : Value), k <= d -> eqB P E k t U = true -> Rep w ok U x vx -> Rep w ok U y vy ->
  (Op.equalIn d t vx vy).run P w = .ok (beqT U x y) w
 | 0, _, _, _, _, _, _, _, _, h, _, _ => by simp [eqB] at h
 | k + 1, 0, _, _, _, _, _, _, hd, _, _, _ => by omega
 | k + 1, d + 1, t, U, x, y, vx, vy, hd, h, hx, hy => by
  unfold eqB at h
  split at h
  ·rename_i hu
   have e := of_decide_eq_true h
   subst e
   rw [hx.bool, hy.bool]
   exact run_equalIn_bool hu x y d
  ·rename_i j hu
   have e := of_decide_eq_true h
   subst e
   rw [hx.int, hy.int]
   simp only [Op.equalIn, Sem.run_bind, run_underlying hu, Result.andThen_ok, if_true, Sem.run_pure, beqT]
   congr 1
  ·rename_i fs hu
   simp only [Bool.and_eq_true, Bool.not_eq_true'] at h
   obtain ⟨⟨h1, h2⟩, h3⟩ := h
   cases U with
   | pair A B =>
    obtain ⟨cx, hcx, rfl⟩ := hx
    obtain ⟨cy, hcy, rfl⟩ := hy
    have lx := Holds.len _ _ _ hcx
    have ly := Holds.len _ _ _ hcy
    have hf : P.fieldsOf t = fs := by simp [Program.fieldsOf, hu]
    show (Op.equalIn (d + 1) t (.agg cx.toArray) (.agg cy.toArray)).run P w = _
    rw [run_equalIn_struct (P := P) w d t cx.toArray cy.toArray (by rw [hf]; exact hu) h1, hf]
    refine run_eqFs (ok := ok) (k := k) hE (fun t U x y vx vy he hx hy => run_eqB (ok := ok) hE k d t U x y vx vy (by omega) he hx hy) fs.toList (.pair A B) 0 x y cx cy h3 (by omega) (by omega) ?_ ?_
    ·rw [List.drop_zero, List.take_of_length_le (by omega)]; exact hcx
    ·rw [List.drop_zero, List.take_of_length_le (by omega)]; exact hcy
   | _ => simp [Ty.isPair] at h2
  ·cases h
theorem run_eqGuard_agg {op : BinOp} {t : TypeId} {x y : Operand} {b c : Array Value} (h : P.eqGuardType P.depth t = false) : (eqGuard op t x y (.agg b) (.agg c)).run P w = .ok () w := by
 cases op <;> simp [eqGuard, h]
theorem run_binOp_agg {op : BinOp} {t : TypeId} {b c : Array Value} (r : Bool) (hr : (Op.equal t (.agg b) (.agg c)).run P w = .ok r w) :
  (binOp .eql t (.agg b) (.agg c)).run P w = .ok (.bool r) w /\ (binOp .neq t (.agg b) (.agg c)).run P w = .ok (.bool !r) w := by
 constructor <;> simp [binOp, hr]
theorem run_equalIn_nil {t e0 : TypeId} (hd : P.underlying t = some (.pointer e0)) (A : Addr) (k : Nat) : (Op.equalIn (k + 1) t (.pointer (some A)) (.pointer none)).run P w = .ok false w := by
 simp only [Op.equalIn, Sem.run_bind, run_underlying hd, Result.andThen_ok, Sem.run_pure]
theorem run_equal_nil {t e0 : TypeId} (hd : P.underlying t = some (.pointer e0)) (A : Addr) : (Op.equalIn Op.maxDepth t (.pointer (some A)) (.pointer none)).run P w = .ok false w := run_equalIn_nil hd A 9999
theorem evalOp_binOp (hE : E.OK P) (h : RelC b n O ρ s a w) {op : BinOp} {t t' : TypeId} {x y : Operand} (ho : o.op = .binOp op t x y t') {eff : Eff} (he : evalOp E hw dst (s.ev b) s.bx (.binOp op t x y t') = some eff) : EffOK P o a w O ρ s eff := by
 simp only [evalOp] at he
 cases hpt : E.pt t with
 | true =>
  rw [hpt] at he
  simp only [cond_true] at he
  obtain ⟨e0, hd⟩ := hE.pt t hpt
  have key : ∀ (p q : AV), s.ev b x = some p -> s.ev b y = some q -> isPtr s.bx p = true -> isNilP q = true -> ∃ A, a.eval x = .pointer (some A) /\ a.eval y = .pointer none := fun p q hp hq h1 h2 => by
   obtain ⟨id, ver, off, B, rfl, hB, hv⟩ := isPtr_box h1
   obtain ⟨g, hg, hx⟩ := ptr_live h.toRelO h1 (h.ev hp)
   refine ⟨_, hx, ?_⟩
   unfold isNilP at h2
   split at h2
   ·exact h.ev hq
   ·cases h2
  split at he
  ·rename_i p q hp hq
   cases hc : (isPtr s.bx p && isNilP q) with
   | false => rw [hc] at he; cases he
   | true =>
    rw [hc] at he
    cases he
    rw [Bool.and_eq_true] at hc
    obtain ⟨A, hx, hy⟩ := key p q hp hq hc.1 hc.2
    refine EffOK.val h (v := .bool false) ?_ rfl
    simp [execOp, ho, hx, hy, eqGuard, binOp, Op.equal, run_equal_nil hd]
  ·rename_i p q hp hq
   cases hc : (isPtr s.bx p && isNilP q) with
   | false => rw [hc] at he; cases he
   | true =>
    rw [hc] at he
    cases he
    rw [Bool.and_eq_true] at hc
    obtain ⟨A, hx, hy⟩ := key p q hp hq hc.1 hc.2
    refine EffOK.val h (v := .bool true) ?_ rfl
    simp [execOp, ho, hx, hy, eqGuard, binOp, Op.equal, run_equal_nil hd]
  ·cases he
 | false =>
 rw [hpt] at he
 simp only [cond_false, Option.bind_eq_some_iff (x := E.ty t)] at he
 obtain ⟨U, hU, he⟩ := he
 obtain ⟨d, hok⟩ := hE.ty t U hU
 cases U with
 | int k =>
  simp only [Option.bind_eq_some_iff (x := (s.ev b x).bind _)] at he
  obtain ⟨b0, hb, he⟩ := he
  have hx := (h.evT hb).int
  have done : ∀ av v, (binOp op t (a.eval x) (a.eval y)).run P w = .ok v w -> (∀ k' c, a.eval y = .int k' c -> True) -> (∃ k' c, a.eval y = .int k' c) -> RepA (mem O ρ s.bx w) av v -> EffOK P o a w O ρ s (.put av) := fun av v hv _ hy hr => by
   obtain ⟨k', c, hy⟩ := hy
   refine EffOK.val h (v := v) ?_ hr
   rw [hx, hy] at hv
   simp only [execOp, ho, hx, hy, Sem.run_bind, run_eqGuard_int, Result.andThen_ok, hv, Sem.run_pure]
  split at he
  ·simp only [Option.bind_eq_some_iff (x := (s.ev b y).bind _), Option.map_eq_some_iff] at he
   obtain ⟨c, hc, av, hs, e⟩ := he
   subst e
   rw [Option.bind_eq_some_iff] at hc
   obtain ⟨bv, hbv, hc⟩ := hc
   obtain ⟨k', hy⟩ := asI_rep hc (h.ev hbv)
   obtain ⟨v, h1, h2⟩ := run_shift (P := P) (w := w) (t := t) (k' := k') hs
   exact done av v (by rw [hx, hy]; exact h1) (fun _ _ _ => trivial) ⟨_, _, hy⟩ (h2 _)
  ·simp only [Option.bind_eq_some_iff (x := (s.ev b y).bind _), Option.map_eq_some_iff] at he
   obtain ⟨c, hc, av, hs, e⟩ := he
   subst e
   rw [Option.bind_eq_some_iff] at hc
   obtain ⟨bv, hbv, hc⟩ := hc
   obtain ⟨k', hy⟩ := asI_rep hc (h.ev hbv)
   obtain ⟨v, h1, h2⟩ := run_shift (P := P) (w := w) (t := t) (k' := k') hs
   exact done av v (by rw [hx, hy]; exact h1) (fun _ _ _ => trivial) ⟨_, _, hy⟩ (h2 _)
  ·rename_i n1 n2
   simp only [Option.bind_eq_some_iff (x := (s.ev b y).bind _), Option.map_eq_some_iff] at he
   obtain ⟨c, hc, av, hs, e⟩ := he
   subst e
   have hy := (h.evT hc).int
   obtain ⟨v, h1, h2⟩ := run_binOp_int (P := P) (w := w) (t := t) hs (fun e => n1 e) (fun e => n2 e)
   exact done av v (by rw [hx, hy]; exact h1) (fun _ _ _ => trivial) ⟨_, _, hy⟩ (h2 _)
 | bool =>
  simp only [Option.bind_eq_some_iff (x := (s.ev b x).bind _), Option.bind_eq_some_iff (x := (s.ev b y).bind _)] at he
  obtain ⟨b0, hb, c, hc, he⟩ := he
  have hx := (h.evT hb).bool
  have hy := (h.evT hc).bool
  have hd := hok.bool rfl
  subst hd
  split at he <;> cases he
  ·refine EffOK.val h (v := .bool (b0 == c)) ?_ Rep.of_bool
   simp only [execOp, ho, hx, hy, Sem.run_bind, run_eqGuard_bool, Result.andThen_ok, binOp, run_equal_bool hok.desc, Sem.run_pure]
  ·refine EffOK.val h (v := .bool (!(b0 == c))) ?_ Rep.of_bool
   simp only [execOp, ho, hx, hy, Sem.run_bind, run_eqGuard_bool, Result.andThen_ok, binOp, run_equal_bool hok.desc, Sem.run_pure]
 | pair p q =>
  simp only [Option.bind_eq_some_iff (x := (s.ev b x).bind _), Option.bind_eq_some_iff (x := (s.ev b y).bind _)] at he
  obtain ⟨b0, hb, c, hc, he⟩ := he
  split at he
  ·rename_i heq
   obtain ⟨hg, hq⟩ := hE.eq t _ heq hU
   have h1 := run_eqB hE 20 10000 t _ b0 c _ _ (by omega) hq (h.evT hb) (h.evT hc)
   obtain ⟨cx, _, hx⟩ := h.evT hb
   obtain ⟨cy, _, hy⟩ := h.evT hc
   have hx' : a.eval x = .agg cx.toArray := hx
   have hy' : a.eval y = .agg cy.toArray := hy
   rw [hx', hy'] at h1
   obtain ⟨h2, h3⟩ := run_binOp_agg (op := .eql) _ h1
   split at he <;> cases he
   ·refine EffOK.val h (v := .bool (beqT (.pair p q) b0 c)) ?_ Rep.of_bool
    simp only [execOp, ho, hx', hy', Sem.run_bind, run_eqGuard_agg hg, Result.andThen_ok, h2, Sem.run_pure]
   ·refine EffOK.val h (v := .bool (!(beqT (.pair p q) b0 c))) ?_ Rep.of_bool
    simp only [execOp, ho, hx', hy', Sem.run_bind, run_eqGuard_agg hg, Result.andThen_ok, h3, Sem.run_pure]
  ·cases he
 | _ => simp at he
end
section
variable {P : Program} {E : Env} {b n : Nat} {O : Octx} {ρ : Nat -> Value} {s : St} {a : Act} {w w' : World} {o : Oper} {hw : How} {dst : Option Nat} {M : Mm}
theorem Holds.slice {ok : Nat -> Prop} {T : Ty} {l : List T.den} {cs : List Value} (h : Holds w ok (.list T) l cs) : ∃ css v, cs = [v] /\ All2 (Holds w ok T) l css /\ IsSlice w T.size l.length css.flatten v /\ l.length <= maxLen := by
 obtain ⟨A, cap, css, e, ⟨hc, hm⟩, h1, h2⟩ := h
 have hl := All2.length h1
 refine ⟨css, _, e, h1, ⟨A, cap, rfl, by rw [flatten_len css (All2.lens h1), hl], fun u hu => ?_, fun hn => ?_⟩, hm⟩
 ·obtain ⟨c, hc, hu⟩ := List.mem_flatten.1 hu
  have : ∀ {l : List T.den} {css : List (List Value)}, All2 (Holds w ok T) l css -> c ∈ css -> ∃ x, Holds w ok T x c := by
   intro l
   induction l with
   | nil => intro css h hc; cases css with
    | nil => cases hc
    | cons d css => exact h.elim
   | cons x l ih =>
    intro css h hc
    match css, h with
    | d :: css, ⟨h1, h2⟩ =>
     rcases List.mem_cons.1 hc with rfl | hc
     ·exact ⟨x, h1⟩
     ·exact ih h2 hc
  obtain ⟨x, hx⟩ := this h1 hc
  exact Holds.one _ _ _ hx u hu
 ·obtain ⟨ad, hA, hs, _, cc, el, z, hh, hv⟩ := h2 (fun e0 => hn (by rw [e0]; rfl))
  refine ⟨ad, hA, fun j u hj => ?_⟩
  rw [addr_add hs]
  simp only [World.cell?, hh]
  exact hv _ _ hj
theorem elems_slice (h : RelO O ρ s w) {T : Ty} {av : AV} {l : List T.den} {v : Value} (he : elemsA s.bx T av = some l) (hr : RepA (mem O ρ s.bx w) av v) :
  ∃ css, All2 (Holds w (okS O ρ s.bx) T) l css /\ IsSlice w T.size l.length css.flatten v /\ l.length <= maxLen := by
 have plain : Rep w (okS O ρ s.bx) (.list T) l v -> ∃ css, All2 (Holds w (okS O ρ s.bx) T) l css /\ IsSlice w T.size l.length css.flatten v /\ l.length <= maxLen := fun ⟨cs, hc, hv⟩ => by
  obtain ⟨css, u, e, h1, h2, h3⟩ := Holds.slice hc
  subst e
  have : v = u := hv
  subst this
  exact ⟨css, h1, h2, h3⟩
 unfold elemsA at he
 cases av with
 | arr id ver =>
  simp only [asB] at he
  split at he
  ·rename_i ver' e T' l' hB
   split at he
   ·rename_i eT
    have hT : T' = T := Ty.list.inj eT
    subst hT
    split at he
    ·rename_i ev
     subst ev
     have hll : l' = l := Option.some.inj he
     subst hll
     obtain ⟨cs, ⟨u, eu, _, h2⟩, h3⟩ := hr
     have hu : u = ρ id := h2 (by simp [mem, hB, Box.ver])
     have hv : v = ρ id := by rw [h3, eu, <- hu]; rfl
     obtain ⟨_, css, hcs, hown⟩ := h.bx id _ hB
     have hfl := flatten_len css (All2.lens hcs)
     have hll := All2.length hcs
     have hone : ∀ u ∈ css.flatten, u.oneCell' = true := by
      obtain ⟨A, cap, rr⟩ : ∃ A cap, Holds w (fun k => okS O ρ s.bx k \/ refB (ρ id) = some k) (.list T') l' [.slice A l'.length cap] := by
       have := arr_holds (us := s.us) (nl := s.nl) (id := id) (ver := ver) (e := e) (T := T') (l := l') (ok' := fun k => okS O ρ s.bx k \/ refB (ρ id) = some k) (cs := [ρ id]) ⟨by assumption, css, hcs, hown⟩ hB (fun k hk => .inl hk) (fun k hk => .inr hk) ⟨ρ id, rfl, by rcases hown.2 with ⟨h6, _⟩ | ⟨g, cap, cur, h6, _⟩ <;> rw [h6] <;> rfl, fun _ => rfl⟩
       obtain ⟨A, cap, css', e', r⟩ := this
       exact ⟨A, cap, ⟨A, cap, css', rfl, r⟩⟩
      intro u hu
      obtain ⟨c, hc, hu⟩ := List.mem_flatten.1 hu
      obtain ⟨i, hi⟩ := List.getElem?_of_mem hc
      have hilt : i < l'.length := by rw [hll]; exact (List.getElem?_eq_some_iff.1 hi).1
      obtain ⟨c', hc', hx⟩ := All2.get hcs (List.getElem?_eq_getElem hilt)
      rw [hi] at hc'
      cases hc'
      exact Holds.one _ _ _ hx u hu
     rcases hown.2 with ⟨h6, h0⟩ | ⟨g, cap, cur, h6, h7, h8, h9, h10, h11, h12⟩
     ·refine ⟨css, hcs, ⟨none, 0, by rw [hv, h6, h0], by rw [hfl, hll], hone, fun hn => absurd h0 hn⟩, by rw [h0]; exact Nat.zero_le _⟩
     ·refine ⟨css, hcs, ⟨some ⟨g, 0, none⟩, cap, by rw [hv, h6], by rw [hfl, hll], hone, fun _ => ⟨_, rfl, fun j u hj => ?_⟩⟩, Nat.le_trans h9 h10⟩
      rw [addr_add rfl]
      simp only [World.cell?, h8]
      rw [<- h12, List.getElem?_take] at hj
      split at hj
      ·simpa using hj
      ·cases hj
    ·cases he
   ·cases he
  ·cases he
 | v U x =>
  refine plain ?_
  simp only [asB] at he
  split at he
  ·rename_i e; subst e; cases he; exact hr
  ·cases he
 | cst c =>
  refine plain ?_
  rw [show v = c from hr]
  exact decV_rep he
 | pr x y => simp [asB] at he
 | _ => cases he
theorem run_append_empty (base : Nat) (t ty e : TypeId) (i : TypeInfo) (size : Nat) (ht : P.underlying t = some (.slice e)) (hi : P.info? e = some i)
  (v : Value) (n c : Nat) (xs : List Value) (hown : w.ownsRow base e size v n xs) : (Builtin.append_ #[t, t] ty #[v, .slice none 0 c]).run P w = .ok v w := by
 rcases hown.2 with ⟨rfl, rfl⟩ | ⟨g, cap, cur, rfl, _, _, hnc, _⟩
 ·simp [Builtin.append_, run_underlying ht, sizeOf, typeInfo, hi, Builtin.lenOf, Builtin.firstCells]
 ·simp [Builtin.append_, run_underlying ht, sizeOf, typeInfo, hi, Builtin.lenOf, Builtin.firstCells, hnc, storeCells]
theorem ownBlock_refB {base : Nat} {e : TypeId} {size : Nat} {v : Value} {n : Nat} {xs : List Value} (h : w.ownsRow base e size v n xs) : v.ownBlock = refB v := by
 rcases h.2 with ⟨rfl, _⟩ | ⟨g, cap, cur, rfl, _⟩ <;> rfl
theorem run_append_box (base : Nat) (t ty e : TypeId) (i : TypeInfo) (z : Value) (ht : P.underlying t = some (.slice e)) (hi : P.info? e = some i) (hz : i.zero = some z)
  (hzs : z.cells.size = i.size) (hsz : 0 < i.size) (v : Value) (n : Nat) (xs : List Value) (hown : w.ownsRow base e i.size v n xs) (u : Value) (m : Nat) (news : List Value) (hu : IsSlice w i.size m news u)
  (h63 : n + m <= maxLen) (hbytes : (n + m) * i.bytes <= 140737488355328) (hbase : base <= w.heap.size) :
  ∃ v' w', (Builtin.append_ #[t, t] ty #[v, u]).run P w = .ok v' w' /\ w'.ownsRow base e i.size v' (n + m) (xs ++ news) /\ w.grownBy w' (refB v) /\ ∀ k, refB v' = some k -> w.heap.size <= k \/ refB v = some k := by
 obtain ⟨A, c, rfl, hl, hone, hcells⟩ := hu
 rw [<- ownBlock_refB hown]
 cases A with
 | none =>
  have hm : m = 0 := Classical.byContradiction fun hn => by obtain ⟨a, ha, _⟩ := hcells hn; cases ha
  subst hm
  have hn : news = [] := List.eq_nil_of_length_eq_zero (by simpa using hl)
  subst hn
  refine ⟨v, w, run_append_empty base t ty e i i.size ht hi v n c xs hown, by simpa using hown, ⟨rfl, rfl, rfl, Nat.le_refl _, fun _ _ _ => rfl⟩, fun k hk => .inr (by rw [ownBlock_refB hown]; exact hk)⟩
 | some ad =>
  have hnews : ∀ j x, news[j]? = some x -> w.cell? (ad.add j) = some x := by
   by_cases hn : m = 0
   ·subst hn
    have hn : news = [] := List.eq_nil_of_length_eq_zero (by simpa using hl)
    subst hn
    intro j x hj; cases hj
   ·obtain ⟨a', ha, hc⟩ := hcells hn
    cases ha
    exact hc
  obtain ⟨v', w', hrun, h1, h2, h3⟩ := run_append_own w base t ty e i z i.size i.bytes ht hi hz rfl rfl hzs hsz v n xs hown ad m c news hl hnews hone h63 hbytes hbase
  refine ⟨v', w', hrun, h1, h2, fun k hk => ?_⟩
  have h63' : n + m <= 9223372036854775807 := by simp only [maxLen] at h63; omega
  rcases hown.2 with ⟨rfl, rfl⟩ | ⟨g, cap, cur, rfl, hbg, hg, hnc, hcm, hcs, htake⟩
  ·by_cases hm : m = 0
   ·rw [h3.2 ⟨rfl, hm⟩] at hk; cases hk
   ·have := run_append_nil (P := P) w t ty e i z ht hi hz ad m c news hl hnews (by omega) (by omega) (by have hb := hbytes; simp only [Nat.zero_add] at hb; omega)
    rw [hrun] at this
    cases this
    left
    simp only [refB, Option.some.injEq] at hk
    omega
  ·by_cases hroom : n + m <= cap
   ·have hfit : n * i.size + news.length <= cur.size := by rw [hl, hcs, <- Nat.add_mul]; exact Nat.mul_le_mul_right _ hroom
    have := run_append_room (P := P) w t ty e i ht hi g n cap cur hg ad m c news hl hnews hone hroom hfit
    rw [hrun] at this
    cases this
    exact .inr hk
   ·have holds : ∀ j u, xs[j]? = some u -> w.cell? ((⟨g, 0, none⟩ : Addr).add j) = some u := hown.cells (g := g) rfl
    have := run_append_grow (P := P) w t ty e i z ht hi hz ⟨g, 0, none⟩ n cap xs hown.1 holds ad m c news hl hnews (by omega) (by omega) (growslice_fits (by omega) hbytes)
    rw [hrun] at this
    cases this
    left
    simp only [refB, Option.some.injEq] at hk
    omega
theorem resAV_rep {ok : Nat -> Prop} : ∀ (l : List Ty) (r : HL l) (v : Value), (∀ k, ok k -> M.okv k) -> RepR M.w ok l r v -> RepA M (resAV l r) v := by
 have tup : ∀ (l : List Ty) (r : HL l) (vs : List Value), (∀ k, ok k -> M.okv k) -> RepL M.w ok l r vs -> TupA M (tupAV l r) vs := by
  intro l
  induction l with
  | nil => intro r vs _ h; exact h
  | cons T l ih =>
   intro r vs hok h
   obtain ⟨v, q, e, h1, h2⟩ := h
   exact ⟨v, q, e, Rep.map (fun k c e z hk hh => ⟨hok k hk, hh⟩) h1, ih _ _ hok h2⟩
 intro l r v hok h
 match l, r, h with
 | [], r, ⟨vs, e, hv⟩ => exact ⟨vs, e, hv⟩
 | [T], r, h => exact Rep.map (fun k c e z hk hh => ⟨hok k hk, hh⟩) h
 | T :: T' :: l, r, ⟨vs, e, hv⟩ => exact ⟨vs, e, tup _ _ _ hok hv⟩
theorem Holds.free {w : World} {ok ok' : Nat -> Prop} : ∀ (T : Ty) (x : T.den) (cs : List Value), T.free = true -> Holds w ok T x cs -> Holds w ok' T x cs
 | .int _, _, _, _, h => h
 | .bool, _, _, _, h => h
 | .pair A B, x, _, hf, ⟨c1, c2, e, h1, h2⟩ => by
  simp only [Ty.free, Bool.and_eq_true] at hf
  exact ⟨c1, c2, e, Holds.free A x.1 c1 hf.1 h1, Holds.free B x.2 c2 hf.2 h2⟩
 | .list _, _, _, hf, _ => by cases hf
theorem RepL.free {ok ok' : Nat -> Prop} : ∀ (l : List Ty) (r : HL l) (vs : List Value), freeL l = true -> RepL w ok l r vs -> RepL w ok' l r vs
 | [], _, _, _, h => h
 | T :: l, r, _, hf, ⟨v, q, e, ⟨cs, h1, h1'⟩, h2⟩ => by
  simp only [freeL, Bool.and_eq_true] at hf
  exact ⟨v, q, e, ⟨cs, Holds.free _ _ _ hf.1 h1, h1'⟩, RepL.free l r.2 q hf.2 h2⟩
theorem RepR.free {ok ok' : Nat -> Prop} (l : List Ty) (r : HL l) (v : Value) (hf : freeL l = true) (h : RepR w ok l r v) : RepR w ok' l r v := by
 match l, r, h with
 | [], r, ⟨vs, e, hv⟩ => exact ⟨vs, e, RepL.free _ _ _ hf hv⟩
 | [T], r, ⟨cs, h1, h2⟩ =>
  simp only [freeL, Bool.and_true] at hf
  exact ⟨cs, Holds.free _ _ _ hf h1, h2⟩
 | T :: T' :: l, r, ⟨vs, e, hv⟩ => exact ⟨vs, e, RepL.free _ _ _ hf hv⟩
theorem delB_some : ∀ (ids : List Nat) (bx : Nat -> Option Box) (i : Nat) (B : Box), delB bx ids i = some B -> bx i = some B /\ i ∉ ids
 | [], _, _, _, h => ⟨h, by simp⟩
 | j :: l, bx, i, B, h => by
  obtain ⟨h1, h2⟩ := delB_some l _ i B h
  simp only [updB, bif_beq] at h1
  split at h1
  ·cases h1
  ·rename_i hne
   exact ⟨h1, by simp [hne, h2]⟩
theorem asBL_rep (h : RelC b n O ρ s a w) {ok' : Nat -> Prop} (hok : ∀ k, okS O ρ s.bx k -> ok' k) : ∀ (l : List Ty) (args : List Operand) (xs : HL l), asBL s.bx l (args.map (s.ev b)) = some xs ->
  (∀ id ∈ idsL (args.map (s.ev b)), ∀ k, (s.bx id).isSome = true -> refB (ρ id) = some k -> ok' k) -> RepL w ok' l xs (args.map a.eval)
 | [], [], _, _, _ => rfl
 | [], _ :: _, _, e, _ => by simp [asBL] at e
 | _ :: _, [], _, e, _ => by simp [asBL] at e
 | T :: l, x :: r, xs, e, hi => by
  simp only [List.map_cons, asBL, Option.bind_eq_some_iff (x := (s.ev b x).bind _), Option.bind_eq_some_iff (x := asBL s.bx l _)] at e
  obtain ⟨y, hy, z, hz, e⟩ := e
  cases e
  rw [Option.bind_eq_some_iff] at hy
  obtain ⟨av, hav, hy⟩ := hy
  refine ⟨_, _, rfl, ?_, asBL_rep h hok l r z hz fun id hid => hi id (by simp only [List.map_cons, hav, idsL]; exact List.mem_append_right _ hid)⟩
  exact asB_rep (us := s.us) (nl := s.nl) h.bx hok hy (fun id hid k hs hk => hi id (by simp only [List.map_cons, hav, idsL]; exact List.mem_append_left _ hid) k hs hk) (h.ev hav)
end
section
variable {bx : Nat -> Option Box}
theorem asB_free : ∀ (av : AV) (U : Ty) (x : U.den), U.free = true -> asB bx U av = some x -> arrIds av = []
 | .v _ _, _, _, _, _ => rfl
 | .cst _, _, _, _, _ => rfl
 | .pr p q, U, x, hf, h => by
  cases U with
  | pair A B =>
   simp only [Ty.free, Bool.and_eq_true] at hf
   simp only [asB, Option.bind_eq_some_iff] at h
   obtain ⟨y, hy, z, hz, _⟩ := h
   simp only [arrIds, asB_free p A y hf.1 hy, asB_free q B z hf.2 hz, List.append_nil]
  | _ => simp [asB] at h
 | .arr id ver, U, x, hf, h => by
  exfalso
  simp only [asB] at h
  split at h
  ·split at h
   ·rename_i e; subst e; cases hf
   ·cases h
  ·cases h
 | .ptr _ _ _, _, _, _, _ => rfl
 | .elt _ _ _ _ _, _, _, _, _ => rfl
 | .ro _ _ _, _, _, _, _ => rfl
 | .clo _ _, _, _, _, _ => rfl
 | .yld _, _, _, _, _ => rfl
 | .nl, _, _, _, _ => rfl
 | .tup _, _, _, _, _ => rfl
theorem asBL_free : ∀ (l : List Ty) (avs : List (Option AV)) (xs : HL l), freeL l = true -> asBL bx l avs = some xs -> idsL avs = []
 | [], [], _, _, _ => rfl
 | [], _ :: _, _, _, h => by simp [asBL] at h
 | _ :: _, [], _, _, h => by simp [asBL] at h
 | T :: l, av :: r, xs, hf, h => by
  simp only [freeL, Bool.and_eq_true] at hf
  simp only [asBL, Option.bind_eq_some_iff (x := av.bind _), Option.bind_eq_some_iff (x := asBL _ l r)] at h
  obtain ⟨y, hy, z, hz, _⟩ := h
  rw [Option.bind_eq_some_iff] at hy
  obtain ⟨v, hv, hy⟩ := hy
  subst hv
  simp only [idsL, asB_free v T y hf.1 hy, asBL_free l r z hf.2 hz, List.append_nil]
end
section
variable {P : Program} {E : Env} {b n : Nat} {O : Octx} {ρ ρ1 ρ2 : Nat -> Value} {s : St} {a : Act} {w w' w1 w2 : World} {o : Oper} {hw : How} {dst : Option Nat} {M : Mm}
def GOK (E : Env) (O : Octx) : Prop := ∀ w', Below O.w0.heap.size O.w0 w' -> E.G w'
theorem Step.trans {bx bx1 bx2 : Nat -> Option Box} {us us1 us2 : Nat -> Nat} {nl : Nat} (h : Step O ρ ρ1 bx bx1 us us1 nl w w1) (k : Step O ρ1 ρ2 bx1 bx2 us1 us2 nl w1 w2) : Step O ρ ρ2 bx bx2 us us2 nl w w2 where
 ext := by
  refine ⟨fun i c e z hk hh => ?_, fun id ver hv hc => ?_, fun _ _ _ h => h, fun _ h => h⟩
  ·obtain ⟨h1, h2⟩ := h.ext.heap i c e z hk hh
   exact k.ext.heap i c e z h1 h2
  ·obtain ⟨h1, h2⟩ := k.ext.cur id ver (Nat.lt_of_lt_of_le hv (h.us id)) hc
   obtain ⟨h3, h4⟩ := h.ext.cur id ver hv h1
   exact ⟨h3, h2.trans h4⟩
 us := fun id => Nat.le_trans (h.us id) (k.us id)
 brd := fun i q hi hq => by
  rcases k.brd i q hi hq with ⟨j, h1, h2⟩ | h1
  ·exact h.brd j q h1 h2
  ·exact .inr (Nat.le_trans h.below.size h1)
 bx := k.bx
 inj := k.inj
 below := h.below.trans k.below
 objs := fun i ob hi ho => k.objs i ob (h.objs i ob hi ho) ho
theorem map_one {α β : Type} {f : α -> β} {l : List α} {y : β} (h : l.map f = [y]) : ∃ x, l = [x] /\ f x = y := by
 cases l with
 | nil => cases h
 | cons x l =>
  cases l with
  | nil => exact ⟨x, rfl, by simpa using h⟩
  | cons _ _ => simp at h
theorem map_two {α β : Type} {f : α -> β} {l : List α} {y z : β} (h : l.map f = [y, z]) : ∃ x x', l = [x, x'] /\ f x = y /\ f x' = z := by
 cases l with
 | nil => cases h
 | cons x l =>
  cases l with
  | nil => simp at h
  | cons x' l =>
   cases l with
   | nil => simp at h; exact ⟨x, x', rfl, h.1, h.2⟩
   | cons _ _ => simp at h
theorem run_callFunc {f : FuncId} {fn : Func} {c : Code} (hf : P.funcs[f]? = some fn) (hn : (fn.name == "runtime.NumGoroutine") = false) (hb : fn.body = some c) (args : Array Value) :
  (callFunc f args).run P w = .ok (.enter f args) w := by
 have hn' : ¬ fn.name = "runtime.NumGoroutine" := by simpa using hn
 simp [callFunc, hf, hn', hb]
theorem run_callVal {f : FuncId} {args : Array Operand} {ats : Array TypeId} (ho : o.op = .call ⟨.value (.func f), args, ats⟩) (hf : ∃ fn c, P.funcs[f]? = some fn /\ (fn.name == "runtime.NumGoroutine") = false /\ fn.body = some c) :
  (execOp a.eval o).run P w = .ok (.enter f (args.map a.eval)) w := by
 obtain ⟨fn, c, h1, h2, h3⟩ := hf
 simp only [execOp, ho, resolve, Act.eval, Deferred.ofValue, Sem.run_bind, Sem.run_pure, Result.andThen_ok, invoke]
 simpa using run_callFunc (w := w) h1 h2 h3 (args.map a.eval)
theorem evalOp_spec (hE : E.OK P) (hG : GOK E O) (h : RelC b n O ρ s a w) {f : FuncId} {args : Array Operand} (hrun : (execOp a.eval o).run P w = .ok (.enter f (args.map a.eval)) w) {S : Spec} (hS : E.tab f = some S) {xs : HL S.args} {r : HL S.res}
  (hxs : asBL s.bx S.args (args.toList.map (s.ev b)) = some xs) (hr : S.F xs = some r) : EffOK P o a w O ρ s (if freeL S.res = true then .put (resAV S.res r) else .del (idsL (args.toList.map (s.ev b))) (resAV S.res r)) := by
 obtain ⟨hfn, hcall⟩ := hE.tab f S hS
 have hargs : (List.map a.eval args.toList).toArray = args.map a.eval := by rw [<- Array.toList_map, Array.toArray_toList]
 have hg : ∀ w', Below w.heap.size w w' -> E.G w' := fun w' hb => hG w' (h.below.trans (hb.mono h.below.size))
 by_cases hfree : freeL S.res = true
 ·rw [if_pos hfree]
  have hxs' := asBL_rep h (ok' := fun k => O.ok0 k \/ O.w0.heap.size <= k) (fun k hk => hk.1.1) _ _ _ hxs (fun id _ k hs hk => by
   obtain ⟨B, hB⟩ := Option.isSome_iff_exists.1 hs
   exact .inr ((h.bx id B hB).block hk).1)
  have := hcall w _ xs _ r hg hxs' hr
  rw [hargs] at this
  refine .inr (.inr ⟨f, _, hrun, this.mono fun en w' he => ?_⟩)
  obtain ⟨v, h4, h5, h6⟩ := he
  exact ⟨v, h4, ρ, h.toRelO.same h5, resAV_rep S.res r v (fun k hk => hk) (RepR.free (ok' := okS O ρ s.bx) _ _ _ hfree h6)⟩
 ·rw [if_neg hfree]
  obtain ⟨ids, hids⟩ : ∃ ids, ids = idsL (args.toList.map (s.ev b)) := ⟨_, rfl⟩
  rw [<- hids]
  have hdel := h.toRelO.del (bx' := delB s.bx ids) (fun i B hB => (delB_some ids s.bx i B hB).1)
  have hmove := h.move hdel
  have hxs' := asBL_rep h (ok' := okS O ρ (delB s.bx ids)) (fun k hk => ⟨⟨hk.1.1, fun i hi => hk.1.2 i (by
   obtain ⟨B, hB⟩ := Option.isSome_iff_exists.1 hi
   rw [(delB_some ids s.bx i B hB).1]; rfl)⟩, hk.2⟩) _ _ _ hxs (fun id hid k hs hk => by
   obtain ⟨B, hB⟩ := Option.isSome_iff_exists.1 hs
   refine ⟨⟨.inr ((h.bx id B hB).block hk).1, fun i hi hk' => ?_⟩, h.brd id k hs hk⟩
   obtain ⟨B', hB'⟩ := Option.isSome_iff_exists.1 hi
   obtain ⟨h1, h2⟩ := delB_some ids s.bx i B' hB'
   have := h.inj i id k (by rw [h1]; rfl) hs hk' hk
   subst this
   exact h2 (hids ▸ hid))
  have := hcall w _ xs _ r hg hxs' hr
  rw [hargs] at this
  refine .inr (.inr ⟨f, _, hrun, this.mono fun en w' he => ?_⟩)
  obtain ⟨v, h4, h5, h6⟩ := he
  refine ⟨v, h4, ρ, hdel.trans (hmove.toRelO.same h5), resAV_rep S.res r v (fun k hk => ?_) h6⟩
  rcases hk with hk | hk
  ·exact hk
  ·refine ⟨⟨.inr (Nat.le_trans h.below.size hk), fun i hi hk' => ?_⟩, h.rdf k hk⟩
   obtain ⟨B', hB'⟩ := Option.isSome_iff_exists.1 hi
   have := h.toRelO.lt (delB_some ids s.bx i B' hB').1 hk'
   omega
theorem clone_facts (hE : E.OK P) {t e : TypeId} {T : Ty} {by_ : Nat} (ht : E.ty t = some (.list T)) (hel : E.el t = some (e, by_)) :
  P.underlying t = some (.slice e) /\ ∃ ti z, P.info? e = some ti /\ ti.zero = some z /\ z.cells.size = ti.size /\ ti.size = T.size /\ 0 < ti.size /\ ti.bytes = by_ := by
 obtain ⟨d, hok⟩ := hE.ty t _ ht
 obtain ⟨e', b', hd, hety, hel'⟩ := hok.list T rfl
 rw [hel] at hel'
 cases hel'
 subst hd
 obtain ⟨_, ⟨ti0, hti0, hby⟩, _⟩ := hE.el t e by_ hel
 obtain ⟨d', hok'⟩ := hE.ty e T hety
 obtain ⟨z0, hlay⟩ := hok'.lay
 obtain ⟨ti, dd, hL⟩ := hE.lay _ _ hlay
 obtain ⟨ti', z, hti, hz, hzr⟩ := hok'.zero
 have e1 : ti' = ti := Option.some.inj (hti.symm.trans hL.info)
 have e2 : ti0 = ti := Option.some.inj (hti0.symm.trans hL.info)
 subst e1; subst e2
 have hzc := (decV_rep (w := default) (ok := fun _ => True) hzr).cells
 have hzl : z.cells.size = T.size := by simpa using Holds.len _ _ _ hzc
 have hs : ti0.size = T.size := hL.size
 exact ⟨hok.desc, ti0, z, hti, hz, by rw [hs]; exact hzl, hs, by rw [hs]; exact tySize_pos T, hby⟩
theorem evalOp_clone (hE : E.OK P) (h : RelC b n O ρ s a w) {f : FuncId} {args : Array Operand} {ats : Array TypeId} (ho : o.op = .call ⟨.value (.func f), args, ats⟩) {t e : TypeId} {T : Ty} {by_ : Nat} {x : AV} {l : List T.den} {id : Nat}
  (hc : E.cln f = some t) (ht : E.ty t = some (.list T)) (hel : E.el t = some (e, by_)) (hx : args.toList.map (s.ev b) = [some x]) (hl : elemsA s.bx T x = some l) (hlim : l.length * by_ <= 140737488355328) : EffOK P o a w O ρ s (.arr id true e T l) := by
 obtain ⟨hfn, hcall⟩ := hE.cln f t hc
 have hrun := run_callVal (w := w) (a := a) ho hfn
 obtain ⟨hd, ti, z, hti, hz, hzs, hs, hpos, hby⟩ := clone_facts hE ht hel
 obtain ⟨y, hy, hxy⟩ := map_one hx
 have hav : args.map a.eval = #[a.eval y] := by rw [<- Array.toArray_toList (xs := args), hy]; simp
 obtain ⟨css, hcs, hsl, hmax⟩ := elems_slice h.toRelO hl (h.ev hxy)
 rw [<- hs] at hsl
 have := hcall w (a.eval y) l.length css.flatten e ti z hd hti hz hzs hpos hsl hmax (by rw [hby]; exact hlim)
 rw [hav] at hrun
 refine .inr (.inr ⟨f, _, hrun, this.mono fun en w' he => ?_⟩)
 obtain ⟨v', h4, hg, hown⟩ := he
 rw [hs] at hown
 have hge : ∀ k, refB v' = some k -> w.heap.size <= k := fun k hk => (ownsRow_refB hown hk).1
 obtain ⟨h5, h6⟩ := h.toRelO.arr (id := id) (row := none) (e := e) (l := l) (v' := v') hg (fun k hk => by cases hk)
  (by
   refine ⟨hown.1, ?_⟩
   rcases hown.2 with h7 | ⟨g, cap, cur, h7, h8, h9⟩
   ·exact .inl h7
   ·exact .inr ⟨g, cap, cur, h7, Nat.le_trans h.below.size h8, h9⟩)
  (fun k hk => .inl (hge k hk)) hcs
 exact ⟨v', h4, _, h5, h6⟩
theorem dynF_some {ev : Operand -> Option AV} {c : Callee} {f : FuncId} (h : dynF ev c = some f) : ∃ t, c = .value (.tmp t) /\ ev (.tmp t) = some (.clo f .nl) := by
 unfold dynF at h
 split at h
 ·rename_i t
  split at h
  ·rename_i g hg
   cases h
   exact ⟨t, rfl, hg⟩
  ·cases h
 ·cases h
theorem evalOp_call (hE : E.OK P) (hG : GOK E O) (h : RelC b n O ρ s a w) {c : Call} (ho : o.op = .call c) {eff : Eff} (he : evalOp E hw dst (s.ev b) s.bx (.call c) = some eff) : EffOK P o a w O ρ s eff := by
 obtain ⟨callee, args, ats⟩ := c
 simp only [evalOp] at he
 split at he
 ·rename_i f hdf
  obtain ⟨t, rfl, hx⟩ := dynF_some hdf
  simp only [dynCall] at he
  split at he
  ·rename_i S hS
   cases hf : freeL S.args && freeL S.res with
   | false => rw [hf] at he; cases he
   | true =>
    rw [hf] at he
    rw [Bool.and_eq_true] at hf
    simp only [cond_true, Option.bind_eq_some_iff, Option.map_eq_some_iff] at he
    obtain ⟨xs, hxs, r, hr, e⟩ := he
    subst e
    obtain ⟨fn, c, hfn, hn, hc⟩ := (hE.tab f S hS).1
    obtain ⟨cs, ⟨l, e1, h1⟩, h2⟩ := h.ev hx
    have hl : l = [] := h1
    subst hl
    have hxv : a.eval (.tmp t) = .func (.func f) #[] #[] := by rw [h2, e1]; rfl
    have hrunop : (execOp a.eval o).run P w = .ok (.enter f (args.map a.eval)) w := by
     simp only [execOp, ho, resolve, hxv, Deferred.ofValue, Sem.run_bind, Sem.run_pure, Result.andThen_ok, invoke]
     simpa using run_callFunc (w := w) hfn hn hc (args.map a.eval)
    have key := evalOp_spec hE hG h hrunop hS hxs hr
    rw [if_pos hf.2] at key
    exact key
  ·cases he
 simp only [evalCall] at he
 split at he
 ·rename_i f
  split at he
  ·rename_i S hS
   simp only [Option.bind_eq_some_iff] at he
   obtain ⟨xs, hxs, r, hr, e⟩ := he
   have key := evalOp_spec hE hG h (run_callVal ho (hE.tab _ _ hS).1) hS hxs hr
   unfold specE at e
   cases hf : freeL S.res with
   | true =>
    rw [hf] at e key
    simp only [cond_true, Option.some.injEq] at e
    subst e
    simpa using key
   | false =>
    rw [hf] at e key
    simp only [cond_false, Bool.false_eq_true, if_false] at e key
    cases ho' : hw.own with
    | true =>
     rw [ho'] at e
     simp only [cond_true, Option.some.injEq] at e
     subst e
     exact key
    | false =>
     rw [ho'] at e
     simp only [cond_false] at e
     cases hi : idsL (args.toList.map (s.ev b)) with
     | nil =>
      rw [hi] at e key
      simp only [List.isEmpty_nil, cond_true, Option.some.injEq] at e
      subst e
      exact key
     | cons i l => rw [hi] at e; cases e
  ·split at he
   ·rename_i t hc
    split at he
    ·rename_i T e by_ x ht hel hx
     rw [Option.bind_eq_some_iff] at he
     obtain ⟨l, hl, he⟩ := he
     split at he
     ·rename_i hlim
      cases he
      exact evalOp_clone hE h ho hc ht hel hx hl hlim
     ·cases he
    ·cases he
   ·split at he
    ·rename_i S hS
     cases hf : freeL S.args && freeL S.res with
     | false => rw [hf] at he; cases he
     | true =>
      rw [hf] at he
      rw [Bool.and_eq_true] at hf
      simp only [cond_true, Option.bind_eq_some_iff, Option.map_eq_some_iff] at he
      obtain ⟨xs, hxs, r, hr, e⟩ := he
      subst e
      have hxs' := asBL_rep h (ok' := okS O ρ s.bx) (fun k hk => hk) _ _ _ hxs (fun id hid => by rw [asBL_free _ _ _ hf.1 hxs] at hid; cases hid)
      obtain ⟨v, hv, hrep⟩ := hE.xt _ _ hS w _ xs _ r hxs' hr
      rw [show (List.map a.eval args.toList).toArray = args.map a.eval by rw [<- Array.toList_map, Array.toArray_toList]] at hv
      refine .inl ⟨v, w, ?_, ρ, h.toRelO.same (Below.refl _ _), resAV_rep S.res r v (fun k hk => hk) hrep⟩
      simp only [execOp, ho, resolve, Act.eval, Deferred.ofValue, Sem.run_bind, Sem.run_pure, Result.andThen_ok, invoke]
      simpa using hv
    ·cases he
 ·
  rw [Option.bind_eq_some_iff] at he
  obtain ⟨U, hU, he⟩ := he
  rw [Option.bind_eq_some_iff] at hU
  obtain ⟨t, ht, hU⟩ := hU
  obtain ⟨d, hok⟩ := hE.ty t U hU
  split at he
  ·rename_i T av hargs
   rw [Option.map_eq_some_iff] at he
   obtain ⟨x, hax, hxe⟩ := map_one hargs
   subst hxe
   obtain ⟨l, hl, e⟩ := he
   subst e
   obtain ⟨el, _, hd, _⟩ := hok.list T rfl
   subst hd
   rw [Option.bind_eq_some_iff] at hl
   obtain ⟨xv, hxv, hl⟩ := hl
   obtain ⟨css, hcs, ⟨A, cap, hx, _⟩, _⟩ := elems_slice h.toRelO hl (h.ev hxv)
   have ha : args = #[x] := by rw [<- Array.toArray_toList (xs := args), hax]
   subst ha
   refine EffOK.val h (v := .int .i64 l.length) ?_ Rep.of_int
   simp only [execOp, ho, resolve, Sem.run_bind, Sem.run_pure, Result.andThen_ok, invoke, builtin, Builtin.len_, ht]
   simp [hx, run_underlying hok.desc, goInt]
  ·cases he
 ·
  split at he
  ·rename_i t t' ht0 ht1
   split at he
   ·rename_i htt
    obtain ⟨htt, hsize⟩ := htt
    subst htt
    split at he
    ·rename_i T e by_ x y ht hel hxy
     rw [Option.bind_eq_some_iff] at he
     obtain ⟨m, hm, he⟩ := he
     obtain ⟨hd, ti, z, hti, hz, hzs, hs, hpos, hby⟩ := clone_facts hE ht hel
     obtain ⟨x1, y1, hargs, hx1, hy1⟩ := map_two hxy
     have ha : args = #[x1, y1] := by rw [<- Array.toArray_toList (xs := args), hargs]
     have hats : ats = #[t, t] := by
      apply Array.ext
      ·simpa using hsize
      ·intro i h1 h2
       have h2' : i < 2 := by simpa using h2
       match i, h2' with
       | 0, _ => rw [Array.getElem?_eq_getElem h1] at ht0; simpa using ht0
       | 1, _ => rw [Array.getElem?_eq_getElem h1] at ht1; simpa using ht1
     obtain ⟨css, hcs, hsl, hmax⟩ := elems_slice h.toRelO hm (h.ev hy1)
     rw [<- hs] at hsl
     have fin : ∀ (id : Nat) (fr : Bool) (l : List T.den) (cs0 : List (List Value)) (v : Value), a.eval x1 = v -> w.ownsRow O.w0.heap.size e T.size v l.length cs0.flatten -> All2 (Holds w (okS O ρ s.bx) T) l cs0 -> (l.length + m.length) * by_ <= 140737488355328 -> l.length <= maxLen ->
       (∀ k, refB v = some k -> (s.bx id).isSome = true /\ refB (ρ id) = some k) -> EffOK P o a w O ρ s (.arr id fr e T (l ++ m)) := fun id fr l cs0 v hv hown hcs0 hlim hlm hrow => by
      have h63 : l.length + m.length <= maxLen := by
       have : l.length + m.length <= 140737488355328 := Nat.le_trans (Nat.le_mul_of_pos_right _ (hE.el t e by_ hel).2.2) hlim
       simp only [maxLen]; omega
      rw [<- hs] at hown
      obtain ⟨v', w', hrun, h1, h2, h3⟩ := run_append_box (P := P) O.w0.heap.size t o.type e ti z hd hti hz hzs hpos v l.length cs0.flatten hown (a.eval y1) m.length css.flatten hsl h63 (by rw [hby]; exact hlim) h.below.size
      have hrun' : (execOp a.eval o).run P w = .ok (.value v') w' := by
       subst ha
       subst hats
       subst hv
       simp only [execOp, ho, resolve, Sem.run_bind, Sem.run_pure, Result.andThen_ok, invoke, builtin]
       simp [hrun, Result.andThen_ok]
      rw [hs] at h1
      obtain ⟨h5, h6⟩ := h.toRelO.arr (id := id) (row := refB v) (e := e) (l := l ++ m) (v' := v') (css := cs0 ++ css) h2 hrow (by rw [List.length_append, List.flatten_append]; exact h1) h3 (All2.append hcs0 hcs)
      exact .inl ⟨v', w', hrun', _, h5, h6⟩
     split at he
     ·rename_i id ver
      split at he
      ·rename_i ver' e' T' l hB
       split at he
       ·rename_i hT
        subst hT
        split at he
        ·rename_i hcond
         obtain ⟨h1, h2, h3⟩ := hcond
         subst h1; subst h2
         cases he
         obtain ⟨cs, ⟨u, eu, _, hu⟩, h4⟩ := h.ev hx1
         have hu' : u = ρ id := hu (by simp [mem, hB, Box.ver])
         have hv : a.eval x1 = ρ id := by rw [h4, eu, hu']; rfl
         obtain ⟨_, cs0, hcs0, hown⟩ := h.bx id _ hB
         have hlm : l.length <= maxLen := by
          rcases hown.2 with ⟨_, h0⟩ | ⟨g, cap, cur, _, _, _, h5, h6, _⟩
          ·rw [h0]; exact Nat.zero_le _
          ·exact Nat.le_trans h5 h6
         exact fin id false l cs0 (ρ id) hv hown hcs0 h3 hlm (fun k hk => ⟨by rw [hB]; rfl, hk⟩)
        ·cases he
       ·cases he
      ·cases he
     ·split at he
      ·rename_i hlim
       cases he
       exact fin _ true [] [] (.slice none 0 0) (h.ev hx1) (World.ownsRow_nil _ _ _ _) trivial (by simpa using hlim) (Nat.zero_le _) (fun k hk => by cases hk)
      ·cases he
     ·cases he
    ·cases he
   ·cases he
  ·cases he
 ·cases he
end
section
variable {P : Program} {E : Env} {b n : Nat} {O : Octx} {ρ : Nat -> Value} {s : St} {a : Act} {w w' : World} {o : Oper} {hw : How} {dst : Option Nat} {M : Mm}
theorem evalOp_makeSlice (hE : E.OK P) (h : RelC b n O ρ s a w) {t : TypeId} {x y : Operand} (ho : o.op = .makeSlice t x y) {eff : Eff} (he : evalOp E hw dst (s.ev b) s.bx (.makeSlice t x y) = some eff) : EffOK P o a w O ρ s eff := by
 simp only [evalOp, Option.bind_eq_some_iff (x := E.ty t)] at he
 obtain ⟨U, hU, he⟩ := he
 cases U with
 | list T =>
  simp only [Option.bind_eq_some_iff (x := E.el t), Option.bind_eq_some_iff (x := (s.ev b x).bind asI), Option.bind_eq_some_iff (x := (s.ev b y).bind asI)] at he
  obtain ⟨q, hq, m, hm, m', hm', he⟩ := he
  split at he
  ·rename_i hc
   obtain ⟨rfl, h0, hlim⟩ := hc
   cases he
   rw [Option.bind_eq_some_iff] at hm hm'
   obtain ⟨av, hav, hi⟩ := hm
   obtain ⟨av', hav', hi'⟩ := hm'
   obtain ⟨k, hx⟩ := asI_rep hi (h.ev hav)
   obtain ⟨k', hy⟩ := asI_rep hi' (h.ev hav')
   obtain ⟨e, by_⟩ := q
   obtain ⟨hd, ti, z, hti, hz, hzs, hs, hpos, hby⟩ := clone_facts hE hU hq
   obtain ⟨d, hok⟩ := hE.ty t _ hU
   obtain ⟨e', by', hd', hel', _⟩ := hok.list T rfl
   have he' : e' = e := by
    have h1 := hok.desc
    rw [hd'] at h1
    rw [hd] at h1
    cases h1; rfl
   subst he'
   obtain ⟨d2, hok2⟩ := hE.ty e' T hel'
   obtain ⟨ti2, z2, hti2, hz2, hzr⟩ := hok2.zero
   have e1 : ti2 = ti := Option.some.inj (hti2.symm.trans hti)
   subst e1
   have e2 : z2 = z := Option.some.inj (hz2.symm.trans hz)
   subst e2
   obtain ⟨n', rfl⟩ : ∃ n' : Nat, m = n' := ⟨m.toNat, by omega⟩
   have hlim' : ti2.bytes * n' <= 140737488355328 := by rw [hby, Nat.mul_comm]; simpa using hlim
   have hby0 : 0 < ti2.bytes := by
    obtain ⟨_, ⟨ti0, hti0, hb0⟩, hp0⟩ := hE.el t e' by_ hq
    have : ti0 = ti2 := Option.some.inj (hti0.symm.trans hti)
    subst this
    omega
   have hn' : n' <= 140737488355328 := Nat.le_trans (Nat.le_mul_of_pos_left n' hby0) hlim'
   obtain ⟨w2, hrun, hown, hgrow⟩ := run_make_full (P := P) w O.w0.heap.size t e' ti2 z2 ti2.size hd hti hz rfl k k' n' (by omega) (by simp only [maxLen]; omega) h.below.size
   have hzc := (decV_rep (w := w2) (ok := okS O ρ s.bx) hzr).cells
   have hall : All2 (Holds w (okS O ρ s.bx) T) (List.replicate n' (zeroT T)) (List.replicate n' z2.cells.toList) := by
    have hz0 := (decV_rep (w := w) (ok := okS O ρ s.bx) hzr).cells
    clear hown hrun hlim hlim' hn' hx hy hi hi' h0
    induction n' with
    | zero => exact trivial
    | succ n' ih => exact ⟨hz0, ih⟩
   have hfl : (madeCells z2.cells (n' * ti2.size)).toList = (List.replicate n' z2.cells.toList).flatten := zeros_flat hzs hpos n'
   rw [hs, show madeCells z2.cells (n' * T.size) = madeCells z2.cells (n' * ti2.size) by rw [hs], hfl] at hown
   obtain ⟨h5, h6⟩ := h.toRelO.arr (id := newId hw dst) (row := none) (e := e') (l := List.replicate n' (zeroT T)) (v' := .slice (some ⟨w.heap.size, 0, none⟩) n' n') hgrow (fun k hk => by cases hk)
    (by simpa using hown)
    (fun k hk => .inl (by simp only [refB, Option.some.injEq] at hk; omega)) hall
   rw [Int.toNat_natCast]
   refine .inl ⟨_, _, ?_, _, h5, h6⟩
   simp only [execOp, ho, hx, hy, Sem.run_bind, Sem.run_pure, hrun, Result.andThen_ok]
  ·cases he
 | _ => simp at he
theorem boundA_rep (h : RelC b n O ρ s a w) {x : Option Operand} {d m : Int} (hb : boundA (s.ev b) x d = some m) : (x = none /\ m = d) \/ ∃ o k, x = some o /\ a.eval o = .int k m := by
 cases x with
 | none => exact .inl ⟨rfl, by cases hb; rfl⟩
 | some o =>
  right
  simp only [boundA, Option.bind_eq_some_iff] at hb
  obtain ⟨av, hav, hi⟩ := hb
  obtain ⟨k, hk⟩ := asI_rep hi (h.ev hav)
  exact ⟨o, k, rfl, hk⟩
theorem flatten_drop' {size : Nat} : ∀ (css : List (List Value)) (i : Nat), (∀ c ∈ css, c.length = size) -> (css.drop i).flatten = css.flatten.drop (i * size)
 | [], i, _ => by simp
 | c :: css, 0, _ => by simp
 | c :: css, i + 1, h => by
  have hc := h c List.mem_cons_self
  rw [List.drop_succ_cons, flatten_drop' css i fun d hd => h d (List.mem_cons_of_mem _ hd), List.flatten_cons, List.drop_append, Nat.add_mul, Nat.one_mul]
  have e : c.drop (i * size + size) = [] := List.drop_of_length_le (by omega)
  rw [e, List.nil_append]
  congr 1
  omega
theorem flatten_take_get {css : List (List Value)} {i : Nat} {j : Nat} {v : Value} (h : (css.take i).flatten[j]? = some v) : css.flatten[j]? = some v := by
 have : css.flatten = (css.take i).flatten ++ (css.drop i).flatten := by rw [<- List.flatten_append, List.take_append_drop]
 rw [this, List.getElem?_append_left (List.getElem?_eq_some_iff.1 h).1]
 exact h
theorem Rep.slice {ok : Nat -> Prop} {T : Ty} {l : List T.den} {v : Value} {i j : Nat} (h : Rep w ok (.list T) l v) (hij : i <= j) (hj : j <= l.length) :
  ∃ A cap, v = .slice A l.length cap /\ l.length <= cap /\ ∀ mm, j <= mm -> mm <= cap -> Rep w ok (.list T) ((l.take j).drop i) (sliced A i j mm T.size) := by
 obtain ⟨cs, ⟨A, cap, css, e, ⟨hc, hmax⟩, h1, h2⟩, rfl⟩ := h
 subst e
 refine ⟨A, cap, rfl, hc, fun mm hm1 hm2 => ⟨[sliced A i j mm T.size], ⟨if mm = i then A else A.map (·.add (i * T.size)), mm - i, (css.take j).drop i, ?_, ⟨?_, ?_⟩, (All2.take j h1).drop i, fun hne => ?_⟩, rfl⟩⟩
 ·simp only [sliced, List.length_drop, List.length_take, Nat.min_eq_left hj]
 ·simp only [List.length_drop, List.length_take]; omega
 ·simp only [List.length_drop, List.length_take]; omega
 ·have hlt : i < j := by
   rcases Nat.lt_or_ge i j with hlt | hge
   ·exact hlt
   ·exfalso; exact hne (List.drop_of_length_le (by simp only [List.length_take]; omega))
  have hl : l ≠ [] := fun e => by subst e; simp at hj; omega
  obtain ⟨ad, rfl, hs, hok, cc, el, z, hh, hv⟩ := h2 hl
  have hlens := All2.lens h1
  refine ⟨ad.add (i * T.size), ?_, ?_, ?_, cc, el, z, ?_, fun q v hq => ?_⟩
  ·rw [if_neg (by omega)]; rfl
  ·rw [addr_add hs]
  ·rw [addr_add hs]; exact hok
  ·rw [addr_add hs]; exact hh
  ·rw [flatten_drop' _ _ (fun c hc => hlens c (List.mem_of_mem_take hc))] at hq
   rw [List.getElem?_drop] at hq
   rw [addr_add hs]
   simp only
   rw [Nat.add_assoc]
   exact hv _ _ (flatten_take_get hq)
theorem elem_eq {t e : TypeId} (h : P.underlying t = some (.slice e)) : P.underlying t = some (.slice (P.elem t)) := by
 have : P.elem t = e := by simp [Program.elem, h]
 rw [this]; exact h
theorem evalOp_slice (hE : E.OK P) (h : RelC b n O ρ s a w) {t : TypeId} {x : Operand} {lo hi mx : Option Operand} (ho : o.op = .slice t x lo hi mx) {eff : Eff} (he : evalOp E hw dst (s.ev b) s.bx (.slice t x lo hi mx) = some eff) : EffOK P o a w O ρ s eff := by
 simp only [evalOp, Option.bind_eq_some_iff (x := E.ty t)] at he
 obtain ⟨U, hU, he⟩ := he
 cases U with
 | list T =>
  cases mx with
  | some m =>
   cases lo with
   | some o' => simp at he
   | none =>
    simp only [Option.isNone_some, cond_false, Option.isNone_none, cond_true, Option.bind_eq_some_iff (x := (s.ev b x).bind _), Option.bind_eq_some_iff (x := boundA _ _ _)] at he
    obtain ⟨l, hl, j, hj1, mm, hm1, he⟩ := he
    split at he
    ·rename_i hc
     obtain ⟨h0, hij, hj⟩ := hc
     cases he
     have hrep := h.evT hl
     obtain ⟨j, rfl⟩ : ∃ j' : Nat, j = j' := ⟨j.toNat, by omega⟩
     obtain ⟨mm, rfl⟩ : ∃ j' : Nat, mm = j' := ⟨mm.toNat, by omega⟩
     obtain ⟨A, cap, hv, hcap, hr⟩ := hrep.slice (i := 0) (j := j) (by omega) (by omega)
     obtain ⟨d, hok⟩ := hE.ty t _ hU
     obtain ⟨e, by_, hd, hel, _⟩ := hok.list T rfl
     subst hd
     obtain ⟨d', hok'⟩ := hE.ty e T hel
     obtain ⟨z0, hlay⟩ := hok'.lay
     obtain ⟨ti, dd, hL⟩ := hE.lay _ _ hlay
     have hue := elem_eq hok.desc
     have helem : P.elem t = e := by simp [Program.elem, hok.desc]
     have hsz : (sizeOf (P.elem t)).run P w = .ok T.size w := by rw [helem]; simp [sizeOf, typeInfo, hL.info, hL.size]
     refine EffOK.val h (v := sliced A 0 j mm T.size) ?_ (by rw [Int.toNat_natCast]; exact hr mm (by omega) (by omega))
     simp only [execOp, ho, hv, Sem.run_bind, Sem.run_pure, run_sliceAt_slice w t _ _ _ _ hue]
     rcases boundA_rep h hj1 with ⟨rfl, e2⟩ | ⟨o2, k2, rfl, e2⟩
     ·omega
     rcases boundA_rep h hm1 with ⟨e3, _⟩ | ⟨o3, k3, e3, e4⟩
     ·cases e3
     cases e3
     simp only [Option.map_none, Option.map_some, e2, e4, run_slice_hm w t A l.length cap hue k2 k3 j mm (by omega) (by omega) (by omega), hsz, Result.andThen_ok, Int.toNat_natCast]
    ·cases he
  | none =>
   simp only [Option.isNone_none, cond_true, Option.bind_eq_some_iff (x := (s.ev b x).bind _), Option.bind_eq_some_iff (x := boundA _ _ _)] at he
   obtain ⟨l, hl, i, hi1, j, hj1, he⟩ := he
   split at he
   ·rename_i hc
    obtain ⟨h0, hij, hj⟩ := hc
    cases he
    have hrep := h.evT hl
    obtain ⟨i, rfl⟩ : ∃ i' : Nat, i = i' := ⟨i.toNat, by omega⟩
    obtain ⟨j, rfl⟩ : ∃ j' : Nat, j = j' := ⟨j.toNat, by omega⟩
    obtain ⟨A, cap, hv, hcap, hr⟩ := hrep.slice (i := i) (j := j) (by omega) (by omega)
    obtain ⟨d, hok⟩ := hE.ty t _ hU
    obtain ⟨e, by_, hd, hel, _⟩ := hok.list T rfl
    subst hd
    obtain ⟨d', hok'⟩ := hE.ty e T hel
    obtain ⟨z0, hlay⟩ := hok'.lay
    obtain ⟨ti, dd, hL⟩ := hE.lay _ _ hlay
    have hue := elem_eq hok.desc
    have helem : P.elem t = e := by simp [Program.elem, hok.desc]
    have hsz : (sizeOf (P.elem t)).run P w = .ok T.size w := by rw [helem]; simp [sizeOf, typeInfo, hL.info, hL.size]
    refine EffOK.val h (v := sliced A i j cap T.size) ?_ (by rw [Int.toNat_natCast, Int.toNat_natCast]; exact hr cap (by omega) (by omega))
    simp only [execOp, ho, hv, Sem.run_bind, Sem.run_pure, run_sliceAt_slice w t _ _ _ _ hue]
    have b1 := boundA_rep h hi1
    have b2 := boundA_rep h hj1
    rcases b1 with ⟨rfl, e1⟩ | ⟨o1, k1, rfl, e1⟩
    ·have e1' : i = 0 := by omega
     subst e1'
     rcases b2 with ⟨rfl, e2⟩ | ⟨o2, k2, rfl, e2⟩
     ·have e2' : j = l.length := by omega
      subst e2'
      simp only [Option.map_none, run_slice_all w t A l.length cap hue, hsz, Result.andThen_ok]
     ·simp only [Option.map_none, Option.map_some, e2, run_slice_h w t A l.length cap hue k2 j (by omega) (by omega), hsz, Result.andThen_ok, Int.toNat_natCast]
    ·rcases b2 with ⟨rfl, e2⟩ | ⟨o2, k2, rfl, e2⟩
     ·have e2' : j = l.length := by omega
      subst e2'
      simp only [Option.map_none, Option.map_some, e1, run_slice_l w t A l.length cap hue k1 i (by omega) (by omega), hsz, Result.andThen_ok, Int.toNat_natCast]
     ·have key := run_slice_lh w t A l.length cap hue k1 k2 (i : Int) (j : Int) (by omega) (by omega) (by omega)
      simp only [Option.map_some, Option.map_none, e1, e2]
      rw [key]
      simp only [hsz, Result.andThen_ok, Int.toNat_natCast]
   ·cases he
 | _ => simp at he
end
section
variable {P : Program} {E : Env} {b n : Nat} {O : Octx} {ρ ρ1 ρ2 : Nat -> Value} {s : St} {a : Act} {w w' w1 w2 : World} {o : Oper} {hw : How} {dst : Option Nat} {M : Mm}
theorem evalOp_sound (hE : E.OK P) (hG : GOK E O) (h : RelC b n O ρ s a w) {eff : Eff} (he : evalOp E hw dst (s.ev b) s.bx o.op = some eff)
  (hb1 : ∀ id ver av, eff = .sto id ver av -> av.bd s.us s.nl = true) (hb2 : ∀ id av, eff = .new id av -> av.bd s.us s.nl = true) : EffOK P o a w O ρ s eff := by
 cases ho : o.op <;> rw [ho] at he
 case move x => exact evalOp_move h (.inl ho) he
 case assign x => exact evalOp_move h (.inr ho) he
 case load t x => exact evalOp_load hE h ho he
 case store t x y => exact evalOp_store hE h ho he hb1
 case pick c x y => exact evalOp_pick h ho he
 case build t ps => exact evalOp_build hE h ho he
 case buildSlice t l ps => exact evalOp_buildSlice hE h ho he
 case alloc t => exact evalOp_alloc hE h ho he
 case box t x => exact evalOp_box h ho he hb2
 case field t x f => exact evalOp_field hE h ho he
 case fieldAddr t x f => exact evalOp_fieldAddr hE h ho he
 case nilCheck x => exact evalOp_nilCheck h ho he
 case indexAddr t x i => exact evalOp_indexAddr hE h ho he
 case index t x i => exact evalOp_index hE h ho he
 case extract x k => exact evalOp_extract h ho he
 case binOp op t x y t' => exact evalOp_binOp hE h ho he
 case unOp op t x => exact evalOp_unOp hE h ho he
 case convert t t' x => exact evalOp_convert hE h ho he
 case makeFunc f first caps =>
  cases f with
  | func f => exact evalOp_makeFunc h ho he
  | _ => cases he
 case makeSlice t x y => exact evalOp_makeSlice hE h ho he
 case slice t x lo hi mx => exact evalOp_slice hE h ho he
 case call c => exact evalOp_call hE hG h ho he
 all_goals cases he
end
section
variable {F : Fence} {S : Type} {P : Program} {ops : Array Oper} {md : Region.Mode} {g : Nat -> S -> Option S} {comm : Nat -> Nat -> Bool} {inv : S -> Prop}
def runL (g : Nat -> S -> Option S) : List Nat -> S -> Option S
 | [], s => some s
 | i :: l, s => (g i s).bind (runL g l)
def anyA (md : Region.Mode) (ops : Array Oper) (g : Nat -> S -> Option S) (Q : S -> Prop) : Nat -> Array Bool -> S -> Prop
 | 0, listed, s => Region.ready md ops listed = [] /\ Q s
 | fuel + 1, listed, s => (Region.ready md ops listed = [] -> Q s) /\
   ∀ i ∈ Region.ready md ops listed, ∃ t, g i s = some t /\ anyA md ops g Q fuel (listed.setIfInBounds i true) t
def CommG (g : Nat -> S -> Option S) (inv : S -> Prop) (i j : Nat) : Prop := ∀ s s1 s2, inv s -> g i s = some s1 -> g j s1 = some s2 -> ∃ t, g j s = some t /\ g i t = some s2
def KeepsG (g : Nat -> S -> Option S) (inv : S -> Prop) : Prop := ∀ i s t, inv s -> g i s = some t -> inv t
inductive Beh (md : Region.Mode) (ops : Array Oper) (k : Nat) : Nat -> Prop
 | one {j : Nat} {o : Oper} {e : Edge} (ho : ops[j]? = some o) (he : e ∈ o.after) (hb : Region.binds md e = true) (h : e.on = k) : Beh md ops k j
 | more {j : Nat} {o : Oper} {e : Edge} (ho : ops[j]? = some o) (he : e ∈ o.after) (hb : Region.binds md e = true) (h : Beh md ops k e.on) : Beh md ops k j
def Closed (md : Region.Mode) (ops : Array Oper) (listed : Array Bool) : Prop := ∀ (p : Nat) (o : Oper), ops[p]? = some o -> listed.getD p false = true -> ∀ e ∈ o.after, Region.binds md e = true -> listed.getD e.on false = true
theorem Closed.beh {listed : Array Bool} {k j : Nat} (hc : Closed md ops listed) (h : Beh md ops k j) (hj : listed.getD j false = true) : listed.getD k false = true := by
 induction h with
 | one ho he hb h => rw [<- h]; exact hc _ _ ho hj _ he hb
 | more ho he hb h ih => exact ih (hc _ _ ho hj _ he hb)
theorem Closed.ready {listed : Array Bool} {k j : Nat} (hc : Closed md ops listed) (h : Beh md ops k j) (hj : j ∈ Region.ready md ops listed) : listed.getD k false = true := by
 obtain ⟨_, oj, hoj, hall⟩ := mem_ready.1 hj
 cases h with
 | one ho he hb h =>
  rw [hoj] at ho; cases ho
  rw [<- h]; exact hall _ he hb
 | more ho he hb h =>
  rw [hoj] at ho; cases ho
  exact hc.beh h (hall _ he hb)
theorem Closed.add {listed : Array Bool} {j : Nat} (hc : Closed md ops listed) (hj : j ∈ Region.ready md ops listed) : Closed md ops (listed.setIfInBounds j true) := by
 have mono : ∀ i, listed.getD i false = true -> (listed.setIfInBounds j true).getD i false = true := fun i hi => by
  by_cases e : j = i
  ·subst e
   have hlt : j < listed.size := by
    rcases Nat.lt_or_ge j listed.size with h | h
    ·exact h
    ·simp [Array.getElem?_eq_none h] at hi
   simp [hlt]
  ·simpa [Array.getElem?_setIfInBounds_ne e] using hi
 intro p o ho hp e he hb
 by_cases hpj : j = p
 ·subst hpj
  obtain ⟨_, oj, hoj, hall⟩ := mem_ready.1 hj
  rw [hoj] at ho; cases ho
  exact mono _ (hall e he hb)
 ·refine mono _ (hc p o ho ?_ e he hb)
  simpa [Array.getElem?_setIfInBounds_ne hpj] using hp
theorem anyA_first {Q : S -> Prop} {i : Nat} (hk : KeepsG g inv) : ∀ (fuel : Nat) (listed : Array Bool) (s s1 : S), inv s -> Closed md ops listed ->
  (∀ j oj, ops[j]? = some oj -> j ≠ i -> listed.getD j true = false -> ¬ Beh md ops i j -> CommG g inv i j) ->
  i ∈ Region.ready md ops listed -> g i s = some s1 -> anyA md ops g Q fuel (listed.setIfInBounds i true) s1 -> anyA md ops g Q (fuel + 1) listed s := by
 intro fuel
 induction fuel with
 | zero =>
  intro listed s s1 _ _ _ hr hy H
  refine ⟨fun h => (by rw [h] at hr; cases hr), fun j hj => ?_⟩
  by_cases hji : j = i
  ·subst hji; exact ⟨s1, hy, H⟩
  ·have := ready_mono hj hji
   rw [H.1] at this
   cases this
 | succ fuel ih =>
  intro listed s s1 hv hcl hfree hr hy H
  refine ⟨fun h => (by rw [h] at hr; cases hr), fun j hj => ?_⟩
  by_cases hji : j = i
  ·subst hji; exact ⟨s1, hy, H⟩
  ·obtain ⟨s2, h1, h2⟩ := H.2 j (ready_mono hj hji)
   obtain ⟨hjun, oj, hoj, hall⟩ := mem_ready.1 hj
   have hnot : ¬ Beh md ops i j := fun hb => by
    have h1 := hcl.ready hb hj
    have h0 := (mem_ready.1 hr).1
    rcases Nat.lt_or_ge i listed.size with h' | h'
    ·simp [h'] at h0 h1; rw [h0] at h1; cases h1
    ·simp [Array.getElem?_eq_none h'] at h1
   obtain ⟨t, ht1, ht2⟩ := hfree j oj hoj hji hjun hnot s s1 s2 hv hy h1
   refine ⟨t, ht1, ih (listed.setIfInBounds j true) t s2 (hk j s t hv ht1) (hcl.add hj) ?_ (ready_mono hr (Ne.symm hji)) ht2 ?_⟩
   ·intro k ok hk hki hun hno
    refine hfree k ok hk hki ?_ hno
    by_cases hjk : j = k
    ·subst hjk; exact hjun
    ·rw [getD_set_ne true hjk] at hun; exact hun
   ·rw [Array.setIfInBounds_comm _ _ hji]
    exact h2
def behB (md : Region.Mode) (ops : Array Oper) : Nat -> Nat -> Nat -> Nat
 | 0, _, B => B
 | c + 1, j, B => behB md ops c (j + 1) (bif (match ops[j]? with | some oj => oj.after.any (fun e => Region.binds md e && Nat.testBit B e.on) | none => false) then Nat.lor B (2 ^ j) else B)
theorem behB_spec {k : Nat} : ∀ (c j B : Nat), (∀ i, Nat.testBit B i = true -> i = k \/ Beh md ops k i) -> ∀ i, Nat.testBit (behB md ops c j B) i = true -> i = k \/ Beh md ops k i
 | 0, _, _, h => h
 | c + 1, j, B, h => by
  refine behB_spec c (j + 1) _ fun i hi => ?_
  cases hc : (match ops[j]? with | some oj => oj.after.any (fun e => Region.binds md e && Nat.testBit B e.on) | none => false) with
  | false => rw [hc] at hi; exact h i hi
  | true =>
   rw [hc] at hi
   simp only [cond_true] at hi
   have hi' : Nat.testBit (B ||| 2 ^ j) i = true := hi
   rw [Nat.testBit_or, Bool.or_eq_true, Nat.testBit_two_pow] at hi'
   rcases hi' with hi' | hi'
   ·exact h i hi'
   ·have hij : j = i := by simpa using hi'
    subst hij
    split at hc
    ·rename_i oj hoj
     obtain ⟨e, he, hb⟩ := Array.any_eq_true'.1 hc
     rw [Bool.and_eq_true] at hb
     rcases h _ hb.2 with e1 | e1
     ·exact .inr (.one hoj he hb.1 e1)
     ·exact .inr (.more hoj he hb.1 e1)
    ·cases hc
def freeB (comm : Nat -> Nat -> Bool) (n : Nat) (listed : Array Bool) (i B : Nat) : Bool :=
 (List.range n).all fun j => j == i || listed.getD j true || Nat.testBit B j || comm i j
def freeC (comm : Nat -> Nat -> Bool) (md : Region.Mode) (ops : Array Oper) (listed : Array Bool) (i : Nat) : Bool :=
 freeB comm ops.size listed i (behB md ops ops.size 0 (2 ^ i))
theorem freeC_spec {i : Nat} {listed : Array Bool} (h : freeC comm md ops listed i = true) (j : Nat) (oj : Oper)
  (hj : ops[j]? = some oj) (hne : j ≠ i) (hun : listed.getD j true = false) (hno : ¬ Beh md ops i j) :
  comm i j = true := by
 simp only [freeC, freeB, List.all_eq_true, List.mem_range] at h
 have h1 := h j (Array.getElem?_eq_some_iff.1 hj).1
 simp only [Bool.or_eq_true, beq_iff_eq, hne, false_or, hun, Bool.false_eq_true] at h1
 rcases h1 with h1 | h1
 ·rcases behB_spec (k := i) _ _ _ (fun q hq => by rw [Nat.testBit_two_pow] at hq; exact .inl (by simpa using hq.symm : i = q).symm) j h1 with e | hb
  ·exact absurd e hne
  ·exact absurd hb hno
 ·exact h1
def lexC (comm : Nat -> Nat -> Bool) (md : Region.Mode) (ops : Array Oper) : Nat -> Nat -> Array Bool -> Bool
 | 0, _, listed => (Region.ready md ops listed).isEmpty
 | fuel + 1, k, listed => (Region.ready md ops listed).contains k && freeC comm md ops listed k && lexC comm md ops fuel (k + 1) (listed.setIfInBounds k true)
theorem anyA_lex {Q : S -> Prop} (hk : KeepsG g inv) (hc : ∀ i j, comm i j = true -> CommG g inv i j) : ∀ (n k : Nat) (listed : Array Bool) (s t : S), inv s -> Closed md ops listed ->
  lexC comm md ops n k listed = true -> runL g (List.range' k n) s = some t -> Q t -> anyA md ops g Q n listed s
 | 0, _, listed, s, t, _, _, hB, h, hQ => by
  simp [runL] at h
  subst h
  exact ⟨by simpa [lexC] using hB, hQ⟩
 | n + 1, k, listed, s, t, hv, hcl, hB, h, hQ => by
  simp only [lexC, Bool.and_eq_true] at hB
  obtain ⟨⟨hr, hf⟩, hB'⟩ := hB
  rw [List.range'_succ] at h
  simp only [runL, Option.bind_eq_some_iff] at h
  obtain ⟨s1, h1, h2⟩ := h
  have hr' : k ∈ Region.ready md ops listed := by simpa using hr
  exact anyA_first hk n listed s s1 hv hcl (fun j oj hj hne hun hno => hc _ _ (freeC_spec hf j oj hj hne hun hno)) hr' h1
   (anyA_lex hk hc n (k + 1) _ s1 t (hk k s s1 hv h1) (hcl.add hr') hB' h2 hQ)
theorem closed_none (n : Nat) : Closed md ops (Array.replicate n false) := fun p o _ hp => by
 exfalso
 by_cases h : p < n
 ·simp [h] at hp
 ·simp [h] at hp
def SoundG (F : Fence) (P : Program) (ops : Array Oper) (g : Nat -> S -> Option S) (rel : S -> Act -> World -> Prop) : Prop :=
 ∀ (i : Nat) (o : Oper) (s t : S) (a : Act) (w : World), ops[i]? = some o -> rel s a w -> g i s = some t ->
  ∀ (Q : Exit -> Act -> World -> Prop) (K : Act -> World -> Prop), (∀ a' w', rel t a' w' -> K a' w') -> wpOpIn F 0 P ops Q i K a w
theorem wpAny_of_anyA {rel : S -> Act -> World -> Prop} (hs : SoundG F P ops g rel) {Q : Exit -> Act -> World -> Prop} {QA : S -> Prop}
  (hQ : ∀ s a w, QA s -> rel s a w -> Q .normal a w) : ∀ (fuel : Nat) (listed : Array Bool) (s : S) (a : Act) (w : World),
   anyA md ops g QA fuel listed s -> rel s a w -> wpAnyIn F 0 P md ops Q fuel listed a w
 | 0, _, s, a, w, h, hr => ⟨h.1, hQ s a w h.2 hr⟩
 | fuel + 1, listed, s, a, w, h, hr => ⟨fun h0 => hQ s a w (h.1 h0) hr, fun i hi => by
   obtain ⟨t, h1, h2⟩ := h.2 i hi
   obtain ⟨_, o, ho, _⟩ := mem_ready.1 hi
   exact hs i o s t a w ho hr h1 Q _ (fun a' w' hr' => wpAny_of_anyA hs hQ fuel _ t a' w' h2 hr')⟩
theorem wp_region_abs {rel : S -> Act -> World -> Prop} {Q : Exit -> Act -> World -> Prop} {id : Nat} {a : Act} {w : World} {s t : S} (hm : P.follows .mixedOrders = true)
  (hs : SoundG F P ops g rel) (hk : KeepsG g inv) (hv : inv s) (hc : ∀ i j, comm i j = true -> CommG g inv i j) (hB : lexC comm .any ops ops.size 0 (Array.replicate ops.size false) = true)
  (hrel : rel s a { w with drawn := w.drawn + 1 }) (h : runL g (List.range' 0 ops.size) s = some t) (hQ : ∀ a w, rel t a w -> Q .normal a w) :
  (Code.region id ops true).wpIn F 0 P Q a w :=
 wpIn_region_any hm (wpAny_of_anyA (QA := fun x => x = t) hs (fun x a w hx hr => hQ a w (hx ▸ hr)) _ _ s a _ (anyA_lex hk hc _ 0 _ s t hv (closed_none _) hB h rfl) hrel)
def anyP (md : Region.Mode) (ops : Array Oper) (g : Nat -> S -> Option S) (Q : Array Bool -> S -> Prop) : Nat -> Array Bool -> S -> Prop
 | 0, listed, s => Q listed s
 | fuel + 1, listed, s => Region.ready md ops listed ≠ [] /\
   ∀ i ∈ Region.ready md ops listed, ∃ t, g i s = some t /\ anyP md ops g Q fuel (listed.setIfInBounds i true) t
def allP (p : Nat) (listed : Array Bool) : Prop := ∀ j, j < p -> listed.getD j true = true
theorem anyP_first {Q : Array Bool -> S -> Prop} {i p : Nat} (hk : KeepsG g inv) (hQ : ∀ l s, Q l s -> allP p l) (hip : i < p) (hbeh : ∀ j, p <= j -> j < ops.size -> Beh md ops i j) : ∀ (fuel : Nat) (listed : Array Bool) (s s1 : S), inv s -> Closed md ops listed ->
  (∀ j oj, ops[j]? = some oj -> j ≠ i -> listed.getD j true = false -> ¬ Beh md ops i j -> CommG g inv i j) ->
  i ∈ Region.ready md ops listed -> g i s = some s1 -> anyP md ops g Q fuel (listed.setIfInBounds i true) s1 -> anyP md ops g Q (fuel + 1) listed s := by
 have hnotR : ∀ (listed : Array Bool) (j : Nat), Closed md ops listed -> i ∈ Region.ready md ops listed -> j ∈ Region.ready md ops listed -> ¬ Beh md ops i j := by
  intro listed j hcl hr hj hb
  have h1 := hcl.ready hb hj
  have h0 := (mem_ready.1 hr).1
  rcases Nat.lt_or_ge i listed.size with h' | h'
  ·simp [h'] at h0 h1; rw [h0] at h1; cases h1
  ·simp [Array.getElem?_eq_none h'] at h1
 intro fuel
 induction fuel with
 | zero =>
  intro listed s s1 _ hcl _ hr hy H
  refine ⟨fun h => (by rw [h] at hr; cases hr), fun j hj => ?_⟩
  by_cases hji : j = i
  ·subst hji; exact ⟨s1, hy, H⟩
  ·exfalso
   obtain ⟨hjun, oj, hoj, _⟩ := mem_ready.1 hj
   by_cases hjp : j < p
   ·have h1 := hQ _ _ H j hjp
    rw [getD_set_ne true (fun e => hji e.symm), hjun] at h1
    cases h1
   ·exact hnotR listed j hcl hr hj (hbeh j (by omega) (Array.getElem?_eq_some_iff.1 hoj).1)
 | succ fuel ih =>
  intro listed s s1 hv hcl hfree hr hy H
  refine ⟨fun h => (by rw [h] at hr; cases hr), fun j hj => ?_⟩
  by_cases hji : j = i
  ·subst hji; exact ⟨s1, hy, H⟩
  ·obtain ⟨s2, h1, h2⟩ := H.2 j (ready_mono hj hji)
   obtain ⟨hjun, oj, hoj, hall⟩ := mem_ready.1 hj
   have hnot := hnotR listed j hcl hr hj
   obtain ⟨t, ht1, ht2⟩ := hfree j oj hoj hji hjun hnot s s1 s2 hv hy h1
   refine ⟨t, ht1, ih (listed.setIfInBounds j true) t s2 (hk j s t hv ht1) (hcl.add hj) ?_ (ready_mono hr (Ne.symm hji)) ht2 ?_⟩
   ·intro k ok hk hki hun hno
    refine hfree k ok hk hki ?_ hno
    by_cases hjk : j = k
    ·subst hjk; exact hjun
    ·rw [getD_set_ne true hjk] at hun; exact hun
   ·rw [Array.setIfInBounds_comm _ _ hji]
    exact h2
def lexP (comm : Nat -> Nat -> Bool) (md : Region.Mode) (ops : Array Oper) (p : Nat) : Nat -> Nat -> Array Bool -> Bool
 | 0, _, listed => (List.range p).all fun j => listed.getD j true
 | fuel + 1, k, listed => Nat.blt k p && (Region.ready md ops listed).contains k && freeC comm md ops listed k &&
   ((List.range' p (ops.size - p)).all fun j => Nat.testBit (behB md ops ops.size 0 (2 ^ k)) j) && lexP comm md ops p fuel (k + 1) (listed.setIfInBounds k true)
def setsL : Nat -> Nat -> Array Bool -> Array Bool
 | 0, _, listed => listed
 | n + 1, k, listed => setsL n (k + 1) (listed.setIfInBounds k true)
theorem anyP_lex {p : Nat} (hk : KeepsG g inv) (hc : ∀ i j, comm i j = true -> CommG g inv i j) : ∀ (n k : Nat) (listed : Array Bool) (s t : S), inv s -> Closed md ops listed ->
  lexP comm md ops p n k listed = true -> runL g (List.range' k n) s = some t -> anyP md ops g (fun l x => (l = setsL n k listed /\ x = t) /\ allP p l) n listed s
 | 0, k, listed, s, t, _, _, hB, h => by
  simp [runL] at h
  subst h
  refine ⟨⟨rfl, rfl⟩, fun j hj => ?_⟩
  simp only [lexP, List.all_eq_true, List.mem_range] at hB
  exact hB j hj
 | n + 1, k, listed, s, t, hv, hcl, hB, h => by
  simp only [lexP, Bool.and_eq_true, List.all_eq_true] at hB
  obtain ⟨⟨⟨⟨hp, hr⟩, hf⟩, hb⟩, hB'⟩ := hB
  rw [List.range'_succ] at h
  simp only [runL, Option.bind_eq_some_iff] at h
  obtain ⟨s1, h1, h2⟩ := h
  have hr' : k ∈ Region.ready md ops listed := by simpa using hr
  have hp' : k < p := by simpa using hp
  exact anyP_first hk (fun l x hx => hx.2) hp' (fun j hj hjn => by
    have := hb j (by rw [List.mem_range'_1]; omega)
    rcases behB_spec (k := k) _ _ _ (fun q hq => by rw [Nat.testBit_two_pow] at hq; exact .inl (by simpa using hq.symm : k = q).symm) j this with e | e
    ·omega
    ·exact e) n listed s s1 hv hcl (fun j oj hj hne hun hno => hc _ _ (freeC_spec hf j oj hj hne hun hno)) hr' h1
   (anyP_lex hk hc n (k + 1) _ s1 t (hk k s s1 hv h1) (hcl.add hr') hB' h2)
theorem wpAny_of_anyP {rel : S -> Act -> World -> Prop} (hs : SoundG F P ops g rel) {Q : Exit -> Act -> World -> Prop} {QQ : Array Bool -> S -> Prop} {q : Nat}
  (hQ : ∀ l s a w, QQ l s -> rel s a w -> wpAnyIn F 0 P md ops Q q l a w) : ∀ (fuel : Nat) (listed : Array Bool) (s : S) (a : Act) (w : World),
   anyP md ops g QQ fuel listed s -> rel s a w -> wpAnyIn F 0 P md ops Q (q + fuel) listed a w
 | 0, l, s, a, w, h, hr => hQ l s a w h hr
 | fuel + 1, listed, s, a, w, h, hr => ⟨fun h0 => absurd h0 h.1, fun i hi => by
   obtain ⟨t, h1, h2⟩ := h.2 i hi
   obtain ⟨_, o, ho, _⟩ := mem_ready.1 hi
   exact hs i o s t a w ho hr h1 Q _ (fun a' w' hr' => wpAny_of_anyP hs hQ fuel _ t a' w' h2 hr')⟩
end

def FW (r : Option Nat) : Fence := { Fence.wide with round := r }
theorem callsFW {r : Option Nat} {n : Nat} {P : Program} {f : FuncId} {args : Array Value} {w : World} {R : Ending -> World -> Prop} : CallsIn (FW r) n P f args w R ↔ Calls P f args w R := by
 cases r with
 | none => exact callsIn_wide
 | some l => exact ⟨fun h => callsIn_wide.1 (CallsIn.outOfRound (F := Fence.wide) (l := l) h), fun h => CallsIn.inRound (F := Fence.wide) l (callsIn_wide.2 h)⟩
def Eff.can (bx : Nat -> Option Box) : Eff -> Bool
 | .new id _ => (bx id).isNone
 | .arr id fr _ _ _ => !fr || (bx id).isNone
 | _ => true
def updT (tm : Nat -> Nat -> Option AV) (b : Nat) (dst : Option Nat) (av : AV) : Nat -> Nat -> Option AV :=
 match dst with
 | none => tm
 | some d => fun f t => bif Nat.beq t d && Nat.beq f b then some av else tm f t
def St.app (b n : Nat) (dst : Option Nat) (e : Eff) (s : St) : Option St :=
 bif (dst.all fun d => Nat.blt d n) && e.can s.bx then some ⟨updT s.tm b dst (e.av s.us), e.bx s.bx s.us, e.us s.us, s.nl, s.jp⟩ else none
def wantA (b : Nat) (ops : Array Oper) (s : St) (o : Oper) : Option Bool :=
 match o.guard with
 | none => some true
 | some (j, want) =>
  match ((ops[j]?).bind (·.dst)).bind (s.tm b) with
  | some (.cst (.bool x)) => some (x == want)
  | some (.cst _) => some false
  | some av => (asT .bool av).map (· == want)
  | none => none
def stepR (E : Env) (own : Nat -> Bool) (b n : Nat) (ops : Array Oper) (i : Nat) (s : St) : Option St :=
 (ops[i]?).bind fun o => (wantA b ops s o).bind fun c => (bif c then evalOp E ⟨b, own i⟩ o.dst (s.ev b) s.bx o.op else some (.put (.cst undef))).bind fun e => s.app b n o.dst e
section
variable {P : Program} {E : Env} {b n : Nat} {O : Octx} {ρ : Nat -> Value} {s t : St} {a : Act} {w w' : World} {o : Oper} {us : Nat -> Nat} {nl : Nat} {bx : Nat -> Option Box}
def Box.bd (us : Nat -> Nat) (nl : Nat) : Box -> Bool
 | .cells _ av => av.bd us nl
 | .arr _ _ _ _ => true
structure BD (ev : Operand -> Option AV) (bx : Nat -> Option Box) (us : Nat -> Nat) (nl : Nat) : Prop where
 ev : ∀ x av, ev x = some av -> av.bd us nl = true
 bx : ∀ id B, bx id = some B -> B.ver < us id /\ B.bd us nl = true
theorem subS_bd : ∀ (T : Ty) (x : T.den) (off n : Nat) (p : AV), subS T x off n = some p -> p.bd us nl = true
 | .pair A B, x, off, n, p, h => by
  unfold subS at h
  split at h
  ·cases h; rfl
  ·split at h
   ·exact subS_bd A _ _ _ _ h
   ·split at h
    ·exact subS_bd B _ _ _ _ h
    ·cases h
 | .int _, x, off, n, p, h => by unfold subS at h; split at h <;> cases h; rfl
 | .bool, x, off, n, p, h => by unfold subS at h; split at h <;> cases h; rfl
 | .list _, x, off, n, p, h => by unfold subS at h; split at h <;> cases h; rfl
theorem subA_bd : ∀ (av : AV) (off n : Nat) (p : AV), subA av off n = some p -> av.bd us nl = true -> p.bd us nl = true
 | .pr x y, off, n, p, h, hb => by
  unfold subA at h
  split at h
  ·cases h; exact hb
  ·simp only [AV.bd, Bool.and_eq_true] at hb
   split at h
   ·exact subA_bd x _ _ _ h hb.1
   ·split at h
    ·exact subA_bd y _ _ _ h hb.2
    ·cases h
 | .v T x, off, n, p, h, _ => subS_bd T x off n p h
 | .cst v, off, n, p, h, _ => by
  unfold subA at h
  split at h
  ·cases h; rfl
  ·unfold subC at h
   split at h
   ·split at h
    ·rw [Option.map_eq_some_iff] at h
     obtain ⟨u, _, e⟩ := h
     subst e; rfl
    ·cases h; rfl
   ·cases h
 | .ptr _ _ _, off, n, p, h, hb => by unfold subA at h; split at h <;> cases h; exact hb
 | .elt _ _ _ _ _, off, n, p, h, hb => by unfold subA at h; split at h <;> cases h; exact hb
 | .ro _ _ _, off, n, p, h, hb => by unfold subA at h; split at h <;> cases h; exact hb
 | .arr _ _, off, n, p, h, hb => by unfold subA at h; split at h <;> cases h; exact hb
 | .clo _ _, off, n, p, h, hb => by unfold subA at h; split at h <;> cases h; exact hb
 | .yld _, off, n, p, h, hb => by unfold subA at h; split at h <;> cases h; exact hb
 | .nl, off, n, p, h, hb => by unfold subA at h; split at h <;> cases h; exact hb
 | .tup _, off, n, p, h, hb => by unfold subA at h; split at h <;> cases h; exact hb
theorem updS_bd : ∀ (T : Ty) (x : T.den) (off : Nat) (y z : AV), updS T x off y = some z -> y.bd us nl = true -> z.bd us nl = true := by
 intro T
 induction T with
 | pair A B iA iB =>
  intro x off y z h hy
  unfold updS at h
  split at h
  ·cases h; exact hy
  ·split at h
   ·rw [Option.map_eq_some_iff] at h
    obtain ⟨q, hq, e⟩ := h
    subst e
    simp only [AV.bd, Bool.and_true]
    exact iA _ _ _ _ hq hy
   ·split at h
    ·rw [Option.map_eq_some_iff] at h
     obtain ⟨q, hq, e⟩ := h
     subst e
     simp only [AV.bd, Bool.true_and]
     exact iB _ _ _ _ hq hy
    ·cases h
 | _ =>
  intro x off y z h hy
  unfold updS at h
  split at h
  ·cases h; exact hy
  ·cases h
theorem updA_bd : ∀ (x : AV) (off : Nat) (y z : AV), updA x off y = some z -> x.bd us nl = true -> y.bd us nl = true -> z.bd us nl = true := by
 intro x
 induction x with
 | pr p q ip iq =>
  intro off y z h hx hy
  simp only [AV.bd, Bool.and_eq_true] at hx
  unfold updA at h
  split at h
  ·cases h; exact hy
  ·split at h
   ·rw [Option.map_eq_some_iff] at h
    obtain ⟨r, hr, e⟩ := h
    subst e
    simp only [AV.bd, Bool.and_eq_true]
    exact ⟨ip _ _ _ hr hx.1 hy, hx.2⟩
   ·split at h
    ·rw [Option.map_eq_some_iff] at h
     obtain ⟨r, hr, e⟩ := h
     subst e
     simp only [AV.bd, Bool.and_eq_true]
     exact ⟨hx.1, iq _ _ _ hr hx.2 hy⟩
    ·cases h
 | v T x => intro off y z h _ hy; exact updS_bd T x off y z h hy
 | _ =>
  intro off y z h hx hy
  unfold updA at h
  split at h
  ·cases h; exact hy
  ·cases h
theorem buildA_bd {t : TypeId} {ev : Operand -> Option AV} (hev : ∀ x av, ev x = some av -> av.bd us nl = true) : ∀ (ps : List (Nat × Operand)) (x z : AV), buildA E t ev ps x = some z -> x.bd us nl = true -> z.bd us nl = true
 | [], x, z, h, hx => by cases h; exact hx
 | (i, x0) :: r, x, z, h, hx => by
  simp only [buildA] at h
  split at h
  ·split at h
   ·rename_i y av hy hav
    cases hc : (av.fit && Nat.beq av.size y.1) with
    | false => rw [hc] at h; cases h
    | true =>
     rw [hc] at h
     simp only [cond_true] at h
     split at h
     ·rename_i x' hx'
      exact buildA_bd hev r x' z h (updA_bd _ _ _ _ hx' hx (hev _ _ hav))
     ·cases h
   ·cases h
  ·cases h
theorem capsA_bd {ev : Operand -> Option AV} (hev : ∀ x av, ev x = some av -> av.bd us nl = true) : ∀ (xs : List Operand) (c : AV), capsA ev xs = some c -> c.bd us nl = true
 | [], c, e => by cases e; rfl
 | x :: l, c, e => by
  simp only [capsA] at e
  split at e
  ·rename_i av hav
   cases hc : (av.fit && Nat.beq av.size 1 && !av.agg) with
   | false => rw [hc] at e; cases e
   | true =>
    rw [hc] at e
    simp only [cond_true, Option.map_eq_some_iff] at e
    obtain ⟨c', hc', e⟩ := e
    subst e
    simp only [AV.bd, Bool.and_eq_true]
    exact ⟨hev _ _ hav, capsA_bd hev l c' hc'⟩
  ·cases e
theorem nthA_bd : ∀ (c : AV) (k : Nat) (p : AV), nthA c k = some p -> c.bd us nl = true -> p.bd us nl = true
 | .pr x y, 0, p, h, hb => by
  cases h
  simp only [AV.bd, Bool.and_eq_true] at hb; exact hb.1
 | .pr x y, k + 1, p, h, hb => by
  simp only [AV.bd, Bool.and_eq_true] at hb
  exact nthA_bd y k p h hb.2
 | .nl, k, _, h, _ => by cases k <;> cases h
 | .cst _, k, _, h, _ => by cases k <;> cases h
 | .v _ _, k, _, h, _ => by cases k <;> cases h
 | .ptr _ _ _, k, _, h, _ => by cases k <;> cases h
 | .elt _ _ _ _ _, k, _, h, _ => by cases k <;> cases h
 | .ro _ _ _, k, _, h, _ => by cases k <;> cases h
 | .arr _ _, k, _, h, _ => by cases k <;> cases h
 | .clo _ _, k, _, h, _ => by cases k <;> cases h
 | .yld _, k, _, h, _ => by cases k <;> cases h
 | .tup _, k, _, h, _ => by cases k <;> cases h
theorem resAV_bd : ∀ (l : List Ty) (r : HL l), (resAV l r).bd us nl = true := by
 have tup : ∀ (l : List Ty) (r : HL l), (tupAV l r).bd us nl = true := by
  intro l
  induction l with
  | nil => intro r; rfl
  | cons T l ih => intro r; simp only [tupAV, AV.bd, Bool.true_and]; exact ih r.2
 intro l r
 match l, r with
 | [], r => rfl
 | [T], r => rfl
 | T :: T' :: l, r => exact tup _ r
theorem binI_bd {op : BinOp} {k : IntKind} {x y : Int} {av : AV} (h : binI op k x y = some av) : av.bd us nl = true := by
 unfold binI at h
 (repeat' split at h) <;> cases h <;> rfl
theorem shiftI_bd {op : BinOp} {k : IntKind} {x y : Int} {av : AV} (h : shiftI op k x y = some av) : av.bd us nl = true := by
 unfold shiftI at h
 (repeat' split at h) <;> cases h <;> rfl
theorem loadA_bd {n : Nat} {ag : Bool} {av p : AV} (hbx : ∀ id B, bx id = some B -> B.ver < us id /\ B.bd us nl = true) (h : loadA bx n ag av = some p) : p.bd us nl = true := by
 have fin : ∀ {q : AV}, q.bd us nl = true -> (bif q.fit && (q.agg == ag) then some q else none) = some p -> p.bd us nl = true := fun {q} hq hc => by
  obtain ⟨rfl, _, _⟩ := pick_of (R := Unit) hc; exact hq
 unfold loadA at h
 split at h
 ·rename_i id ver off
  split at h
  ·rename_i ver' c hB
   revert h
   cases Nat.beq ver ver' with
   | false => intro h; cases h
   | true =>
    intro h
    simp only [cond_true] at h
    split at h
    ·rename_i q hq
     exact fin (subA_bd _ _ _ _ hq (hbx _ _ hB).2) h
    ·cases h
  ·cases h
 ·rename_i id ver sz i off
  split at h
  ·rename_i ver' e T l hB
   revert h
   cases (Nat.beq ver ver' && Nat.beq sz T.size) with
   | false => intro h; cases h
   | true =>
    intro h
    simp only [cond_true, Option.bind_eq_some_iff] at h
    obtain ⟨y, _, h⟩ := h
    split at h
    ·rename_i q hq
     exact fin (subS_bd _ _ _ _ _ hq) h
    ·cases h
  ·cases h
 ·split at h
  ·rename_i q hq
   exact fin (subS_bd _ _ _ _ _ hq) h
  ·cases h
 ·cases h
theorem beq_none {α : Type} {x : Option α} {y : α} {c : Bool} {P : Prop} (h : (bif c then x else none) = some y) (k : x = some y -> P) : P := by
 cases c with
 | false => cases h
 | true => exact k h
theorem beq_box {α : Type} {x y : α} {c : Bool} {P : Prop} (h : (bif c then some x else none) = some y) (hp : x = y -> c = true -> P) : P := by
 cases c with
 | false => cases h
 | true => exact hp (Option.some.inj h) rfl
theorem evalOp_bd (hE : E.OK P) {hw : How} {dst : Option Nat} {ev : Operand -> Option AV} (hd : BD ev bx us nl) {op : Op} {e : Eff} (h : evalOp E hw dst ev bx op = some e) :
  (e.av us).bd (e.us us) nl = true /\ (∀ id av, e = .new id av -> av.bd us nl = true) /\ (∀ id ver av, e = .sto id ver av -> av.bd us nl = true) /\ (∀ id ver f T l, e = .stoE id ver f T l -> ver < us id) /\ (∀ id ver av, e = .sto id ver av -> ver < us id) := by
 have put : ∀ av : AV, av.bd us nl = true -> e = .put av -> (e.av us).bd (e.us us) nl = true /\ (∀ id av, e = .new id av -> av.bd us nl = true) /\ (∀ id ver av, e = .sto id ver av -> av.bd us nl = true) /\ (∀ id ver f T l, e = .stoE id ver f T l -> ver < us id) /\ (∀ id ver av, e = .sto id ver av -> ver < us id) := fun av hb he => by
  subst he; exact ⟨hb, fun _ _ h => (by cases h), fun _ _ _ h => (by cases h), fun _ _ _ _ _ h => (by cases h), fun _ _ _ h => (by cases h)⟩
 have arr : ∀ id fr f T l, e = .arr id fr f T l -> (e.av us).bd (e.us us) nl = true /\ (∀ id av, e = .new id av -> av.bd us nl = true) /\ (∀ id ver av, e = .sto id ver av -> av.bd us nl = true) /\ (∀ id ver f T l, e = .stoE id ver f T l -> ver < us id) /\ (∀ id ver av, e = .sto id ver av -> ver < us id) := fun id fr f T l he => by
  subst he; exact ⟨by simp [Eff.av, Eff.us, AV.bd, updU], fun _ _ h => (by cases h), fun _ _ _ h => (by cases h), fun _ _ _ _ _ h => (by cases h), fun _ _ _ h => (by cases h)⟩
 have new : ∀ id av, av.bd us nl = true -> e = .new id av -> (e.av us).bd (e.us us) nl = true /\ (∀ id av, e = .new id av -> av.bd us nl = true) /\ (∀ id ver av, e = .sto id ver av -> av.bd us nl = true) /\ (∀ id ver f T l, e = .stoE id ver f T l -> ver < us id) /\ (∀ id ver av, e = .sto id ver av -> ver < us id) := fun id av hb he => by
  subst he; exact ⟨by simp [Eff.av, Eff.us, AV.bd, updU], fun _ _ h => (by cases h; exact hb), fun _ _ _ h => (by cases h), fun _ _ _ _ _ h => (by cases h), fun _ _ _ h => (by cases h)⟩
 cases op <;> simp only [evalOp] at h
 case move x => rw [Option.map_eq_some_iff] at h; obtain ⟨av, hav, e1⟩ := h; exact put av (hd.ev _ _ hav) e1.symm
 case assign x => rw [Option.map_eq_some_iff] at h; obtain ⟨av, hav, e1⟩ := h; exact put av (hd.ev _ _ hav) e1.symm
 case load t x =>
  simp only [Option.bind_eq_some_iff, Option.map_eq_some_iff] at h
  obtain ⟨q, hq, av, hav, p, hp, e1⟩ := h
  exact put p (loadA_bd hd.bx hp) e1.symm
 case store t x y =>
  simp only [Option.bind_eq_some_iff] at h
  obtain ⟨q, hq, z, hz, av, hav, h⟩ := h
  have hzb := hd.ev _ _ hz
  unfold storeA at h
  split at h
  ·rename_i id ver off
   split at h
   ·rename_i ver' c hB
    cases hv : (Nat.beq ver ver' && z.fit && Nat.beq z.size q.1) with
    | false => rw [hv] at h; cases h
    | true =>
     rw [hv] at h
     simp only [cond_true] at h
     simp only [Bool.and_eq_true] at hv
     have hv1 := Nat.eq_of_beq_eq_true hv.1.1
     split at h
     ·rename_i c' hc'
      cases h
      have hcb := hd.bx _ _ hB
      exact ⟨rfl, fun _ _ h => (by cases h), fun _ _ _ h => (by cases h; exact updA_bd _ _ _ _ hc' hcb.2 hzb), fun _ _ _ _ _ h => (by cases h), fun _ _ _ h => (by cases h; rw [hv1]; exact hcb.1)⟩
     ·cases h
   ·cases h
  ·rename_i id ver sz i off
   split at h
   ·rename_i ver' f T l U hB hU
    cases hv : (Nat.beq ver ver' && Nat.beq sz T.size) with
    | false => rw [hv] at h; cases h
    | true =>
     rw [hv] at h
     simp only [cond_true] at h
     rw [Bool.and_eq_true] at hv
     have hv1 := Nat.eq_of_beq_eq_true hv.1
     split at h
     ·rw [Option.bind_eq_some_iff] at h
      obtain ⟨y0, hy0, h⟩ := h
      split at h
      ·cases h
       exact ⟨rfl, fun _ _ h => (by cases h), fun _ _ _ h => (by cases h), fun _ _ _ _ _ h => (by cases h; rw [hv1]; exact (hd.bx _ _ hB).1), fun _ _ _ h => (by cases h)⟩
      ·cases h
     ·cases h
   ·cases h
  ·cases h
 case alloc t =>
  rw [Option.map_eq_some_iff] at h
  obtain ⟨q, hq, e1⟩ := h
  obtain ⟨ti, d, hL⟩ := hE.lay t q hq
  exact new _ _ (hL.bd _ _) e1.symm
 case box t x =>
  rw [Option.bind_eq_some_iff] at h
  obtain ⟨av, hav, h⟩ := h
  exact beq_box h fun e1 _ => new _ _ (hd.ev _ _ hav) e1.symm
 case pick c x y =>
  simp only [Option.bind_eq_some_iff (x := (ev c).bind _), Option.map_eq_some_iff] at h
  obtain ⟨t, ht, av, hav, e1⟩ := h
  cases t with
  | true => exact put av (hd.ev _ _ hav) e1.symm
  | false => exact put av (hd.ev _ _ hav) e1.symm
 case build t ps =>
  rw [Option.bind_eq_some_iff] at h
  obtain ⟨q, hq, h⟩ := h
  obtain ⟨ti, d, hL⟩ := hE.lay t q hq
  split at h
  ·rw [Option.bind_eq_some_iff] at h
   obtain ⟨x, hx, h⟩ := h
   exact beq_box h fun e1 _ => put x (buildA_bd hd.ev _ _ _ hx (hL.bd _ _)) e1.symm
  ·cases h
 case buildSlice t len ps =>
  rw [Option.bind_eq_some_iff] at h
  obtain ⟨U, hU, h⟩ := h
  split at h
  ·split at h
   ·rw [Option.bind_eq_some_iff] at h
    obtain ⟨l, hl, h⟩ := h
    cases ho : hw.own with
    | false => rw [ho] at h; cases h; exact put _ rfl rfl
    | true =>
     rw [ho] at h
     simp only [cond_true, Option.map_eq_some_iff] at h
     obtain ⟨q, hq, e1⟩ := h
     exact arr _ _ _ _ _ e1.symm
   ·cases h
  ·cases h
 case makeSlice t x y =>
  rw [Option.bind_eq_some_iff] at h
  obtain ⟨U, hU, h⟩ := h
  split at h
  ·simp only [Option.bind_eq_some_iff (x := E.el t), Option.bind_eq_some_iff (x := (ev x).bind asI), Option.bind_eq_some_iff (x := (ev y).bind asI)] at h
   obtain ⟨q, hq, m, hm, m', hm', h⟩ := h
   split at h
   ·cases h; exact arr _ _ _ _ _ rfl
   ·cases h
  ·cases h
 case slice t x lo hi mx =>
  rw [Option.bind_eq_some_iff] at h
  obtain ⟨U, hU, h⟩ := h
  split at h
  ·cases mx with
   | some m =>
    cases lo with
    | some o' => simp at h
    | none =>
     simp only [Option.isNone_some, cond_false, Option.isNone_none, cond_true, Option.bind_eq_some_iff (x := (ev x).bind _), Option.bind_eq_some_iff (x := boundA _ _ _)] at h
     obtain ⟨l, hl, j, hj1, m', hm1, h⟩ := h
     split at h
     ·cases h; exact put _ rfl rfl
     ·cases h
   | none =>
    simp only [Option.isNone_none, cond_true, Option.bind_eq_some_iff (x := (ev x).bind _), Option.bind_eq_some_iff (x := boundA _ _ _)] at h
    obtain ⟨l, hl, i, hi1, j, hj1, h⟩ := h
    split at h
    ·cases h; exact put _ rfl rfl
    ·cases h
  ·cases h
 case field t x f =>
  simp only [Option.bind_eq_some_iff (x := ev x), Option.bind_eq_some_iff (x := E.fld t f), Option.bind_eq_some_iff (x := E.lay _)] at h
  obtain ⟨av, hav, q, hq, y, hy, h⟩ := h
  cases hc : (av.agg && av.fit) with
  | false => rw [hc] at h; cases h
  | true =>
   rw [hc] at h
   simp only [cond_true, Option.bind_eq_some_iff] at h
   obtain ⟨p, hp, h⟩ := h
   exact beq_box h fun e1 _ => put p (subA_bd _ _ _ _ hp (hd.ev _ _ hav)) e1.symm
 case fieldAddr t x f =>
  rw [Option.bind_eq_some_iff] at h
  obtain ⟨q, hq, h⟩ := h
  cases hc : (E.lay q.2).isSome with
  | false => rw [hc] at h; cases h
  | true =>
   rw [hc] at h
   simp only [cond_true, Option.bind_eq_some_iff] at h
   obtain ⟨av, hav, h⟩ := h
   have hb := hd.ev _ _ hav
   split at h
   ·rename_i id ver off; exact beq_box h fun e1 _ => put (.ptr id ver (off + q.1)) hb e1.symm
   ·split at h
    ·rename_i id ver sz i off _ _ _ _ _ _; exact beq_box h fun e1 _ => put (.elt id ver sz i (off + q.1)) hb e1.symm
    ·cases h
   ·cases h; exact put _ rfl rfl
   ·cases h
 case nilCheck x =>
  rw [Option.bind_eq_some_iff] at h
  obtain ⟨av, hav, h⟩ := h
  have hb := hd.ev _ _ hav
  split at h
  ·exact beq_box h fun e1 _ => put _ hb e1.symm
  ·split at h
   ·exact beq_box h fun e1 _ => put _ hb e1.symm
   ·cases h
  ·cases h; exact put _ rfl rfl
  ·cases h
 case indexAddr t x i =>
  simp only [Option.bind_eq_some_iff, Option.map_eq_some_iff] at h
  obtain ⟨av, hav, j, hj, p, hp, e1⟩ := h
  refine put p ?_ e1.symm
  have hb := hd.ev _ _ hav
  unfold idxA at hp
  split at hp
  ·split at hp
   ·split at hp
    ·exact beq_box hp fun e2 _ => by subst e2; exact hb
    ·cases hp
   ·cases hp
  ·split at hp
   ·split at hp
    ·split at hp
     ·rename_i id ver _ ver' f T' l hB
      revert hp
      cases (Nat.beq ver ver' && decide (T' = _)) with
      | false => intro hp; cases hp
      | true =>
       intro hp
       simp only [cond_true, Option.bind_eq_some_iff] at hp
       obtain ⟨m, hm, hp⟩ := hp
       split at hp
       ·rw [Option.bind_eq_some_iff] at hp
        obtain ⟨_, _, hp⟩ := hp
        cases hp
        exact hb
       ·cases hp
     ·cases hp
    ·simp only [Option.bind_eq_some_iff] at hp
     obtain ⟨l, hl, m, hm, hp⟩ := hp
     split at hp
     ·rw [Option.bind_eq_some_iff] at hp
      obtain ⟨_, _, hp⟩ := hp
      cases hp
      rfl
     ·cases hp
   ·cases hp
 case index t x i =>
  split at h
  ·rw [Option.bind_eq_some_iff] at h
   obtain ⟨av, hav, h⟩ := h
   split at h
   ·rw [Option.bind_eq_some_iff] at h
    obtain ⟨m, hm, h⟩ := h
    split at h
    ·rw [Option.map_eq_some_iff] at h
     obtain ⟨y, _, e1⟩ := h
     exact put _ rfl e1.symm
    ·cases h
   ·cases h
  ·cases h
 case extract x k =>
  rw [Option.bind_eq_some_iff] at h
  obtain ⟨av, hav, h⟩ := h
  have hb := hd.ev _ _ hav
  split at h
  ·rw [Option.map_eq_some_iff] at h
   obtain ⟨p, hp, e1⟩ := h
   exact put p (nthA_bd _ _ _ hp hb) e1.symm
  ·cases h
 case binOp op t x y t' =>
  cases hpt : E.pt t with
  | true =>
   rw [hpt] at h
   simp only [cond_true] at h
   split at h
   ·exact beq_box h fun e1 _ => put _ rfl e1.symm
   ·exact beq_box h fun e1 _ => put _ rfl e1.symm
   ·cases h
  | false =>
   rw [hpt] at h
   simp only [cond_false, Option.bind_eq_some_iff (x := E.ty t)] at h
   obtain ⟨U, hU, h⟩ := h
   cases U with
   | int k =>
    simp only [Option.bind_eq_some_iff (x := (ev x).bind _)] at h
    obtain ⟨p, hp, h⟩ := h
    split at h
    ·simp only [Option.bind_eq_some_iff, Option.map_eq_some_iff] at h
     obtain ⟨q, hq, av, hav, e1⟩ := h
     exact put av (shiftI_bd hav) e1.symm
    ·simp only [Option.bind_eq_some_iff, Option.map_eq_some_iff] at h
     obtain ⟨q, hq, av, hav, e1⟩ := h
     exact put av (shiftI_bd hav) e1.symm
    ·simp only [Option.bind_eq_some_iff, Option.map_eq_some_iff] at h
     obtain ⟨q, hq, av, hav, e1⟩ := h
     exact put av (binI_bd hav) e1.symm
   | bool =>
    simp only [Option.bind_eq_some_iff (x := (ev x).bind _), Option.bind_eq_some_iff (x := (ev y).bind _)] at h
    obtain ⟨p, hp, q, hq, h⟩ := h
    split at h <;> cases h <;> exact put _ rfl rfl
   | pair A B =>
    simp only [Option.bind_eq_some_iff (x := (ev x).bind _), Option.bind_eq_some_iff (x := (ev y).bind _)] at h
    obtain ⟨p, hp, q, hq, h⟩ := h
    split at h
    ·split at h <;> cases h <;> exact put _ rfl rfl
    ·cases h
   | list T => cases h
 case unOp op t x =>
  rw [Option.bind_eq_some_iff] at h
  obtain ⟨U, hU, h⟩ := h
  split at h
  ·rw [Option.map_eq_some_iff] at h; obtain ⟨y, _, e1⟩ := h; exact put _ rfl e1.symm
  ·rw [Option.map_eq_some_iff] at h; obtain ⟨y, _, e1⟩ := h; exact put _ rfl e1.symm
  ·rw [Option.map_eq_some_iff] at h; obtain ⟨y, _, e1⟩ := h; exact put _ rfl e1.symm
  ·cases h
 case convert t t' x =>
  simp only [Option.bind_eq_some_iff (x := E.ty t), Option.bind_eq_some_iff (x := E.ty t')] at h
  obtain ⟨U, hU, V, hV, h⟩ := h
  split at h
  ·rw [Option.map_eq_some_iff] at h; obtain ⟨y, _, e1⟩ := h; exact put _ rfl e1.symm
  ·cases h
 case makeFunc f first caps =>
  cases f with
  | func f =>
   simp only at h
   cases hc : first.isEmpty with
   | false => rw [hc] at h; cases h
   | true =>
    rw [hc] at h
    simp only [cond_true, Option.map_eq_some_iff] at h
    obtain ⟨c, hc, e1⟩ := h
    exact put (.clo f c) (show c.bd us nl = true from capsA_bd hd.ev _ _ hc) e1.symm
  | _ => cases h
 case call c =>
  obtain ⟨callee, args, ats⟩ := c
  split at h
  ·simp only [dynCall] at h
   split at h
   ·exact beq_none h fun h => by
     simp only [Option.bind_eq_some_iff, Option.map_eq_some_iff] at h
     obtain ⟨xs, hxs, r, hr, e1⟩ := h
     exact put _ (resAV_bd _ _) e1.symm
   ·cases h
  simp only [evalCall] at h
  split at h
  ·split at h
   ·rename_i S hS
    simp only [Option.bind_eq_some_iff] at h
    obtain ⟨xs, hxs, r, hr, e1⟩ := h
    unfold specE at e1
    revert e1
    cases freeL S.res with
    | true => intro e1; cases e1; exact put _ (resAV_bd _ _) rfl
    | false =>
     cases hw.own with
     | true => intro e1; cases e1; exact ⟨resAV_bd _ _, fun _ _ h => (by cases h), fun _ _ _ h => (by cases h), fun _ _ _ _ _ h => (by cases h), fun _ _ _ h => (by cases h)⟩
     | false =>
      cases (idsL (args.toList.map ev)).isEmpty with
      | true => intro e1; cases e1; exact put _ (resAV_bd _ _) rfl
      | false => intro e1; cases e1
   ·split at h
    ·split at h
     ·rw [Option.bind_eq_some_iff] at h
      obtain ⟨l, hl, h⟩ := h
      split at h
      ·cases h; exact arr _ _ _ _ _ rfl
      ·cases h
     ·cases h
    ·split at h
     ·exact beq_none h fun h => by
       simp only [Option.bind_eq_some_iff, Option.map_eq_some_iff] at h
       obtain ⟨xs, hxs, r, hr, e1⟩ := h
       exact put _ (resAV_bd _ _) e1.symm
     ·cases h
  ·rw [Option.bind_eq_some_iff] at h
   obtain ⟨U, hU, h⟩ := h
   split at h
   ·rw [Option.map_eq_some_iff] at h; obtain ⟨y, _, e1⟩ := h; exact put _ rfl e1.symm
   ·cases h
  ·split at h
   ·split at h
    ·split at h
     ·rw [Option.bind_eq_some_iff] at h
      obtain ⟨m, hm, h⟩ := h
      split at h
      ·split at h
       ·split at h
        ·split at h
         ·cases h; exact arr _ _ _ _ _ rfl
         ·cases h
        ·cases h
       ·cases h
      ·split at h
       ·cases h; exact arr _ _ _ _ _ rfl
       ·cases h
      ·cases h
     ·cases h
    ·cases h
   ·cases h
  ·cases h
 all_goals cases h
end
section
variable {P : Program} {E : Env} {b n : Nat} {O : Octx} {ρ : Nat -> Value} {s t : St} {a : Act} {w w' : World} {o : Oper} {ops : Array Oper} {r : Option Nat} {own : Nat -> Bool}
theorem RelC.putO (h : RelC b n O ρ s a w) {dst : Option Nat} {av : AV} {v : Value} (hd : (dst.all fun d => Nat.blt d n) = true) (hb : av.bd s.us s.nl = true) (hr : RepA (mem O ρ s.bx w) av v) :
  RelC b n O ρ { s with tm := updT s.tm b dst av } (a.put dst v) w := by
 cases dst with
 | none => exact h
 | some d => exact h.put (d := d) (by simpa using hd) hb hr
theorem app_spec {dst : Option Nat} {e : Eff} (h : s.app b n dst e = some t) :
  (dst.all fun d => Nat.blt d n) = true /\ e.can s.bx = true /\ t = ⟨updT s.tm b dst (e.av s.us), e.bx s.bx s.us, e.us s.us, s.nl, s.jp⟩ := by
 unfold St.app at h
 cases hc : ((dst.all fun d => Nat.blt d n) && e.can s.bx) with
 | false => rw [hc] at h; cases h
 | true =>
  rw [hc] at h
  simp only [Bool.and_eq_true] at hc
  exact ⟨hc.1, hc.2, (Option.some.inj h).symm⟩
theorem RelC.after (h : RelC b n O ρ s a w) {dst : Option Nat} {e : Eff} {v : Value} (ha : After O ρ s w e v w') (hb : (e.av s.us).bd (e.us s.us) s.nl = true) (happ : s.app b n dst e = some t) : Rel b n O t (a.put dst v) w' := by
 obtain ⟨h1, h2, rfl⟩ := app_spec happ
 obtain ⟨ρ', hs, hr⟩ := ha
 exact ⟨ρ', (h.move hs).putO h1 hb hr⟩
theorem wantA_sound (h : RelC b n O ρ s a w) {c : Bool} (hw : wantA b ops s o = some c) : Region.wanted o (yielded ops a.tmps) = c := by
 unfold wantA at hw
 unfold Region.wanted
 cases hg : o.guard with
 | none => rw [hg] at hw; cases hw; rfl
 | some q =>
  obtain ⟨j, want⟩ := q
  rw [hg] at hw
  simp only at hw ⊢
  have look : ∀ d v, (ops[j]?).bind (·.dst) = some d -> a.tmps.getD d undef = v -> v ≠ undef -> a.tmps[d]? = some v := fun d v hd hr hv => by
   cases hq : a.tmps[d]? with
   | none => simp [hq] at hr; exact absurd hr.symm hv
   | some u => simp [hq] at hr; rw [hr]
  split at hw
  ·rename_i x hav
   rw [Option.bind_eq_some_iff] at hav
   obtain ⟨d, hd, hav⟩ := hav
   cases hw
   have hr : a.tmps.getD d undef = .bool x := (h.tm d _ hav).2
   have hs := look d _ hd hr (fun e => by cases e)
   unfold yielded
   rw [hd]
   simp only [Option.bind_some, hs]
   cases x <;> cases want <;> rfl
  ·rename_i v hnb hav
   rw [Option.bind_eq_some_iff] at hav
   obtain ⟨d, hd, hav⟩ := hav
   cases hw
   have hr : a.tmps.getD d undef = v := (h.tm d _ hav).2
   unfold yielded
   rw [hd]
   simp only [Option.bind_some]
   cases hq : a.tmps[d]? with
   | none => rfl
   | some u =>
    have hu : u = v := by simpa [hq] using hr
    subst hu
    cases u <;> first | rfl | exact absurd rfl (hnb _)
  ·rename_i av _ _ hav
   rw [Option.bind_eq_some_iff] at hav
   obtain ⟨d, hd, hav⟩ := hav
   rw [Option.map_eq_some_iff] at hw
   obtain ⟨x, hx, e⟩ := hw
   subst e
   have hr := (asT_rep hx (h.tm d av hav).2).bool
   have hs := look d _ hd hr (fun e => by cases e)
   unfold yielded
   rw [hd]
   simp only [Option.bind_some, hs]
   cases x <;> cases want <;> rfl
  ·cases hw
theorem RelC.bds (h : RelC b n O ρ s a w) : BD (s.ev b) s.bx s.us s.nl where
 ev := fun x av he => by
  cases x with
  | tmp t => exact (h.tm t av he).1
  | const v => cases he; rfl
  | global g => cases he
  | func f => cases he; rfl
 bx := fun id B hB => by
  have := h.bx id B hB
  cases B with
  | cells ver av => exact ⟨this.1, this.2.1⟩
  | arr ver e T l => exact ⟨this.1, rfl⟩
theorem not_defer {hw : How} {dst : Option Nat} {ev : Operand -> Option AV} {bx : Nat -> Option Box} {e : Eff} (he : evalOp E hw dst ev bx o.op = some e) : ∀ c, o.op ≠ .defer c := fun c hc => by
 rw [hc] at he; cases he
theorem wpOp_eff (hE : E.OK P) (hG : GOK E O) (h : RelC b n O ρ s a w) {hw : How} {e : Eff} (he : evalOp E hw o.dst (s.ev b) s.bx o.op = some e) (happ : s.app b n o.dst e = some t)
  {Q : Exit -> Act -> World -> Prop} {K : Act -> World -> Prop} (hK : ∀ a' w', Rel b n O t a' w' -> K a' w') : o.wpIn (FW r) 0 P a w K Q := by
 obtain ⟨hb, hb1, hb2, _, _⟩ := evalOp_bd hE h.bds he
 have hok := evalOp_sound hE hG h he hb2 hb1
 refine ⟨fun _ _ => trivial, ?_⟩
 rw [Oper.semAt_eq _ _ _ (not_defer he)]
 rcases hok with ⟨v, w', hrun, ha⟩ | ⟨w', hrun, ha⟩ | ⟨f, args, hrun, hc⟩
 ·rw [hrun]; exact hK _ _ (h.after ha hb happ)
 ·rw [hrun]; exact hK _ _ (h.after ha hb happ)
 ·rw [hrun]
  refine ⟨fun hd => (by cases hd), callsFW.2 (hc.mono fun en w' he => ?_)⟩
  obtain ⟨v, e1, ha⟩ := he
  subst e1
  exact hK _ _ (h.after ha hb happ)
theorem skip_after (h : RelC b n O ρ s a w) {dst : Option Nat} (happ : s.app b n dst (.put (.cst undef)) = some t) : Rel b n O t (a.put dst undef) w := by
 obtain ⟨h1, h2, rfl⟩ := app_spec happ
 exact ⟨ρ, h.putO h1 rfl rfl⟩
theorem stepR_sound (hE : E.OK P) (hG : GOK E O) : SoundG (FW r) P ops (stepR E own b n ops) (Rel b n O) := by
 intro i o s t a w hi ⟨ρ, h⟩ hs Q K hK
 simp only [stepR, hi, Option.bind_some, Option.bind_eq_some_iff] at hs
 obtain ⟨c, hc, e, he, happ⟩ := hs
 have hw := wantA_sound h hc
 unfold wpOpIn
 simp only [hi, hw]
 cases c with
 | false =>
  cases he
  simp only [Bool.false_eq_true, if_false]
  exact ⟨fun _ _ => trivial, hK _ _ (skip_after h happ)⟩
 | true =>
  simp only [if_true]
  exact wpOp_eff hE hG h he happ hK
end
section
variable {P : Program} {E : Env} {b n : Nat} {us : Nat -> Nat} {nl : Nat} {bx bx' : Nat -> Option Box} {hw : How} {dst : Option Nat} {ev ev' : Operand -> Option AV}
def Le (us : Nat -> Nat) (bx bx' : Nat -> Option Box) : Prop := ∀ id B, B.ver < us id -> bx id = some B -> bx' id = some B
theorem asB_mono (hle : Le us bx bx') : ∀ (av : AV) (U : Ty) (x : U.den), av.bd us nl = true -> asB bx U av = some x -> asB bx' U av = some x
 | .v T y, U, x, _, h => h
 | .cst c, U, x, _, h => h
 | .pr p q, U, x, hb, h => by
  simp only [AV.bd, Bool.and_eq_true] at hb
  cases U with
  | pair A B =>
   simp only [asB, Option.bind_eq_some_iff] at h ⊢
   obtain ⟨y, hy, z, hz, e⟩ := h
   exact ⟨y, asB_mono hle p A y hb.1 hy, z, asB_mono hle q B z hb.2 hz, e⟩
  | _ => simp [asB] at h
 | .arr id ver, U, x, hb, h => by
  simp only [asB] at h ⊢
  split at h
  ·rename_i ver' e T l hB
   split at h
   ·split at h
    ·rename_i hv
     subst hv
     have hb' : ver < us id := by simpa [AV.bd] using hb
     rw [hle id _ (by exact hb') hB]
     simp only
     rw [dif_pos (by assumption)]
     simpa using h
    ·cases h
   ·cases h
  ·cases h
 | .ptr _ _ _, _, _, _, h => by cases h
 | .elt _ _ _ _ _, _, _, _, h => by cases h
 | .ro _ _ _, _, _, _, h => by cases h
 | .clo _ _, _, _, _, h => by cases h
 | .yld _, _, _, _, h => by cases h
 | .nl, _, _, _, h => by cases h
 | .tup _, _, _, _, h => by cases h
theorem isPtr_mono (hle : Le us bx bx') {av : AV} (hb : av.bd us nl = true) (h : isPtr bx av = true) : isPtr bx' av = true := by
 obtain ⟨id, ver, off, B, rfl, hB, hv⟩ := isPtr_box h
 have hb' : ver < us id := by simpa [AV.bd] using hb
 simp [isPtr, hle id B (hv ▸ hb') hB, hv]
theorem loadA_mono (hle : Le us bx bx') {k : Nat} {ag : Bool} {av p : AV} (hb : av.bd us nl = true) (h : loadA bx k ag av = some p) : loadA bx' k ag av = some p := by
 cases av with
 | ptr id ver off =>
  have hb' : ver < us id := by simpa [AV.bd] using hb
  simp only [loadA] at h ⊢
  split at h
  ·rename_i ver' c hB
   cases hv : Nat.beq ver ver' with
   | false => rw [hv] at h; cases h
   | true =>
    have hv' := Nat.eq_of_beq_eq_true hv
    subst hv'
    rw [hle id _ (by exact hb') hB]
    exact h
  ·cases h
 | elt id ver sz i off =>
  have hb' : ver < us id := by simpa [AV.bd] using hb
  simp only [loadA] at h ⊢
  split at h
  ·rename_i ver' e T l hB
   cases hv : (Nat.beq ver ver' && Nat.beq sz T.size) with
   | false => rw [hv] at h; cases h
   | true =>
    rw [Bool.and_eq_true] at hv
    have hv' := Nat.eq_of_beq_eq_true hv.1
    subst hv'
    rw [hle id _ (by exact hb') hB]
    exact h
  ·cases h
 | ro T x off => exact h
 | _ => cases h
theorem storeA_mono (hle : Le us bx bx') {U : Option Ty} {k : Nat} {z av : AV} {e : Eff} (hb : av.bd us nl = true) (h : storeA bx U k z av = some e) : storeA bx' U k z av = some e := by
 cases av with
 | ptr id ver off =>
  have hb' : ver < us id := by simpa [AV.bd] using hb
  simp only [storeA] at h ⊢
  split at h
  ·rename_i ver' c hB
   cases hv : (Nat.beq ver ver' && z.fit && Nat.beq z.size k) with
   | false => rw [hv] at h; cases h
   | true =>
    simp only [Bool.and_eq_true] at hv
    have hv' := Nat.eq_of_beq_eq_true hv.1.1
    subst hv'
    rw [hle id _ (by exact hb') hB]
    exact h
  ·cases h
 | elt id ver sz i off =>
  have hb' : ver < us id := by simpa [AV.bd] using hb
  simp only [storeA] at h ⊢
  split at h
  ·rename_i ver' e T l U hB
   cases hv : (Nat.beq ver ver' && Nat.beq sz T.size) with
   | false => rw [hv] at h; cases h
   | true =>
    rw [Bool.and_eq_true] at hv
    have hv' := Nat.eq_of_beq_eq_true hv.1
    subst hv'
    rw [hle id _ (by exact hb') hB]
    exact h
  ·cases h
 | _ => cases h
theorem idxA_mono (hle : Le us bx bx') {t : TypeId} {x i p : AV} (hb : x.bd us nl = true) (h : idxA E bx t x i = some p) : idxA E bx' t x i = some p := by
 unfold idxA at h ⊢
 split at h
 ·split at h
  ·split at h
   ·rename_i id ver off k _ q _ m
    cases hc : (Nat.blt m _ && isPtr bx (.ptr id ver off)) with
    | false => rw [hc] at h; cases h
    | true =>
     rw [hc] at h
     rw [Bool.and_eq_true] at hc
     rw [hc.1, isPtr_mono hle hb hc.2]
     exact h
   ·cases h
  ·cases h
 ·split at h
  ·rename_i T hT
   split at h
   ·rename_i id ver
    have hb' : ver < us id := by simpa [AV.bd] using hb
    split at h
    ·rename_i ver' e T' l hB
     cases hv : (Nat.beq ver ver' && decide (T' = T)) with
     | false => rw [hv] at h; cases h
     | true =>
      have hv2 := hv
      rw [Bool.and_eq_true] at hv
      have hv' := Nat.eq_of_beq_eq_true hv.1
      subst hv'
      rw [hle id _ (by exact hb') hB]
      exact h
    ·cases h
   ·exact h
  ·cases h
theorem asBL_mono (hle : Le us bx bx') : ∀ (l : List Ty) (avs : List (Option AV)) (xs : HL l), (∀ av, some av ∈ avs -> av.bd us nl = true) -> asBL bx l avs = some xs -> asBL bx' l avs = some xs
 | [], [], _, _, h => h
 | [], _ :: _, _, _, h => by simp [asBL] at h
 | _ :: _, [], _, _, h => by simp [asBL] at h
 | T :: l, av :: r, xs, hb, h => by
  simp only [asBL, Option.bind_eq_some_iff (x := av.bind _), Option.bind_eq_some_iff (x := asBL _ l r)] at h ⊢
  obtain ⟨y, hy, z, hz, e⟩ := h
  refine ⟨y, ?_, z, asBL_mono hle l r z (fun av hav => hb av (List.mem_cons_of_mem _ hav)) hz, e⟩
  rw [Option.bind_eq_some_iff] at hy ⊢
  obtain ⟨v, hv, hy⟩ := hy
  subst hv
  exact ⟨v, rfl, asB_mono hle v T y (hb v List.mem_cons_self) hy⟩
theorem evalCall_mono (hle : Le us bx bx') {ats : Array TypeId} {c : Callee} {avs : List (Option AV)} {e : Eff} (hb : ∀ av, some av ∈ avs -> av.bd us nl = true) (h : evalCall E hw bx dst ats c avs = some e) : evalCall E hw bx' dst ats c avs = some e := by
 unfold evalCall at h ⊢
 split at h
 ·split at h
  ·rw [Option.bind_eq_some_iff] at h ⊢
   obtain ⟨xs, hxs, h⟩ := h
   exact ⟨xs, asBL_mono hle _ _ _ hb hxs, h⟩
  ·split at h
   ·split at h
    ·rename_i T e0 by_ x _ _
     rw [Option.bind_eq_some_iff] at h ⊢
     obtain ⟨l, hl, h⟩ := h
     exact ⟨l, asB_mono hle x (.list T) l (hb x List.mem_cons_self) hl, h⟩
    ·cases h
   ·split at h
    ·rename_i S _
     cases hf : freeL S.args && freeL S.res with
     | false => rw [hf] at h; cases h
     | true =>
      rw [hf] at h
      simp only [cond_true, Option.bind_eq_some_iff] at h ⊢
      obtain ⟨xs, hxs, h⟩ := h
      exact ⟨xs, asBL_mono hle _ _ _ hb hxs, h⟩
    ·cases h
 ·rw [Option.bind_eq_some_iff] at h ⊢
  obtain ⟨U, hU, h⟩ := h
  refine ⟨U, hU, ?_⟩
  split at h
  ·rename_i T x
   rw [Option.map_eq_some_iff] at h ⊢
   obtain ⟨l, hl, h⟩ := h
   refine ⟨l, ?_, h⟩
   rw [Option.bind_eq_some_iff] at hl ⊢
   obtain ⟨v, hv, hl⟩ := hl
   subst hv
   exact ⟨v, rfl, asB_mono hle v (.list T) l (hb v List.mem_cons_self) hl⟩
  ·cases h
 ·split at h
  ·rename_i t t' _ _
   split at h
   ·rename_i htt
    rw [if_pos htt]
    split at h
    ·rename_i T e0 by_ x y _ _
     rw [Option.bind_eq_some_iff] at h ⊢
     obtain ⟨m, hm, h⟩ := h
     refine ⟨m, asB_mono hle y (.list T) m (hb y (by simp)) hm, ?_⟩
     split at h
     ·rename_i id ver
      have hb' : ver < us id := by simpa [AV.bd] using hb (.arr id ver) (by simp)
      split at h
      ·rename_i ver' e' T' l hB
       split at h
       ·rename_i hT
        split at h
        ·rename_i hc
         obtain ⟨hv, hc2⟩ := hc
         subst hv
         rw [hle id _ (by exact hb') hB]
         simp only
         rw [dif_pos hT]
         simpa [hc2] using h
        ·cases h
       ·cases h
      ·cases h
     ·exact h
     ·cases h
    ·cases h
   ·cases h
  ·cases h
 ·cases h
theorem evalOp_mono (hle : Le us bx bx') {op : Op} {e : Eff} (hb : ∀ x ∈ op.operands, ∀ av, ev x = some av -> av.bd us nl = true) (h : evalOp E hw dst ev bx op = some e) : evalOp E hw dst ev bx' op = some e := by
 cases op <;> simp only [evalOp] at h ⊢ <;> simp only [Op.operands] at hb
 case move x => exact h
 case assign x => exact h
 case load t x =>
  simp only [Option.bind_eq_some_iff, Option.map_eq_some_iff] at h ⊢
  obtain ⟨q, hq, av, hav, p, hp, e⟩ := h
  exact ⟨q, hq, av, hav, p, loadA_mono hle (hb x (by simp) av hav) hp, e⟩
 case store t x y =>
  simp only [Option.bind_eq_some_iff] at h ⊢
  obtain ⟨q, hq, z, hz, av, hav, h⟩ := h
  exact ⟨q, hq, z, hz, av, hav, storeA_mono hle (hb x (by simp) av hav) h⟩
 case alloc t => exact h
 case box t x => exact h
 case pick c x y => exact h
 case build t ps => exact h
 case buildSlice t len ps => exact h
 case makeSlice t x y => exact h
 case slice t x lo hi mx => exact h
 case field t x f => exact h
 case fieldAddr t x f =>
  rw [Option.bind_eq_some_iff] at h ⊢
  obtain ⟨q, hq, h⟩ := h
  refine ⟨q, hq, ?_⟩
  cases hc : (E.lay q.2).isSome with
  | false => rw [hc] at h; cases h
  | true =>
   rw [hc] at h
   simp only [cond_true, Option.bind_eq_some_iff] at h ⊢
   obtain ⟨av, hav, h⟩ := h
   have hbv := hb x (by simp) av hav
   refine ⟨av, hav, ?_⟩
   split at h
   ·rename_i id ver off
    cases hp : isPtr bx (.ptr id ver off) with
    | false => rw [hp] at h; cases h
    | true => rw [hp] at h; rw [isPtr_mono hle hbv hp]; exact h
   ·rename_i id ver sz i off
    have hb' : ver < us id := by simpa [AV.bd] using hbv
    split at h
    ·rename_i ver' f T l hB
     cases hv : Nat.beq ver ver' with
     | false => rw [hv] at h; cases h
     | true =>
      have hv' := Nat.eq_of_beq_eq_true hv
      subst hv'
      rw [hle id _ (by exact hb') hB]
      exact h
    ·cases h
   ·exact h
   ·cases h
 case nilCheck x =>
  rw [Option.bind_eq_some_iff] at h ⊢
  obtain ⟨av, hav, h⟩ := h
  have hbv := hb x (by simp) av hav
  refine ⟨av, hav, ?_⟩
  split at h
  ·rename_i id ver off
   cases hp : isPtr bx (.ptr id ver off) with
   | false => rw [hp] at h; cases h
   | true => rw [hp] at h; rw [isPtr_mono hle hbv hp]; exact h
  ·rename_i id ver sz i off
   have hb' : ver < us id := by simpa [AV.bd] using hbv
   split at h
   ·rename_i ver' f T l hB
    cases hv : Nat.beq ver ver' with
    | false => rw [hv] at h; cases h
    | true =>
     have hv' := Nat.eq_of_beq_eq_true hv
     subst hv'
     rw [hle id _ (by exact hb') hB]
     exact h
   ·cases h
  ·exact h
  ·cases h
 case indexAddr t x i =>
  simp only [Option.bind_eq_some_iff, Option.map_eq_some_iff] at h ⊢
  obtain ⟨av, hav, j, hj, p, hp, e⟩ := h
  exact ⟨av, hav, j, hj, p, idxA_mono hle (hb x (by simp) av hav) hp, e⟩
 case index t x i => exact h
 case extract x k => exact h
 case binOp op t x y t' =>
  cases hpt : E.pt t with
  | true =>
   rw [hpt] at h
   simp only [cond_true] at h ⊢
   split at h
   ·rename_i p q hp hq
    cases hc : (isPtr bx p && isNilP q) with
    | false => rw [hc] at h; cases h
    | true =>
     rw [hc] at h
     rw [Bool.and_eq_true] at hc
     rw [isPtr_mono hle (hb x (by simp) p hp) hc.1, hc.2]
     exact h
   ·rename_i p q hp hq
    cases hc : (isPtr bx p && isNilP q) with
    | false => rw [hc] at h; cases h
    | true =>
     rw [hc] at h
     rw [Bool.and_eq_true] at hc
     rw [isPtr_mono hle (hb x (by simp) p hp) hc.1, hc.2]
     exact h
   ·cases h
  | false => rw [hpt] at h; simp only [cond_false] at h ⊢; exact h
 case unOp op t x => exact h
 case convert t t' x => exact h
 case makeFunc f first caps =>
  cases f with
  | func f => exact h
  | _ => cases h
 case call c =>
  split at h
  ·simp only [dynCall] at h ⊢
   split at h
   ·rename_i S _
    cases hf : freeL S.args && freeL S.res with
    | false => rw [hf] at h; cases h
    | true =>
     rw [hf] at h
     simp only [cond_true, Option.bind_eq_some_iff] at h ⊢
     obtain ⟨xs, hxs, h⟩ := h
     refine ⟨xs, asBL_mono (nl := nl) hle _ _ _ (fun av hav => ?_) hxs, h⟩
     obtain ⟨x, hx, hxe⟩ := List.mem_map.1 hav
     exact hb x (by simp [Call.operands, Array.mem_toList_iff.1 hx]) av hxe
   ·cases h
  refine evalCall_mono (nl := nl) hle (fun av hav => ?_) h
  obtain ⟨x, hx, hxe⟩ := List.mem_map.1 hav
  exact hb x (by simp [Call.operands, Array.mem_toList_iff.1 hx]) av hxe
 all_goals cases h
theorem evalOp_congr {op : Op} (h : ∀ x ∈ op.operands, ev x = ev' x) : evalOp E hw dst ev bx op = evalOp E hw dst ev' bx op := by
 have bA : ∀ {t : TypeId} (ps : List (Nat × Operand)) (x : AV), (∀ q ∈ ps, ev q.2 = ev' q.2) -> buildA E t ev ps x = buildA E t ev' ps x := by
  intro t ps
  induction ps with
  | nil => intro _ _; rfl
  | cons q r ih =>
   intro x hq
   obtain ⟨i, o⟩ := q
   have e : ev o = ev' o := hq (i, o) List.mem_cons_self
   simp only [buildA, e, ih _ fun q hr => hq q (List.mem_cons_of_mem _ hr)]
 have bL : ∀ {T : Ty} (ps : List (Nat × Operand)) (x : List T.den), (∀ q ∈ ps, ev q.2 = ev' q.2) -> buildL T ev ps x = buildL T ev' ps x := by
  intro T ps
  induction ps with
  | nil => intro _ _; rfl
  | cons q r ih =>
   intro x hq
   obtain ⟨i, o⟩ := q
   have e : ev o = ev' o := hq (i, o) List.mem_cons_self
   simp only [buildL, e, ih _ fun q hr => hq q (List.mem_cons_of_mem _ hr)]
 have cA : ∀ (xs : List Operand), (∀ x ∈ xs, ev x = ev' x) -> capsA ev xs = capsA ev' xs := by
  intro xs
  induction xs with
  | nil => intro _; rfl
  | cons x l ih => intro hx; simp only [capsA, hx x List.mem_cons_self, ih fun y hy => hx y (List.mem_cons_of_mem _ hy)]
 cases op <;> simp only [Op.operands] at h <;> simp only [evalOp]
 case move x => rw [h x (by simp)]
 case assign x => rw [h x (by simp)]
 case load t x => rw [h x (by simp)]
 case store t x y => rw [h x (by simp), h y (by simp)]
 case box t x => rw [h x (by simp)]
 case build t ps =>
  have hp : ∀ q ∈ ps.toList, ev q.2 = ev' q.2 := fun q hq => h q.2 (by simp; exact ⟨q.1, by simpa using hq⟩)
  cases E.lay t with
  | none => rfl
  | some T => simp only [Option.bind_some]; rw [bA _ _ hp]
 case buildSlice t len ps =>
  have hp : ∀ q ∈ ps.toList, ev q.2 = ev' q.2 := fun q hq => h q.2 (by simp; exact ⟨q.1, by simpa using hq⟩)
  cases E.ty t with
  | none => rfl
  | some T =>
   cases T with
   | list T => simp only [Option.bind_some]; rw [bL _ _ hp]
   | _ => rfl
 case pick c x y => rw [h c (by simp), h x (by simp), h y (by simp)]
 case makeSlice t x y => rw [h x (by simp), h y (by simp)]
 case slice t x lo hi mx =>
  have hb : ∀ (z : Option Operand) (d : Int), (∀ q, z = some q -> ev q = ev' q) -> boundA ev z d = boundA ev' z d := fun z d hz => by
   cases z with
   | none => rfl
   | some q => simp only [boundA]; rw [hz q rfl]
  rw [h x (by simp), hb lo 0 (fun q e => h q (by simp [e]))]
  have hb2 : ∀ d, boundA ev hi d = boundA ev' hi d := fun d => hb hi d (fun q e => h q (by simp [e]))
  have hb3 : ∀ d, boundA ev mx d = boundA ev' mx d := fun d => hb mx d (fun q e => h q (by simp [e]))
  simp only [hb2, hb3]
 case field t x f => rw [h x (by simp)]
 case fieldAddr t x f => rw [h x (by simp)]
 case nilCheck x => rw [h x (by simp)]
 case indexAddr t x i => rw [h x (by simp), h i (by simp)]
 case extract x k => rw [h x (by simp)]
 case index t x i => rw [h x (by simp), h i (by simp)]
 case binOp op t x y t' => rw [h x (by simp), h y (by simp)]
 case unOp op t x => rw [h x (by simp)]
 case convert t t' x => rw [h x (by simp)]
 case makeFunc f first caps =>
  cases f with
  | func f => simp only; rw [cA _ fun x hx => h x (by simp; exact .inr (by simpa using hx))]
  | _ => rfl
 case call c =>
  have hargs : c.args.toList.map ev = c.args.toList.map ev' := List.map_congr_left fun x hx => h x (by simp [Call.operands, Array.mem_toList_iff.1 hx])
  have hdyn : dynF ev c.callee = dynF ev' c.callee := by
   obtain ⟨callee, args, ats⟩ := c
   cases callee with
   | value f =>
    cases f with
    | tmp t => simp only [dynF]; rw [h (.tmp t) (by simp [Call.operands])]
    | _ => rfl
   | _ => rfl
  rw [hargs, hdyn]
end
end Go.Proofs.YtliiapjinminlaaGreat.Rf
