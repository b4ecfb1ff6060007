/- A function's code run upon plain values, in the operations' own order, and that it is what the machine does: whatever the program. No condition. -/
import Derived.Below
import Derived.Orders
import Derived.Laws.CopyRow
import Derived.Laws.Rows
import Derived.Laws.StructEq
namespace Go.Proofs.YtaookeneeemfbaaDoor.Rf
set_option linter.unusedVariables false
set_option linter.unusedSimpArgs false
open Go Go.RowKit Go.Proofs

/-- The types of the plain values. -/
inductive Ty where
  | int (k : IntKind)
  | bool
  | pair (x y : Ty)
  | list (t : Ty)
  deriving DecidableEq

abbrev Ty.den : Ty → Type
  | .int _ => Int
  | .bool => Bool
  | .pair x y => x.den × y.den
  | .list t => List t.den

def Ty.size : Ty → Nat
  | .pair x y => x.size + y.size
  | _ => 1

def All2 {α β : Type} (R : α → β → Prop) : List α → List β → Prop
  | [], [] => True
  | x :: xs, y :: ys => R x y ∧ All2 R xs ys
  | _, _ => False

theorem All2.imp {α β : Type} {R R' : α → β → Prop} (h : ∀ x y, R x y → R' x y) : ∀ {l : List α} {m : List β}, All2 R l m → All2 R' l m
  | [], [], _ => trivial
  | _ :: _, _ :: _, ⟨a, b⟩ => ⟨h _ _ a, All2.imp h b⟩

theorem All2.length {α β : Type} {R : α → β → Prop} : ∀ {l : List α} {m : List β}, All2 R l m → l.length = m.length
  | [], [], _ => rfl
  | _ :: _, _ :: _, ⟨_, b⟩ => by simp [All2.length b]

theorem All2.get {α β : Type} {R : α → β → Prop} : ∀ {l : List α} {m : List β} {n : Nat} {x : α}, All2 R l m → l[n]? = some x → ∃ y, m[n]? = some y ∧ R x y
  | [], [], _, _, _, h => by simp at h
  | _ :: _, y :: _, 0, _, ⟨a, _⟩, h => ⟨y, rfl, by simp at h; exact h ▸ a⟩
  | _ :: _, _ :: _, n + 1, _, ⟨_, b⟩, h => by simpa using All2.get b (by simpa using h)

theorem All2.append {α β : Type} {R : α → β → Prop} : ∀ {l l' : List α} {m m' : List β}, All2 R l m → All2 R l' m' → All2 R (l ++ l') (m ++ m')
  | [], _, [], _, _, h => h
  | _ :: _, _, _ :: _, _, ⟨a, b⟩, h => ⟨a, All2.append b h⟩

theorem All2.drop {α β : Type} {R : α → β → Prop} (n : Nat) : ∀ {l : List α} {m : List β}, All2 R l m → All2 R (l.drop n) (m.drop n) := by
  induction n with
  | zero => intro l m h; simpa using h
  | succ n ih =>
    intro l m h
    match l, m, h with
    | [], [], _ => exact trivial
    | _ :: _, _ :: _, ⟨_, b⟩ => simpa using ih b

theorem All2.take {α β : Type} {R : α → β → Prop} (n : Nat) : ∀ {l : List α} {m : List β}, All2 R l m → All2 R (l.take n) (m.take n) := by
  induction n with
  | zero => intro l m _; simp [All2]
  | succ n ih =>
    intro l m h
    match l, m, h with
    | [], [], _ => exact trivial
    | _ :: _, _ :: _, ⟨a, b⟩ => exact ⟨a, ih b⟩

/-- The row of cells of a block that begins at an offset. -/
def At (w : World) (g off : Nat) (l : List Value) : Prop :=
  ∃ c e z, w.heap[g]? = some (.cells c e z) ∧ ∀ j v, l[j]? = some v → c[off + j]? = some v

/-- The cells that stand for a plain value, in a world; the blocks that its slices lie in are 'ok'. -/
def Holds (w : World) (ok : Nat → Prop) : (T : Ty) → T.den → List Value → Prop
  | .int k, x, cs => cs = [.int k x]
  | .bool, x, cs => cs = [.bool x]
  | .pair a b, x, cs => ∃ c1 c2, cs = c1 ++ c2 ∧ Holds w ok a x.1 c1 ∧ Holds w ok b x.2 c2
  | .list t, x, cs => ∃ (A : Option Addr) (cap : Nat) (css : List (List Value)), cs = [.slice A x.length cap] ∧ (x.length ≤ cap ∧ x.length ≤ 9223372036854775807) ∧
      All2 (Holds w ok t) x css ∧ (x ≠ [] → ∃ ad, A = some ad ∧ ad.spot = none ∧ ok ad.block ∧ At w ad.block ad.off css.flatten)

theorem Holds.map {w w' : World} {ok ok' : Nat → Prop} (h : ∀ k c e z, ok k → w.heap[k]? = some (.cells c e z) → ok' k ∧ w'.heap[k]? = some (.cells c e z)) :
    ∀ (T : Ty) (x : T.den) (cs : List Value), Holds w ok T x cs → Holds w' ok' T x cs
  | .int _, _, _, H => H
  | .bool, _, _, H => H
  | .pair a b, x, _, ⟨c1, c2, e, h1, h2⟩ => ⟨c1, c2, e, Holds.map h a x.1 c1 h1, Holds.map h b x.2 c2 h2⟩
  | .list t, x, _, ⟨A, cap, css, e, hc, h1, h2⟩ => ⟨A, cap, css, e, hc, All2.imp (fun y d hd => Holds.map h t y d hd) h1, fun hx => by
      obtain ⟨ad, hA, hs, hok, c, e, z, hh, hv⟩ := h2 hx
      obtain ⟨ho, hh'⟩ := h _ _ _ _ hok hh
      exact ⟨ad, hA, hs, ho, c, e, z, hh', hv⟩⟩

theorem Holds.bound {w : World} {ok : Nat → Prop} {T : Ty} {x : T.den} {cs : List Value} (h : Holds w ok T x cs) : Holds w (fun k => ok k ∧ k < w.heap.size) T x cs :=
  Holds.map (fun k c e z hk hh => ⟨⟨hk, (Array.getElem?_eq_some_iff.1 hh).1⟩, hh⟩) T x cs h

theorem Holds.len {w : World} {ok : Nat → Prop} : ∀ (T : Ty) (x : T.den) (cs : List Value), Holds w ok T x cs → cs.length = T.size
  | .int _, _, _, h => by simp [h, Ty.size, show _ = _ from h]
  | .bool, _, _, h => by simp [show _ = _ from h, Ty.size]
  | .pair a b, x, _, ⟨c1, c2, e, h1, h2⟩ => by simp [e, Ty.size, Holds.len a x.1 c1 h1, Holds.len b x.2 c2 h2]
  | .list t, x, _, ⟨A, cap, css, e, _⟩ => by simp [e, Ty.size]

theorem tySize_pos : ∀ T : Ty, 0 < T.size
  | .int _ => Nat.one_pos
  | .bool => Nat.one_pos
  | .pair a b => Nat.lt_of_lt_of_le (tySize_pos a) (Nat.le_add_right _ _)
  | .list _ => Nat.one_pos

/-- The value of a type out of its cells. -/
def mkV : Ty → List Value → Value
  | .pair _ _, cs => .agg cs.toArray
  | _, cs => cs.headD undef

def Rep (w : World) (ok : Nat → Prop) (T : Ty) (x : T.den) (v : Value) : Prop := ∃ cs, Holds w ok T x cs ∧ v = mkV T cs

theorem Rep.cells {w : World} {ok : Nat → Prop} {T : Ty} {x : T.den} {v : Value} (h : Rep w ok T x v) : Holds w ok T x v.cells.toList := by
  obtain ⟨cs, hc, rfl⟩ := h
  cases T with
  | int k => have := (show _ = _ from hc); subst this; exact rfl
  | bool => have := (show _ = _ from hc); subst this; exact rfl
  | pair a b => exact hc
  | list t => obtain ⟨A, cap, css, e, r⟩ := hc; subst e; exact ⟨A, cap, css, rfl, r⟩

theorem Rep.map {w w' : World} {ok ok' : Nat → Prop} (h : ∀ k c e z, ok k → w.heap[k]? = some (.cells c e z) → ok' k ∧ w'.heap[k]? = some (.cells c e z))
    {T : Ty} {x : T.den} {v : Value} (hr : Rep w ok T x v) : Rep w' ok' T x v := let ⟨cs, a, b⟩ := hr; ⟨cs, Holds.map h T x cs a, b⟩

section
variable {S : Type} {P : Program} {ops : Array Oper} {md : Region.Mode} {g : Nat → S → Option S} {comm : Nat → Nat → Bool} {inv : S → Prop}

/-- The operations of these numbers, one behind the other, upon abstract states. -/
def runL (g : Nat → S → Option S) : List Nat → S → Option S
  | [], s => some s
  | i :: l, s => (g i s).bind (runL g l)

/-- Whatever order is picked from here on, the abstract run goes through, and ends in a state of 'Q'. -/
def anyA (md : Region.Mode) (ops : Array Oper) (g : Nat → S → Option S) (Q : S → Prop) : Nat → Array Bool → S → Prop
  | 0, listed, s => Region.ready md ops listed = [] ∧ Q s
  | fuel + 1, listed, s => (Region.ready md ops listed = [] → Q s) ∧
      ∀ i ∈ Region.ready md ops listed, ∃ t, g i s = some t ∧ anyA md ops g Q fuel (listed.setIfInBounds i true) t

def CommG (g : Nat → S → Option S) (inv : S → Prop) (i j : Nat) : Prop := ∀ s s1 s2, inv s → g i s = some s1 → g j s1 = some s2 → ∃ t, g j s = some t ∧ g i t = some s2

def KeepsG (g : Nat → S → Option S) (inv : S → Prop) : Prop := ∀ i s t, inv s → g i s = some t → inv t

theorem anyA_first {Q : S → Prop} {i : Nat} (hk : KeepsG g inv) : ∀ (fuel : Nat) (listed : Array Bool) (s s1 : S), inv s →
    (∀ j oj, ops[j]? = some oj → j ≠ i → listed.getD j true = false → (∀ e ∈ oj.after, Region.binds md e = true → e.on ≠ i) → CommG g inv i j) →
    i ∈ Region.ready md ops listed → g i s = some s1 → anyA md ops g Q fuel (listed.setIfInBounds i true) s1 → anyA md ops g Q (fuel + 1) listed s := by
  intro fuel
  induction fuel with
  | zero =>
    intro listed s s1 _ _ hr hy H
    refine ⟨fun h => (by rw [h] at hr; cases hr), fun j hj => ?_⟩
    by_cases hji : j = i
    · subst hji; exact ⟨s1, hy, H⟩
    · have := ready_mono hj hji
      rw [H.1] at this
      cases this
  | succ fuel ih =>
    intro listed s s1 hv hfree hr hy H
    refine ⟨fun h => (by rw [h] at hr; cases hr), fun j hj => ?_⟩
    by_cases hji : j = i
    · subst hji; exact ⟨s1, hy, H⟩
    · obtain ⟨s2, h1, h2⟩ := H.2 j (ready_mono hj hji)
      obtain ⟨hjun, oj, hoj, hall⟩ := mem_ready.1 hj
      have hnot : ∀ e ∈ oj.after, Region.binds md e = true → e.on ≠ i := fun e he hb heq => by
        have h1 := hall e he hb
        have h0 := (mem_ready.1 hr).1
        rw [heq] at h1
        rcases Nat.lt_or_ge i listed.size with h' | h'
        · simp [h'] at h0 h1; rw [h0] at h1; cases h1
        · simp [Array.getElem?_eq_none h'] at h1
      obtain ⟨t, ht1, ht2⟩ := hfree j oj hoj hji hjun hnot s s1 s2 hv hy h1
      refine ⟨t, ht1, ih (listed.setIfInBounds j true) t s2 (hk j s t hv ht1) ?_ (ready_mono hr (Ne.symm hji)) ht2 ?_⟩
      · intro k ok hk hki hun hno
        refine hfree k ok hk hki ?_ hno
        by_cases hjk : j = k
        · subst hjk; exact hjun
        · rw [getD_set_ne true hjk] at hun; exact hun
      · rw [Array.setIfInBounds_comm _ _ hji]
        exact h2

def freeC (comm : Nat → Nat → Bool) (md : Region.Mode) (ops : Array Oper) (listed : Array Bool) (i : Nat) : Bool :=
  (List.range ops.size).all fun j => j == i || listed.getD j true || match ops[j]? with
      | some oj => oj.after.any (fun e => Region.binds md e && e.on == i) || comm i j
      | none => true

theorem freeC_spec {i : Nat} {listed : Array Bool} (h : freeC comm md ops listed i = true) (j : Nat) (oj : Oper)
    (hj : ops[j]? = some oj) (hne : j ≠ i) (hun : listed.getD j true = false) (hno : ∀ e ∈ oj.after, Region.binds md e = true → e.on ≠ i) :
    comm i j = true := by
  simp only [freeC, List.all_eq_true, List.mem_range] at h
  have h1 := h j (Array.getElem?_eq_some_iff.1 hj).1
  simp only [hj, Bool.or_eq_true, beq_iff_eq, hne, false_or, hun, Bool.false_eq_true] at h1
  rcases h1 with h1 | h1
  · obtain ⟨e, he, hb⟩ := Array.any_eq_true'.1 h1
    simp only [Bool.and_eq_true, beq_iff_eq] at hb
    exact absurd hb.2 (hno e he hb.1)
  · exact h1

def lexC (comm : Nat → Nat → Bool) (md : Region.Mode) (ops : Array Oper) : Nat → Nat → Array Bool → Bool
  | 0, _, listed => (Region.ready md ops listed).isEmpty
  | fuel + 1, k, listed => (Region.ready md ops listed).contains k && freeC comm md ops listed k && lexC comm md ops fuel (k + 1) (listed.setIfInBounds k true)

theorem anyA_lex {Q : S → Prop} (hk : KeepsG g inv) (hc : ∀ i j, comm i j = true → CommG g inv i j) : ∀ (n k : Nat) (listed : Array Bool) (s t : S), inv s →
    lexC comm md ops n k listed = true → runL g (List.range' k n) s = some t → Q t → anyA md ops g Q n listed s
  | 0, _, listed, s, t, _, hB, h, hQ => by
    simp [runL] at h
    subst h
    exact ⟨by simpa [lexC] using hB, hQ⟩
  | n + 1, k, listed, s, t, hv, hB, h, hQ => by
    simp only [lexC, Bool.and_eq_true] at hB
    obtain ⟨⟨hr, hf⟩, hB'⟩ := hB
    rw [List.range'_succ] at h
    simp only [runL, Option.bind_eq_some_iff] at h
    obtain ⟨s1, h1, h2⟩ := h
    exact anyA_first hk n listed s s1 hv (fun j oj hj hne hun hno => hc _ _ (freeC_spec hf j oj hj hne hun hno)) (by simpa using hr) h1
      (anyA_lex hk hc n (k + 1) _ s1 t (hk k s s1 hv h1) hB' h2 hQ)

/-- What an abstract step is worth. -/
def SoundG (P : Program) (ops : Array Oper) (g : Nat → S → Option S) (rel : S → Act → World → Prop) : Prop :=
  ∀ (i : Nat) (o : Oper) (s t : S) (a : Act) (w : World), ops[i]? = some o → rel s a w → g i s = some t →
    ∀ (Q : Exit → Act → World → Prop) (K : Act → World → Prop), (∀ a' w', rel t a' w' → K a' w') → wpOp P ops Q i K a w

theorem wpAny_of_anyA {rel : S → Act → World → Prop} (hs : SoundG P ops g rel) {Q : Exit → Act → World → Prop} {QA : S → Prop}
    (hQ : ∀ s a w, QA s → rel s a w → Q .normal a w) : ∀ (fuel : Nat) (listed : Array Bool) (s : S) (a : Act) (w : World),
      anyA md ops g QA fuel listed s → rel s a w → wpAny P md ops Q fuel listed a w
  | 0, _, s, a, w, h, hr => ⟨h.1, hQ s a w h.2 hr⟩
  | fuel + 1, listed, s, a, w, h, hr => ⟨fun h0 => hQ s a w (h.1 h0) hr, fun i hi => by
      obtain ⟨t, h1, h2⟩ := h.2 i hi
      obtain ⟨_, o, ho, _⟩ := mem_ready.1 hi
      exact hs i o s t a w ho hr h1 Q _ (fun a' w' hr' => wpAny_of_anyA hs hQ fuel _ t a' w' h2 hr')⟩

/-- A region that asks the tape: ONE ABSTRACT RUN in the operations' own order serves every order. -/
theorem wp_region_abs {rel : S → Act → World → Prop} {Q : Exit → Act → World → Prop} {id : Nat} {a : Act} {w : World} {s t : S} (hm : P.follows .mixedOrders = true)
    (hs : SoundG P ops g rel) (hk : KeepsG g inv) (hv : inv s) (hc : ∀ i j, comm i j = true → CommG g inv i j) (hB : lexC comm .any ops ops.size 0 (Array.replicate ops.size false) = true)
    (hrel : rel s a { w with drawn := w.drawn + 1 }) (h : runL g (List.range' 0 ops.size) s = some t) (hQ : ∀ a w, rel t a w → Q .normal a w) :
    (Code.region id ops true).wp P Q a w :=
  wp_region_any hm (wpAny_of_anyA (QA := fun x => x = t) hs (fun x a w hx hr => hQ a w (hx ▸ hr)) _ _ s a _ (anyA_lex hk hc _ 0 _ s t hv hB h rfl) hrel)

theorem wpOps_of_runL {rel : S → Act → World → Prop} (hs : SoundG P ops g rel) {Q : Exit → Act → World → Prop} : ∀ (l : List Nat) (s t : S) (a : Act) (w : World),
    (∀ i ∈ l, i < ops.size) → runL g l s = some t → rel s a w → (∀ a w, rel t a w → Q .normal a w) → wpOps P ops Q l a w
  | [], s, t, a, w, _, h, hr, hQ => by
    simp [runL] at h
    subst h
    exact hQ a w hr
  | i :: l, s, t, a, w, hl, h, hr, hQ => by
    simp only [runL, Option.bind_eq_some_iff] at h
    obtain ⟨s1, h1, h2⟩ := h
    rw [wpOps_cons]
    have hi := hl i (by simp)
    exact hs i ops[i] s s1 a w (Array.getElem?_eq_getElem hi) hr h1 Q _ (fun a' w' hr' => wpOps_of_runL hs l s1 t a' w' (fun j hj => hl j (List.mem_cons_of_mem _ hj)) h2 hr' hQ)

/-- A region that asks nothing. -/
theorem wp_region_abs' {rel : S → Act → World → Prop} {Q : Exit → Act → World → Prop} {id : Nat} {a : Act} {w : World} {s t : S}
    (hs : SoundG P ops g rel) (hrel : rel s a w) (h : runL g (List.range' 0 ops.size) s = some t) (hQ : ∀ a w, rel t a w → Q .normal a w) :
    (Code.region id ops false).wp P Q a w :=
  wp_region (by
    rw [List.range_eq_range']
    exact wpOps_of_runL hs _ s t a w (fun i hi => by simpa using hi) h hrel hQ)

end
/-- A world, and what holds of it and of all that it grows to. -/
structure GW (G : World → Prop) where
  w : World
  g : ∀ w', Below w.heap.size w w' → G w'

/-! ### plain values out of cells, parts of plain values -/

def decI (k : IntKind) : List Value → Option Int
  | [.int k' n] => if k = k' then some n else none
  | _ => none
def decB : List Value → Option Bool
  | [.bool x] => some x
  | _ => none
def decN {α : Type} : List Value → Option (List α)
  | [.slice none 0 0] => some []
  | _ => none

/-- A constant's cells, as a plain value (an empty slice: none). -/
def decL : (U : Ty) → List Value → Option U.den
  | .int k, cs => decI k cs
  | .bool, cs => decB cs
  | .pair a b, cs => (decL a (cs.take a.size)).bind fun x => (decL b (cs.drop a.size)).bind fun y => some (x, y)
  | .list _, cs => decN cs

theorem decL_holds {w : World} {ok : Nat → Prop} : ∀ (U : Ty) (cs : List Value) (x : U.den), decL U cs = some x → Holds w ok U x cs
  | .int k, cs, x, h => by
    have h' : decI k cs = some x := h
    unfold decI at h'
    split at h'
    · split at h'
      · rename_i e; subst e; cases h'; exact rfl
      · cases h'
    · cases h'
  | .bool, cs, x, h => by
    have h' : decB cs = some x := h
    unfold decB at h'
    split at h'
    · cases h'; exact rfl
    · cases h'
  | .pair a b, cs, x, h => by
    simp only [decL, Option.bind_eq_some_iff] at h
    obtain ⟨y, hy, z, hz, e⟩ := h
    cases e
    exact ⟨_, _, (List.take_append_drop a.size cs).symm, decL_holds a _ y hy, decL_holds b _ z hz⟩
  | .list t, cs, x, h => by
    have h' : decN cs = some x := h
    unfold decN at h'
    split at h'
    · cases h'; exact ⟨none, 0, [], rfl, ⟨Nat.le_refl _, Nat.zero_le _⟩, trivial, fun h => absurd rfl h⟩
    · cases h'

def decV : (U : Ty) → Value → Option U.den
  | .pair a b, .agg cs => decL (.pair a b) cs.toList
  | .pair _ _, _ => none
  | .int k, v => decL (.int k) [v]
  | .bool, v => decL .bool [v]
  | .list t, v => decL (.list t) [v]

theorem decV_rep {w : World} {ok : Nat → Prop} {U : Ty} {v : Value} {x : U.den} (h : decV U v = some x) : Rep w ok U x v := by
  cases U with
  | int k => exact ⟨[v], decL_holds _ _ _ h, rfl⟩
  | bool => exact ⟨[v], decL_holds _ _ _ h, rfl⟩
  | list t => exact ⟨[v], decL_holds _ _ _ h, rfl⟩
  | pair a b =>
    cases v <;> simp only [decV] at h <;> try cases h
    rename_i cs
    exact ⟨cs.toList, decL_holds _ _ _ h, rfl⟩

/-- The part at an offset. -/
def sub : (T : Ty) → T.den → Nat → (U : Ty) → Option U.den
  | .pair a b, x, off, U => if h : Ty.pair a b = U then (if off = 0 then some (h ▸ x) else none) else if off < a.size then sub a x.1 off U else sub b x.2 (off - a.size) U
  | .int k, x, off, U => if h : Ty.int k = U then (if off = 0 then some (h ▸ x) else none) else none
  | .bool, x, off, U => if h : Ty.bool = U then (if off = 0 then some (h ▸ x) else none) else none
  | .list t, x, off, U => if h : Ty.list t = U then (if off = 0 then some (h ▸ x) else none) else none

theorem sub_self {T U : Ty} {x : T.den} {y : U.den} {off : Nat} (h : T = U) (hy : (if off = 0 then some (h ▸ x) else none) = some y) :
    off = 0 ∧ HEq x y := by
  subst h
  split at hy
  · exact ⟨by assumption, by cases hy; exact HEq.rfl⟩
  · cases hy

theorem sub_holds {w : World} {ok : Nat → Prop} : ∀ (T : Ty) (x : T.den) (off : Nat) (U : Ty) (y : U.den) (cs : List Value),
    sub T x off U = some y → Holds w ok T x cs → Holds w ok U y ((cs.drop off).take U.size) ∧ off + U.size ≤ T.size
  | .int k, x, off, U, y, cs, h, hh => by
    unfold sub at h
    split at h
    · rename_i e
      obtain ⟨rfl, hxy⟩ := sub_self e h
      subst e; cases hxy
      have hl := Holds.len _ _ _ hh
      exact ⟨by rw [List.drop_zero, List.take_of_length_le (by omega)]; exact hh, by omega⟩
    · cases h
  | .bool, x, off, U, y, cs, h, hh => by
    unfold sub at h
    split at h
    · rename_i e
      obtain ⟨rfl, hxy⟩ := sub_self e h
      subst e; cases hxy
      have hl := Holds.len _ _ _ hh
      exact ⟨by rw [List.drop_zero, List.take_of_length_le (by omega)]; exact hh, by omega⟩
    · cases h
  | .list t, x, off, U, y, cs, h, hh => by
    unfold sub at h
    split at h
    · rename_i e
      obtain ⟨rfl, hxy⟩ := sub_self e h
      subst e; cases hxy
      have hl := Holds.len _ _ _ hh
      exact ⟨by rw [List.drop_zero, List.take_of_length_le (by omega)]; exact hh, by omega⟩
    · cases h
  | .pair a b, x, off, U, y, cs, h, hh => by
    unfold sub at h
    split at h
    · rename_i e
      obtain ⟨rfl, hxy⟩ := sub_self e h
      subst e; cases hxy
      have hl := Holds.len _ _ _ hh
      exact ⟨by rw [List.drop_zero, List.take_of_length_le (by omega)]; exact hh, by omega⟩
    · obtain ⟨c1, c2, rfl, h1, h2⟩ := hh
      have l1 := Holds.len _ _ _ h1
      have l2 := Holds.len _ _ _ h2
      split at h
      · obtain ⟨r, hr⟩ := sub_holds a x.1 off U y c1 h h1
        refine ⟨?_, by simp only [Ty.size]; omega⟩
        rw [List.drop_append_of_le_length (by omega), List.take_append_of_le_length (by simp; omega)]
        exact r
      · obtain ⟨r, hr⟩ := sub_holds b x.2 (off - a.size) U y c2 h h2
        refine ⟨?_, by simp only [Ty.size]; omega⟩
        rw [List.drop_append, List.drop_of_length_le (by omega), List.nil_append, l1]
        exact r

/-- The plain value with another part at an offset. -/
def upd : (T : Ty) → T.den → Nat → (U : Ty) → U.den → Option T.den
  | .pair a b, x, off, U, y => if h : U = Ty.pair a b then (if off = 0 then some (h ▸ y) else none) else if off < a.size then (upd a x.1 off U y).bind fun z => some (z, x.2)
      else (upd b x.2 (off - a.size) U y).bind fun z => some (x.1, z)
  | .int k, _, off, U, y => if h : U = Ty.int k then (if off = 0 then some (h ▸ y) else none) else none
  | .bool, _, off, U, y => if h : U = Ty.bool then (if off = 0 then some (h ▸ y) else none) else none
  | .list t, _, off, U, y => if h : U = Ty.list t then (if off = 0 then some (h ▸ y) else none) else none

theorem upd_self {w : World} {ok : Nat → Prop} {T U : Ty} {z : T.den} {y : U.den} {off : Nat} {cs ds : List Value} (h : U = T) (hy : (if off = 0 then some (h ▸ y) else none) = some z)
    (hc : cs.length = T.size) (hd : Holds w ok U y ds) : Holds w ok T z (cs.take off ++ ds ++ cs.drop (off + U.size)) ∧ off + U.size ≤ T.size := by
  subst h
  split at hy
  · rename_i h0
    cases hy
    subst h0
    rw [List.take_zero, List.nil_append, List.drop_of_length_le (by omega), List.append_nil]
    exact ⟨hd, by omega⟩
  · cases hy

theorem upd_holds {w : World} {ok : Nat → Prop} : ∀ (T : Ty) (x : T.den) (off : Nat) (U : Ty) (y : U.den) (z : T.den) (cs ds : List Value),
    upd T x off U y = some z → Holds w ok T x cs → Holds w ok U y ds → Holds w ok T z (cs.take off ++ ds ++ cs.drop (off + U.size)) ∧ off + U.size ≤ T.size
  | .int k, x, off, U, y, z, cs, ds, h, hh, hd => by
    unfold upd at h
    split at h
    · rename_i e; exact upd_self e h (Holds.len _ _ _ hh) hd
    · cases h
  | .bool, x, off, U, y, z, cs, ds, h, hh, hd => by
    unfold upd at h
    split at h
    · rename_i e; exact upd_self e h (Holds.len _ _ _ hh) hd
    · cases h
  | .list t, x, off, U, y, z, cs, ds, h, hh, hd => by
    unfold upd at h
    split at h
    · rename_i e; exact upd_self e h (Holds.len _ _ _ hh) hd
    · cases h
  | .pair a b, x, off, U, y, z, cs, ds, h, hh, hd => by
    unfold upd at h
    split at h
    · rename_i e; exact upd_self e h (Holds.len _ _ _ hh) hd
    · obtain ⟨c1, c2, rfl, h1, h2⟩ := hh
      have l1 := Holds.len _ _ _ h1
      have l2 := Holds.len _ _ _ h2
      split at h
      · simp only [Option.bind_eq_some_iff] at h
        obtain ⟨q, hq, e⟩ := h
        cases e
        obtain ⟨r, hr⟩ := upd_holds a x.1 off U y q c1 ds hq h1 hd
        refine ⟨⟨_, c2, ?_, r, h2⟩, by simp only [Ty.size]; omega⟩
        rw [List.take_append_of_le_length (by omega), List.drop_append_of_le_length (by omega)]
        simp [List.append_assoc]
      · simp only [Option.bind_eq_some_iff] at h
        obtain ⟨q, hq, e⟩ := h
        cases e
        obtain ⟨r, hr⟩ := upd_holds b x.2 (off - a.size) U y q c2 ds hq h2 hd
        refine ⟨⟨c1, _, ?_, h1, r⟩, by simp only [Ty.size]; omega⟩
        rw [List.take_append, List.take_of_length_le (by omega), l1, List.drop_append, List.drop_of_length_le (by omega), List.nil_append, l1]
        rw [show off + U.size - a.size = off - a.size + U.size by omega]
        simp [List.append_assoc]

def zeroT : (T : Ty) → T.den
  | .int _ => (0 : Int)
  | .bool => false
  | .pair a b => (zeroT a, zeroT b)
  | .list _ => []

/-! ### abstract states -/

/-- What a temporary may hold: a constant; a plain value; the results of a call; an address in a variable of this call's own; an address in memory that nobody writes. -/
inductive AV where
  | cst (v : Value)
  | v (T : Ty) (x : T.den)
  | tup (l : List (Sigma Ty.den))
  | ptr (id off : Nat)
  | ro (T : Ty) (x : T.den) (off : Nat)

structure St where
  tm : Nat → Option AV
  bx : Nat → Option (Sigma Ty.den)

def RepA (w : World) (ok : Nat → Prop) (ρ : Nat → Nat) : AV → Value → Prop
  | .cst c, v => v = c
  | .v T x, v => Rep w ok T x v
  | .tup l, v => ∃ vs : List Value, v = .tuple vs.toArray ∧ All2 (fun (s : Sigma Ty.den) u => Rep w ok s.1 s.2 u) l vs
  | .ptr id off, v => v = .pointer (some ⟨ρ id, off, none⟩)
  | .ro T x off, v => ∃ g o cs, v = .pointer (some ⟨g, o + off, none⟩) ∧ ok g ∧ At w g o cs ∧ Holds w ok T x cs

theorem At.map {w w' : World} {g off : Nat} {l : List Value} (h : ∀ c e z, w.heap[g]? = some (.cells c e z) → w'.heap[g]? = some (.cells c e z)) (ha : At w g off l) : At w' g off l := by
  obtain ⟨c, e, z, hh, hv⟩ := ha
  exact ⟨c, e, z, h _ _ _ hh, hv⟩

theorem RepA.map {w w' : World} {ok ok' : Nat → Prop} {ρ ρ' : Nat → Nat} (h : ∀ k c e z, ok k → w.heap[k]? = some (.cells c e z) → ok' k ∧ w'.heap[k]? = some (.cells c e z))
    {av : AV} {v : Value} (hp : ∀ id off, av = .ptr id off → ρ' id = ρ id) (hr : RepA w ok ρ av v) : RepA w' ok' ρ' av v := by
  cases av with
  | cst c => exact hr
  | v T x => exact Rep.map h hr
  | tup l => obtain ⟨vs, e, ha⟩ := hr; exact ⟨vs, e, All2.imp (fun s u hu => Rep.map h hu) ha⟩
  | ptr id off => rw [RepA, hp id off rfl]; exact hr
  | ro T x off =>
    obtain ⟨g, o, cs, e, hok, ha, hh⟩ := hr
    obtain ⟨c, el, z, hg, hv⟩ := ha
    obtain ⟨h1, h2⟩ := h _ _ _ _ hok hg
    exact ⟨g, o, cs, e, h1, ⟨c, el, z, h2, hv⟩, Holds.map h _ _ _ hh⟩

/-- The type's value, out of what a temporary holds. -/
def asT (U : Ty) : AV → Option U.den
  | .v T x => if h : T = U then some (h ▸ x) else none
  | .cst v => decV U v
  | _ => none

theorem asT_rep {w : World} {ok : Nat → Prop} {ρ : Nat → Nat} {U : Ty} {av : AV} {x : U.den} {v : Value} (h : asT U av = some x) (hr : RepA w ok ρ av v) : Rep w ok U x v := by
  cases av with
  | cst c => rw [show v = c from hr]; exact decV_rep h
  | v T y =>
    simp only [asT] at h
    split at h
    · rename_i e; subst e; cases h; exact hr
    · cases h
  | _ => simp [asT] at h

/-- A whole number, of whatever kind. -/
def asI : AV → Option Int
  | .v (.int _) x => some x
  | .cst (.int _ n) => some n
  | _ => none

theorem asI_rep {w : World} {ok : Nat → Prop} {ρ : Nat → Nat} {av : AV} {n : Int} {v : Value} (h : asI av = some n) (hr : RepA w ok ρ av v) : ∃ k, v = .int k n := by
  unfold asI at h
  split at h
  · cases h
    obtain ⟨cs, hc, rfl⟩ := hr
    rw [show cs = _ from hc]
    exact ⟨_, rfl⟩
  · cases h
    exact ⟨_, hr⟩
  · cases h

def okS {G : World → Prop} (w0 : GW G) (ok0 : Nat → Prop) (ρ : Nat → Nat) (s : St) (k : Nat) : Prop := (ok0 k ∨ w0.w.heap.size ≤ k) ∧ ∀ id, (s.bx id).isSome = true → ρ id ≠ k

structure RelC {G : World → Prop} (n : Nat) (w0 : GW G) (ok0 : Nat → Prop) (ρ : Nat → Nat) (s : St) (a : Act) (w : World) : Prop where
  size : a.tmps.size = n
  defers : a.defers = []
  tm : ∀ t av, s.tm t = some av → RepA w (okS w0 ok0 ρ s) ρ av (a.tmps.getD t undef)
  bx : ∀ id T x, s.bx id = some ⟨T, x⟩ → w0.w.heap.size ≤ ρ id ∧ ∃ cs e, w.heap[ρ id]? = some (.cells cs e (0, 0)) ∧ Holds w (okS w0 ok0 ρ s) T x cs.toList
  inj : ∀ i j, (s.bx i).isSome = true → (s.bx j).isSome = true → ρ i = ρ j → i = j
  inv : ∀ t id off, s.tm t = some (.ptr id off) → (s.bx id).isSome = true
  below : Below w0.w.heap.size w0.w w

def Rel {G : World → Prop} (n : Nat) (w0 : GW G) (ok0 : Nat → Prop) (s : St) (a : Act) (w : World) : Prop := ∃ ρ, RelC n w0 ok0 ρ s a w

section
variable {n : Nat} {G : World → Prop} {w0 : GW G} {ok0 : Nat → Prop} {ρ : Nat → Nat} {s : St} {a : Act} {w w' : World}

theorem getD_set_self {xs : Array Value} {d : Nat} {v : Value} (h : d < xs.size) : (xs.setIfInBounds d v).getD d undef = v := by
  simp [h]
theorem getD_set_other {xs : Array Value} {d t : Nat} {v : Value} (h : d ≠ t) : (xs.setIfInBounds d v).getD t undef = xs.getD t undef := by
  simp [Array.getElem?_setIfInBounds_ne h]

def St.put (s : St) (d : Nat) (av : AV) : St := { s with tm := fun t => bif Nat.beq t d then some av else s.tm t }
theorem St.put_tm {s : St} {d t : Nat} {av : AV} : (s.put d av).tm t = if t = d then some av else s.tm t := by
  unfold St.put
  simp only
  by_cases h : t = d
  · rw [if_pos h, h, Nat.beq_refl]; rfl
  · rw [if_neg h, Bool.eq_false_iff.2 (fun e => h (Nat.eq_of_beq_eq_true e))]; rfl

theorem RelC.put (h : RelC n w0 ok0 ρ s a w) {d : Nat} {av : AV} {v : Value} (hd : d < n) (hr : RepA w (okS w0 ok0 ρ s) ρ av v)
    (hi : ∀ id off, av = .ptr id off → (s.bx id).isSome = true) : RelC n w0 ok0 ρ (s.put d av) (a.put (some d) v) w where
  size := by simp [Act.put, h.size]
  defers := h.defers
  tm := fun t bv hb => by
    rw [St.put_tm] at hb
    simp only [Act.put]
    split at hb
    · rename_i e; subst e; cases hb; rw [getD_set_self (by rw [h.size]; exact hd)]; exact hr
    · rename_i e; rw [getD_set_other (Ne.symm e)]; exact h.tm t bv hb
  bx := h.bx
  inj := h.inj
  inv := fun t id off hb => by
    rw [St.put_tm] at hb
    split at hb
    · exact hi id off (Option.some.inj hb)
    · exact h.inv t id off hb
  below := h.below

/-- The world moves on, and what there was stays. -/
theorem RelC.step (h : RelC n w0 ok0 ρ s a w) (hb : Below w.heap.size w w') : RelC n w0 ok0 ρ s a w' := by
  have hm : ∀ k c e z, okS w0 ok0 ρ s k → w.heap[k]? = some (.cells c e z) → okS w0 ok0 ρ s k ∧ w'.heap[k]? = some (.cells c e z) := fun k c e z hk hh =>
    ⟨hk, by rw [hb.block k (Array.getElem?_eq_some_iff.1 hh).1]; exact hh⟩
  refine ⟨h.size, h.defers, fun t av ht => RepA.map hm (fun _ _ _ => rfl) (h.tm t av ht), fun id T x hx => ?_, h.inj, h.inv, h.below.trans (hb.mono h.below.size)⟩
  obtain ⟨h1, cs, e, h2, h3⟩ := h.bx id T x hx
  exact ⟨h1, cs, e, by rw [hb.block _ (Array.getElem?_eq_some_iff.1 h2).1]; exact h2, Holds.map hm _ _ _ h3⟩

theorem RelC.same {w' : World} (h : RelC n w0 ok0 ρ s a w) (hb : Below w.heap.size w w') {av : AV} {v : Value} (hr : RepA w (okS w0 ok0 ρ s) ρ av v) : RepA w' (okS w0 ok0 ρ s) ρ av v :=
  RepA.map (fun k _ _ _ hk hh => ⟨hk, by rw [hb.block k (Array.getElem?_eq_some_iff.1 hh).1]; exact hh⟩) (fun _ _ _ => rfl) hr

def St.new (s : St) (d : Nat) (T : Ty) (x : T.den) : St :=
  { tm := fun t => bif Nat.beq t d then some (.ptr d 0) else s.tm t, bx := fun t => bif Nat.beq t d then some ⟨T, x⟩ else s.bx t }
def St.sto (s : St) (d : Nat) (T : Ty) (x : T.den) : St := { s with bx := fun t => bif Nat.beq t d then some ⟨T, x⟩ else s.bx t }
theorem bif_beq {α : Type} {t d : Nat} {x y : α} : (bif Nat.beq t d then x else y) = if t = d then x else y := by
  by_cases h : t = d
  · rw [if_pos h, h, Nat.beq_refl]; rfl
  · rw [if_neg h, Bool.eq_false_iff.2 (fun e => h (Nat.eq_of_beq_eq_true e))]; rfl

theorem RelC.new (h : RelC n w0 ok0 ρ s a w) {d : Nat} {T : Ty} {x : T.den} {cs : Array Value} {e : TypeId} (hd : d < n) (hn : s.bx d = none)
    (hr : Holds w (okS w0 ok0 ρ s) T x cs.toList) :
    RelC n w0 ok0 (fun i => if i = d then w.heap.size else ρ i) (s.new d T x) (a.put (some d) (.pointer (some ⟨w.heap.size, 0, none⟩))) (w.alloc (.cells cs e)) := by
  have hsz : ∀ id, (s.bx id).isSome = true → ρ id < w.heap.size := fun id hs => by
    obtain ⟨⟨T, x⟩, hx⟩ := Option.isSome_iff_exists.1 hs
    obtain ⟨_, cs, e, h2, _⟩ := h.bx id T x hx
    exact (Array.getElem?_eq_some_iff.1 h2).1
  have hne : ∀ id, (s.bx id).isSome = true → id ≠ d := fun id hs e => by rw [e, hn] at hs; cases hs
  have hm : ∀ k c e' z, okS w0 ok0 ρ s k → w.heap[k]? = some (.cells c e' z) →
      okS w0 ok0 (fun i => if i = d then w.heap.size else ρ i) (s.new d T x) k ∧ (w.alloc (.cells cs e)).heap[k]? = some (.cells c e' z) := fun k c e' z hk hh => by
    have hlt := (Array.getElem?_eq_some_iff.1 hh).1
    refine ⟨⟨hk.1, fun id hid => ?_⟩, by rw [Below.heap_alloc _ _ _ hlt]; exact hh⟩
    simp only [St.new, bif_beq] at hid
    by_cases hdd : id = d
    · simp only [hdd, if_true]; omega
    · simp only [hdd, if_false] at hid ⊢; exact hk.2 id hid
  refine ⟨by simp [Act.put, h.size], h.defers, fun t av ht => ?_, fun id U y hy => ?_, fun i j hi hj hij => ?_, fun t id off ht => ?_, h.below.alloc h.below.size _⟩
  · simp only [St.new, bif_beq] at ht
    simp only [Act.put]
    split at ht
    · rename_i e0; subst e0; cases ht
      rw [getD_set_self (by rw [h.size]; exact hd)]
      simp [RepA]
    · rename_i e0
      rw [getD_set_other (Ne.symm e0)]
      refine RepA.map hm (fun id off e1 => ?_) (h.tm t av ht)
      subst e1
      rw [if_neg (hne id (h.inv t id off ht))]
  · simp only [St.new, bif_beq] at hy
    split at hy
    · rename_i e0; subst e0; cases hy
      simp only [if_true]
      refine ⟨h.below.size, cs, e, ?_, Holds.map hm _ _ _ hr⟩
      show (w.heap.push _)[w.heap.size]? = _
      simp
    · rename_i e0
      obtain ⟨h1, cs', e', h2, h3⟩ := h.bx id U y hy
      simp only [e0, if_false]
      exact ⟨h1, cs', e', by rw [Below.heap_alloc _ _ _ (Array.getElem?_eq_some_iff.1 h2).1]; exact h2, Holds.map hm _ _ _ h3⟩
  · simp only [St.new, bif_beq] at hi hj
    by_cases e1 : i = d <;> by_cases e2 : j = d
    · rw [e1, e2]
    · simp only [e1, e2, if_true, if_false] at hij hj
      have := hsz j hj; omega
    · simp only [e1, e2, if_true, if_false] at hij hi
      have := hsz i hi; omega
    · simp only [e1, e2, if_false] at hi hj hij
      exact h.inj i j hi hj hij
  · simp only [St.new, bif_beq] at ht ⊢
    split at ht
    · cases ht; simp
    · split
      · rfl
      · exact h.inv t id off ht

theorem RelC.sto (h : RelC n w0 ok0 ρ s a w) {d : Nat} {T : Ty} {x : T.den} {cs : Array Value} (hn : (s.bx d).isSome = true)
    (hr : Holds w (okS w0 ok0 ρ s) T x cs.toList) (hw : w' = w.setRow (ρ d) cs) : RelC n w0 ok0 ρ (s.sto d T x) a w' := by
  subst hw
  obtain ⟨⟨T0, x0⟩, hx0⟩ := Option.isSome_iff_exists.1 hn
  obtain ⟨hge, cs0, e0, hh0, _⟩ := h.bx d T0 x0 hx0
  have hother : ∀ k, k ≠ ρ d → (w.setRow (ρ d) cs).heap[k]? = w.heap[k]? := fun k hk => by
    simp only [World.setRow, Array.getElem?_modify]
    rw [if_neg (Ne.symm hk)]
  have hsome : ∀ id, ((s.sto d T x).bx id).isSome = true → (s.bx id).isSome = true := fun id hid => by
    simp only [St.sto, bif_beq] at hid
    split at hid
    · rename_i e; rw [e]; exact hn
    · exact hid
  have hm : ∀ k c e' z, okS w0 ok0 ρ s k → w.heap[k]? = some (.cells c e' z) →
      okS w0 ok0 ρ (s.sto d T x) k ∧ (w.setRow (ρ d) cs).heap[k]? = some (.cells c e' z) := fun k c e' z hk hh =>
    ⟨⟨hk.1, fun id hid => hk.2 id (hsome id hid)⟩, by rw [hother k (Ne.symm (hk.2 d hn))]; exact hh⟩
  refine ⟨h.size, h.defers, fun t av ht => RepA.map hm (fun _ _ _ => rfl) (h.tm t av ht), fun id U y hy => ?_, fun i j hi hj => h.inj i j (hsome i hi) (hsome j hj), fun t id off ht => ?_, ?_⟩
  · simp only [St.sto, bif_beq] at hy
    split at hy
    · rename_i e1; subst e1; cases hy
      refine ⟨hge, cs, e0, setRow_heap w (ρ id) cs0 cs e0 _ hh0, Holds.map hm _ _ _ hr⟩
    · rename_i e1
      obtain ⟨h1, cs', e', h2, h3⟩ := h.bx id U y hy
      refine ⟨h1, cs', e', ?_, Holds.map hm _ _ _ h3⟩
      rw [hother _ (fun e2 => e1 (h.inj id d (by rw [hy]; rfl) hn e2))]
      exact h2
  · simp only [St.sto, bif_beq]
    split
    · rfl
    · exact h.inv t id off ht
  · exact h.below.trans ⟨rfl, rfl, rfl, by simp [World.setRow], fun k hk => hother k (by omega)⟩

end
/-! ### operations upon abstract states -/

abbrev HL : List Ty → Type
  | [] => Unit
  | T :: l => T.den × HL l

def RepL (w : World) (ok : Nat → Prop) : (l : List Ty) → HL l → List Value → Prop
  | [], _, vs => vs = []
  | T :: l, x, vs => ∃ v r, vs = v :: r ∧ Rep w ok T x.1 v ∧ RepL w ok l x.2 r

def toSg : (l : List Ty) → HL l → List (Sigma Ty.den)
  | [], _ => []
  | T :: l, x => ⟨T, x.1⟩ :: toSg l x.2

/-- What a call's result is to the caller. -/
def resAV : (l : List Ty) → HL l → AV
  | [T], x => .v T x.1
  | l, x => .tup (toSg l x)

structure Spec where
  args : List Ty
  res : List Ty
  F : HL args → Option (HL res)

def SpecOK (P : Program) (G : World → Prop) (f : FuncId) (S : Spec) : Prop :=
  (∃ fn c, P.funcs[f]? = some fn ∧ (fn.name == "runtime.NumGoroutine") = false ∧ fn.body = some c) ∧
  ∀ (w : World) (ok : Nat → Prop) (xs : HL S.args) (vs : List Value) (r : HL S.res), (∀ w', Below w.heap.size w w' → G w') → RepL w ok S.args xs vs → S.F xs = some r →
    Calls P f vs.toArray w fun e w' => ∃ v, e = .returned v ∧ Below w.heap.size w w' ∧ RepA w' (fun k => ok k ∨ w.heap.size ≤ k) (fun _ => 0) (resAV S.res r) v

structure Env where
  G : World → Prop
  ty : TypeId → Option Ty
  eq : TypeId → Bool
  str : TypeId → Bool
  fld : TypeId → Nat → Option (Nat × Ty)
  tab : FuncId → Option Spec

def Ty.isPair : Ty → Bool
  | .pair _ _ => true
  | _ => false

def aggD : TypeDesc → Bool
  | .struct _ | .array _ _ => true
  | _ => false

structure TyOK (P : Program) (E : Env) (t : TypeId) (U : Ty) (ti : TypeInfo) (d : TypeDesc) : Prop where
  info : P.info? t = some ti
  desc : P.underlying t = some d
  size : ti.size = U.size
  agg : aggD d = U.isPair
  zero : ∃ z, ti.zero = some z ∧ decV U z = some (zeroT U)
  int : ∀ k, U = .int k → d = .int k
  bool : U = .bool → d = .bool
  list : ∀ T, U = .list T → ∃ e, d = .slice e ∧ E.ty e = some T
  flds : ∀ fs, d = .struct fs → ∀ fd ∈ fs.toList, ∃ ti, P.info? fd.type = some ti

def eqFs (rec : TypeId → Ty → Bool) (E : Env) : List Field → Ty → Nat → Bool
  | [], _, _ => false
  | [f], U, off => (f.name != "_") && f.offset == off && decide (E.ty f.type = some U) && rec f.type U
  | f :: g :: fs, .pair A B, off => (f.name != "_") && f.offset == off && decide (E.ty f.type = some A) && rec f.type A && eqFs rec E (g :: fs) B (off + A.size)
  | _, _, _ => false

/-- That '==' of this type compares part by part. -/
def eqB (P : Program) (E : Env) : Nat → TypeId → Ty → Bool
  | 0, _, _ => false
  | k + 1, t, U =>
    match P.underlying t with
    | some .bool => decide (U = .bool)
    | some (.int j) => decide (U = .int j)
    | some (.struct fs) => !P.stoodInHeld t && U.isPair && eqFs (eqB P E k) E fs.toList U 0
    | _ => false

def beqT : (T : Ty) → T.den → T.den → Bool
  | .int _, x, y => decide ((x : Int) = y)
  | .bool, x, y => x == y
  | .pair a b, x, y => beqT a x.1 y.1 && beqT b x.2 y.2
  | .list _, _, _ => false

structure Env.OK (E : Env) (P : Program) : Prop where
  str : ∀ t, E.str t = true → P.underlying t = some .string
  eq : ∀ t U, E.eq t = true → E.ty t = some U → P.eqGuardType P.depth t = false ∧ eqB P E 20 t U = true
  ty : ∀ t U, E.ty t = some U → ∃ info d, TyOK P E t U info d
  fld : ∀ t f q, E.fld t f = some q → ∃ fs fd, P.underlying t = some (.struct fs) ∧ fs[f]? = some fd ∧ fd.offset = q.1 ∧ E.ty fd.type = some q.2
  tab : ∀ f S, E.tab f = some S → SpecOK P E.G f S

inductive Eff where
  | put (av : AV)
  | new (T : Ty) (x : T.den)
  | sto (id : Nat) (T : Ty) (x : T.den)

def St.ev (s : St) : Operand → Option AV
  | .tmp t => s.tm t
  | .const v => some (.cst v)
  | _ => none

def asL : (l : List Ty) → List (Option AV) → Option (HL l)
  | [], [] => some ()
  | T :: l, av :: r => (av.bind (asT T)).bind fun x => (asL l r).bind fun y => some (x, y)
  | _, _ => none

/-- Whole numbers. -/
def binI (op : BinOp) (k : IntKind) (x y : Int) : Option AV :=
  match op with
  | .add => some (.v (.int k) (k.wrap (x + y)))
  | .sub => some (.v (.int k) (k.wrap (x - y)))
  | .mul => some (.v (.int k) (k.wrap (x * y)))
  | .quo => if y = 0 then none else some (.v (.int k) (k.wrap (x.tdiv y)))
  | .rem => if y = 0 then none else some (.v (.int k) (x.tmod y))
  | .eql => some (.v .bool (x == y))
  | .neq => some (.v .bool (x != y))
  | .lss => some (.v .bool (decide (x < y)))
  | .leq => some (.v .bool (decide (x ≤ y)))
  | .gtr => some (.v .bool (decide (x > y)))
  | .geq => some (.v .bool (decide (x ≥ y)))
  | .and => some (.v (.int k) (k.wrap (BitVec.ofInt k.bits x &&& BitVec.ofInt k.bits y).toNat))
  | .or => some (.v (.int k) (k.wrap (BitVec.ofInt k.bits x ||| BitVec.ofInt k.bits y).toNat))
  | .xor => some (.v (.int k) (k.wrap (BitVec.ofInt k.bits x ^^^ BitVec.ofInt k.bits y).toNat))
  | _ => none

def shiftI (op : BinOp) (k : IntKind) (x y : Int) : Option AV :=
  if y < 0 then none else
  match op with
  | .shl => some (.v (.int k) (k.wrap (x * 2 ^ min y.toNat k.bits)))
  | .shr => some (.v (.int k) (x.fdiv (2 ^ min y.toNat k.bits)))
  | _ => none

def buildA (E : Env) (t : TypeId) (T : Ty) (ev : Operand → Option AV) : List (Nat × Operand) → T.den → Option T.den
  | [], x => some x
  | (i, o) :: r, x =>
    match E.fld t i with
    | some q => match (ev o).bind (asT q.2) with
      | some y => match upd T x q.1 q.2 y with
        | some z => buildA E t T ev r z
        | none => none
      | none => none
    | none => none

def buildL (T : Ty) (ev : Operand → Option AV) : List (Nat × Operand) → List T.den → Option (List T.den)
  | [], l => some l
  | (i, o) :: r, l =>
    match (ev o).bind (asT T) with
    | some y => bif Nat.blt i l.length then buildL T ev r (l.set i y) else none
    | none => none

def evalCall (E : Env) (ats : Array TypeId) (callee : Callee) (avs : List (Option AV)) : Option Eff :=
  match callee with
  | .value (.func f) => (E.tab f).bind fun S => (asL S.args avs).bind fun xs => (S.F xs).map fun r => .put (resAV S.res r)
  | .builtin .len => ((ats[0]?).bind E.ty).bind fun U =>
      match U, avs with
      | .list T, [x] => (x.bind (asT (.list T))).map fun l => .put (.v (.int .i64) (l.length : Int))
      | _, _ => none
  | _ => none

def evalOp (E : Env) (ev : Operand → Option AV) (bx : Nat → Option (Sigma Ty.den)) (op : Op) : Option Eff :=
  match op with
  | .move x | .assign x => (ev x).map .put
  | .load t x => (E.ty t).bind fun U => (ev x).bind fun av =>
      match av with
      | .ptr id off => (bx id).bind fun b => (sub b.1 b.2 off U).map fun y => .put (.v U y)
      | .ro T x off => (sub T x off U).map fun y => .put (.v U y)
      | _ => none
  | .store t x y => (E.ty t).bind fun U => ((ev y).bind (asT U)).bind fun z => (ev x).bind fun av =>
      match av with
      | .ptr id off => (bx id).bind fun b => (upd b.1 b.2 off U z).map fun q => .sto id b.1 q
      | _ => none
  | .alloc t => (E.ty t).map fun U => .new U (zeroT U)
  | .pick c x y => ((ev c).bind (asT .bool)).bind fun b => (bif b then ev x else ev y).map .put
  | .box t x => (E.ty t).bind fun U => ((ev x).bind (asT U)).map fun y => .new U y
  | .build t ps => (E.ty t).bind fun T => if (E.fld t 0).isSome = true then (buildA E t T ev ps.toList (zeroT T)).map fun x => .put (.v T x) else none
  | .buildSlice t len ps => (E.ty t).bind fun U =>
      match U with
      | .list T => if len * T.size ≤ 16777216 then (buildL T ev ps.toList (List.replicate len (zeroT T))).map fun l => .put (.v (.list T) l) else none
      | _ => none
  | .field t x f => (E.ty t).bind fun T => ((ev x).bind (asT T)).bind fun y => (E.fld t f).bind fun q => (sub T y q.1 q.2).map fun z => .put (.v q.2 z)
  | .fieldAddr t x f => (E.fld t f).bind fun q => (ev x).bind fun av =>
      match av with
      | .ptr id off => some (.put (.ptr id (off + q.1)))
      | .ro T x off => some (.put (.ro T x (off + q.1)))
      | _ => none
  | .indexAddr t x i => (E.ty t).bind fun U =>
      match U with
      | .list T => ((ev x).bind (asT (.list T))).bind fun l => ((ev i).bind asI).bind fun m => if 0 ≤ m then (l[m.toNat]?).map fun y => .put (.ro T y 0) else none
      | _ => none
  | .index t x i => if E.str t = true then (ev x).bind fun av =>
      match av with
      | .cst (.string b) => ((ev i).bind asI).bind fun m => if 0 ≤ m then (b[m.toNat]?).map fun y => .put (.v (.int .u8) (y.toNat : Int)) else none
      | _ => none
      else none
  | .extract x k => (ev x).bind fun av =>
      match av with
      | .tup l => (l[k]?).map fun y => .put (.v y.1 y.2)
      | _ => none
  | .binOp op t x y _ => (E.ty t).bind fun U =>
      match U with
      | .int k => ((ev x).bind (asT (.int k))).bind fun a =>
          match op with
          | .shl | .shr => ((ev y).bind asI).bind fun b => (shiftI op k a b).map .put
          | _ => ((ev y).bind (asT (.int k))).bind fun b => (binI op k a b).map .put
      | .bool => ((ev x).bind (asT .bool)).bind fun a => ((ev y).bind (asT .bool)).bind fun b =>
          match op with
          | .eql => some (.put (.v .bool (a == b)))
          | .neq => some (.put (.v .bool (!(a == b))))
          | _ => none
      | .pair p q => ((ev x).bind (asT (.pair p q))).bind fun a => ((ev y).bind (asT (.pair p q))).bind fun b =>
          if E.eq t = true then
            match op with
            | .eql => some (.put (.v .bool (beqT (.pair p q) a b)))
            | .neq => some (.put (.v .bool (!(beqT (.pair p q) a b))))
            | _ => none
          else none
      | _ => none
  | .unOp op t x => (E.ty t).bind fun U =>
      match U, op with
      | .bool, .not => ((ev x).bind (asT .bool)).map fun a => .put (.v .bool (!a))
      | .int k, .neg => ((ev x).bind (asT (.int k))).map fun a => .put (.v (.int k) (k.wrap (0 - a)))
      | _, _ => none
  | .convert src dst x => (E.ty src).bind fun U => (E.ty dst).bind fun V =>
      match U, V with
      | .int k, .int k' => ((ev x).bind (asT (.int k))).map fun a => .put (.v (.int k') (k'.wrap a))
      | _, _ => none
  | .call c => evalCall E c.argTypes c.callee (c.args.toList.map ev)
  | _ => none

section
variable {P : Program} {E : Env} {n : Nat} {w0 : GW E.G} {ok0 : Nat → Prop} {ρ : Nat → Nat} {s : St} {a : Act} {w w' : World} {o : Oper}

theorem RelC.ev (h : RelC n w0 ok0 ρ s a w) {x : Operand} {av : AV} (he : s.ev x = some av) : RepA w (okS w0 ok0 ρ s) ρ av (a.eval x) := by
  cases x with
  | tmp t => exact h.tm t av he
  | const v => cases he; exact rfl
  | global g => cases he
  | func f => cases he

theorem RelC.evT (h : RelC n w0 ok0 ρ s a w) {x : Operand} {U : Ty} {y : U.den} (he : (s.ev x).bind (asT U) = some y) : Rep w (okS w0 ok0 ρ s) U y (a.eval x) := by
  rw [Option.bind_eq_some_iff] at he
  obtain ⟨av, h1, h2⟩ := he
  exact asT_rep h2 (h.ev h1)

theorem RelC.evP (h : RelC n w0 ok0 ρ s a w) {x : Operand} {id off : Nat} (he : s.ev x = some (.ptr id off)) : (s.bx id).isSome = true := by
  cases x with
  | tmp t => exact h.inv t id off he
  | const v => cases he
  | global g => cases he
  | func f => cases he

theorem Rep.int {ok : Nat → Prop} {k : IntKind} {x : Int} {v : Value} (h : Rep w ok (.int k) x v) : v = .int k x := by
  obtain ⟨cs, hc, rfl⟩ := h
  rw [show cs = _ from hc]; rfl
theorem Rep.bool {ok : Nat → Prop} {x : Bool} {v : Value} (h : Rep w ok .bool x v) : v = .bool x := by
  obtain ⟨cs, hc, rfl⟩ := h
  rw [show cs = _ from hc]; rfl
theorem Rep.of_int {ok : Nat → Prop} {k : IntKind} {x : Int} : Rep w ok (.int k) x (.int k x) := ⟨[.int k x], rfl, rfl⟩
theorem Rep.of_bool {ok : Nat → Prop} {x : Bool} : Rep w ok .bool x (.bool x) := ⟨[.bool x], rfl, rfl⟩

/-- What an operation gives: a value, or a call's result. -/
def Gives (P : Program) (o : Oper) (a : Act) (w : World) (R : Value → World → Prop) : Prop :=
  (∃ v w', (execOp a.eval o).run P w = .ok (.value v) w' ∧ R v w') ∨
  (∃ f args, (execOp a.eval o).run P w = .ok (.enter f args) w ∧ Calls P f args w fun e w' => ∃ v, e = .returned v ∧ R v w')

def EffOK (P : Program) (o : Oper) (a : Act) (w : World) {G : World → Prop} (w0 : GW G) (ok0 : Nat → Prop) (ρ : Nat → Nat) (s : St) : Eff → Prop
  | .put av => (∀ id off, av = .ptr id off → (s.bx id).isSome = true) ∧ Gives P o a w fun v w' => Below w.heap.size w w' ∧ RepA w' (okS w0 ok0 ρ s) ρ av v
  | .new T x => ∃ cs e, (execOp a.eval o).run P w = .ok (.value (.pointer (some ⟨w.heap.size, 0, none⟩))) (w.alloc (.cells cs e)) ∧ Holds w (okS w0 ok0 ρ s) T x cs.toList
  | .sto id T x => (s.bx id).isSome = true ∧ ∃ cs, (execOp a.eval o).run P w = .ok .skip (w.setRow (ρ id) cs) ∧ Holds w (okS w0 ok0 ρ s) T x cs.toList

theorem EffOK.val {v : Value} {av : AV} (hv : (execOp a.eval o).run P w = .ok (.value v) w) (hr : RepA w (okS w0 ok0 ρ s) ρ av v) (hp : ∀ id off, av = .ptr id off → (s.bx id).isSome = true) :
    EffOK P o a w w0 ok0 ρ s (.put av) := ⟨hp, .inl ⟨v, w, hv, Below.refl _ _, hr⟩⟩

theorem run_loadVar_at {t : TypeId} {U : Ty} {info : TypeInfo} {d : TypeDesc} (hU : TyOK P E t U info d) {g off : Nat} {ds : List Value} (ha : At w g off ds) (hl : ds.length = U.size) :
    (loadVar t ⟨g, off, none⟩).run P w = .ok (mkV U ds) w := by
  obtain ⟨c, e, z, hh, hv⟩ := ha
  have hadd : ∀ j, (⟨g, off, none⟩ : Addr).add j = ⟨g, off + j, none⟩ := fun j => by unfold Addr.add; split <;> simp_all
  have hc : ∀ j v, ds[j]? = some v → w.cell? ((⟨g, off, none⟩ : Addr).add j) = some v := fun j v hj => by
    rw [hadd]; simp only [World.cell?, hh]; exact hv j v hj
  have hag : (isAgg t).run P w = .ok U.isPair w := by
    unfold isAgg
    rw [Sem.run_bind, run_underlying hU.desc w, ← hU.agg]
    cases d <;> rfl
  have hsz : (sizeOf t).run P w = .ok U.size w := by simp [sizeOf, typeInfo, hU.info, hU.size]
  unfold loadVar
  rw [Sem.run_bind, hag]
  simp only [Result.andThen_ok]
  cases U with
  | pair x y =>
    have h2 := run_loadCells_list (P := P) w ⟨g, off, none⟩ ds hc
    rw [hl] at h2
    simp only [Ty.isPair, if_true, Sem.run_bind, hsz, Result.andThen_ok, h2, Sem.run_pure]
    rfl
  | int k =>
    match ds, hl with
    | [v], _ =>
      have := hc 0 v rfl
      simp only [Ty.isPair, Bool.false_eq_true, if_false, run_load]
      rw [show (⟨g, off, none⟩ : Addr) = (⟨g, off, none⟩ : Addr).add 0 from rfl, this]
      rfl
  | bool =>
    match ds, hl with
    | [v], _ =>
      have := hc 0 v rfl
      simp only [Ty.isPair, Bool.false_eq_true, if_false, run_load]
      rw [show (⟨g, off, none⟩ : Addr) = (⟨g, off, none⟩ : Addr).add 0 from rfl, this]
      rfl
  | list k =>
    match ds, hl with
    | [v], _ =>
      have := hc 0 v rfl
      simp only [Ty.isPair, Bool.false_eq_true, if_false, run_load]
      rw [show (⟨g, off, none⟩ : Addr) = (⟨g, off, none⟩ : Addr).add 0 from rfl, this]
      rfl

theorem At.part {g off k m : Nat} {cs : List Value} (h : At w g off cs) : At w g (off + k) ((cs.drop k).take m) := by
  obtain ⟨c, e, z, hh, hv⟩ := h
  refine ⟨c, e, z, hh, fun j v hj => ?_⟩
  rw [List.getElem?_take] at hj
  split at hj
  · rw [List.getElem?_drop] at hj
    rw [Nat.add_assoc]
    exact hv _ _ hj
  · cases hj

theorem evalOp_load (hE : E.OK P) (h : RelC n w0 ok0 ρ s a w) {t : TypeId} {x : Operand} (ho : o.op = .load t x) {eff : Eff} (he : evalOp E s.ev s.bx (.load t x) = some eff) : EffOK P o a w w0 ok0 ρ s eff := by
  simp only [evalOp, Option.bind_eq_some_iff] at he
  obtain ⟨U, hU, av, hav, he⟩ := he
  obtain ⟨info, d, hok⟩ := hE.ty t U hU
  have hrep := h.ev hav
  have key : ∀ g off ds (y : U.den), a.eval x = .pointer (some ⟨g, off, none⟩) → At w g off ds → Holds w (okS w0 ok0 ρ s) U y ds → EffOK P o a w w0 ok0 ρ s (.put (.v U y)) := fun g off ds y hx ha hh =>
    EffOK.val (v := mkV U ds) (by
      simp only [execOp, ho, hx, Instr.loadAt, Instr.sureAddr, Sem.run_bind, Sem.run_pure, Result.andThen_ok, run_loadVar_at hok ha (Holds.len _ _ _ hh)]) ⟨ds, hh, rfl⟩ (fun _ _ e => by cases e)
  cases av with
  | ptr id off =>
    simp only [Option.bind_eq_some_iff, Option.map_eq_some_iff] at he
    obtain ⟨⟨T, b⟩, hb, y, hy, e⟩ := he
    subst e
    obtain ⟨_, cs, el, hh, hc⟩ := h.bx id T b hb
    obtain ⟨h1, h2⟩ := sub_holds _ _ _ _ _ _ hy hc
    refine key (ρ id) off _ y hrep ?_ h1
    have : At w (ρ id) 0 cs.toList := ⟨cs, el, _, hh, fun j v hj => by simpa using hj⟩
    simpa using At.part (k := off) (m := U.size) this
  | ro T b off =>
    simp only [Option.map_eq_some_iff] at he
    obtain ⟨y, hy, e⟩ := he
    subst e
    obtain ⟨g, o', cs, hx, hk, ha, hc⟩ := hrep
    obtain ⟨h1, h2⟩ := sub_holds _ _ _ _ _ _ hy hc
    exact key g (o' + off) _ y hx (At.part ha) h1
  | _ => simp at he

theorem Holds.one {ok : Nat → Prop} : ∀ (T : Ty) (x : T.den) (cs : List Value), Holds w ok T x cs → ∀ v ∈ cs, v.oneCell' = true
  | .int _, _, _, h, v, hv => by rw [show _ = _ from h] at hv; simp at hv; subst hv; rfl
  | .bool, _, _, h, v, hv => by rw [show _ = _ from h] at hv; simp at hv; subst hv; rfl
  | .pair a b, x, _, ⟨c1, c2, e, h1, h2⟩, v, hv => by
    rw [e, List.mem_append] at hv
    rcases hv with hv | hv
    · exact Holds.one a x.1 c1 h1 v hv
    · exact Holds.one b x.2 c2 h2 v hv
  | .list _, _, _, ⟨_, _, _, e, _⟩, v, hv => by rw [e] at hv; simp at hv; subst hv; rfl

theorem evalOp_store (hE : E.OK P) (h : RelC n w0 ok0 ρ s a w) {t : TypeId} {x y : Operand} (ho : o.op = .store t x y) {eff : Eff} (he : evalOp E s.ev s.bx (.store t x y) = some eff) : EffOK P o a w w0 ok0 ρ s eff := by
  simp only [evalOp, Option.bind_eq_some_iff (x := E.ty t), Option.bind_eq_some_iff (x := (s.ev y).bind _), Option.bind_eq_some_iff (x := s.ev x)] at he
  obtain ⟨U, hU, z, hz, av, hav, he⟩ := he
  obtain ⟨info, d, hok⟩ := hE.ty t U hU
  have hrep := h.ev hav
  have hz' := (h.evT hz).cells
  cases av with
  | ptr id off =>
    simp only [Option.bind_eq_some_iff, Option.map_eq_some_iff] at he
    obtain ⟨⟨T, b⟩, hb, q, hq, e⟩ := he
    subst e
    obtain ⟨_, cs, el, hh, hc⟩ := h.bx id T b hb
    have hlz := Holds.len _ _ _ hz'
    have hlc := Holds.len _ _ _ hc
    obtain ⟨h1, h2⟩ := upd_holds _ _ _ _ _ _ _ _ hq hc hz'
    dsimp only at h1 h2
    have hx : a.eval x = .pointer (some ⟨ρ id, off, none⟩) := hrep
    have hsz : (sizeOf t).run P w = .ok U.size w := by simp [sizeOf, typeInfo, hok.info, hok.size]
    refine ⟨by rw [hb]; rfl, (cs.toList.take off ++ (a.eval y).cells.toList ++ cs.toList.drop (off + U.size)).toArray, ?_, h1⟩
    have hst := run_storeCells_at (P := P) (ρ id) off el (a.eval y).cells.toList 0 cs w hh (by simp at hlc hlz ⊢; omega) (Holds.one _ _ _ hz')
    simp only [Nat.add_zero] at hst
    simp only [execOp, ho, hx, Instr.storeAt, Instr.sureAddr, storeVar, Sem.run_bind, Sem.run_pure, Result.andThen_ok, hsz]
    rw [if_neg (by simp at hlz; omega)]
    simp only [Sem.run_bind, Sem.run_pure, Result.andThen_ok, hst, hlz]

  | _ => simp at he

theorem evalOp_move (h : RelC n w0 ok0 ρ s a w) {x : Operand} (ho : o.op = .move x ∨ o.op = .assign x) {eff : Eff} (he : (s.ev x).map Eff.put = some eff) : EffOK P o a w w0 ok0 ρ s eff := by
  rw [Option.map_eq_some_iff] at he
  obtain ⟨av, hav, e⟩ := he
  subst e
  refine EffOK.val (v := a.eval x) ?_ (h.ev hav) (fun id off e => h.evP (e ▸ hav))
  rcases ho with ho | ho <;> simp only [execOp, ho, Sem.run_pure]

theorem run_zero (hE : E.OK P) {t : TypeId} {U : Ty} (hU : E.ty t = some U) (w : World) : ∃ z, (zeroValue t).run P w = .ok z w ∧ ∀ ok, Rep w ok U (zeroT U) z := by
  obtain ⟨info, d, hok⟩ := hE.ty t U hU
  obtain ⟨z, h1, h2⟩ := hok.zero
  exact ⟨z, by simp [zeroValue, typeInfo, hok.info, h1], fun ok => decV_rep h2⟩

theorem evalOp_alloc (hE : E.OK P) {t : TypeId} (ho : o.op = .alloc t) {eff : Eff} (he : evalOp E s.ev s.bx (.alloc t) = some eff) : EffOK P o a w w0 ok0 ρ s eff := by
  simp only [evalOp, Option.map_eq_some_iff] at he
  obtain ⟨U, hU, e⟩ := he
  subst e
  obtain ⟨z, hz, hr⟩ := run_zero hE hU w
  refine ⟨z.cells, t, ?_, (hr _).cells⟩
  simp only [execOp, ho, Instr.alloc, Sem.run_bind, hz, Result.andThen_ok, newVar, newRow, run_newObj, Sem.run_pure, World.alloc_eq]

theorem evalOp_box (h : RelC n w0 ok0 ρ s a w) {t : TypeId} {x : Operand} (ho : o.op = .box t x) {eff : Eff} (he : evalOp E s.ev s.bx (.box t x) = some eff) : EffOK P o a w w0 ok0 ρ s eff := by
  simp only [evalOp, Option.map_eq_some_iff, Option.bind_eq_some_iff (x := E.ty t)] at he
  obtain ⟨U, hU, y, hy, e⟩ := he
  subst e
  refine ⟨(a.eval x).cells, t, ?_, (h.evT hy).cells⟩
  simp only [execOp, ho, Instr.box, Sem.run_bind, Result.andThen_ok, newVar, newRow, run_newObj, Sem.run_pure, World.alloc_eq]

theorem Rep.of_cells {ok : Nat → Prop} {U : Ty} {y : U.den} {cs : List Value} (h : Holds w ok U y cs) : Rep w ok U y (mkV U cs) := ⟨cs, h, rfl⟩

theorem run_part {t : TypeId} {U : Ty} {ti : TypeInfo} {d : TypeDesc} (hU : TyOK P E t U ti d) {cs : List Value} {off : Nat} (hl : off + U.size ≤ cs.length) :
    (part t cs.toArray off).run P w = .ok (mkV U ((cs.drop off).take U.size)) w := by
  have hag : (isAgg t).run P w = .ok U.isPair w := by
    unfold isAgg
    rw [Sem.run_bind, run_underlying hU.desc w, ← hU.agg]
    cases d <;> rfl
  have hsz : (sizeOf t).run P w = .ok U.size w := by simp [sizeOf, typeInfo, hU.info, hU.size]
  unfold part
  rw [Sem.run_bind, hag]
  simp only [Result.andThen_ok]
  have sc : U.size = 1 → (match cs.toArray[off]? with | some v => pure v | none => stuck "part: no such cell" : Sem Value).run P w = .ok (((cs.drop off).take U.size).headD undef) w := fun h1 => by
    rw [h1] at hl ⊢
    have hlt : off < cs.length := by omega
    simp [hlt, List.head?_take]
  cases U with
  | pair x y =>
    simp only [Ty.isPair, if_true, Sem.run_bind, hsz, Result.andThen_ok, Sem.run_pure, mkV]
    congr 2
    rw [List.extract_toArray]
    simp [List.extract_eq_take_drop]
  | int k => exact sc rfl
  | bool => exact sc rfl
  | list k => exact sc rfl

theorem evalOp_field (hE : E.OK P) (h : RelC n w0 ok0 ρ s a w) {t : TypeId} {x : Operand} {f : Nat} (ho : o.op = .field t x f) {eff : Eff} (he : evalOp E s.ev s.bx (.field t x f) = some eff) : EffOK P o a w w0 ok0 ρ s eff := by
  simp only [evalOp, Option.map_eq_some_iff, Option.bind_eq_some_iff (x := E.ty t), Option.bind_eq_some_iff (x := (s.ev x).bind _), Option.bind_eq_some_iff (x := E.fld t f)] at he
  obtain ⟨T, hT, y, hy, ⟨off, U⟩, hq, z, hz, e⟩ := he
  subst e
  obtain ⟨fs, fd, hd, hf, ho1, ho2⟩ := hE.fld t f _ hq
  obtain ⟨ti, d, hok⟩ := hE.ty t T hT
  obtain ⟨ti', d', hok'⟩ := hE.ty _ U ho2
  have hagg := hok.agg
  rw [show d = _ from Option.some.inj (hok.desc.symm.trans hd)] at hagg
  obtain ⟨cs, hc, hv⟩ := h.evT hy
  cases T with
  | pair p q =>
    obtain ⟨h1, h2⟩ := sub_holds _ _ _ _ _ _ hz hc
    dsimp only at h1 h2
    have hx : a.eval x = .agg cs.toArray := hv
    refine EffOK.val (v := mkV U ((cs.drop off).take U.size)) ?_ (Rep.of_cells h1) (fun _ _ e => by cases e)
    simp only [execOp, ho, hx, Instr.field, Sem.run_bind, run_underlying hd, Result.andThen_ok, hf, asAgg, Sem.run_pure, ho1, run_part hok' (show off + U.size ≤ cs.length by rw [Holds.len _ _ _ hc]; exact h2)]
  | _ => simp [aggD, Ty.isPair] at hagg

theorem evalOp_fieldAddr (hE : E.OK P) (h : RelC n w0 ok0 ρ s a w) {t : TypeId} {x : Operand} {f : Nat} (ho : o.op = .fieldAddr t x f) {eff : Eff} (he : evalOp E s.ev s.bx (.fieldAddr t x f) = some eff) : EffOK P o a w w0 ok0 ρ s eff := by
  simp only [evalOp, Option.bind_eq_some_iff] at he
  obtain ⟨⟨off, U⟩, hq, av, hav, he⟩ := he
  obtain ⟨fs, fd, hd, hf, ho1, ho2⟩ := hE.fld t f _ hq
  obtain ⟨ti', d', hok'⟩ := hE.ty _ U ho2
  have hadd : ∀ g k j, (⟨g, k, none⟩ : Addr).add j = ⟨g, k + j, none⟩ := fun g k j => by unfold Addr.add; split <;> simp_all
  have hsz : (sizeOf fd.type).run P w = .ok U.size w := by simp [sizeOf, typeInfo, hok'.info, hok'.size]
  have hrep := h.ev hav
  have hpos := tySize_pos U
  have key : ∀ g k, a.eval x = .pointer (some ⟨g, k, none⟩) → (execOp a.eval o).run P w = .ok (.value (.pointer (some ⟨g, k + off, none⟩))) w := fun g k hx => by
    simp only [execOp, ho, hx, Instr.fieldAt, Sem.run_bind, run_underlying hd, Result.andThen_ok, hf, Instr.sureAddr, Sem.run_pure, fieldPlace, hsz]
    rw [if_neg (by omega)]
    simp only [Sem.run_pure, Result.andThen_ok, hadd, ho1]
  cases av with
  | ptr id k =>
    cases he
    exact EffOK.val (key _ _ hrep) rfl (fun id' _ e => by cases e; exact h.evP hav)
  | ro T y k =>
    cases he
    obtain ⟨g, o', cs, hx, hk, ha, hc⟩ := hrep
    exact EffOK.val (key _ _ hx) ⟨g, o', cs, by rw [Nat.add_assoc], hk, ha, hc⟩ (fun _ _ e => by cases e)
  | _ => simp at he

end
section
variable {P : Program} {E : Env} {n : Nat} {w0 : GW E.G} {ok0 : Nat → Prop} {ρ : Nat → Nat} {s : St} {a : Act} {w w' : World} {o : Oper}

theorem Holds.flat {ok : Nat → Prop} {T : Ty} : ∀ {l : List T.den} {css : List (List Value)}, All2 (Holds w ok T) l css → ∀ (m : Nat) (c : List Value), css[m]? = some c →
    ∀ j v, c[j]? = some v → css.flatten[m * T.size + j]? = some v
  | [], [], _, m, c, hc => by simp at hc
  | x :: l, d :: css, ⟨h1, h2⟩, 0, c, hc => fun j v hj => by
    simp at hc
    subst hc
    have : j < d.length := (List.getElem?_eq_some_iff.1 hj).1
    rw [List.flatten_cons, Nat.zero_mul, Nat.zero_add, List.getElem?_append_left this]
    exact hj
  | x :: l, d :: css, ⟨h1, h2⟩, m + 1, c, hc => fun j v hj => by
    have hl := Holds.len _ _ _ h1
    have := Holds.flat h2 m c (by simpa using hc) j v hj
    rw [List.flatten_cons, List.getElem?_append_right (by rw [hl, Nat.add_mul]; omega), hl]
    rw [show (m + 1) * T.size + j - T.size = m * T.size + j by rw [Nat.add_mul]; omega]
    exact this

/-- An element of a list. -/
theorem Rep.elem {ok : Nat → Prop} {T : Ty} {l : List T.den} {v : Value} {m : Nat} {y : T.den} (h : Rep w ok (.list T) l v) (hm : l[m]? = some y) :
    ∃ A cap cs, v = .slice (some A) l.length cap ∧ A.spot = none ∧ ok A.block ∧ At w A.block (A.off + m * T.size) cs ∧ Holds w ok T y cs := by
  obtain ⟨cs, ⟨A, cap, css, e, hc, h1, h2⟩, rfl⟩ := h
  subst e
  obtain ⟨c, hcm, hy⟩ := All2.get h1 hm
  have hne : l ≠ [] := fun e => by rw [e] at hm; simp at hm
  obtain ⟨ad, rfl, hs, hok, cc, el, z, hh, hv⟩ := h2 hne
  refine ⟨ad, cap, c, rfl, hs, hok, ⟨cc, el, z, hh, fun j v hj => ?_⟩, hy⟩
  rw [Nat.add_assoc]
  exact hv _ _ (Holds.flat h1 m c hcm j v hj)

theorem evalOp_indexAddr (hE : E.OK P) (h : RelC n w0 ok0 ρ s a w) {t : TypeId} {x i : Operand} (ho : o.op = .indexAddr t x i) {eff : Eff} (he : evalOp E s.ev s.bx (.indexAddr t x i) = some eff) : EffOK P o a w w0 ok0 ρ s eff := by
  simp only [evalOp, Option.bind_eq_some_iff (x := E.ty t)] at he
  obtain ⟨U, hU, he⟩ := he
  obtain ⟨ti, d, hok⟩ := hE.ty t U hU
  cases U with
  | list T =>
    simp only [Option.bind_eq_some_iff (x := (s.ev x).bind _), Option.bind_eq_some_iff (x := (s.ev i).bind _)] at he
    obtain ⟨l, hl, m, hm, he⟩ := he
    split at he
    · rename_i h0
      rw [Option.map_eq_some_iff] at he
      obtain ⟨y, hy, e⟩ := he
      subst e
      obtain ⟨e, hd, hel⟩ := hok.list T rfl
      obtain ⟨ti', d', hok'⟩ := hE.ty e T hel
      obtain ⟨A, cap, cs, hx, hs, hb, hat, hh⟩ := Rep.elem (h.evT hl) hy
      rw [Option.bind_eq_some_iff] at hm
      obtain ⟨av, hav, hm⟩ := hm
      obtain ⟨k, hi⟩ := asI_rep hm (h.ev hav)
      have hlt : m.toNat < l.length := (List.getElem?_eq_some_iff.1 hy).1
      have hsz : (sizeOf e).run P w = .ok T.size w := by simp [sizeOf, typeInfo, hok'.info, hok'.size]
      have hadd : A.add (m.toNat * T.size) = ⟨A.block, A.off + m.toNat * T.size, none⟩ := by
        obtain ⟨b, of, sp⟩ := A
        simp only at hs
        subst hs
        unfold Addr.add; split <;> simp_all
      refine EffOK.val (v := .pointer (some ⟨A.block, A.off + m.toNat * T.size, none⟩)) ?_ ⟨_, _, cs, rfl, hb, hat, hh⟩ (fun _ _ e => by cases e)
      have hc : (0 : Int) ≤ m ∧ m < (l.length : Int) := ⟨h0, by omega⟩
      simp only [execOp, ho, hx, hi, Instr.indexAt, asIntOf, Sem.run_bind, Sem.run_pure, Result.andThen_ok, run_underlying (hd ▸ hok.desc), pure_bind, Sem.run_ite, if_pos hc, hsz, hadd]
    · cases he
  | _ => simp at he

theorem All2.map_get {R : Sigma Ty.den → Value → Prop} {l : List (Sigma Ty.den)} {vs : List Value} (h : All2 R l vs) {k : Nat} {y : Sigma Ty.den} (hk : l[k]? = some y) : ∃ v, vs[k]? = some v ∧ R y v := All2.get h hk

theorem evalOp_index (hE : E.OK P) (h : RelC n w0 ok0 ρ s a w) {t : TypeId} {x i : Operand} (ho : o.op = .index t x i) {eff : Eff} (he : evalOp E s.ev s.bx (.index t x i) = some eff) : EffOK P o a w w0 ok0 ρ s eff := by
  simp only [evalOp] at he
  split at he
  · rename_i hs
    rw [Option.bind_eq_some_iff] at he
    obtain ⟨av, hav, he⟩ := he
    have hrep := h.ev hav
    split at he
    · rename_i b
      rw [Option.bind_eq_some_iff] at he
      obtain ⟨m, hm, he⟩ := he
      split at he
      · rename_i h0
        rw [Option.map_eq_some_iff] at he
        obtain ⟨y, hy, e⟩ := he
        subst e
        rw [Option.bind_eq_some_iff] at hm
        obtain ⟨bv, hbv, hm⟩ := hm
        obtain ⟨k, hi⟩ := asI_rep hm (h.ev hbv)
        have hx : a.eval x = .string b := hrep
        refine EffOK.val (v := .int .u8 y.toNat) ?_ Rep.of_int (fun _ _ e => by cases e)
        simp only [execOp, ho, hx, hi, Instr.index, asIntOf, Sem.run_bind, Sem.run_pure, Result.andThen_ok, run_underlying (hE.str t hs), if_pos h0, hy]
      · cases he
    · cases he
  · cases he

theorem evalOp_extract (h : RelC n w0 ok0 ρ s a w) {x : Operand} {k : Nat} (ho : o.op = .extract x k) {eff : Eff} (he : evalOp E s.ev s.bx (.extract x k) = some eff) : EffOK P o a w w0 ok0 ρ s eff := by
  simp only [evalOp, Option.bind_eq_some_iff] at he
  obtain ⟨av, hav, he⟩ := he
  have hrep := h.ev hav
  cases av with
  | tup l =>
    simp only [Option.map_eq_some_iff] at he
    obtain ⟨y, hy, e⟩ := he
    subst e
    obtain ⟨vs, hx, ha⟩ := hrep
    obtain ⟨v, hv, hr⟩ := All2.get ha hy
    refine EffOK.val (v := v) ?_ hr (fun _ _ e => by cases e)
    simp [execOp, ho, hx, Instr.extract, hv]
  | _ => simp at he

theorem evalOp_unOp (hE : E.OK P) (h : RelC n w0 ok0 ρ s a w) {op : UnOp} {t : TypeId} {x : Operand} (ho : o.op = .unOp op t x) {eff : Eff} (he : evalOp E s.ev s.bx (.unOp op t x) = some eff) : EffOK P o a w w0 ok0 ρ s eff := by
  simp only [evalOp, Option.bind_eq_some_iff (x := E.ty t)] at he
  obtain ⟨U, hU, he⟩ := he
  split at he
  · rw [Option.map_eq_some_iff] at he
    obtain ⟨b, hb, e⟩ := he
    subst e
    have hx := (h.evT hb).bool
    exact EffOK.val (v := .bool !b) (by simp [execOp, ho, hx, Op.unary]) Rep.of_bool (fun _ _ e => by cases e)
  · rw [Option.map_eq_some_iff] at he
    obtain ⟨b, hb, e⟩ := he
    subst e
    rename_i k
    have hx := (h.evT hb).int
    exact EffOK.val (v := .int k (k.wrap (0 - b))) (by simp [execOp, ho, hx, Op.unary, Op.intArith]) Rep.of_int (fun _ _ e => by cases e)
  · cases he

theorem evalOp_convert (hE : E.OK P) (h : RelC n w0 ok0 ρ s a w) {t t' : TypeId} {x : Operand} (ho : o.op = .convert t t' x) {eff : Eff} (he : evalOp E s.ev s.bx (.convert t t' x) = some eff) : EffOK P o a w w0 ok0 ρ s eff := by
  simp only [evalOp, Option.bind_eq_some_iff (x := E.ty t), Option.bind_eq_some_iff (x := E.ty t')] at he
  obtain ⟨U, hU, V, hV, he⟩ := he
  obtain ⟨ti, d, hok⟩ := hE.ty t U hU
  obtain ⟨ti', d', hok'⟩ := hE.ty t' V hV
  split at he
  · rename_i k k'
    rw [Option.map_eq_some_iff] at he
    obtain ⟨b, hb, e⟩ := he
    subst e
    have hx := (h.evT hb).int
    have e1 := hok.int k rfl
    have e2 := hok'.int k' rfl
    subst e1; subst e2
    exact EffOK.val (v := .int k' (k'.wrap b)) (by
      simp only [execOp, ho, hx, convert, Sem.run_bind, run_underlying hok.desc, run_underlying hok'.desc, Result.andThen_ok, Conv.intToInt, Sem.run_pure]) Rep.of_int (fun _ _ e => by cases e)
  · cases he

theorem run_binOp_int {op : BinOp} {k : IntKind} {x y : Int} {t : TypeId} {av : AV} (hb : binI op k x y = some av) (h1 : op ≠ .shl) (h2 : op ≠ .shr) : ∃ v, (binOp op t (.int k x) (.int k y)).run P w = .ok v w ∧
    (∀ ok ρ, RepA w ok ρ av v) ∧ ∀ id off, av ≠ .ptr id off := by
  cases op <;> simp only [binI] at hb
  case shl => exact absurd rfl h1
  case shr => exact absurd rfl h2
  case quo =>
    split at hb <;> cases hb
    rename_i hz
    exact ⟨_, by simp [binOp, Op.intDiv, hz], fun _ _ => Rep.of_int, fun _ _ e => by cases e⟩
  case rem =>
    split at hb <;> cases hb
    rename_i hz
    exact ⟨_, by simp [binOp, Op.intDiv, hz], fun _ _ => Rep.of_int, fun _ _ e => by cases e⟩
  all_goals first | cases hb; exact ⟨_, by first | (simp [binOp, Op.intArith, Op.intBits, Op.intCmp]; done) | (simp [binOp, Op.intArith, Op.intBits, Op.intCmp]; rfl), fun _ _ => (by first | exact Rep.of_int | exact Rep.of_bool), fun _ _ e => by cases e⟩ | cases hb

theorem run_shift {op : BinOp} {k k' : IntKind} {x y : Int} {t : TypeId} {av : AV} (hb : shiftI op k x y = some av) : ∃ v, (binOp op t (.int k x) (.int k' y)).run P w = .ok v w ∧
    (∀ ok ρ, RepA w ok ρ av v) ∧ ∀ id off, av ≠ .ptr id off := by
  unfold shiftI at hb
  split at hb
  · cases hb
  · rename_i hy
    split at hb <;> cases hb
    · exact ⟨_, by simp [binOp, Op.shift, hy], fun _ _ => Rep.of_int, fun _ _ e => by cases e⟩
    · exact ⟨_, by simp [binOp, Op.shift, hy], fun _ _ => Rep.of_int, fun _ _ e => by cases e⟩

theorem run_eqGuard_int (op : BinOp) (t : TypeId) (x y : Operand) (k k' : IntKind) (b c : Int) : (eqGuard op t x y (.int k b) (.int k' c)).run P w = .ok () w := by
  unfold eqGuard; split <;> rfl
theorem run_eqGuard_bool (op : BinOp) (t : TypeId) (x y : Operand) (b c : Bool) : (eqGuard op t x y (.bool b) (.bool c)).run P w = .ok () w := by
  unfold eqGuard; split <;> rfl

theorem run_equalIn_bool {t : TypeId} (hd : P.underlying t = some .bool) (x y : Bool) (k : Nat) : (Op.equalIn (k + 1) t (.bool x) (.bool y)).run P w = .ok (x == y) w := by
  simp only [Op.equalIn, Sem.run_bind, run_underlying hd, Result.andThen_ok, Sem.run_pure]
theorem run_equal_bool {t : TypeId} (hd : P.underlying t = some .bool) (x y : Bool) : (Op.equal t (.bool x) (.bool y)).run P w = .ok (x == y) w := run_equalIn_bool hd x y 9999

theorem part_two {f : Field} {A : Ty} (hE : E.OK P) (hA : E.ty f.type = some A) {cs : List Value} {off : Nat} (ho : f.offset = off) (hl : off + A.size ≤ cs.length) :
    (part f.type cs.toArray f.offset).run P w = .ok (mkV A ((cs.drop off).take A.size)) w := by
  obtain ⟨ti, d, hok⟩ := hE.ty _ _ hA
  rw [ho]
  exact run_part hok hl

theorem run_eqFs {ok : Nat → Prop} {k d : Nat} (hE : E.OK P) (hrec : ∀ t U (x y : U.den) vx vy, eqB P E k t U = true → Rep w ok U x vx → Rep w ok U y vy → (Op.equalIn d t vx vy).run P w = .ok (beqT U x y) w) :
    ∀ (fs : List Field) (U : Ty) (off : Nat) (x y : U.den) (cx cy : List Value), eqFs (eqB P E k) E fs U off = true → off + U.size ≤ cx.length → off + U.size ≤ cy.length →
      Holds w ok U x ((cx.drop off).take U.size) → Holds w ok U y ((cy.drop off).take U.size) → (Op.eqFields d cx.toArray cy.toArray fs).run P w = .ok (beqT U x y) w
  | [], U, off, x, y, cx, cy, h, _, _, _, _ => by simp [eqFs] at h
  | [f], U, off, x, y, cx, cy, h, l1, l2, hx, hy => by
    simp only [eqFs, Bool.and_eq_true, decide_eq_true_eq, beq_iff_eq, bne_iff_ne] at h
    obtain ⟨⟨⟨hn, ho⟩, hA⟩, hq⟩ := h
    have h1 := part_two (w := w) hE hA ho l1
    have h2 := part_two (w := w) hE hA ho l2
    have h3 := hrec _ _ x y _ _ hq ⟨_, hx, rfl⟩ ⟨_, hy, rfl⟩
    simp only [Op.eqFields, if_pos hn, Sem.run_bind, h1, h2, h3, Result.andThen_ok]
    cases beqT U x y <;> simp
  | f :: g :: fs, U, off, x, y, cx, cy, h, l1, l2, hx, hy => by
    cases U with
    | pair A B =>
      simp only [eqFs, Bool.and_eq_true, decide_eq_true_eq, beq_iff_eq, bne_iff_ne] at h
      obtain ⟨⟨⟨⟨hn, ho⟩, hA⟩, hq⟩, hr⟩ := h
      simp only [Ty.size] at l1 l2
      have split : ∀ (z : (Ty.pair A B).den) (c : List Value), off + (A.size + B.size) ≤ c.length → Holds w ok (.pair A B) z ((c.drop off).take (Ty.pair A B).size) →
          Holds w ok A z.1 ((c.drop off).take A.size) ∧ Holds w ok B z.2 ((c.drop (off + A.size)).take B.size) := fun z c hl hz => by
        obtain ⟨c1, c2, e, h1, h2⟩ := hz
        have e1 := Holds.len _ _ _ h1
        have e2 := Holds.len _ _ _ h2
        have ee : (c.drop off).take (A.size + B.size) = c1 ++ c2 := e
        have q1 : (c.drop off).take A.size = c1 := by
          have := congrArg (List.take A.size) ee
          rw [List.take_take, Nat.min_eq_left (by omega), List.take_left' e1] at this
          exact this
        have q2 : (c.drop (off + A.size)).take B.size = c2 := by
          have := congrArg (List.drop A.size) ee
          rw [List.drop_take, List.drop_drop, show A.size + B.size - A.size = B.size by omega, List.drop_left' e1] at this
          exact this
        rw [q1, q2]
        exact ⟨h1, h2⟩
      obtain ⟨x1, x2⟩ := split x cx l1 hx
      obtain ⟨y1, y2⟩ := split y cy l2 hy
      have h1 := part_two (w := w) hE hA ho (show off + A.size ≤ cx.length by omega)
      have h2 := part_two (w := w) hE hA ho (show off + A.size ≤ cy.length by omega)
      have h3 := hrec _ _ x.1 y.1 _ _ hq ⟨_, x1, rfl⟩ ⟨_, y1, rfl⟩
      have h4 := run_eqFs hE hrec (g :: fs) B (off + A.size) x.2 y.2 cx cy hr (by omega) (by omega) x2 y2
      rw [Op.eqFields]
      simp only [if_pos hn, Sem.run_bind, h1, h2, h3, Result.andThen_ok, beqT]
      cases beqT A x.1 y.1
      · simp
      · simpa using h4
    | _ => simp [eqFs] at h

theorem run_eqB {ok : Nat → Prop} (hE : E.OK P) : ∀ (k d : Nat) (t : TypeId) (U : Ty) (x y : U.den) (vx vy : Value), k ≤ d → eqB P E k t U = true → Rep w ok U x vx → Rep w ok U y vy →
    (Op.equalIn d t vx vy).run P w = .ok (beqT U x y) w
  | 0, _, _, _, _, _, _, _, _, h, _, _ => by simp [eqB] at h
  | k + 1, 0, _, _, _, _, _, _, hd, _, _, _ => by omega
  | k + 1, d + 1, t, U, x, y, vx, vy, hd, h, hx, hy => by
    unfold eqB at h
    split at h
    · rename_i hu
      have e := of_decide_eq_true h
      subst e
      rw [hx.bool, hy.bool]
      exact run_equalIn_bool hu x y d
    · rename_i j hu
      have e := of_decide_eq_true h
      subst e
      rw [hx.int, hy.int]
      simp only [Op.equalIn, Sem.run_bind, run_underlying hu, Result.andThen_ok, if_true, Sem.run_pure, beqT]
      congr 1
    · rename_i fs hu
      simp only [Bool.and_eq_true, Bool.not_eq_true'] at h
      obtain ⟨⟨h1, h2⟩, h3⟩ := h
      cases U with
      | pair A B =>
        obtain ⟨cx, hcx, rfl⟩ := hx
        obtain ⟨cy, hcy, rfl⟩ := hy
        have lx := Holds.len _ _ _ hcx
        have ly := Holds.len _ _ _ hcy
        have hf : P.fieldsOf t = fs := by simp [Program.fieldsOf, hu]
        show (Op.equalIn (d + 1) t (.agg cx.toArray) (.agg cy.toArray)).run P w = _
        rw [run_equalIn_struct (P := P) w d t cx.toArray cy.toArray (by rw [hf]; exact hu) h1, hf]
        refine run_eqFs (ok := ok) (k := k) hE (fun t U x y vx vy he hx hy => run_eqB (ok := ok) hE k d t U x y vx vy (by omega) he hx hy) fs.toList (.pair A B) 0 x y cx cy h3 (by omega) (by omega) ?_ ?_
        · rw [List.drop_zero, List.take_of_length_le (by omega)]; exact hcx
        · rw [List.drop_zero, List.take_of_length_le (by omega)]; exact hcy
      | _ => simp [Ty.isPair] at h2
    · cases h

theorem run_eqGuard_agg {op : BinOp} {t : TypeId} {x y : Operand} {b c : Array Value} (h : P.eqGuardType P.depth t = false) : (eqGuard op t x y (.agg b) (.agg c)).run P w = .ok () w := by
  cases op <;> simp [eqGuard, h]

theorem run_binOp_agg {op : BinOp} {t : TypeId} {b c : Array Value} (r : Bool) (hr : (Op.equal t (.agg b) (.agg c)).run P w = .ok r w) :
    (binOp .eql t (.agg b) (.agg c)).run P w = .ok (.bool r) w ∧ (binOp .neq t (.agg b) (.agg c)).run P w = .ok (.bool !r) w := by
  constructor <;> simp [binOp, hr]

theorem evalOp_binOp (hE : E.OK P) (h : RelC n w0 ok0 ρ s a w) {op : BinOp} {t t' : TypeId} {x y : Operand} (ho : o.op = .binOp op t x y t') {eff : Eff} (he : evalOp E s.ev s.bx (.binOp op t x y t') = some eff) : EffOK P o a w w0 ok0 ρ s eff := by
  simp only [evalOp, Option.bind_eq_some_iff (x := E.ty t)] at he
  obtain ⟨U, hU, he⟩ := he
  obtain ⟨ti, d, hok⟩ := hE.ty t U hU
  cases U with
  | int k =>
    simp only [Option.bind_eq_some_iff (x := (s.ev x).bind _)] at he
    obtain ⟨b, hb, he⟩ := he
    have hx := (h.evT hb).int
    have done : ∀ av v, (binOp op t (a.eval x) (a.eval y)).run P w = .ok v w → (∀ k' c, a.eval y = .int k' c → True) → (∃ k' c, a.eval y = .int k' c) → RepA w (okS w0 ok0 ρ s) ρ av v → (∀ id off, av ≠ .ptr id off) → EffOK P o a w w0 ok0 ρ s (.put av) := fun av v hv _ hy hr hp => by
      obtain ⟨k', c, hy⟩ := hy
      refine EffOK.val (v := v) ?_ hr (fun id off e => absurd e (hp id off))
      rw [hx, hy] at hv
      simp only [execOp, ho, hx, hy, Sem.run_bind, run_eqGuard_int, Result.andThen_ok, hv, Sem.run_pure]
    split at he
    · simp only [Option.bind_eq_some_iff (x := (s.ev y).bind _), Option.map_eq_some_iff] at he
      obtain ⟨c, hc, av, hs, e⟩ := he
      subst e
      rw [Option.bind_eq_some_iff] at hc
      obtain ⟨bv, hbv, hc⟩ := hc
      obtain ⟨k', hy⟩ := asI_rep hc (h.ev hbv)
      obtain ⟨v, h1, h2, h3⟩ := run_shift (P := P) (w := w) (t := t) (k' := k') hs
      exact done av v (by rw [hx, hy]; exact h1) (fun _ _ _ => trivial) ⟨_, _, hy⟩ (h2 _ _) h3
    · simp only [Option.bind_eq_some_iff (x := (s.ev y).bind _), Option.map_eq_some_iff] at he
      obtain ⟨c, hc, av, hs, e⟩ := he
      subst e
      rw [Option.bind_eq_some_iff] at hc
      obtain ⟨bv, hbv, hc⟩ := hc
      obtain ⟨k', hy⟩ := asI_rep hc (h.ev hbv)
      obtain ⟨v, h1, h2, h3⟩ := run_shift (P := P) (w := w) (t := t) (k' := k') hs
      exact done av v (by rw [hx, hy]; exact h1) (fun _ _ _ => trivial) ⟨_, _, hy⟩ (h2 _ _) h3
    · rename_i n1 n2
      simp only [Option.bind_eq_some_iff (x := (s.ev y).bind _), Option.map_eq_some_iff] at he
      obtain ⟨c, hc, av, hs, e⟩ := he
      subst e
      have hy := (h.evT hc).int
      obtain ⟨v, h1, h2, h3⟩ := run_binOp_int (P := P) (w := w) (t := t) hs (fun e => n1 e) (fun e => n2 e)
      exact done av v (by rw [hx, hy]; exact h1) (fun _ _ _ => trivial) ⟨_, _, hy⟩ (h2 _ _) h3
  | bool =>
    simp only [Option.bind_eq_some_iff (x := (s.ev x).bind _), Option.bind_eq_some_iff (x := (s.ev y).bind _)] at he
    obtain ⟨b, hb, c, hc, he⟩ := he
    have hx := (h.evT hb).bool
    have hy := (h.evT hc).bool
    have hd := hok.bool rfl
    subst hd
    split at he <;> cases he
    · refine EffOK.val (v := .bool (b == c)) ?_ Rep.of_bool (fun _ _ e => by cases e)
      simp only [execOp, ho, hx, hy, Sem.run_bind, run_eqGuard_bool, Result.andThen_ok, binOp, run_equal_bool hok.desc, Sem.run_pure]
    · refine EffOK.val (v := .bool (!(b == c))) ?_ Rep.of_bool (fun _ _ e => by cases e)
      simp only [execOp, ho, hx, hy, Sem.run_bind, run_eqGuard_bool, Result.andThen_ok, binOp, run_equal_bool hok.desc, Sem.run_pure]
  | pair p q =>
    simp only [Option.bind_eq_some_iff (x := (s.ev x).bind _), Option.bind_eq_some_iff (x := (s.ev y).bind _)] at he
    obtain ⟨b, hb, c, hc, he⟩ := he
    split at he
    · rename_i heq
      obtain ⟨hg, hq⟩ := hE.eq t _ heq hU
      have h1 := run_eqB hE 20 10000 t _ b c _ _ (by omega) hq (h.evT hb) (h.evT hc)
      obtain ⟨cx, _, hx⟩ := h.evT hb
      obtain ⟨cy, _, hy⟩ := h.evT hc
      have hx' : a.eval x = .agg cx.toArray := hx
      have hy' : a.eval y = .agg cy.toArray := hy
      rw [hx', hy'] at h1
      obtain ⟨h2, h3⟩ := run_binOp_agg (op := .eql) _ h1
      split at he <;> cases he
      · refine EffOK.val (v := .bool (beqT (.pair p q) b c)) ?_ Rep.of_bool (fun _ _ e => by cases e)
        simp only [execOp, ho, hx', hy', Sem.run_bind, run_eqGuard_agg hg, Result.andThen_ok, h2, Sem.run_pure]
      · refine EffOK.val (v := .bool (!(beqT (.pair p q) b c))) ?_ Rep.of_bool (fun _ _ e => by cases e)
        simp only [execOp, ho, hx', hy', Sem.run_bind, run_eqGuard_agg hg, Result.andThen_ok, h3, Sem.run_pure]
    · cases he
  | _ => simp at he

theorem asL_rep (h : RelC n w0 ok0 ρ s a w) : ∀ (l : List Ty) (args : List Operand) (xs : HL l), asL l (args.map s.ev) = some xs → RepL w (okS w0 ok0 ρ s) l xs (args.map a.eval)
  | [], [], _, _ => rfl
  | [], _ :: _, _, e => by simp [asL] at e
  | _ :: _, [], _, e => by simp [asL] at e
  | T :: l, x :: r, xs, e => by
    simp only [List.map_cons, asL, Option.bind_eq_some_iff (x := (s.ev x).bind _), Option.bind_eq_some_iff (x := asL l _)] at e
    obtain ⟨y, hy, z, hz, e⟩ := e
    cases e
    exact ⟨_, _, rfl, h.evT hy, asL_rep h l r z hz⟩

theorem run_callFunc {f : FuncId} {fn : Func} {c : Code} (hf : P.funcs[f]? = some fn) (hn : (fn.name == "runtime.NumGoroutine") = false) (hb : fn.body = some c) (args : Array Value) :
    (callFunc f args).run P w = .ok (.enter f args) w := by
  have hn' : ¬ fn.name = "runtime.NumGoroutine" := by simpa using hn
  simp [callFunc, hf, hn', hb]

theorem resAV_ptr (l : List Ty) (x : HL l) (id off : Nat) : resAV l x ≠ .ptr id off := by
  unfold resAV
  split <;> intro e <;> cases e

theorem evalOp_call (hE : E.OK P) (h : RelC n w0 ok0 ρ s a w) {c : Call} (ho : o.op = .call c) {eff : Eff} (he : evalOp E s.ev s.bx (.call c) = some eff) : EffOK P o a w w0 ok0 ρ s eff := by
  obtain ⟨callee, args, ats⟩ := c
  simp only [evalOp, evalCall] at he
  split at he
  · rename_i f
    simp only [Option.bind_eq_some_iff, Option.map_eq_some_iff] at he
    obtain ⟨S, hS, xs, hxs, r, hr, e⟩ := he
    subst e
    obtain ⟨⟨fn, cd, h1, h2, h3⟩, hcall⟩ := hE.tab f S hS
    refine ⟨fun id off e => absurd e (resAV_ptr _ _ _ _), .inr ⟨f, args.map a.eval, ?_, ?_⟩⟩
    · simp only [execOp, ho, resolve, Act.eval, Deferred.ofValue, Sem.run_bind, Sem.run_pure, Result.andThen_ok, invoke]
      simpa using run_callFunc (w := w) h1 h2 h3 (args.map a.eval)
    · have := hcall w _ xs _ r (fun w' hb => w0.g w' (h.below.trans (hb.mono h.below.size))) (asL_rep h _ _ _ hxs) hr
      rw [show (List.map a.eval args.toList).toArray = args.map a.eval by rw [← Array.toList_map, Array.toArray_toList]] at this
      refine this.mono fun e w' he => ?_
      obtain ⟨v, h4, h5, h6⟩ := he
      refine ⟨v, h4, h5, RepA.map (fun k c' e' z hk hh => ⟨?_, hh⟩) (fun id off e => absurd e (resAV_ptr _ _ _ _)) h6⟩
      rcases hk with hk | hk
      · exact hk
      · refine ⟨.inr (Nat.le_trans h.below.size hk), fun id hid => ?_⟩
        obtain ⟨⟨T, x⟩, hx⟩ := Option.isSome_iff_exists.1 hid
        obtain ⟨_, cs, e', h7, _⟩ := h.bx id T x hx
        have := (Array.getElem?_eq_some_iff.1 h7).1
        omega
  · rw [Option.bind_eq_some_iff] at he
    obtain ⟨U, hU, he⟩ := he
    rw [Option.bind_eq_some_iff] at hU
    obtain ⟨t, ht, hU⟩ := hU
    obtain ⟨ti, d, hok⟩ := hE.ty t U hU
    split at he
    · rename_i T av hargs
      rw [Option.map_eq_some_iff] at he
      obtain ⟨x, hax, hxe⟩ : ∃ x, args.toList = [x] ∧ s.ev x = av := by
        match hq : args.toList, hargs with
        | [x], e => exact ⟨x, rfl, by simpa using e⟩
      subst hxe
      obtain ⟨l, hl, e⟩ := he
      subst e
      obtain ⟨el, hd, _⟩ := hok.list T rfl
      subst hd
      obtain ⟨cs, ⟨A, cap, css, e1, _⟩, hv⟩ := h.evT hl
      have hx : a.eval x = .slice A l.length cap := by rw [hv, e1]; rfl
      have ha : args = #[x] := by rw [← Array.toArray_toList (xs := args), hax]
      subst ha
      refine EffOK.val (v := .int .i64 l.length) ?_ Rep.of_int (fun _ _ e => by cases e)
      simp only [execOp, ho, resolve, Sem.run_bind, Sem.run_pure, Result.andThen_ok, invoke, builtin, Builtin.len_, ht]
      simp [hx, run_underlying hok.desc, goInt]
    · cases he
  · cases he

theorem evalOp_pick (h : RelC n w0 ok0 ρ s a w) {c x y : Operand} (ho : o.op = .pick c x y) {eff : Eff} (he : evalOp E s.ev s.bx (.pick c x y) = some eff) : EffOK P o a w w0 ok0 ρ s eff := by
  simp only [evalOp, Option.bind_eq_some_iff (x := (s.ev c).bind _), Option.map_eq_some_iff] at he
  obtain ⟨b, hb, av, hav, e⟩ := he
  subst e
  have hc := (h.evT hb).bool
  cases b with
  | true => exact EffOK.val (v := a.eval x) (by simp [execOp, ho, hc, asBool]) (h.ev hav) (fun id off e => h.evP (e ▸ hav))
  | false => exact EffOK.val (v := a.eval y) (by simp [execOp, ho, hc, asBool]) (h.ev hav) (fun id off e => h.evP (e ▸ hav))

theorem fold_set (off : Nat) : ∀ (l : List Value) (k : Nat) (c : Array Value), off + k + l.length ≤ c.size →
    (l.zipIdx k).foldl (fun cs (q : Value × Nat) => cs.setIfInBounds (off + q.2) q.1) c = (c.toList.take (off + k) ++ l ++ c.toList.drop (off + k + l.length)).toArray
  | [], k, c, _ => by simp
  | v :: l, k, c, h => by
    simp only [List.length_cons] at h
    rw [List.zipIdx_cons, List.foldl_cons, fold_set off l (k + 1) _ (by simp; omega)]
    have hk : off + k < c.size := by omega
    simp only [Array.toList_setIfInBounds, List.length_cons, List.toArray_inj]
    rw [show off + (k + 1) = off + k + 1 by omega, List.take_set, List.drop_set_of_lt (by omega), show off + k + 1 + l.length = off + k + (l.length + 1) by omega]
    rw [List.take_add_one, List.set_append_right _ _ (by simp; omega)]
    simp [hk, Nat.min_eq_left (Nat.le_of_lt hk)]

theorem fill_cons {place : Nat → Option (Nat × Nat)} {cells : Array Value} {i off size : Nat} {v : Value} {r : List (Nat × Value)} (hp : place i = some (off, size)) (hs : v.cells.size = size) (hb : off + size ≤ cells.size) :
    Instr.fill place cells ((i, v) :: r) = Instr.fill place (cells.toList.take off ++ v.cells.toList ++ cells.toList.drop (off + size)).toArray r := by
  simp only [Instr.fill, hp]
  rw [if_neg (by rw [hs]; simp; omega)]
  congr 1
  have := fold_set off v.cells.toList 0 cells (by simp [hs]; omega)
  simp only [Nat.add_zero, Array.length_toList, hs] at this
  rw [← this, ← Array.foldl_toList]
  simp

theorem fill_build (hE : E.OK P) (h : RelC n w0 ok0 ρ s a w) {t : TypeId} {T : Ty} {place : Nat → Option (Nat × Nat)} (hplace : ∀ i q, E.fld t i = some q → place i = some (q.1, q.2.size)) :
    ∀ (ps : List (Nat × Operand)) (x : T.den) (cells : Array Value) (z : T.den), Holds w (okS w0 ok0 ρ s) T x cells.toList → buildA E t T s.ev ps x = some z →
    ∃ cells', Instr.fill place cells (ps.map fun q => (q.1, a.eval q.2)) = some cells' ∧ Holds w (okS w0 ok0 ρ s) T z cells'.toList
  | [], x, cells, z, hh, hb => by cases hb; exact ⟨cells, rfl, hh⟩
  | (i, o) :: r, x, cells, z, hh, hb => by
    simp only [buildA] at hb
    split at hb
    · rename_i q hq
      split at hb
      · rename_i y hy
        split at hb
        · rename_i x' hx'
          have hr := (h.evT hy).cells
          obtain ⟨h1, h2⟩ := upd_holds _ _ _ _ _ _ _ _ hx' hh hr
          have hl := Holds.len _ _ _ hr
          have hl' := Holds.len _ _ _ hh
          obtain ⟨c', h3, h4⟩ := fill_build hE h hplace r x' (cells.toList.take q.1 ++ (a.eval o).cells.toList ++ cells.toList.drop (q.1 + q.2.size)).toArray z h1 hb
          refine ⟨c', ?_, h4⟩
          rw [List.map_cons, fill_cons (hplace i q hq) (by simpa using hl) (by simp at hl'; omega)]
          exact h3
        · cases hb
      · cases hb
    · cases hb

theorem run_places (fs : List Field) (h : ∀ fd ∈ fs, ∃ ti, P.info? fd.type = some ti) :
    ∃ pl : List (Nat × Nat), (fs.mapM (fun f => do pure (f.offset, ← sizeOf f.type) : Field → Sem (Nat × Nat))).run P w = .ok pl w ∧ ∀ (i : Nat) (fd : Field) (ti : TypeInfo), fs[i]? = some fd → P.info? fd.type = some ti → pl[i]? = some (fd.offset, ti.size) := by
  induction fs with
  | nil => exact ⟨[], rfl, fun i fd ti e => by simp at e⟩
  | cons f fs ih =>
    obtain ⟨pl, h1, h2⟩ := ih fun fd hfd => h fd (List.mem_cons_of_mem _ hfd)
    obtain ⟨ti, hti⟩ := h f List.mem_cons_self
    have hsz : (sizeOf f.type).run P w = .ok ti.size w := by simp [sizeOf, typeInfo, hti]
    refine ⟨(f.offset, ti.size) :: pl, ?_, fun i fd ti' hi ht => ?_⟩
    · simp only [List.mapM_cons, Sem.run_bind, hsz, Result.andThen_ok, Sem.run_pure, h1]
    · cases i with
      | zero => cases hi; rw [hti] at ht; cases ht; rfl
      | succ i => simpa using h2 i fd ti' (by simpa using hi) ht

theorem evalOp_build (hE : E.OK P) (h : RelC n w0 ok0 ρ s a w) {t : TypeId} {ps : Array (Nat × Operand)} (ho : o.op = .build t ps) {eff : Eff} (he : evalOp E s.ev s.bx (.build t ps) = some eff) : EffOK P o a w w0 ok0 ρ s eff := by
  simp only [evalOp, Option.bind_eq_some_iff (x := E.ty t)] at he
  obtain ⟨T, hT, he⟩ := he
  cases hq : E.fld t 0 with
  | none => rw [hq] at he; cases he
  | some q0 =>
    rw [hq] at he
    simp only [Option.isSome_some, if_true, Option.map_eq_some_iff] at he
    obtain ⟨x, hx, e⟩ := he
    subst e
    obtain ⟨ti, d, hok⟩ := hE.ty t T hT
    obtain ⟨fs, fd0, hd, _⟩ := hE.fld t 0 _ hq
    have hdd : d = .struct fs := Option.some.inj (hok.desc.symm.trans hd)
    subst hdd
    obtain ⟨z, hz, hzr⟩ := run_zero hE hT w
    obtain ⟨pl, hpl, hpl'⟩ := run_places (P := P) (w := w) fs.toList (hok.flds fs rfl)
    obtain ⟨c', h3, h4⟩ := fill_build hE h (t := t) (place := (pl[·]?)) (fun i q hi => by
      obtain ⟨fs', fd, hd', hf, ho1, ho2⟩ := hE.fld t i q hi
      have e : fs' = fs := by have := hd'.symm.trans hd; cases this; rfl
      subst e
      obtain ⟨ti', d', hok'⟩ := hE.ty _ _ ho2
      rw [hpl' i fd ti' (by simpa using hf) hok'.info, ho1, hok'.size]) ps.toList _ z.cells x (hzr _).cells hx
    have hag := hok.agg
    cases T with
    | pair p q =>
      refine EffOK.val (v := .agg c') ?_ ⟨c'.toList, h4, rfl⟩ (fun _ _ e => by cases e)
      have hpa : (fs.mapM (fun f => do pure (f.offset, ← sizeOf f.type) : Field → Sem (Nat × Nat))).run P w = .ok pl.toArray w := by
        rw [show fs = fs.toList.toArray by simp, List.mapM_toArray, Sem.run_map]
        rw [show fs.toList.toArray.toList = fs.toList by simp]
        rw [hpl]; rfl
      have hparts : (ps.map fun (q : Nat × Operand) => (q.1, a.eval q.2)).toList = ps.toList.map fun q => (q.1, a.eval q.2) := by simp
      simp only [execOp, ho, Instr.build, Sem.run_bind, hz, Result.andThen_ok, run_underlying hok.desc, hpa]
      have h3' : Instr.fill (fun x => pl.toArray[x]?) z.cells ((ps.map fun (q : Nat × Operand) => (q.1, a.eval q.2)).toList) = some c' := by rw [hparts]; simpa using h3
      rw [h3']
      simp
    | _ => simp [aggD, Ty.isPair] at hag

theorem flatten_set {size : Nat} : ∀ (css : List (List Value)) (i : Nat) (c : List Value), (∀ d ∈ css, d.length = size) → i < css.length →
    (css.set i c).flatten = css.flatten.take (i * size) ++ c ++ css.flatten.drop (i * size + size)
  | [], _, _, _, h => by simp at h
  | d :: css, 0, c, hl, _ => by
    have := hl d List.mem_cons_self
    simp [← this]
  | d :: css, i + 1, c, hl, h => by
    have hd := hl d List.mem_cons_self
    have ih := flatten_set css i c (fun d hd => hl d (List.mem_cons_of_mem _ hd)) (by simpa using h)
    rw [List.set_cons_succ, List.flatten_cons, ih, List.flatten_cons, Nat.add_mul, Nat.one_mul]
    rw [List.take_append, List.drop_append, show d.take (i * size + size) = d from List.take_of_length_le (by omega), show d.drop (i * size + size + size) = [] from List.drop_of_length_le (by omega), hd]
    rw [show i * size + size - size = i * size by omega, show i * size + size + size - size = i * size + size by omega]
    simp [List.append_assoc]

theorem All2.set {α β : Type} {R : α → β → Prop} {x : α} {y : β} : ∀ {l : List α} {m : List β} (i : Nat), All2 R l m → R x y → All2 R (l.set i x) (m.set i y)
  | [], [], _, _, _ => trivial
  | _ :: _, _ :: _, 0, ⟨_, b⟩, h => ⟨h, b⟩
  | _ :: _, _ :: _, i + 1, ⟨a, b⟩, h => ⟨a, All2.set i b h⟩

theorem All2.lens {ok : Nat → Prop} {T : Ty} : ∀ {l : List T.den} {css : List (List Value)}, All2 (Holds w ok T) l css → ∀ d ∈ css, d.length = T.size
  | [], [], _, _, h => by cases h
  | _ :: _, d :: css, ⟨h1, h2⟩, e, h => by
    rcases List.mem_cons.1 h with rfl | h
    · exact Holds.len _ _ _ h1
    · exact All2.lens h2 e h

theorem flatten_len {size : Nat} : ∀ (css : List (List Value)), (∀ d ∈ css, d.length = size) → css.flatten.length = css.length * size
  | [], _ => by simp
  | d :: css, h => by
    rw [List.flatten_cons, List.length_append, h d List.mem_cons_self, flatten_len css fun d hd => h d (List.mem_cons_of_mem _ hd), List.length_cons, Nat.add_mul]
    omega

theorem fill_list (h : RelC n w0 ok0 ρ s a w) {T : Ty} : ∀ (ps : List (Nat × Operand)) (l : List T.den) (css : List (List Value)) (cells : Array Value) (z : List T.den),
    All2 (Holds w (okS w0 ok0 ρ s) T) l css → cells.toList = css.flatten → buildL T s.ev ps l = some z →
    ∃ cells' css', Instr.fill (fun i => some (i * T.size, T.size)) cells (ps.map fun q => (q.1, a.eval q.2)) = some cells' ∧ All2 (Holds w (okS w0 ok0 ρ s) T) z css' ∧ cells'.toList = css'.flatten ∧ z.length = l.length
  | [], l, css, cells, z, ha, hc, hb => by cases hb; exact ⟨cells, css, rfl, ha, hc, rfl⟩
  | (i, o) :: r, l, css, cells, z, ha, hc, hb => by
    simp only [buildL] at hb
    split at hb
    · rename_i y hy
      have hr := (h.evT hy).cells
      have hl := Holds.len _ _ _ hr
      cases hi : Nat.blt i l.length with
      | false => rw [hi] at hb; cases hb
      | true =>
        rw [hi] at hb
        have hlt : i < l.length := by simpa using hi
        have hlens := All2.lens ha
        have hll := All2.length ha
        have hfl := flatten_len css hlens
        have hset := flatten_set css i (a.eval o).cells.toList hlens (by omega)
        have hsz : i * T.size + T.size ≤ cells.size := by
          have : cells.size = css.length * T.size := by rw [← hfl, ← hc]; simp
          rw [this, ← Nat.succ_mul]
          exact Nat.mul_le_mul_right _ (by omega)
        obtain ⟨c', css', h1, h2, h3, h4⟩ := fill_list h r (l.set i y) (css.set i (a.eval o).cells.toList) (cells.toList.take (i * T.size) ++ (a.eval o).cells.toList ++ cells.toList.drop (i * T.size + T.size)).toArray z
          (All2.set i ha hr) (by simp only [List.toList_toArray, hc, hset]) hb
        refine ⟨c', css', ?_, h2, h3, by simpa using h4⟩
        rw [List.map_cons, fill_cons rfl (by simpa using hl) hsz]
        exact h1
    · cases hb

theorem zeros_flat {zc : Array Value} {size : Nat} (hs : zc.size = size) (hp : 0 < size) (len : Nat) :
    ((Array.range (len * size)).map (zc[· % zc.size]!)).toList = (List.replicate len zc.toList).flatten := by
  have key : ∀ len, (List.range (len * size)).map (fun i => zc[i % size]!) = (List.replicate len zc.toList).flatten := by
    intro len
    induction len with
    | zero => simp
    | succ len ih =>
      rw [List.replicate_succ', List.flatten_append, ← ih, Nat.add_mul, Nat.one_mul, List.range_add, List.map_append]
      congr 1
      simp only [List.map_map, List.flatten_cons, List.flatten_nil, List.append_nil]
      apply List.ext_getElem
      · simp [hs]
      · intro j h1 h2
        simp at h1
        simp [Nat.add_mul_mod_self_right, Nat.mul_add_mod_self_right, Nat.mod_eq_of_lt h1, hs, h1]
  rw [hs]
  simpa using key len

theorem evalOp_buildSlice (hE : E.OK P) (h : RelC n w0 ok0 ρ s a w) {t : TypeId} {len : Nat} {ps : Array (Nat × Operand)} (ho : o.op = .buildSlice t len ps) {eff : Eff} (he : evalOp E s.ev s.bx (.buildSlice t len ps) = some eff) : EffOK P o a w w0 ok0 ρ s eff := by
  simp only [evalOp, Option.bind_eq_some_iff (x := E.ty t)] at he
  obtain ⟨U, hU, he⟩ := he
  obtain ⟨ti, d, hok⟩ := hE.ty t U hU
  cases U with
  | list T =>
    simp only at he
    split at he
    · rename_i hlim
      rw [Option.map_eq_some_iff] at he
      obtain ⟨l, hl, e⟩ := he
      subst e
      obtain ⟨e, hd, hel⟩ := hok.list T rfl
      subst hd
      obtain ⟨ti', d', hok'⟩ := hE.ty e T hel
      obtain ⟨z, hz, hzr⟩ := run_zero hE hel w
      have hzc := (hzr (okS w0 ok0 ρ s)).cells
      have hzl : z.cells.size = T.size := by simpa using Holds.len _ _ _ hzc
      have hpos := tySize_pos T
      have hsz : (sizeOf e).run P w = .ok T.size w := by simp [sizeOf, typeInfo, hok'.info, hok'.size]
      have hall : All2 (Holds w (okS w0 ok0 ρ s) T) (List.replicate len (zeroT T)) (List.replicate len z.cells.toList) := by
        clear hl hlim ho
        induction len with
        | zero => exact trivial
        | succ len ih => exact ⟨hzc, ih⟩
      obtain ⟨c', css', h1, h2, h3, h4⟩ := fill_list h ps.toList _ _ ((Array.range (len * T.size)).map (z.cells[· % z.cells.size]!)) l hall (zeros_flat hzl hpos len) hl
      have h4' : l.length = len := by simpa using h4
      have hparts : (ps.map fun (q : Nat × Operand) => (q.1, a.eval q.2)).toList = ps.toList.map fun q => (q.1, a.eval q.2) := by simp
      have hb : Below w.heap.size w (w.alloc (.cells c' e)) := (Below.refl _ _).alloc (Nat.le_refl _) _
      refine ⟨fun _ _ e => (by cases e), .inl ⟨.slice (some ⟨w.heap.size, 0, none⟩) len len, w.alloc (.cells c' e), ?_, hb, ?_⟩⟩
      · simp only [execOp, ho, Instr.buildSlice, Sem.run_bind, run_underlying hok.desc, Result.andThen_ok, hsz]
        rw [if_neg (by omega)]
        by_cases h0 : len * T.size = 0
        · have hln : len = 0 := by
            rcases Nat.mul_eq_zero.1 h0 with h | h
            · exact h
            · omega
          subst hln
          have hz0 : ∀ f : Nat → Value, (Array.range (0 * T.size)).map f = #[] := fun f => by simp
          rw [hz0] at h1
          rw [if_pos h0]
          simp only [Sem.run_pure, Result.andThen_ok, hparts, hz0, h1]
          simp [newRow]
        · rw [if_neg h0]
          simp only [Sem.run_bind, hz, Sem.run_pure, Result.andThen_ok, hparts, h1]
          simp [newRow]
      · refine ⟨[.slice (some ⟨w.heap.size, 0, none⟩) len len], ⟨some ⟨w.heap.size, 0, none⟩, len, css', by rw [h4'], ⟨by omega, by rw [h4']; exact Nat.le_trans (Nat.le_mul_of_pos_right len hpos) (by omega)⟩, All2.imp (fun y c hc => Holds.map (fun k c e z hk hh => ⟨hk, by rw [hb.block k (Array.getElem?_eq_some_iff.1 hh).1]; exact hh⟩) _ _ _ hc) h2, fun _ => ⟨_, rfl, rfl, ?_, c', e, (0, 0), ?_, ?_⟩⟩, rfl⟩
        · refine ⟨.inr h.below.size, fun id hid => ?_⟩
          obtain ⟨⟨T', x⟩, hx⟩ := Option.isSome_iff_exists.1 hid
          obtain ⟨_, cs, e', h7, _⟩ := h.bx id T' x hx
          have := (Array.getElem?_eq_some_iff.1 h7).1
          show ρ id ≠ w.heap.size
          omega
        · show (w.heap.push _)[w.heap.size]? = _
          simp
        · intro j v hj
          rw [← h3] at hj
          simpa using hj
    · cases he
  | _ => simp at he

/-- AN OPERATION UPON AN ABSTRACT STATE IS THE MODEL's. -/
theorem evalOp_sound (hE : E.OK P) (h : RelC n w0 ok0 ρ s a w) {eff : Eff} (he : evalOp E s.ev s.bx o.op = some eff) : EffOK P o a w w0 ok0 ρ s eff := by
  cases ho : o.op <;> rw [ho] at he
  case move x => exact evalOp_move h (.inl ho) he
  case assign x => exact evalOp_move h (.inr ho) he
  case load t x => exact evalOp_load hE h ho he
  case store t x y => exact evalOp_store hE h ho he
  case pick c x y => exact evalOp_pick h ho he
  case build t ps => exact evalOp_build hE h ho he
  case buildSlice t l ps => exact evalOp_buildSlice hE h ho he
  case alloc t => exact evalOp_alloc hE ho he
  case box t x => exact evalOp_box h ho he
  case field t x f => exact evalOp_field hE h ho he
  case fieldAddr t x f => exact evalOp_fieldAddr hE h ho he
  case indexAddr t x i => exact evalOp_indexAddr hE h ho he
  case index t x i => exact evalOp_index hE h ho he
  case extract x k => exact evalOp_extract h ho he
  case binOp op t x y t' => exact evalOp_binOp hE h ho he
  case unOp op t x => exact evalOp_unOp hE h ho he
  case convert t t' x => exact evalOp_convert hE h ho he
  case call c => exact evalOp_call hE h ho he
  all_goals cases he

end
/-! ### regions upon abstract states -/

def updO {α : Type} (f : Nat → Option α) : Option (Nat × α) → Nat → Option α
  | none => f
  | some p => fun t => bif Nat.beq t p.1 then some p.2 else f t

theorem updO_comm {α : Type} {f : Nat → Option α} {p q : Option (Nat × α)} (h : ∀ k v k' v', p = some (k, v) → q = some (k', v') → k ≠ k') : updO (updO f p) q = updO (updO f q) p := by
  match p, q with
  | none, _ => cases q <;> rfl
  | some _, none => rfl
  | some (k, v), some (k', v') =>
    funext t
    simp only [updO, bif_beq]
    have := h k v k' v' rfl rfl
    split <;> split <;> simp_all

theorem updO_at {α : Type} {f : Nat → Option α} {p : Option (Nat × α)} {t : Nat} (h : ∀ k v, p = some (k, v) → t ≠ k) : updO f p t = f t := by
  match p with
  | none => rfl
  | some (k, v) => simp only [updO, bif_beq]; rw [if_neg (h k v rfl)]

def Eff.av (dst : Option Nat) : Eff → AV
  | .put av => av
  | .new _ _ => .ptr (dst.getD 0) 0
  | .sto _ _ _ => .cst undef
def Eff.key (dst : Option Nat) : Eff → Option (Nat × Sigma Ty.den)
  | .put _ => none
  | .new T x => some (dst.getD 0, ⟨T, x⟩)
  | .sto id T x => some (id, ⟨T, x⟩)
def Eff.can (dst : Option Nat) (s : St) : Eff → Bool
  | .new _ _ => dst.isSome && (s.bx (dst.getD 0)).isNone
  | .sto id _ _ => (s.bx id).isSome
  | .put (.ptr id _) => (s.bx id).isSome
  | .put _ => true

def St.app (n : Nat) (dst : Option Nat) (e : Eff) (s : St) : Option St :=
  if (dst.all (· < n) && e.can dst s) = true then some ⟨updO s.tm (dst.map (·, e.av dst)), updO s.bx (e.key dst)⟩ else none

/-- What the guard says: some true: it comes up; some false: it is skipped. -/
def wantA (ops : Array Oper) (s : St) (o : Oper) : Option Bool :=
  match o.guard with
  | none => some true
  | some (j, want) =>
    match ((ops[j]?).bind (·.dst)).bind s.tm with
    | some (.cst (.bool x)) => some (x == want)
    | some (.cst _) => some false
    | some av => (asT .bool av).map (· == want)
    | none => none

def stepR (E : Env) (ops : Array Oper) (n : Nat) (i : Nat) (s : St) : Option St :=
  (ops[i]?).bind fun o => (wantA ops s o).bind fun b => (bif b then evalOp E s.ev s.bx o.op else some (.put (.cst undef))).bind fun e => s.app n o.dst e

section
variable {P : Program} {E : Env} {n : Nat} {w0 : GW E.G} {ok0 : Nat → Prop} {ρ : Nat → Nat} {s t : St} {a : Act} {w w' : World} {o : Oper} {ops : Array Oper}

theorem Act.put_getD (a : Act) (d : Option Nat) (v : Value) : (a.put d v).defers = a.defers := by cases d <;> rfl

theorem RelC.putO (h : RelC n w0 ok0 ρ s a w) {dst : Option Nat} {av : AV} {v : Value} (hd : dst.all (· < n) = true) (hr : RepA w (okS w0 ok0 ρ s) ρ av v)
    (hi : ∀ id off, av = .ptr id off → (s.bx id).isSome = true) : RelC n w0 ok0 ρ ⟨updO s.tm (dst.map (·, av)), s.bx⟩ (a.put dst v) w := by
  cases dst with
  | none => exact h
  | some d => exact h.put (d := d) (by simpa using hd) hr hi

theorem wantA_sound (h : RelC n w0 ok0 ρ s a w) {b : Bool} (hw : wantA ops s o = some b) : Region.wanted o (yielded ops a.tmps) = b := by
  unfold wantA at hw
  unfold Region.wanted
  cases hg : o.guard with
  | none => rw [hg] at hw; cases hw; rfl
  | some q =>
    obtain ⟨j, want⟩ := q
    rw [hg] at hw
    simp only at hw ⊢
    split at hw
    · rename_i x hav
      rw [Option.bind_eq_some_iff] at hav
      obtain ⟨d, hd, hav⟩ := hav
      cases hw
      have hr : a.tmps.getD d undef = .bool x := h.tm d _ hav
      have hs : a.tmps[d]? = some (.bool x) := by
        cases hq : a.tmps[d]? with
        | none => simp [hq, undef] at hr
        | some v => simp [hq] at hr; rw [hr]
      unfold yielded
      rw [hd]
      simp only [Option.bind_some, hs]
      cases x <;> cases want <;> rfl
    · rename_i v hnb hav
      rw [Option.bind_eq_some_iff] at hav
      obtain ⟨d, hd, hav⟩ := hav
      cases hw
      have hr : a.tmps.getD d undef = v := h.tm d _ hav
      unfold yielded
      rw [hd]
      simp only [Option.bind_some]
      cases hq : a.tmps[d]? with
      | none => rfl
      | some u =>
        have hu : u = v := by simpa [hq] using hr
        subst hu
        cases u <;> first | rfl | exact absurd rfl (hnb _)
    · rename_i av _ _ hav
      rw [Option.bind_eq_some_iff] at hav
      obtain ⟨d, hd, hav⟩ := hav
      rw [Option.map_eq_some_iff] at hw
      obtain ⟨x, hx, e⟩ := hw
      subst e
      have hr := (asT_rep hx (h.tm d av hav)).bool
      have hs : a.tmps[d]? = some (.bool x) := by
        cases hq : a.tmps[d]? with
        | none => simp [hq, undef] at hr
        | some v => simp [hq] at hr; rw [hr]
      unfold yielded
      rw [hd]
      simp only [Option.bind_some, hs]
      cases x <;> cases want <;> rfl
    · cases hw

/-- A step of a region upon an abstract state is the model's. -/
theorem stepR_sound (hE : E.OK P) : SoundG P ops (stepR E ops n) (Rel n w0 ok0) := by
  intro i o s t a w hi ⟨ρ, h⟩ hs Q K hK
  simp only [stepR, hi, Option.bind_some, Option.bind_eq_some_iff] at hs
  obtain ⟨b, hb, e, he, happ⟩ := hs
  have hw := wantA_sound h hb
  unfold St.app at happ
  split at happ
  case isFalse => cases happ
  rename_i hcan
  cases happ
  rw [Bool.and_eq_true] at hcan
  obtain ⟨hd, hcan⟩ := hcan
  unfold wpOp
  simp only [hi, hw]
  cases b with
  | false =>
    cases he
    simp only [Bool.false_eq_true, if_false]
    exact hK _ _ ⟨ρ, h.putO hd rfl (fun _ _ e => by cases e)⟩
  | true =>
    simp only [if_true]
    refine .inl ?_
    have hok := evalOp_sound hE h (eff := e) he
    unfold Oper.wp
    cases e with
    | put av =>
      obtain ⟨hp, hg⟩ := hok
      rcases hg with ⟨v, w', hrun, hb, hr⟩ | ⟨f, args, hrun, hc⟩
      · rw [hrun]
        exact hK _ _ ⟨ρ, (h.step hb).putO hd hr hp⟩
      · rw [hrun]
        refine hc.mono fun e w' he => ?_
        obtain ⟨v, e1, hb, hr⟩ := he
        subst e1
        exact hK _ _ ⟨ρ, (h.step hb).putO hd hr hp⟩
    | new T x =>
      obtain ⟨cs, el, hrun, hh⟩ := hok
      rw [hrun]
      simp only [Eff.can, Bool.and_eq_true] at hcan
      obtain ⟨d, hdd⟩ := Option.isSome_iff_exists.1 hcan.1
      rw [hdd] at hd hcan hK
      show K (a.put o.dst _) _
      rw [hdd]
      exact hK _ _ ⟨_, h.new (d := d) (by simpa using hd) (by simpa using hcan.2) hh⟩
    | sto id T x =>
      obtain ⟨hid, cs, hrun, hh⟩ := hok
      rw [hrun]
      have h' := h.sto (d := id) hid hh rfl
      exact hK _ _ ⟨ρ, h'.putO hd rfl (fun _ _ e => by cases e)⟩

/-! ### what may be told in either order -/

def invS (s : St) : Prop := ∀ t id off, s.tm t = some (.ptr id off) → (s.bx id).isSome = true

def isLoad (o : Oper) : Bool := match o.op with | .load _ _ => true | _ => false
def isStore (o : Oper) : Bool := match o.op with | .store _ _ _ => true | _ => false

def commB (ops : Array Oper) (i j : Nat) : Bool :=
  match ops[i]?, ops[j]? with
  | some x, some y => x.apart ops y && !(isStore x && (isLoad y || isStore y)) && !(isStore y && isLoad x)
  | _, _ => false

theorem buildA_congr {t : TypeId} {T : Ty} {ev ev' : Operand → Option AV} : ∀ (ps : List (Nat × Operand)) (x : T.den), (∀ q ∈ ps, ev q.2 = ev' q.2) → buildA E t T ev ps x = buildA E t T ev' ps x
  | [], _, _ => rfl
  | (i, o) :: r, x, h => by
    have e : ev o = ev' o := h (i, o) List.mem_cons_self
    have ih := fun (x : T.den) => buildA_congr (t := t) (T := T) r x fun q hq => h q (List.mem_cons_of_mem _ hq)
    simp only [buildA, e, ih]

theorem buildL_congr {T : Ty} {ev ev' : Operand → Option AV} : ∀ (ps : List (Nat × Operand)) (l : List T.den), (∀ q ∈ ps, ev q.2 = ev' q.2) → buildL T ev ps l = buildL T ev' ps l
  | [], _, _ => rfl
  | (i, o) :: r, x, h => by
    have e : ev o = ev' o := h (i, o) List.mem_cons_self
    have ih := fun (x : List T.den) => buildL_congr (T := T) r x fun q hq => h q (List.mem_cons_of_mem _ hq)
    simp only [buildL, e, ih]

theorem evalOp_congr {ev ev' : Operand → Option AV} {bx bx' : Nat → Option (Sigma Ty.den)} (o : Oper) (h : ∀ x ∈ o.op.operands, ev x = ev' x)
    (hld : ∀ t x, o.op = .load t x → ∀ id off, ev x = some (.ptr id off) → bx id = bx' id) (hst : ∀ t x y, o.op = .store t x y → ∀ id off, ev x = some (.ptr id off) → bx id = bx' id) : evalOp E ev bx o.op = evalOp E ev' bx' o.op := by
  cases ho : o.op <;> simp only [ho] at h <;> simp only [Op.operands] at h <;> simp only [evalOp]
  case move x => rw [h x (by simp)]
  case assign x => rw [h x (by simp)]
  case load t x =>
    rw [← h x (by simp)]
    cases hx : ev x with
    | none => rfl
    | some av =>
      cases av with
      | ptr id off => simp only [Option.bind_some]; rw [hld t x ho id off hx]
      | _ => rfl
  case store t x y =>
    rw [← h x (by simp), ← h y (by simp)]
    cases hx : ev x with
    | none => rfl
    | some av =>
      cases av with
      | ptr id off => simp only [Option.bind_some]; rw [hst t x y ho id off hx]
      | _ => rfl
  case box t x => rw [h x (by simp)]
  case build t ps =>
    have hp : ∀ q ∈ ps.toList, ev q.2 = ev' q.2 := fun q hq => h q.2 (by simp; exact ⟨q.1, by simpa using hq⟩)
    cases E.ty t with
    | none => rfl
    | some T => simp only [Option.bind_some]; rw [buildA_congr _ _ hp]
  case buildSlice t len ps =>
    have hp : ∀ q ∈ ps.toList, ev q.2 = ev' q.2 := fun q hq => h q.2 (by simp; exact ⟨q.1, by simpa using hq⟩)
    cases E.ty t with
    | none => rfl
    | some T =>
      cases T with
      | list T => simp only [Option.bind_some]; rw [buildL_congr _ _ hp]
      | _ => rfl
  case pick c x y => rw [h c (by simp), h x (by simp), h y (by simp)]
  case field t x f => rw [h x (by simp)]
  case fieldAddr t x f => rw [h x (by simp)]
  case indexAddr t x i => rw [h x (by simp), h i (by simp)]
  case extract x k => rw [h x (by simp)]
  case index t x i => rw [h x (by simp), h i (by simp)]
  case binOp op t x y t' => rw [h x (by simp), h y (by simp)]
  case unOp op t x => rw [h x (by simp)]
  case convert t t' x => rw [h x (by simp)]
  case call c =>
    have hargs : c.args.toList.map ev = c.args.toList.map ev' := List.map_congr_left fun x hx => h x (by simp [Call.operands, Array.mem_toList_iff.1 hx])
    rw [hargs]

theorem updO_some {α : Type} {f : Nat → Option α} {p : Option (Nat × α)} {t : Nat} (h : (f t).isSome = true) : (updO f p t).isSome = true := by
  match p with
  | none => exact h
  | some (k, v) => simp only [updO, bif_beq]; split <;> first | rfl | exact h

theorem app_spec {dst : Option Nat} {e : Eff} (h : s.app n dst e = some t) :
    dst.all (· < n) = true ∧ e.can dst s = true ∧ t = ⟨updO s.tm (dst.map (·, e.av dst)), updO s.bx (e.key dst)⟩ := by
  unfold St.app at h
  split at h
  · rename_i hc
    rw [Bool.and_eq_true] at hc
    exact ⟨hc.1, hc.2, (Option.some.inj h).symm⟩
  · cases h

theorem app_of {dst : Option Nat} {e : Eff} (h1 : dst.all (· < n) = true) (h2 : e.can dst s = true) :
    s.app n dst e = some ⟨updO s.tm (dst.map (·, e.av dst)), updO s.bx (e.key dst)⟩ := by
  unfold St.app
  rw [if_pos (by rw [Bool.and_eq_true]; exact ⟨h1, h2⟩)]

theorem stepR_spec {i : Nat} (h : stepR E ops n i s = some t) : ∃ o b e, ops[i]? = some o ∧ wantA ops s o = some b ∧ (bif b then evalOp E s.ev s.bx o.op else some (.put (.cst undef))) = some e ∧ s.app n o.dst e = some t := by
  simp only [stepR, Option.bind_eq_some_iff] at h
  obtain ⟨o, ho, b, hb, e, he, h⟩ := h
  exact ⟨o, b, e, ho, hb, he, h⟩

theorem keepsS : KeepsG (stepR E ops n) invS := by
  intro i s t hv hs
  obtain ⟨o, b, e, ho, hb, he, h⟩ := stepR_spec hs
  obtain ⟨h1, h2, rfl⟩ := app_spec h
  intro k id off hk
  simp only at hk ⊢
  match hd : o.dst with
  | none =>
    rw [hd] at hk
    exact updO_some (hv k id off hk)
  | some d =>
    rw [hd] at hk h2
    simp only [Option.map_some, updO, bif_beq] at hk
    split at hk
    · cases e with
      | put av =>
        have := Option.some.inj hk
        simp only [Eff.av] at this
        subst this
        exact updO_some h2
      | new T x =>
        cases hk
        simp [Eff.key, updO]
      | sto id' T x => cases hk
    · exact updO_some (hv k id off hk)

theorem St.ev_upd {x : Operand} {p : Option (Nat × AV)} {bx : Nat → Option (Sigma Ty.den)} (h : ∀ d v, p = some (d, v) → x ≠ .tmp d) : St.ev ⟨updO s.tm p, bx⟩ x = s.ev x := by
  cases x with
  | tmp k => exact updO_at fun d v e => by rintro rfl; exact h _ _ e rfl
  | _ => rfl

theorem wantA_upd {p : Option (Nat × AV)} {bx : Nat → Option (Sigma Ty.den)} (h : ∀ d v, p = some (d, v) → d ∉ o.looksAt ops) : wantA ops ⟨updO s.tm p, bx⟩ o = wantA ops s o := by
  unfold wantA
  cases hg : o.guard with
  | none => rfl
  | some q =>
    obtain ⟨j, want⟩ := q
    simp only
    cases hd : (ops[j]?).bind (·.dst) with
    | none => rfl
    | some d =>
      simp only [Option.bind_some]
      rw [updO_at fun k v e => by rintro rfl; exact h _ _ e (by simp [Oper.looksAt, hg, hd])]

theorem eff_same {p : Option (Nat × AV)} {q : Option (Nat × Sigma Ty.den)} (hv : invS s) (h : ∀ d v, p = some (d, v) → d ∉ o.looksAt ops)
    (hq : (isLoad o || isStore o) = true → ∀ id v, q = some (id, v) → s.bx id = none) :
    evalOp E (St.ev ⟨updO s.tm p, updO s.bx q⟩) (updO s.bx q) o.op = evalOp E s.ev s.bx o.op := by
  have hev : ∀ x ∈ o.op.operands, St.ev ⟨updO s.tm p, updO s.bx q⟩ x = s.ev x := fun x hx => St.ev_upd fun d v e hxd => h d v e (by
    subst hxd
    exact List.mem_append_left _ (List.mem_filterMap.2 ⟨.tmp d, by simpa using hx, rfl⟩))
  have key : (isLoad o || isStore o) = true → ∀ x ∈ o.op.operands, ∀ id off, St.ev ⟨updO s.tm p, updO s.bx q⟩ x = some (.ptr id off) → updO s.bx q id = s.bx id := fun hl x hx id off he => by
    rw [hev x hx] at he
    refine updO_at fun k v e => ?_
    rintro rfl
    have hs : (s.bx id).isSome = true := by
      cases x with
      | tmp t => exact hv t id off he
      | const c => cases he
      | global g => cases he
      | func f => cases he
    rw [hq hl id v e] at hs
    cases hs
  refine evalOp_congr o hev (fun t x ho id off he => key (by simp [isLoad, ho]) x (by simp [ho, Op.operands]) id off he) (fun t x y ho id off he => key (by simp [isStore, ho]) x (by simp [ho, Op.operands]) id off he)

theorem evalOp_sto {ev : Operand → Option AV} {bx : Nat → Option (Sigma Ty.den)} {id : Nat} {T : Ty} {x : T.den} (h : evalOp E ev bx o.op = some (.sto id T x)) : isStore o = true ∧ (bx id).isSome = true := by
  unfold isStore
  cases ho : o.op <;> rw [ho] at h <;> simp only [evalOp, evalCall] at h
  case store t a v =>
    simp only [Option.bind_eq_some_iff (x := E.ty t), Option.bind_eq_some_iff (x := (ev v).bind _), Option.bind_eq_some_iff (x := ev a)] at h
    obtain ⟨U, hU, z, hz, av, hav, he⟩ := h
    cases av with
    | ptr id' off =>
      simp only [Option.bind_eq_some_iff, Option.map_eq_some_iff] at he
      obtain ⟨b, hb, q, hq, e⟩ := he
      cases e
      exact ⟨rfl, by rw [hb]; rfl⟩
    | _ => simp at he
  all_goals (exfalso; repeat' first | (rw [Option.bind_eq_some_iff] at h; obtain ⟨_, _, h⟩ := h) | (rw [Option.map_eq_some_iff] at h; obtain ⟨_, _, h⟩ := h) | (cases h; done) | split at h)

theorem resAV_put (l : List Ty) (x : HL l) (id off : Nat) (h : Eff.put (resAV l x) = .put (.ptr id off)) : False := resAV_ptr l x id off (Eff.put.inj h)

theorem evalOp_ptr {ev : Operand → Option AV} {bx : Nat → Option (Sigma Ty.den)} {id off : Nat} (h : evalOp E ev bx o.op = some (.put (.ptr id off))) : ∃ x off', ev x = some (.ptr id off') := by
  cases ho : o.op <;> rw [ho] at h <;> simp only [evalOp, evalCall] at h
  case move x => rw [Option.map_eq_some_iff] at h; obtain ⟨_, h1, h⟩ := h; cases h; exact ⟨x, off, h1⟩
  case assign x => rw [Option.map_eq_some_iff] at h; obtain ⟨_, h1, h⟩ := h; cases h; exact ⟨x, off, h1⟩
  case pick c x y =>
    simp only [Option.bind_eq_some_iff (x := (ev c).bind _), Option.map_eq_some_iff] at h
    obtain ⟨b, hb, av, hav, e⟩ := h
    cases e
    cases b with
    | true => exact ⟨x, off, hav⟩
    | false => exact ⟨y, off, hav⟩
  case fieldAddr t x f =>
    simp only [Option.bind_eq_some_iff] at h
    obtain ⟨q, hq, av, hav, h⟩ := h
    cases av with
    | ptr id' k => cases h; exact ⟨x, k, hav⟩
    | _ => simp at h
  case binOp op t x y t' =>
    exfalso
    rw [Option.bind_eq_some_iff] at h
    obtain ⟨U, hU, h⟩ := h
    cases U <;> simp only [Option.bind_eq_some_iff] at h <;> try cases h
    · rename_i k b h
      obtain ⟨h1, h⟩ := h
      split at h
      all_goals (simp only [Option.bind_eq_some_iff, Option.map_eq_some_iff] at h; obtain ⟨c, hc, av, hs, e⟩ := h; cases e; first | exact (run_shift (P := default) (w := default) (t := 0) (k' := .i64) hs).elim (fun v hv => hv.2.2 _ _ rfl) | (unfold binI at hs; (repeat' split at hs) <;> cases hs))
    · rename_i b h
      obtain ⟨h1, c, h2, h⟩ := h
      split at h <;> cases h
    · rename_i b h
      obtain ⟨h1, c, h2, h⟩ := h
      split at h
      · split at h <;> cases h
      · cases h
  all_goals (exfalso; repeat' first | (exact resAV_put _ _ _ _ h) | (rw [Option.bind_eq_some_iff] at h; obtain ⟨_, _, h⟩ := h) | (rw [Option.map_eq_some_iff] at h; obtain ⟨_, _, h⟩ := h) | (cases h; done) | split at h)

theorem evalOp_isSto {ev : Operand → Option AV} {bx : Nat → Option (Sigma Ty.den)} {id : Nat} {T : Ty} {x : T.den} (h : evalOp E ev bx o.op = some (.sto id T x)) : isStore o = true := (evalOp_sto h).1
theorem evalOp_bx {ev : Operand → Option AV} {bx : Nat → Option (Sigma Ty.den)} {id : Nat} {T : Ty} {x : T.den} (h : evalOp E ev bx o.op = some (.sto id T x)) : (bx id).isSome = true := (evalOp_sto h).2

theorem commS {i j : Nat} (hc : commB ops i j = true) : CommG (stepR E ops n) invS i j := by
  intro s s1 s2 hv h1 h2
  obtain ⟨x, b, e, ho, hb, he, h⟩ := stepR_spec h1
  obtain ⟨y, b', e', ho', hb', he', h'⟩ := stepR_spec h2
  obtain ⟨a1, a2, rfl⟩ := app_spec h
  obtain ⟨c1, c2, rfl⟩ := app_spec h'
  unfold commB at hc
  rw [ho, ho'] at hc
  simp only [Bool.and_eq_true, Bool.not_eq_true', Bool.and_eq_false_iff, Bool.or_eq_false_iff] at hc
  obtain ⟨⟨hap, hs1⟩, hs2⟩ := hc
  obtain ⟨p1, p2, p3⟩ := Oper.apart_spec hap
  have q1 : ∀ d v, x.dst.map (·, e.av x.dst) = some (d, v) → d ∉ y.looksAt ops := fun d v hh => by
    rw [Option.map_eq_some_iff] at hh
    obtain ⟨d', hd, hh⟩ := hh
    cases hh
    exact p1 _ hd
  have q2 : ∀ d v, y.dst.map (·, e'.av y.dst) = some (d, v) → d ∉ x.looksAt ops := fun d v hh => by
    rw [Option.map_eq_some_iff] at hh
    obtain ⟨d', hd, hh⟩ := hh
    cases hh
    exact p3 _ hd
  have hdd : ∀ d d', x.dst = some d → y.dst = some d' → d ≠ d' := fun d d' hx hy hh => p2 d hx (by rw [hy, hh])
  -- what 'x' writes is nothing that 'y' reads
  have k1 : (isLoad y || isStore y) = true → ∀ id v, e.key x.dst = some (id, v) → s.bx id = none := fun hy id v hk => by
    cases e with
    | put av => cases hk
    | new T z =>
      cases hk
      simp only [Eff.can, Bool.and_eq_true] at a2
      simpa using a2.2
    | sto id' T z =>
      exfalso
      cases b with
      | false => cases he
      | true =>
        have := evalOp_isSto he
        rcases hs1 with hs1 | hs1
        · rw [this] at hs1; cases hs1
        · rw [hs1.1, hs1.2] at hy; cases hy
  rw [wantA_upd q1] at hb'
  have he'' : (bif b' then evalOp E s.ev s.bx y.op else some (.put (.cst undef))) = some e' := by
    cases b' with
    | false => exact he'
    | true => rw [← he']; exact (eff_same hv q1 k1).symm
  -- keys differ
  have kk : ∀ k v k' v', e.key x.dst = some (k, v) → e'.key y.dst = some (k', v') → k ≠ k' := fun k v k' v' hk hk' hkk => by
    subst hkk
    cases e with
    | put av => cases hk
    | new T z =>
      cases hk
      simp only [Eff.can, Bool.and_eq_true] at a2
      cases e' with
      | put av => cases hk'
      | new T' z' =>
        simp only [Eff.can, Bool.and_eq_true] at c2
        obtain ⟨d, hd⟩ := Option.isSome_iff_exists.1 a2.1
        obtain ⟨d', hd'⟩ := Option.isSome_iff_exists.1 c2.1
        have := Option.some.inj hk'
        rw [hd, hd'] at this
        exact hdd d d' hd hd' (congrArg Prod.fst this).symm
      | sto id T' z' =>
        have h0 := congrArg Prod.fst (Option.some.inj hk')
        simp only at h0
        subst h0
        cases b' with
        | false => cases he''
        | true =>
          have h8 := evalOp_bx he''
          have h9 := a2.2
          simp only [Option.isNone_iff_eq_none] at h9
          rw [h9] at h8
          cases h8
    | sto id T z =>
      have hsx : isStore x = true := by
        cases b with
        | false => cases he
        | true => exact evalOp_isSto he
      have h0 := congrArg Prod.fst (Option.some.inj hk)
      simp only at h0
      subst h0
      cases e' with
      | put av => cases hk'
      | new T' z' =>
        have h0 := congrArg Prod.fst (Option.some.inj hk')
        simp only at h0
        simp only [Eff.can, Bool.and_eq_true] at c2 a2
        have h9 := c2.2
        rw [h0] at h9
        simp [Eff.key, updO] at h9
      | sto id' T' z' =>
        cases b' with
        | false => cases he''
        | true =>
          have := evalOp_isSto he''
          rcases hs1 with hs1 | hs1
          · rw [hsx] at hs1; cases hs1
          · rw [this] at hs1; cases hs1.2
  -- 'y' may come first
  have cy : e'.can y.dst s = true := by
    cases e' with
    | put av =>
      cases av with
      | ptr id off =>
        cases b' with
        | false => cases he''
        | true =>
          obtain ⟨z, off', hz⟩ := evalOp_ptr he''
          cases z with
          | tmp t => exact hv t id off' hz
          | const c => cases hz
          | global g => cases hz
          | func f => cases hz
      | _ => rfl
    | new T z =>
      simp only [Eff.can, Bool.and_eq_true] at c2 ⊢
      refine ⟨c2.1, ?_⟩
      cases hq : s.bx (y.dst.getD 0) with
      | none => rfl
      | some v =>
        have := updO_some (p := e.key x.dst) (f := s.bx) (t := y.dst.getD 0) (by rw [hq]; rfl)
        have h9 := c2.2
        simp only [Option.isNone_iff_eq_none] at h9
        rw [h9] at this
        cases this
    | sto id T z =>
      cases b' with
      | false => cases he''
      | true => exact evalOp_bx he''
  have k2 : (isLoad x || isStore x) = true → ∀ id v, e'.key y.dst = some (id, v) → s.bx id = none := fun hy id v hk => by
    cases e' with
    | put av => cases hk
    | new T z =>
      cases hk
      simp only [Eff.can, Bool.and_eq_true] at cy
      simpa using cy.2
    | sto id' T z =>
      exfalso
      cases b' with
      | false => cases he''
      | true =>
        have hsy := evalOp_isSto he''
        rw [hsy] at hs1 hs2
        rcases hs2 with hs2 | hs2
        · cases hs2
        · rcases hs1 with hs1 | hs1
          · rw [hs1, hs2] at hy; cases hy
          · cases hs1.2
  have he1 : (bif b then evalOp E (St.ev ⟨updO s.tm (y.dst.map (·, e'.av y.dst)), updO s.bx (e'.key y.dst)⟩) (updO s.bx (e'.key y.dst)) x.op else some (.put (.cst undef))) = some e := by
    cases b with
    | false => exact he
    | true => rw [← he]; exact eff_same hv q2 k2
  have cx : e.can x.dst ⟨updO s.tm (y.dst.map (·, e'.av y.dst)), updO s.bx (e'.key y.dst)⟩ = true := by
    cases e with
    | put av =>
      cases av with
      | ptr id off => exact updO_some a2
      | _ => rfl
    | new T z =>
      simp only [Eff.can, Bool.and_eq_true] at a2 ⊢
      refine ⟨a2.1, ?_⟩
      have h9 := a2.2
      rw [updO_at fun k v hk hkk => kk (x.dst.getD 0) ⟨T, z⟩ k v rfl hk hkk]
      exact h9
    | sto id T z => exact updO_some a2
  refine ⟨⟨updO s.tm (y.dst.map (·, e'.av y.dst)), updO s.bx (e'.key y.dst)⟩, ?_, ?_⟩
  · simp only [stepR, ho', Option.bind_some, hb', he'']
    exact app_of c1 cy
  · simp only [stepR, ho, Option.bind_some, wantA_upd q2, hb, he1]
    rw [app_of a1 cx]
    congr 2
    · exact updO_comm fun k v k' v' hk hk' => by
        rw [Option.map_eq_some_iff] at hk hk'
        obtain ⟨d, hd, hk⟩ := hk
        obtain ⟨d', hd', hk'⟩ := hk'
        cases hk
        cases hk'
        exact fun e => hdd _ _ hd' hd e.symm
    · exact updO_comm fun k v k' v' hk hk' e => kk k' v' k v hk' hk e.symm


def memA (o : Oper) : Option Nat :=
  match o.op with
  | .store _ (.tmp a) _ => some a
  | .load _ (.tmp a) => some a
  | _ => none

/-- Two operations upon variables that are not the same. -/
def sto2 (ops : Array Oper) (s0 : St) (i j : Nat) : Bool :=
  match ops[i]?, ops[j]? with
  | some x, some y =>
    match memA x, memA y with
    | some a, some b =>
      x.apart ops y && x.guard.isNone && y.guard.isNone && !(ops.any fun o => o.dst == some a) && !(ops.any fun o => o.dst == some b) &&
      (match s0.tm a, s0.tm b with
       | some (.ptr k _), some (.ptr l _) => !Nat.beq k l
       | _, _ => false)
    | _, _ => false
  | _, _ => false

def commD (ops : Array Oper) (s0 : St) (i j : Nat) : Bool := commB ops i j || sto2 ops s0 i j

/-- What a region does not write, it has not written. -/
def invD (ops : Array Oper) (s0 s : St) : Prop := invS s ∧ ∀ t, (ops.any fun o => o.dst == some t) = false → s.tm t = s0.tm t

theorem invD_self {s0 : St} (h : invS s0) : invD ops s0 s0 := ⟨h, fun _ _ => rfl⟩

theorem keepsD {s0 : St} : KeepsG (stepR E ops n) (invD ops s0) := by
  intro i s t hv hs
  refine ⟨keepsS i s t hv.1 hs, fun k hk => ?_⟩
  obtain ⟨o, b, e, ho, hb, he, h⟩ := stepR_spec hs
  obtain ⟨h1, h2, rfl⟩ := app_spec h
  refine (updO_at fun d v hd => ?_).trans (hv.2 k hk)
  rw [Option.map_eq_some_iff] at hd
  obtain ⟨d', hd', e1⟩ := hd
  cases e1
  rintro rfl
  have : (ops.any fun o => o.dst == some k) = true := Array.any_eq_true'.2 ⟨o, Array.mem_of_getElem? ho, by simp [hd']⟩
  rw [hk] at this
  cases this

/-- An operation upon the variable k: it reads it, or writes it. -/
def keyed (k : Nat) (e : Eff) : Prop := (∃ T y, e = .put (.v T y)) ∨ ∃ T z, e = .sto k T z

theorem evalOp_mem {ev : Operand → Option AV} {bx : Nat → Option (Sigma Ty.den)} {ad : Nat} {e : Eff} {id off : Nat} (hm : memA o = some ad) (h : evalOp E ev bx o.op = some e) (hx : ev (.tmp ad) = some (.ptr id off)) : keyed id e := by
  unfold memA at hm
  split at hm
  · rename_i t a' y ho
    cases hm
    rw [ho] at h
    simp only [evalOp, Option.bind_eq_some_iff (x := E.ty t), Option.bind_eq_some_iff (x := (ev y).bind _), Option.bind_eq_some_iff (x := ev (.tmp ad))] at h
    obtain ⟨U, hU, z, hz, av, hav, h⟩ := h
    rw [hx] at hav
    cases hav
    simp only [Option.bind_eq_some_iff, Option.map_eq_some_iff] at h
    obtain ⟨b, hb, q, hq, e⟩ := h
    exact .inr ⟨_, _, e.symm⟩
  · rename_i t a' ho
    cases hm
    rw [ho] at h
    simp only [evalOp, Option.bind_eq_some_iff (x := E.ty t), Option.bind_eq_some_iff (x := ev (.tmp ad))] at h
    obtain ⟨U, hU, av, hav, h⟩ := h
    rw [hx] at hav
    cases hav
    simp only [Option.bind_eq_some_iff, Option.map_eq_some_iff] at h
    obtain ⟨b, hb, q, hq, e⟩ := h
    exact .inl ⟨_, _, e.symm⟩
  · cases hm

theorem memA_mem {ad : Nat} (hm : memA o = some ad) : .tmp ad ∈ o.op.operands ∧ (∀ t z, o.op = .load t z → z = .tmp ad) ∧ (∀ t z u, o.op = .store t z u → z = .tmp ad) := by
  unfold memA at hm
  split at hm
  · rename_i ho
    cases hm
    rw [ho]
    exact ⟨by simp [Op.operands], fun _ _ e => (by cases e), fun _ _ _ e => (by cases e; rfl)⟩
  · rename_i ho
    cases hm
    rw [ho]
    exact ⟨by simp [Op.operands], fun _ _ e => (by cases e; rfl), fun _ _ _ e => (by cases e)⟩
  · cases hm

theorem keyed_key {k : Nat} {e : Eff} {dst : Option Nat} (h : keyed k e) : ∀ k' v, e.key dst = some (k', v) → k' = k := by
  rcases h with ⟨T, y, rfl⟩ | ⟨T, z, rfl⟩
  · intro k' v h; cases h
  · intro k' v h; exact (congrArg Prod.fst (Option.some.inj h)).symm

theorem commSto {s0 : St} {i j : Nat} (hc : sto2 ops s0 i j = true) : CommG (stepR E ops n) (invD ops s0) i j := by
  intro s s1 s2 hv h1 h2
  obtain ⟨x, b, e, ho, hb, he, h⟩ := stepR_spec h1
  obtain ⟨y, b', e', ho', hb', he', h'⟩ := stepR_spec h2
  obtain ⟨a1, a2, rfl⟩ := app_spec h
  obtain ⟨c1, c2, rfl⟩ := app_spec h'
  unfold sto2 at hc
  rw [ho, ho'] at hc
  simp only at hc
  split at hc
  case h_2 => cases hc
  rename_i _ _ ad bd hx hy
  simp only [Bool.and_eq_true, Bool.not_eq_true', Option.isNone_iff_eq_none] at hc
  obtain ⟨⟨⟨⟨⟨hap, hg1⟩, hg2⟩, hn1⟩, hn2⟩, hne⟩ := hc
  split at hne
  case h_2 => cases hne
  rename_i _ _ k o1 l o2 hk hl
  obtain ⟨p1, p2, p3⟩ := Oper.apart_spec hap
  have hkl : k ≠ l := fun e => by rw [e, Nat.beq_refl] at hne; cases hne
  have hb1 : b = true := by simp only [wantA, hg1] at hb; exact (Option.some.inj hb).symm
  have hb2 : b' = true := by simp only [wantA, hg2] at hb'; exact (Option.some.inj hb').symm
  subst hb1; subst hb2
  simp only [cond_true] at he he'
  have q1 : ∀ d v, x.dst.map (·, e.av x.dst) = some (d, v) → d ∉ y.looksAt ops := fun d v hh => by
    rw [Option.map_eq_some_iff] at hh
    obtain ⟨d', hd, hh⟩ := hh
    cases hh
    exact p1 _ hd
  have q2 : ∀ d v, y.dst.map (·, e'.av y.dst) = some (d, v) → d ∉ x.looksAt ops := fun d v hh => by
    rw [Option.map_eq_some_iff] at hh
    obtain ⟨d', hd, hh⟩ := hh
    cases hh
    exact p3 _ hd
  have hdd : ∀ d d', x.dst = some d → y.dst = some d' → d ≠ d' := fun d d' hx hy hh => p2 d hx (by rw [hy, hh])
  have ex : s.ev (.tmp ad) = some (.ptr k o1) := (hv.2 ad hn1).trans hk
  have ey : s.ev (.tmp bd) = some (.ptr l o2) := (hv.2 bd hn2).trans hl
  have ke := evalOp_mem hx he ex
  obtain ⟨mx1, mx2, mx3⟩ := memA_mem hx
  obtain ⟨my1, my2, my3⟩ := memA_mem hy
  have evy : ∀ z ∈ y.op.operands, St.ev ⟨updO s.tm (x.dst.map (·, e.av x.dst)), updO s.bx (e.key x.dst)⟩ z = s.ev z := fun z hz => St.ev_upd fun d v e hxd => q1 d v e (by
    subst hxd
    exact List.mem_append_left _ (List.mem_filterMap.2 ⟨.tmp d, by simpa using hz, rfl⟩))
  have sy : ∀ z, z = .tmp bd → ∀ id off, St.ev ⟨updO s.tm (x.dst.map (·, e.av x.dst)), updO s.bx (e.key x.dst)⟩ z = some (.ptr id off) → updO s.bx (e.key x.dst) id = s.bx id := fun z hz id off hq => by
    subst hz
    rw [evy _ my1, ey] at hq
    cases hq
    exact updO_at fun k' v e => by rw [keyed_key ke k' v e]; exact Ne.symm hkl
  have he'' : evalOp E s.ev s.bx y.op = some e' := by
    rw [← he']
    exact (evalOp_congr y evy (fun t z ho id off hq => sy z (my2 t z ho) id off hq) fun t z u ho id off hq => sy z (my3 t z u ho) id off hq).symm
  have ke' := evalOp_mem hy he'' ey
  have evx : ∀ z ∈ x.op.operands, St.ev ⟨updO s.tm (y.dst.map (·, e'.av y.dst)), updO s.bx (e'.key y.dst)⟩ z = s.ev z := fun z hz => St.ev_upd fun d v e hxd => q2 d v e (by
    subst hxd
    exact List.mem_append_left _ (List.mem_filterMap.2 ⟨.tmp d, by simpa using hz, rfl⟩))
  have sx : ∀ z, z = .tmp ad → ∀ id off, St.ev ⟨updO s.tm (y.dst.map (·, e'.av y.dst)), updO s.bx (e'.key y.dst)⟩ z = some (.ptr id off) → updO s.bx (e'.key y.dst) id = s.bx id := fun z hz id off hq => by
    subst hz
    rw [evx _ mx1, ex] at hq
    cases hq
    exact updO_at fun k' v e => by rw [keyed_key ke' k' v e]; exact hkl
  have he1 : evalOp E (St.ev ⟨updO s.tm (y.dst.map (·, e'.av y.dst)), updO s.bx (e'.key y.dst)⟩) (updO s.bx (e'.key y.dst)) x.op = some e := by
    rw [← he]
    exact evalOp_congr x evx (fun t z ho id off hq => sx z (mx2 t z ho) id off hq) fun t z u ho id off hq => sx z (mx3 t z u ho) id off hq
  have cy : e'.can y.dst s = true := by
    rcases ke' with ⟨T, z, rfl⟩ | ⟨T, z, rfl⟩
    · rfl
    · exact evalOp_bx he''
  have cx : e.can x.dst ⟨updO s.tm (y.dst.map (·, e'.av y.dst)), updO s.bx (e'.key y.dst)⟩ = true := by
    rcases ke with ⟨T, z, rfl⟩ | ⟨T, z, rfl⟩
    · rfl
    · exact updO_some (p := e'.key y.dst) (f := s.bx) (t := k) a2
  have w1 : wantA ops s y = some true := by simp only [wantA, hg2]
  have w2 : ∀ s, wantA ops s x = some true := fun s => by simp only [wantA, hg1]
  refine ⟨⟨updO s.tm (y.dst.map (·, e'.av y.dst)), updO s.bx (e'.key y.dst)⟩, ?_, ?_⟩
  · simp only [stepR, ho', Option.bind_some, w1, cond_true, he'']
    exact app_of c1 cy
  · simp only [stepR, ho, Option.bind_some, w2, cond_true, he1]
    rw [app_of a1 cx]
    congr 2
    · exact updO_comm fun k v k' v' hk hk' => by
        rw [Option.map_eq_some_iff] at hk hk'
        obtain ⟨d, hd, hk⟩ := hk
        obtain ⟨d', hd', hk'⟩ := hk'
        cases hk
        cases hk'
        exact fun e => hdd _ _ hd' hd e.symm
    · exact updO_comm fun k' v k'' v' h1 h2 => by
        rw [keyed_key ke' k' v h1, keyed_key ke k'' v' h2]
        exact Ne.symm hkl

theorem commD_spec {s0 : St} {i j : Nat} (h : commD ops s0 i j = true) : CommG (stepR E ops n) (invD ops s0) i j := by
  unfold commD at h
  rw [Bool.or_eq_true] at h
  rcases h with h | h
  · exact fun s s1 s2 hv => commS h s s1 s2 hv.1
  · exact commSto h

end
/-! ### code upon abstract states -/

/-- From every act and world that an abstract state stands for, the code ends as 'Q' says. -/
def Awp {G : World → Prop} (P : Program) (n : Nat) (w0 : GW G) (ok0 : Nat → Prop) (c : Code) (Q : Exit → St → Prop) (s : St) : Prop :=
  ∀ a w, Rel n w0 ok0 s a w → c.wp P (fun e a' w' => ∃ t, Q e t ∧ Rel n w0 ok0 t a' w') a w

/-- What 's'' knows, 's' knows. -/
structure St.Le (s' s : St) : Prop where
  tm : ∀ t av, s'.tm t = some av → s.tm t = some av
  bx : ∀ id v, s'.bx id = some v → s.bx id = some v
  inv : ∀ t id off, s'.tm t = some (.ptr id off) → (s'.bx id).isSome = true

section
variable {P : Program} {E : Env} {n : Nat} {w0 : GW E.G} {ok0 : Nat → Prop} {s s' t : St} {a : Act} {w w' : World} {Q Q' : Exit → St → Prop} {x y c : Code}

theorem Rel.forget (h : Rel n w0 ok0 s a w) (hl : s'.Le s) : Rel n w0 ok0 s' a w := by
  obtain ⟨ρ, h⟩ := h
  have hsome : ∀ id, (s'.bx id).isSome = true → (s.bx id).isSome = true := fun id hid => by
    obtain ⟨v, hv⟩ := Option.isSome_iff_exists.1 hid
    rw [hl.bx id v hv]; rfl
  have hm : ∀ k c e z, okS w0 ok0 ρ s k → w.heap[k]? = some (.cells c e z) → okS w0 ok0 ρ s' k ∧ w.heap[k]? = some (.cells c e z) := fun k c e z hk hh =>
    ⟨⟨hk.1, fun id hid => hk.2 id (hsome id hid)⟩, hh⟩
  refine ⟨ρ, h.size, h.defers, fun t av ht => RepA.map hm (fun _ _ _ => rfl) (h.tm t av (hl.tm t av ht)), fun id T x hx => ?_, fun i j hi hj => h.inj i j (hsome i hi) (hsome j hj), hl.inv, h.below⟩
  obtain ⟨h1, cs, e, h2, h3⟩ := h.bx id T x (hl.bx id _ hx)
  exact ⟨h1, cs, e, h2, Holds.map hm _ _ _ h3⟩

theorem Rel.drew (h : Rel n w0 ok0 s a w) : Rel n w0 ok0 s a { w with drawn := w.drawn + 1 } := by
  obtain ⟨ρ, h⟩ := h
  exact ⟨ρ, h.step (Below.refl _ _).drew⟩

theorem Awp.mono (h : Awp P n w0 ok0 c Q s) (hq : ∀ e t, Q e t → ∃ t', Q' e t' ∧ t'.Le t) : Awp P n w0 ok0 c Q' s := fun a w hr =>
  wp_mono (h a w hr) fun e a' w' ⟨t, h1, h2⟩ => by
    obtain ⟨t', h3, h4⟩ := hq e t h1
    exact ⟨t', h3, h2.forget h4⟩

theorem Awp.imp (h : Awp P n w0 ok0 c Q s) (hq : ∀ e t, Q e t → Q' e t) : Awp P n w0 ok0 c Q' s := fun a w hr =>
  wp_mono (h a w hr) fun e _ _ ⟨t, h1, h2⟩ => ⟨t, hq e t h1, h2⟩

theorem Awp.forget (h : Awp P n w0 ok0 c Q s') (hl : s'.Le s) : Awp P n w0 ok0 c Q s := fun a w hr => h a w (hr.forget hl)

def thenA (next : St → Prop) (Q : Exit → St → Prop) : Exit → St → Prop
  | .normal, t => next t
  | e, t => Q e t

theorem Awp.seq (h : Awp P n w0 ok0 x (thenA (Awp P n w0 ok0 y Q) Q) s) : Awp P n w0 ok0 (.seq x y) Q s := fun a w hr =>
  wp_seq (wp_mono (h a w hr) fun e a' w' ⟨t, h1, h2⟩ => by
    cases e with
    | normal => exact h1 a' w' h2
    | _ => exact ⟨t, h1, h2⟩)

theorem Awp.skip (h : Q .normal s) : Awp P n w0 ok0 .skip Q s := fun _ _ hr => wp_skip ⟨s, h, hr⟩
theorem Awp.ret (h : Q .ret s) : Awp P n w0 ok0 .ret Q s := fun _ _ hr => wp_ret ⟨s, h, hr⟩
theorem Awp.exit {id : Nat} (h : Q (.exit id) s) : Awp P n w0 ok0 (.exit id) Q s := fun _ _ hr => wp_exit ⟨s, h, hr⟩

def inBlockA (id : Nat) (Q : Exit → St → Prop) : Exit → St → Prop
  | .exit id', t => if id' = id then Q .normal t else Q (.exit id') t
  | e, t => Q e t

theorem Awp.block {id : Nat} (h : Awp P n w0 ok0 c (inBlockA id Q) s) : Awp P n w0 ok0 (.block id c) Q s := fun a w hr =>
  wp_block (wp_mono (h a w hr) fun e a' w' ⟨t, h1, h2⟩ => by
    cases e with
    | exit id' =>
      simp only [Exit.inBlock, inBlockA] at h1 ⊢
      split at h1
      · rw [if_pos (by assumption)]; exact ⟨t, h1, h2⟩
      · rw [if_neg (by assumption)]; exact ⟨t, h1, h2⟩
    | _ => exact ⟨t, h1, h2⟩)

theorem Awp.cond {c : Operand} {b : Bool} (hb : (s.ev c).bind (asT .bool) = some b) (h1 : b = true → Awp P n w0 ok0 x Q s) (h2 : b = false → Awp P n w0 ok0 y Q s) :
    Awp P n w0 ok0 (.cond c x y) Q s := fun a w hr => by
  obtain ⟨ρ, h⟩ := hr
  exact wp_cond_split (h.evT hb).bool (fun e => h1 e a w ⟨ρ, h⟩) (fun e => h2 e a w ⟨ρ, h⟩)

theorem Awp.region {id : Nat} {ops : Array Oper} (hE : E.OK P) (h : runL (stepR E ops n) (List.range' 0 ops.size) s = some t) (hq : Q .normal t) :
    Awp P n w0 ok0 (.region id ops false) Q s := fun _ _ hr =>
  wp_region_abs' (stepR_sound hE) hr h (fun _ _ hr => ⟨t, hq, hr⟩)

theorem Awp.region' {id : Nat} {ops : Array Oper} (hE : E.OK P) (hm : P.follows .mixedOrders = true) (hB : lexC (commD ops s) .any ops ops.size 0 (Array.replicate ops.size false) = true)
    (h : runL (stepR E ops n) (List.range' 0 ops.size) s = some t) (hq : Q .normal t) : Awp P n w0 ok0 (.region id ops true) Q s := fun _ _ hr =>
  wp_region_abs hm (stepR_sound hE) keepsD (invD_self (by obtain ⟨_, h⟩ := hr; exact h.inv)) (fun _ _ hc => commD_spec hc) hB hr.drew h (fun _ _ hr => ⟨t, hq, hr⟩)

/-- A loop, by a number that falls. -/
theorem Awp.loop (I : Nat → St → Prop) {k : Nat} (h0 : I k s) (round : ∀ k s, I k s → Awp P n w0 ok0 c (thenA (fun t => ∃ j, j < k ∧ I j t) Q) s) : Awp P n w0 ok0 (.loop c) Q s := by
  intro a w hr b kk cs
  have key : ∀ k s a w, I k s → Rel n w0 ok0 s a w →
      ∃ e a' w', (∃ t, Q e t ∧ Rel n w0 ok0 t a' w') ∧ Arrives P (lone (b.at a (.code c :: .inLoop c :: kk)) cs w) b kk cs e a' w' := by
    intro k
    induction k using Nat.strongRecOn with
    | _ k ih =>
      intro s a w hI hr
      obtain ⟨e, a₁, w₁, ⟨t, hq, hrt⟩, harr⟩ := round k s hI a w hr b (.inLoop c :: kk) cs
      cases e with
      | normal =>
        obtain ⟨j, hj, hI'⟩ := hq
        obtain ⟨e₂, a₂, w₂, hq₂, harr₂⟩ := ih j hj t a₁ w₁ hI' hrt
        exact ⟨e₂, a₂, w₂, hq₂, .of_steps (Steps.trans harr (.one step_inLoop)) harr₂⟩
      | exit id => exact ⟨_, a₁, w₁, ⟨t, hq, hrt⟩, .pass (x := .inLoop c) rfl (fun _ _ => .inl (by simp)) harr⟩
      | goto l => exact ⟨_, a₁, w₁, ⟨t, hq, hrt⟩, .pass (x := .inLoop c) rfl (fun _ _ => .inl (by simp)) harr⟩
      | ret => exact ⟨_, a₁, w₁, ⟨t, hq, hrt⟩, .pass (x := .inLoop c) rfl (fun _ _ => .inl (by simp)) harr⟩
      | panic ch => exact ⟨_, a₁, w₁, ⟨t, hq, hrt⟩, .pass (x := .inLoop c) rfl (fun _ _ => .inl (by simp)) harr⟩
      | outgrown => exact ⟨_, a₁, w₁, ⟨t, hq, hrt⟩, .pass (x := .inLoop c) rfl (fun _ _ => .inl (by simp)) harr⟩
  obtain ⟨e, a', w', hq, harr⟩ := key k s a w h0 hr
  exact ⟨e, a', w', hq, .of_steps (.one step_loop) harr⟩

/-! ### functions -/

def retL (E : Env) (s : St) : List ResultVar → (l : List Ty) → Option (HL l)
  | [], [] => some ()
  | .tmp p :: r, T :: l => ((s.tm p).bind (asT T)).bind fun x => (retL E s r l).bind fun y => some (x, y)
  | .cell p ty :: r, T :: l => (s.tm p).bind fun av =>
      match av with
      | .ptr id off => (s.bx id).bind fun b => if E.ty ty = some T then (sub b.1 b.2 off T).bind fun x => (retL E s r l).bind fun y => some (x, y) else none
      | _ => none
  | _, _ => none

theorem asAddr_ptr (x : Addr) : asAddr (.pointer (some x)) = pure x := rfl

theorem retL_sound (hE : E.OK P) {ρ : Nat → Nat} (h : RelC n w0 ok0 ρ s a w) : ∀ (rs : List ResultVar) (l : List Ty) (r : HL l), retL E s rs l = some r →
    ∃ vs, (rs.mapM (fun | .tmp t => pure (a.tmps.getD t undef) | .cell p t => do loadVar t (← asAddr (a.tmps.getD p undef)) : ResultVar → Sem Value)).run P w = .ok vs w ∧ RepL w (okS w0 ok0 ρ s) l r vs
  | [], [], r, _ => ⟨[], rfl, rfl⟩
  | [], _ :: _, r, h => by simp [retL] at h
  | .tmp p :: rs, [], r, h => by simp [retL] at h
  | .cell p ty :: rs, [], r, h => by simp [retL] at h
  | .tmp p :: rs, T :: l, r, he => by
    simp only [retL, Option.bind_eq_some_iff (x := (s.tm p).bind _), Option.bind_eq_some_iff (x := retL E s rs l)] at he
    obtain ⟨x, hx, y, hy, e⟩ := he
    cases e
    obtain ⟨vs, h1, h2⟩ := retL_sound hE h rs l y hy
    have hr := h.evT (x := .tmp p) hx
    refine ⟨_ :: vs, ?_, _, _, rfl, hr, h2⟩
    simp only [List.mapM_cons, Sem.run_bind, Sem.run_pure, Result.andThen_ok, h1]
    rfl
  | .cell p ty :: rs, T :: l, r, he => by
    simp only [retL, Option.bind_eq_some_iff (x := s.tm p)] at he
    obtain ⟨av, hav, he⟩ := he
    cases av with
    | ptr id off =>
      simp only [Option.bind_eq_some_iff (x := s.bx id)] at he
      obtain ⟨⟨U, b⟩, hb, he⟩ := he
      split at he
      · rename_i hty
        simp only [Option.bind_eq_some_iff] at he
        obtain ⟨x, hx, y, hy, e⟩ := he
        cases e
        obtain ⟨vs, h1, h2⟩ := retL_sound hE h rs l y hy
        obtain ⟨_, cs, el, hh, hc⟩ := h.bx id U b hb
        obtain ⟨h3, h4⟩ := sub_holds _ _ _ _ _ _ hx hc
        obtain ⟨ti, d, hok⟩ := hE.ty ty T hty
        have hat : At w (ρ id) 0 cs.toList := ⟨cs, el, _, hh, fun j v hj => by simpa using hj⟩
        have hat' := At.part (k := off) (m := T.size) hat
        rw [Nat.zero_add] at hat'
        have hld := run_loadVar_at hok hat' (Holds.len _ _ _ h3)
        have hp : a.tmps.getD p undef = .pointer (some ⟨ρ id, off, none⟩) := h.tm p _ hav
        refine ⟨_ :: vs, ?_, _, _, rfl, ⟨_, h3, rfl⟩, h2⟩
        simp only [List.mapM_cons, hp, asAddr_ptr, Sem.run_bind, Sem.run_pure, Result.andThen_ok, hld, h1]
      · cases he
    | _ => simp at he

theorem resAV_rep {ok : Nat → Prop} {ρ : Nat → Nat} : ∀ (l : List Ty) (r : HL l) (vs : List Value), RepL w ok l r vs → RepA w ok ρ (resAV l r) (if h : vs.toArray.size = 1 then vs.toArray[0] else .tuple vs.toArray) := by
  have all : ∀ (l : List Ty) (r : HL l) (vs : List Value), RepL w ok l r vs → All2 (fun (s : Sigma Ty.den) u => Rep w ok s.1 s.2 u) (toSg l r) vs ∧ vs.length = l.length := by
    intro l
    induction l with
    | nil => intro r vs h; rw [show vs = [] from h]; exact ⟨trivial, rfl⟩
    | cons T l ih =>
      intro r vs h
      obtain ⟨v, q, e, h1, h2⟩ := h
      subst e
      obtain ⟨h3, h4⟩ := ih _ _ h2
      exact ⟨⟨h1, h3⟩, by simp [h4]⟩
  intro l r vs h
  obtain ⟨h1, h2⟩ := all l r vs h
  match l, r, vs, h with
  | [], r, [], _ => exact ⟨[], rfl, trivial⟩
  | [T], r, [v], h =>
    obtain ⟨v', q, e, h3, _⟩ := h
    cases e
    exact h3
  | T :: T' :: l, r, [], h => simp at h2
  | T :: T' :: l, r, [v], h => simp at h2
  | T :: T' :: l, r, v :: v' :: vs, h => exact ⟨_, by simp, h1⟩

def argA : (l : List Ty) → HL l → Nat → Option AV
  | [], _, _ => none
  | T :: _, x, 0 => some (.v T x.1)
  | _ :: l, x, k + 1 => argA l x.2 k

def St.init (l : List Ty) (x : HL l) : St := ⟨argA l x, fun _ => none⟩

theorem argA_rep {ok : Nat → Prop} {ρ : Nat → Nat} : ∀ (l : List Ty) (x : HL l) (vs : List Value), RepL w ok l x vs → vs.length = l.length ∧ ∀ t av, argA l x t = some av → ∃ v, vs[t]? = some v ∧ RepA w ok ρ av v
  | [], _, vs, h => by rw [show vs = [] from h]; exact ⟨rfl, fun _ _ e => by simp [argA] at e⟩
  | T :: l, x, vs, h => by
    obtain ⟨v, q, e, h1, h2⟩ := h
    subst e
    obtain ⟨h3, h4⟩ := argA_rep (ρ := ρ) l x.2 q h2
    refine ⟨by simp [h3], fun t av ht => ?_⟩
    cases t with
    | zero => cases ht; exact ⟨v, rfl, h1⟩
    | succ t => simpa using h4 t av ht

theorem argA_ptr : ∀ (l : List Ty) (x : HL l) (t id off : Nat), argA l x t ≠ some (.ptr id off)
  | [], _, _, _, _, e => by simp [argA] at e
  | _ :: _, _, 0, _, _, e => by cases e
  | _ :: l, x, t + 1, id, off, e => argA_ptr l x.2 t id off e

/-- A FUNCTION, FROM ITS CODE UPON ABSTRACT STATES. -/
theorem SpecOK.of (hE : E.OK P) {f : FuncId} {fn : Func} {c : Code} {S : Spec} (hf : P.funcs[f]? = some fn) (hn : (fn.name == "runtime.NumGoroutine") = false) (hb : fn.body = some c) (hl : S.args.length ≤ fn.ntmps)
    (h : ∀ xs r, S.F xs = some r → ∀ (w0 : GW E.G) ok0, Awp P fn.ntmps w0 ok0 c (fun e t => (e = .ret ∨ e = .normal) ∧ retL E t fn.results.toList S.res = some r) (St.init S.args xs)) : SpecOK P E.G f S := by
  refine ⟨⟨fn, c, hf, hn, hb⟩, fun w ok xs vs r hg hxs hr => ?_⟩
  obtain ⟨hlen, hargs⟩ := argA_rep (ρ := fun _ => 0) S.args xs vs hxs
  refine calls_of_wp hf hb (wp_mono (h xs r hr ⟨w, hg⟩ ok { tmps := vs.toArray ++ Array.replicate (fn.ntmps - vs.toArray.size) undef, defers := [] } w ⟨fun _ => 0, ?_⟩) ?_)
  · refine ⟨by simp [hlen]; omega, rfl, fun t av ht => ?_, fun id T x hx => (by cases hx), fun i j hi => (by cases hi), fun t id off e => absurd e (argA_ptr _ _ _ _ _), Below.refl _ _⟩
    obtain ⟨v, hv, hrep⟩ := hargs t av ht
    have hlt : t < vs.length := (List.getElem?_eq_some_iff.1 hv).1
    have : (vs.toArray ++ Array.replicate (fn.ntmps - vs.toArray.size) undef).getD t undef = v := by
      simp [Array.getElem?_append, hlt] at hv ⊢
      rw [hv]
    show RepA w _ _ av ((vs.toArray ++ Array.replicate (fn.ntmps - vs.toArray.size) undef).getD t undef)
    rw [this]
    refine RepA.map (fun k c e z hk hh => ⟨⟨.inl hk, fun id hid => by cases hid⟩, hh⟩) (fun _ _ _ => rfl) hrep
  · intro e a' w' ⟨t, ⟨he, hret⟩, ρ, hrel⟩
    have fin : a'.defers = [] ∧ ∃ v, (results fn a'.tmps).run P w' = .ok v w' ∧ (∃ v', Ending.returned v = .returned v' ∧ Below w.heap.size w w' ∧ RepA w' (fun k => ok k ∨ w.heap.size ≤ k) (fun _ => 0) (resAV S.res r) v') := by
      refine ⟨hrel.defers, ?_⟩
      obtain ⟨vs', h1, h2⟩ := retL_sound hE hrel _ _ _ hret
      refine ⟨_, ?_, _, rfl, hrel.below, RepA.map (fun k c e z hk hh => ⟨hk.1, hh⟩) (fun id off e => absurd e (resAV_ptr _ _ _ _)) (resAV_rep (ρ := fun _ => 0) S.res r vs' h2)⟩
      unfold results
      rw [show fn.results = fn.results.toList.toArray by simp, List.mapM_toArray]
      simp only [Sem.run_bind, Sem.run_map]
      exact (congrArg (fun r : Result (List Value) => (r.andThen fun x w' => Result.ok x.toArray w').andThen fun vs w' => (pure (if h : vs.size = 1 then vs[0] else Value.tuple vs) : Sem Value).run P w') h1).trans rfl
    rcases he with rfl | rfl
    · exact fin
    · exact fin

end
/-! ### the evaluator: code upon abstract states, what follows handed on -/

/-- Whether one operation comes up, and what it gives, handed on. -/
def callK {R : Type} (E : Env) (ats : Array TypeId) (callee : Callee) (avs : List (Option AV)) (k : Eff → Option R) : Option R :=
  match callee with
  | .value (.func f) =>
    match E.tab f with
    | some S => match asL S.args avs with
      | some xs => (S.F xs).bind fun r => k (.put (resAV S.res r))
      | none => none
    | none => none
  | c => match evalCall E ats c avs with
    | some e => k e
    | none => none

/-- Shifts and divisions: they may fall. -/
def divK {R : Type} (E : Env) (ev : Operand → Option AV) (op : BinOp) (t : TypeId) (x y : Operand) (k : Eff → Option R) : Option R :=
  match E.ty t with
  | some (.int j) =>
    match (ev x).bind (asT (.int j)) with
    | some a =>
      match op with
      | .shl => match (ev y).bind asI with
        | some b => if b < 0 then none else k (.put (.v (.int j) (j.wrap (a * 2 ^ min b.toNat j.bits))))
        | none => none
      | .shr => match (ev y).bind asI with
        | some b => if b < 0 then none else k (.put (.v (.int j) (a.fdiv (2 ^ min b.toNat j.bits))))
        | none => none
      | .quo => match (ev y).bind (asT (.int j)) with
        | some b => if b = 0 then none else k (.put (.v (.int j) (j.wrap (a.tdiv b))))
        | none => none
      | .rem => match (ev y).bind (asT (.int j)) with
        | some b => if b = 0 then none else k (.put (.v (.int j) (a.tmod b)))
        | none => none
      | _ => none
    | none => none
  | _ => none

def isDiv : BinOp → Bool
  | .shl | .shr | .quo | .rem => true
  | _ => false

def opK {R : Type} (E : Env) (ev : Operand → Option AV) (bx : Nat → Option (Sigma Ty.den)) (op : Op) (k : Eff → Option R) : Option R :=
  match op with
  | .call c => callK E c.argTypes c.callee (c.args.toList.map ev) k
  | .indexAddr t x i =>
    match E.ty t with
    | some (.list T) =>
      match (ev x).bind (asT (.list T)), (ev i).bind asI with
      | some l, some m => if 0 ≤ m then (l[m.toNat]?).bind fun y => k (.put (.ro T y 0)) else none
      | _, _ => none
    | _ => none
  | .index t x i =>
    bif E.str t then
      match ev x, (ev i).bind asI with
      | some (.cst (.string b)), some m => if 0 ≤ m then (b[m.toNat]?).bind fun y => k (.put (.v (.int .u8) (y.toNat : Int))) else none
      | _, _ => none
    else none
  | .binOp op t x y t' =>
    bif isDiv op then divK E ev op t x y k
    else match evalOp E ev bx (.binOp op t x y t') with
      | some e => k e
      | none => none
  | .pick c a b =>
    match (ev c).bind (asT .bool) with
    | some x => bif x then (match ev a with | some av => k (.put av) | none => none) else (match ev b with | some av => k (.put av) | none => none)
    | none => none
  | op => match evalOp E ev bx op with
    | some e => k e
    | none => none

/-- One operation, whose guard has been looked at. -/
def stepK {R : Type} (E : Env) (n : Nat) (o : Oper) (s : St) (b : Bool) (K : St → Option R) : Option R :=
  bif b then opK E s.ev s.bx o.op fun e => match s.app n o.dst e with | some t => K t | none => none
  else match s.app n o.dst (.put (.cst undef)) with | some t => K t | none => none

def runK {R : Type} (E : Env) (ops : Array Oper) (n : Nat) : List Nat → St → (St → Option R) → Option R
  | [], s, K => K s
  | i :: l, s, K =>
    match ops[i]? with
    | some o =>
      match o.guard with
      | none => stepK E n o s true fun t => runK E ops n l t K
      | some (j, want) =>
        match (ops[j]?).bind (·.dst) with
        | some g =>
          match s.tm g with
          | some (.v .bool x) => bif x then stepK E n o (s.put g (.v .bool true)) (true == want) fun t => runK E ops n l t K
              else stepK E n o (s.put g (.v .bool false)) (false == want) fun t => runK E ops n l t K
          | some (.cst (.bool x)) => stepK E n o s (x == want) fun t => runK E ops n l t K
          | some (.cst _) => stepK E n o s false fun t => runK E ops n l t K
          | _ => none
        | none => none
    | none => none

def assoc {α : Type} : List (Nat × α) → Nat → Option α
  | [], _ => none
  | (k, v) :: l, t => bif Nat.beq t k then some v else assoc l t

section
variable {P : Program} {E : Env} {n fuel : Nat} {w0 : GW E.G} {ok0 : Nat → Prop} {s s' t : St} {ops : Array Oper} {R : Type}

theorem callK_eq {ats : Array TypeId} {c : Callee} {avs : List (Option AV)} {k : Eff → Option R} : callK E ats c avs k = (evalCall E ats c avs).bind k := by
  unfold callK
  split
  · simp only [evalCall]
    cases E.tab _ with
    | none => rfl
    | some S =>
      simp only [Option.bind_some]
      cases asL S.args avs with
      | none => rfl
      | some xs => simp only [Option.bind_some]; cases S.F xs <;> rfl
  · cases evalCall E ats _ avs <;> rfl

theorem divK_eq {ev : Operand → Option AV} {bx : Nat → Option (Sigma Ty.den)} {op : BinOp} {t t' : TypeId} {x y : Operand} {k : Eff → Option R} (h : isDiv op = true) : divK E ev op t x y k = (evalOp E ev bx (.binOp op t x y t')).bind k := by
  simp only [divK, evalOp]
  cases E.ty t with
  | none => rfl
  | some U =>
    simp only [Option.bind_some]
    cases U with
    | int j =>
      simp only
      cases (ev x).bind (asT (.int j)) with
      | none => rfl
      | some a =>
        simp only [Option.bind_some]
        cases op <;> first | (cases h; done) | skip
        · simp only
          cases (ev y).bind (asT (.int j)) with
          | none => rfl
          | some b => simp only [Option.bind_some, binI]; split <;> rfl
        · simp only
          cases (ev y).bind (asT (.int j)) with
          | none => rfl
          | some b => simp only [Option.bind_some, binI]; split <;> rfl
        · simp only
          cases (ev y).bind asI with
          | none => rfl
          | some b => simp only [Option.bind_some, shiftI]; split <;> rfl
        · simp only
          cases (ev y).bind asI with
          | none => rfl
          | some b => simp only [Option.bind_some, shiftI]; split <;> rfl
    | bool =>
      simp only
      cases (ev x).bind (asT .bool) with
      | none => rfl
      | some a =>
        simp only [Option.bind_some]
        cases (ev y).bind (asT .bool) with
        | none => rfl
        | some b => cases op <;> first | (cases h; done) | rfl
    | pair p q =>
      simp only
      cases (ev x).bind (asT (.pair p q)) with
      | none => rfl
      | some a =>
        simp only [Option.bind_some]
        cases (ev y).bind (asT (.pair p q)) with
        | none => rfl
        | some b =>
          simp only [Option.bind_some]
          split
          · cases op <;> first | (cases h; done) | rfl
          · rfl
    | list T => rfl

theorem opK_eq {ev : Operand → Option AV} {bx : Nat → Option (Sigma Ty.den)} {op : Op} {k : Eff → Option R} : opK E ev bx op k = (evalOp E ev bx op).bind k := by
  unfold opK
  split
  · exact callK_eq
  · simp only [evalOp]
    cases E.ty _ with
    | none => rfl
    | some U =>
      cases U with
      | list T =>
        simp only [Option.bind_some]
        cases (ev _).bind (asT (.list T)) with
        | none => rfl
        | some l =>
          simp only [Option.bind_some]
          cases (ev _).bind asI with
          | none => rfl
          | some m =>
            simp only [Option.bind_some]
            split
            · cases l[m.toNat]? <;> rfl
            · rfl
      | _ => rfl
  · simp only [evalOp]
    cases E.str _ with
    | false => rfl
    | true =>
      simp only [cond_true, if_true]
      cases ev _ with
      | none => rfl
      | some av =>
        simp only [Option.bind_some]
        cases av with
        | cst c =>
          cases c with
          | string b =>
            simp only
            cases (ev _).bind asI with
            | none => rfl
            | some m =>
              simp only [Option.bind_some]
              split
              · cases b[m.toNat]? <;> rfl
              · rfl
          | _ => rfl
        | _ => rfl
  · rename_i op t x y t'
    cases hd : isDiv op with
    | true => simp only [cond_true]; exact divK_eq hd
    | false => simp only [cond_false]; cases evalOp E ev bx (.binOp op t x y t') <;> rfl
  · simp only [evalOp]
    cases (ev _).bind (asT .bool) with
    | none => rfl
    | some x =>
      cases x with
      | true => simp only [Option.bind_some, cond_true]; cases ev _ <;> rfl
      | false => simp only [Option.bind_some, cond_false]; cases ev _ <;> rfl
  · cases evalOp E ev bx _ <;> rfl

theorem St.put_self {g : Nat} {av : AV} (h : s.tm g = some av) : s.put g av = s := by
  obtain ⟨tm, bx⟩ := s
  simp only [St.put, St.mk.injEq, and_true]
  funext t
  rw [bif_beq]
  split
  · rename_i e; rw [e]; exact h.symm
  · rfl

theorem stepK_sound {r : R} {i : Nat} {o : Oper} {b : Bool} {K : St → Option R} (ho : ops[i]? = some o) (hb : wantA ops s o = some b) (h : stepK E n o s b K = some r) :
    ∃ t, stepR E ops n i s = some t ∧ K t = some r := by
  have hstep : ∀ e, (bif b then evalOp E s.ev s.bx o.op else some (.put (.cst undef))) = some e → (match s.app n o.dst e with | some t => K t | none => none) = some r →
      ∃ t, stepR E ops n i s = some t ∧ K t = some r := fun e he h => by
    split at h
    · rename_i t ht
      exact ⟨t, by simp only [stepR, ho, Option.bind_some, hb, he, ht], h⟩
    · cases h
  unfold stepK at h
  cases b with
  | true =>
    simp only [cond_true, opK_eq, Option.bind_eq_some_iff] at h
    obtain ⟨e, he, h⟩ := h
    exact hstep e he h
  | false =>
    simp only [cond_false] at h
    exact hstep _ rfl h

theorem runK_sound {r : R} : ∀ (l : List Nat) (s : St) (K : St → Option R), runK E ops n l s K = some r → ∃ t, runL (stepR E ops n) l s = some t ∧ K t = some r
  | [], s, K, h => ⟨s, rfl, h⟩
  | i :: l, s, K, h => by
    unfold runK at h
    split at h
    · rename_i o ho
      have fin : ∀ b, wantA ops s o = some b → (stepK E n o s b fun t => runK E ops n l t K) = some r → ∃ t, runL (stepR E ops n) (i :: l) s = some t ∧ K t = some r := fun b hb h => by
        obtain ⟨t, h1, h2⟩ := stepK_sound ho hb h
        obtain ⟨u, h3, h4⟩ := runK_sound l t K h2
        exact ⟨u, by simp only [runL, h1, Option.bind_some, h3], h4⟩
      split at h
      · rename_i hg
        exact fin true (by simp only [wantA, hg]) h
      · rename_i j want hg
        split at h
        · rename_i g hj
          split at h
          · rename_i x hx
            have hw : wantA ops s o = some (x == want) := by simp only [wantA, hg, hj, Option.bind_some, hx]; rfl
            cases x with
            | true => rw [St.put_self hx] at h; exact fin _ hw h
            | false => rw [St.put_self hx] at h; exact fin _ hw h
          · rename_i x hx
            have hw : wantA ops s o = some (x == want) := by simp only [wantA, hg, hj, Option.bind_some, hx]
            exact fin _ hw h
          · rename_i v hnb hx
            have hw : wantA ops s o = some false := by
              simp only [wantA, hg, hj, Option.bind_some, hx]
            exact fin _ hw h
          · cases h
        · cases h
    · cases h

theorem assoc_mem {α : Type} : ∀ {a : List (Nat × α)} {t : Nat} {v : α}, assoc a t = some v → (t, v) ∈ a
  | [], _, _, e => by cases e
  | (k, u) :: l, t, v, e => by
    simp only [assoc, bif_beq] at e
    split at e
    · rename_i e1; subst e1; cases e; exact List.mem_cons_self
    · exact List.mem_cons_of_mem _ (assoc_mem e)

end
/-! ### segments: a piece of code as a typed function of what lives -/

/-- What lives at a place: temporaries with plain values; addresses; variables of this call's own. -/
structure Mask where
  vals : List (Nat × Ty)
  ptrs : List (Nat × Nat × Nat)
  boxes : List (Nat × Ty)

def tysOf : List (Nat × Ty) → List Ty
  | [] => []
  | q :: l => q.2 :: tysOf l

abbrev Mask.den (M : Mask) : Type := HL (tysOf M.vals) × HL (tysOf M.boxes)

def valsA : (l : List (Nat × Ty)) → HL (tysOf l) → Nat → Option AV
  | [], _, _ => none
  | q :: l, x, t => bif Nat.beq t q.1 then some (.v q.2 x.1) else valsA l x.2 t

def ptrsA : List (Nat × Nat × Nat) → Nat → Option AV
  | [], _ => none
  | q :: l, t => bif Nat.beq t q.1 then some (.ptr q.2.1 q.2.2) else ptrsA l t

def boxesA : (l : List (Nat × Ty)) → HL (tysOf l) → Nat → Option (Sigma Ty.den)
  | [], _, _ => none
  | q :: l, x, t => bif Nat.beq t q.1 then some ⟨q.2, x.1⟩ else boxesA l x.2 t

def Mask.mk' (M : Mask) (x : M.den) : St :=
  ⟨fun t => match ptrsA M.ptrs t with | some v => some v | none => valsA M.vals x.1 t, boxesA M.boxes x.2⟩

def asBx (T : Ty) (b : Sigma Ty.den) : Option T.den := if h : b.1 = T then some (h ▸ b.2) else none

def takeV {R : Type} (s : St) : (l : List (Nat × Ty)) → (HL (tysOf l) → Option R) → Option R
  | [], K => K ()
  | q :: l, K => match (s.tm q.1).bind (asT q.2) with
    | some x => takeV s l fun y => K (x, y)
    | none => none

def takeB {R : Type} (s : St) : (l : List (Nat × Ty)) → (HL (tysOf l) → Option R) → Option R
  | [], K => K ()
  | q :: l, K => match (s.bx q.1).bind (asBx q.2) with
    | some x => takeB s l fun y => K (x, y)
    | none => none

def isPtr (id off : Nat) : Option AV → Bool
  | some (.ptr i o) => Nat.beq i id && Nat.beq o off
  | _ => false

def chkP (s : St) : List (Nat × Nat × Nat) → List (Nat × Ty) → Bool
  | [], _ => true
  | q :: l, bs => isPtr q.2.1 q.2.2 (s.tm q.1) && (bs.any fun b => Nat.beq b.1 q.2.1) && chkP s l bs

def Mask.take {R : Type} (M : Mask) (s : St) (K : M.den → Option R) : Option R :=
  bif chkP s M.ptrs M.boxes then takeV s M.vals fun x => takeB s M.boxes fun y => K (x, y) else none

/-- The state of a mask, weaker than another one in what a constant is (a constant and its plain value stand for the same). -/
structure St.Sub (s' s : St) : Prop where
  tm : ∀ t av, s'.tm t = some av → ∃ bv, s.tm t = some bv ∧ (bv = av ∨ ∃ T x, av = .v T x ∧ asT T bv = some x)
  bx : ∀ id v, s'.bx id = some v → s.bx id = some v
  inv : ∀ t id off, s'.tm t = some (.ptr id off) → (s'.bx id).isSome = true

section
variable {P : Program} {E : Env} {n fuel : Nat} {w0 : GW E.G} {ok0 : Nat → Prop} {s s' t : St} {a : Act} {w : World} {R : Type} {c : Code} {Q : Exit → St → Prop}

theorem Rel.sub (h : Rel n w0 ok0 s a w) (hl : s'.Sub s) : Rel n w0 ok0 s' a w := by
  obtain ⟨ρ, h⟩ := h
  have hsome : ∀ id, (s'.bx id).isSome = true → (s.bx id).isSome = true := fun id hid => by
    obtain ⟨v, hv⟩ := Option.isSome_iff_exists.1 hid
    rw [hl.bx id v hv]; rfl
  have hm : ∀ k c e z, okS w0 ok0 ρ s k → w.heap[k]? = some (.cells c e z) → okS w0 ok0 ρ s' k ∧ w.heap[k]? = some (.cells c e z) := fun k c e z hk hh =>
    ⟨⟨hk.1, fun id hid => hk.2 id (hsome id hid)⟩, hh⟩
  refine ⟨ρ, h.size, h.defers, fun t av ht => ?_, fun id T x hx => ?_, fun i j hi hj => h.inj i j (hsome i hi) (hsome j hj), hl.inv, h.below⟩
  · obtain ⟨bv, hb, he⟩ := hl.tm t av ht
    have hr := h.tm t bv hb
    rcases he with rfl | ⟨T, x, rfl, hx⟩
    · exact RepA.map hm (fun _ _ _ => rfl) hr
    · exact Rep.map hm (asT_rep hx hr)
  · obtain ⟨h1, cs, e, h2, h3⟩ := h.bx id T x (hl.bx id _ hx)
    exact ⟨h1, cs, e, h2, Holds.map hm _ _ _ h3⟩

theorem Awp.sub (h : Awp P n w0 ok0 c Q s') (hl : s'.Sub s) : Awp P n w0 ok0 c Q s := fun a w hr => h a w (hr.sub hl)

theorem takeV_spec {r : R} : ∀ (l : List (Nat × Ty)) (K : HL (tysOf l) → Option R), takeV s l K = some r →
    ∃ x, K x = some r ∧ ∀ t av, valsA l x t = some av → ∃ bv, s.tm t = some bv ∧ ∃ T y, av = .v T y ∧ asT T bv = some y
  | [], K, h => ⟨(), h, fun _ _ e => by cases e⟩
  | q :: l, K, h => by
    unfold takeV at h
    split at h
    · rename_i y hy
      obtain ⟨x, h1, h2⟩ := takeV_spec l _ h
      refine ⟨(y, x), h1, fun t av e => ?_⟩
      simp only [valsA, bif_beq] at e
      split at e
      · rename_i e1; subst e1; cases e
        rw [Option.bind_eq_some_iff] at hy
        obtain ⟨bv, hb, hy⟩ := hy
        exact ⟨bv, hb, _, _, rfl, hy⟩
      · exact h2 t av e
    · cases h

theorem takeB_spec {r : R} : ∀ (l : List (Nat × Ty)) (K : HL (tysOf l) → Option R), takeB s l K = some r →
    ∃ x, K x = some r ∧ (∀ t v, boxesA l x t = some v → s.bx t = some v) ∧ ∀ t, (l.any fun b => Nat.beq b.1 t) = true → (boxesA l x t).isSome = true
  | [], K, h => ⟨(), h, fun _ _ e => (by cases e), fun _ e => (by cases e)⟩
  | q :: l, K, h => by
    unfold takeB at h
    split at h
    · rename_i y hy
      obtain ⟨x, h1, h2, h3⟩ := takeB_spec l _ h
      refine ⟨(y, x), h1, fun t v e => ?_, fun t e => ?_⟩
      · simp only [boxesA, bif_beq] at e
        split at e
        · rename_i e1; subst e1; cases e
          rw [Option.bind_eq_some_iff] at hy
          obtain ⟨⟨U, b⟩, hb, hy⟩ := hy
          simp only [asBx] at hy
          split at hy
          · rename_i e2; subst e2; cases hy; exact hb
          · cases hy
        · exact h2 t v e
      · simp only [boxesA, bif_beq]
        split
        · rfl
        · rename_i hne
          simp only [List.any_cons, Bool.or_eq_true] at e
          rcases e with e | e
          · exact absurd (Nat.eq_of_beq_eq_true e).symm hne
          · exact h3 t e
    · cases h

theorem chkP_spec {bs : List (Nat × Ty)} : ∀ (l : List (Nat × Nat × Nat)), chkP s l bs = true → ∀ t av, ptrsA l t = some av → s.tm t = some av ∧ ∃ id off, av = .ptr id off ∧ (bs.any fun b => Nat.beq b.1 id) = true
  | [], _, _, _, e => by cases e
  | q :: l, h, t, av, e => by
    simp only [chkP, Bool.and_eq_true] at h
    obtain ⟨⟨h1, h2⟩, h3⟩ := h
    simp only [ptrsA, bif_beq] at e
    split at e
    · rename_i e1; subst e1; cases e
      unfold isPtr at h1
      split at h1
      · rename_i i o hq
        rw [Bool.and_eq_true] at h1
        have e2 := Nat.eq_of_beq_eq_true h1.1
        have e3 := Nat.eq_of_beq_eq_true h1.2
        subst e2; subst e3
        exact ⟨hq, _, _, rfl, h2⟩
      · cases h1
    · exact chkP_spec l h3 t av e

theorem Mask.take_spec {M : Mask} {K : M.den → Option R} {r : R} (h : M.take s K = some r) : ∃ x, K x = some r ∧ (M.mk' x).Sub s := by
  unfold Mask.take at h
  cases hc : chkP s M.ptrs M.boxes with
  | false => rw [hc] at h; cases h
  | true =>
    rw [hc] at h
    obtain ⟨x, h1, h2⟩ := takeV_spec _ _ h
    obtain ⟨y, h3, h4, h5⟩ := takeB_spec _ _ h1
    refine ⟨(x, y), h3, fun t av e => ?_, h4, fun t id off e => ?_⟩
    · simp only [Mask.mk'] at e
      split at e
      · rename_i v hv; cases e
        exact ⟨av, (chkP_spec _ hc t av hv).1, .inl rfl⟩
      · obtain ⟨bv, hb, T, z, e1, e2⟩ := h2 t av e
        exact ⟨bv, hb, .inr ⟨T, z, e1, e2⟩⟩
    · simp only [Mask.mk'] at e
      split at e
      · rename_i v hv; cases e
        obtain ⟨_, id', off', e1, e2⟩ := chkP_spec _ hc t _ hv
        cases e1
        exact h5 id e2
      · obtain ⟨_, _, T, z, e1, _⟩ := h2 t _ e
        cases e1

end

/-- A piece of code as a function: what lives before it; the block it may leave, and what lives then; what lives at a return; normally behind it, what lives then. -/
structure Seg where
  ins : Mask
  nor : Mask
  ex : Mask
  rt : Mask
  id : Nat
  hn : Bool
  hx : Bool
  hr : Bool
  G : ins.den → Option (nor.den ⊕ ex.den ⊕ rt.den)

def Seg.fin (S : Seg) : (S.nor.den ⊕ S.ex.den ⊕ S.rt.den) → Exit × St
  | .inl x => (.normal, S.nor.mk' x)
  | .inr (.inl x) => (.exit S.id, S.ex.mk' x)
  | .inr (.inr x) => (.ret, S.rt.mk' x)

/-- How a run of the piece ends, as the function's value. -/
def Seg.out (S : Seg) (e : Exit) (t : St) : Option (S.nor.den ⊕ S.ex.den ⊕ S.rt.den) :=
  match e with
  | .normal => S.nor.take t fun x => some (.inl x)
  | .exit i => bif Nat.beq i S.id then S.ex.take t fun x => some (.inr (.inl x)) else none
  | .ret => S.rt.take t fun x => some (.inr (.inr x))
  | _ => none

def SegOK (P : Program) (G : World → Prop) (n : Nat) (c : Code) (S : Seg) : Prop :=
  ∀ x r, S.G x = some r → ∀ (w0 : GW G) ok0, Awp P n w0 ok0 c (fun e t => e = (S.fin r).1 ∧ (S.fin r).2.Sub t) (S.ins.mk' x)

section
variable {P : Program} {E : Env} {n fuel : Nat} {w0 : GW E.G} {ok0 : Nat → Prop} {s s' t : St} {a : Act} {w : World} {R : Type} {c : Code} {Q Q' : Exit → St → Prop}

theorem Awp.mono' (h : Awp P n w0 ok0 c Q s) (hq : ∀ e t, Q e t → ∃ t', Q' e t' ∧ t'.Sub t) : Awp P n w0 ok0 c Q' s := fun a w hr =>
  wp_mono (h a w hr) fun e a' w' ⟨t, h1, h2⟩ => by
    obtain ⟨t', h3, h4⟩ := hq e t h1
    exact ⟨t', h3, h2.sub h4⟩

theorem St.Sub.refl (h : invS s) : s.Sub s := ⟨fun _ av e => ⟨av, e, .inl rfl⟩, fun _ _ e => e, h⟩

theorem Seg.out_spec {S : Seg} {e : Exit} {r : S.nor.den ⊕ S.ex.den ⊕ S.rt.den} (h : S.out e t = some r) : e = (S.fin r).1 ∧ (S.fin r).2.Sub t := by
  unfold Seg.out at h
  split at h
  · obtain ⟨x, h1, h2⟩ := Mask.take_spec h
    cases h1
    exact ⟨rfl, h2⟩
  · rename_i i
    cases hi : Nat.beq i S.id with
    | false => rw [hi] at h; cases h
    | true =>
      rw [hi] at h
      simp only [cond_true] at h
      obtain ⟨x, h1, h2⟩ := Mask.take_spec h
      cases h1
      exact ⟨by rw [Nat.eq_of_beq_eq_true hi]; rfl, h2⟩
  · obtain ⟨x, h1, h2⟩ := Mask.take_spec h
    cases h1
    exact ⟨rfl, h2⟩
  · cases h
end
/-! ### the evaluator over code -/

inductive Hint where
  | n
  | two (a b : Hint)
  | use (S : Seg)

def Hint.a : Hint → Hint
  | .two a _ => a
  | _ => .n
def Hint.b : Hint → Hint
  | .two _ b => b
  | _ => .n

/-- The pieces that a hint names are what it says of them. -/
def HintOK (P : Program) (G : World → Prop) (n : Nat) : Code → Hint → Prop
  | _, .n => True
  | c, .use S => SegOK P G n c S
  | .seq x y, .two a b => HintOK P G n x a ∧ HintOK P G n y b
  | .cond _ x y, .two a b => HintOK P G n x a ∧ HintOK P G n y b
  | .block _ c, .two a _ => HintOK P G n c a
  | _, _ => True

def useK {R : Type} (S : Seg) (s : St) (K : Exit → St → Option R) : Option R :=
  S.ins.take s fun x => (S.G x).bind fun r => match r with
    | .inl y => bif S.hn then K .normal (S.nor.mk' y) else none
    | .inr (.inl y) => bif S.hx then K (.exit S.id) (S.ex.mk' y) else none
    | .inr (.inr y) => bif S.hr then K .ret (S.rt.mk' y) else none

def evC {R : Type} (E : Env) (n : Nat) : Code → Hint → St → (Exit → St → Option R) → Option R
  | c, h, s, K => match h with
    | .use S => useK S s K
    | h => match c with
      | .skip => K .normal s
      | .ret => K .ret s
      | .exit id => K (.exit id) s
      | .region _ ops draw => bif !draw || (Region.noSelect ops && lexC (commD ops s) .any ops ops.size 0 (Array.replicate ops.size false)) then runK E ops n (List.range' 0 ops.size) s (K .normal) else none
      | .seq x y => evC E n x h.a s fun e t => match e with
        | .normal => evC E n y h.b t K
        | e => K e t
      | .cond c x y => match (s.ev c).bind (asT .bool) with
        | some b => bif b then evC E n x h.a s K else evC E n y h.b s K
        | none => none
      | .block id c => evC E n c h.a s fun e t => match e with
        | .exit id' => bif Nat.beq id' id then K .normal t else K (.exit id') t
        | e => K e t
      | _ => none

section
variable {P : Program} {E : Env} {n : Nat} {w0 : GW E.G} {ok0 : Nat → Prop} {s s' t : St} {R : Type}

theorem HintOK.seq {x y : Code} {h : Hint} (hh : HintOK P E.G n (.seq x y) h) (hu : ∀ S, h ≠ .use S) : HintOK P E.G n x h.a ∧ HintOK P E.G n y h.b := by
  cases h with
  | n => cases x <;> cases y <;> exact ⟨trivial, trivial⟩
  | two a b => exact hh
  | use S => exact absurd rfl (hu S)

theorem HintOK.cond {c : Operand} {x y : Code} {h : Hint} (hh : HintOK P E.G n (.cond c x y) h) (hu : ∀ S, h ≠ .use S) : HintOK P E.G n x h.a ∧ HintOK P E.G n y h.b := by
  cases h with
  | n => cases x <;> cases y <;> exact ⟨trivial, trivial⟩
  | two a b => exact hh
  | use S => exact absurd rfl (hu S)

theorem useK_sound {c : Code} {S : Seg} {r : R} {K : Exit → St → Option R} {Q : Exit → St → Prop} (hS : SegOK P E.G n c S) (h : useK S s K = some r) (hK : ∀ e t, K e t = some r → Q e t) : Awp P n w0 ok0 c Q s := by
  unfold useK at h
  obtain ⟨x, h1, h2⟩ := Mask.take_spec h
  rw [Option.bind_eq_some_iff] at h1
  obtain ⟨q, h3, h4⟩ := h1
  refine Awp.sub (Awp.mono' (hS x q h3 w0 ok0) fun e t ⟨he, hs⟩ => ?_) h2
  refine ⟨(S.fin q).2, hK _ _ ?_, hs⟩
  rw [he]
  match q, h4 with
  | .inl y, h4 =>
    simp only at h4
    cases hb : S.hn with
    | true => rw [hb] at h4; exact h4
    | false => rw [hb] at h4; cases h4
  | .inr (.inl y), h4 =>
    simp only at h4
    cases hb : S.hx with
    | true => rw [hb] at h4; exact h4
    | false => rw [hb] at h4; cases h4
  | .inr (.inr y), h4 =>
    simp only at h4
    cases hb : S.hr with
    | true => rw [hb] at h4; exact h4
    | false => rw [hb] at h4; cases h4

/-- THE EVALUATOR IS SOUND. -/
theorem evC_sound (hE : E.OK P) (hm : P.follows .mixedOrders = true) {r : R} : ∀ (c : Code) (h : Hint) (s : St) (K : Exit → St → Option R) (Q : Exit → St → Prop), HintOK P E.G n c h → evC E n c h s K = some r →
    (∀ e t, K e t = some r → Q e t) → Awp P n w0 ok0 c Q s := by
  intro c
  induction c with
  | skip =>
    intro h s K Q ho h1 hK
    cases h with
    | use S => exact useK_sound ho h1 hK
    | _ => exact Awp.skip (hK _ _ h1)
  | ret =>
    intro h s K Q ho h1 hK
    cases h with
    | use S => exact useK_sound ho h1 hK
    | _ => exact Awp.ret (hK _ _ h1)
  | exit id =>
    intro h s K Q ho h1 hK
    cases h with
    | use S => exact useK_sound ho h1 hK
    | _ => exact Awp.exit (hK _ _ h1)
  | region id ops draw =>
    intro h s K Q ho h1 hK
    have fin : (bif !draw || (Region.noSelect ops && lexC (commD ops s) .any ops ops.size 0 (Array.replicate ops.size false)) then runK E ops n (List.range' 0 ops.size) s (K .normal) else none) = some r → Awp P n w0 ok0 (.region id ops draw) Q s := fun h => by
      cases hc : (!draw || (Region.noSelect ops && lexC (commD ops s) .any ops ops.size 0 (Array.replicate ops.size false))) with
      | false => rw [hc] at h; cases h
      | true =>
        rw [hc] at h
        obtain ⟨t, g1, g2⟩ := runK_sound _ _ _ h
        cases draw with
        | false => exact Awp.region hE g1 (hK _ _ g2)
        | true =>
          simp only [Bool.not_true, Bool.false_or, Bool.and_eq_true] at hc
          exact Awp.region' hE hm hc.2 g1 (hK _ _ g2)
    cases h with
    | use S => exact useK_sound ho h1 hK
    | n => exact fin h1
    | two a b => exact fin h1
  | seq x y ihx ihy =>
    intro h s K Q ho h1 hK
    have fin : ∀ h : Hint, HintOK P E.G n x h.a ∧ HintOK P E.G n y h.b → (evC E n x h.a s fun e t => match e with | .normal => evC E n y h.b t K | e => K e t) = some r → Awp P n w0 ok0 (.seq x y) Q s := fun h ho h1 => by
      refine Awp.seq (ihx _ s _ _ ho.1 h1 fun e t he => ?_)
      cases e with
      | normal => exact ihy _ t K Q ho.2 he hK
      | _ => exact hK _ _ he
    cases h with
    | use S => exact useK_sound ho h1 hK
    | n => exact fin .n (ho.seq fun _ e => by cases e) h1
    | two a b => exact fin (.two a b) ho h1
  | cond c x y ihx ihy =>
    intro h s K Q ho h1 hK
    have fin : ∀ h : Hint, HintOK P E.G n x h.a ∧ HintOK P E.G n y h.b → (match (s.ev c).bind (asT .bool) with | some b => bif b then evC E n x h.a s K else evC E n y h.b s K | none => none) = some r → Awp P n w0 ok0 (.cond c x y) Q s := fun h ho h1 => by
      split at h1
      · rename_i b hb
        refine Awp.cond hb (fun e => ?_) (fun e => ?_)
        · subst e; exact ihx _ s K Q ho.1 h1 hK
        · subst e; exact ihy _ s K Q ho.2 h1 hK
      · cases h1
    cases h with
    | use S => exact useK_sound ho h1 hK
    | n => exact fin .n (ho.cond fun _ e => by cases e) h1
    | two a b => exact fin (.two a b) ho h1
  | block id c ih =>
    intro h s K Q ho h1 hK
    have fin : ∀ h : Hint, HintOK P E.G n c h.a → (evC E n c h.a s fun e t => match e with | .exit id' => bif Nat.beq id' id then K .normal t else K (.exit id') t | e => K e t) = some r → Awp P n w0 ok0 (.block id c) Q s := fun h ho h1 => by
      refine Awp.block (ih _ s _ _ ho h1 fun e t he => ?_)
      cases e with
      | exit id' =>
        simp only [bif_beq, inBlockA] at he ⊢
        split at he
        · rw [if_pos (by assumption)]; exact hK _ _ he
        · rw [if_neg (by assumption)]; exact hK _ _ he
      | _ => exact hK _ _ he
    cases h with
    | use S => exact useK_sound ho h1 hK
    | n => exact fin .n (by cases c <;> exact trivial) h1
    | two a b => exact fin (.two a b) ho h1
  | _ =>
    intro h s K Q ho h1 hK
    cases h with
    | use S => exact useK_sound ho h1 hK
    | _ => simp [evC] at h1

/-- A piece, by the evaluator. -/
theorem SegOK.of (hE : E.OK P) (hm : P.follows .mixedOrders = true) {c : Code} {S : Seg} (h : Hint) (ho : HintOK P E.G n c h) (he : ∀ x, evC E n c h (S.ins.mk' x) S.out = S.G x) : SegOK P E.G n c S := fun x r hr w0 ok0 =>
  evC_sound hE hm c h _ _ _ ho ((he x).trans hr) fun _ _ he => Seg.out_spec he

def Seg.loop (S : Seg) (g : S.ins.den → Option (S.nor.den ⊕ S.ex.den ⊕ S.rt.den)) (e : Exit) (t : St) : Option (S.nor.den ⊕ S.ex.den ⊕ S.rt.den) :=
  match e with
  | .normal => S.ins.take t g
  | e => S.out e t

/-- A loop, by the evaluator: its function calls itself, with a number that falls. -/
theorem SegOK.loop (hE : E.OK P) (hm : P.follows .mixedOrders = true) {c : Code} {S : Seg} (g : Nat → S.ins.den → Option (S.nor.den ⊕ S.ex.den ⊕ S.rt.den)) (k : Nat) (hG : S.G = g k) (h0 : ∀ x, g 0 x = none)
    (h : Hint) (ho : HintOK P E.G n c h) (he : ∀ k x, evC E n c h (S.ins.mk' x) (S.loop (g k)) = g (k + 1) x) : SegOK P E.G n (.loop c) S := by
  intro x r hr w0 ok0 a w hrel
  rw [hG] at hr
  have hv : invS (S.ins.mk' x) := by obtain ⟨_, h⟩ := hrel; exact h.inv
  refine Awp.loop (fun k s => ∃ x, g k x = some r ∧ (S.ins.mk' x).Sub s) ⟨x, hr, St.Sub.refl hv⟩ (fun k s hk => ?_) a w hrel
  · obtain ⟨x, hx, hs⟩ := hk
    cases k with
    | zero => rw [h0] at hx; cases hx
    | succ k =>
      refine Awp.sub (evC_sound hE hm c h _ _ _ ho ((he k x).trans hx) fun e t he => ?_) hs
      cases e with
      | normal =>
        obtain ⟨y, h1, h2⟩ := Mask.take_spec he
        exact ⟨k, Nat.lt_succ_self k, y, h1, h2⟩
      | _ => exact Seg.out_spec he

/-- What a function's code computes. -/
def evF (E : Env) (fn : Func) (h : Hint) (args res : List Ty) (xs : HL args) : Option (HL res) :=
  match fn.body with
  | some c => evC E fn.ntmps c h (St.init args xs) fun e t => match e with
    | .normal | .ret => retL E t fn.results.toList res
    | _ => none
  | none => none

def Func.code (fn : Func) : Code := fn.body.getD .skip

theorem evF_sound (hE : E.OK P) (hm : P.follows .mixedOrders = true) {f : FuncId} {fn : Func} {args res : List Ty} {F : HL args → Option (HL res)} (hf : P.funcs[f]? = some fn) (hn : (fn.name == "runtime.NumGoroutine") = false)
    (hb : fn.body.isSome = true) (hl : Nat.ble args.length fn.ntmps = true) (h : Hint) (ho : HintOK P E.G fn.ntmps (Func.code fn) h) (he : ∀ xs, evF E fn h args res xs = F xs) : SpecOK P E.G f ⟨args, res, F⟩ := by
  obtain ⟨c, hc⟩ := Option.isSome_iff_exists.1 hb
  refine SpecOK.of hE hf hn hc (Nat.le_of_ble_eq_true hl) fun xs r hr w0 ok0 => ?_
  have hr' := (he xs).trans hr
  simp only [evF, hc] at hr'
  simp only [Func.code, hc, Option.getD_some] at ho
  refine evC_sound hE hm c h _ _ _ ho hr' fun e t he => ?_
  cases e with
  | normal => exact ⟨.inr rfl, he⟩
  | ret => exact ⟨.inl rfl, he⟩
  | _ => cases he

/-- One function more. -/
def Env.add (E : Env) (f : FuncId) (S : Spec) : Env := { E with tab := fun g => bif Nat.beq g f then some S else E.tab g }

theorem TyOK.add {t : TypeId} {U : Ty} {ti : TypeInfo} {d : TypeDesc} {f : FuncId} {S : Spec} (h : TyOK P E t U ti d) : TyOK P (E.add f S) t U ti d :=
  ⟨h.info, h.desc, h.size, h.agg, h.zero, h.int, h.bool, h.list, h.flds⟩

theorem eqFs_add {rec rec' : TypeId → Ty → Bool} {f : FuncId} {S : Spec} (h : ∀ t U, rec t U = rec' t U) : ∀ (fs : List Field) (U : Ty) (off : Nat), eqFs rec E fs U off = eqFs rec' (E.add f S) fs U off
  | [], _, _ => rfl
  | [_], U, off => by simp only [eqFs, h]; rfl
  | _ :: g :: fs, .pair A B, off => by simp only [eqFs, h, eqFs_add (f := f) (S := S) h (g :: fs) B]; rfl
  | _ :: _ :: _, .int _, _ => rfl
  | _ :: _ :: _, .bool, _ => rfl
  | _ :: _ :: _, .list _, _ => rfl

theorem eqB_add {f : FuncId} {S : Spec} : ∀ (k : Nat) (t : TypeId) (U : Ty), eqB P E k t U = eqB P (E.add f S) k t U
  | 0, _, _ => rfl
  | k + 1, t, U => by
    simp only [eqB]
    split <;> try rfl
    rw [eqFs_add (eqB_add k)]

theorem Env.OK.add (h : E.OK P) {f : FuncId} {S : Spec} (hS : SpecOK P E.G f S) : (E.add f S).OK P where
  str := h.str
  eq := fun t U h1 h2 => by rw [← eqB_add]; exact h.eq t U h1 h2
  ty := fun t U h1 => by obtain ⟨ti, d, h2⟩ := h.ty t U h1; exact ⟨ti, d, h2.add⟩
  fld := h.fld
  tab := fun g S' hg => by
    simp only [Env.add, bif_beq] at hg
    split at hg
    · rename_i e; subst e; cases hg; exact hS
    · exact h.tab g S' hg

end
/-! ### the tables -/

inductive Dir where
  | s1 | s2 | c1 | c2 | b | l

/-- The piece of code at a place. -/
def Code.at : Code → List Dir → Code
  | c, [] => c
  | .seq x _, .s1 :: p => Code.at x p
  | .seq _ y, .s2 :: p => Code.at y p
  | .cond _ x _, .c1 :: p => Code.at x p
  | .cond _ _ y, .c2 :: p => Code.at y p
  | .block _ c, .b :: p => Code.at c p
  | .loop c, .l :: p => Code.at c p
  | _, _ => .skip

def isZ : (T : Ty) → T.den → Bool
  | .int _, x => decide ((x : Int) = 0)
  | .bool, x => !x
  | .pair a b, x => isZ a x.1 && isZ b x.2
  | .list _, x => List.isEmpty x

theorem isZ_spec : ∀ (T : Ty) (x : T.den), isZ T x = true → x = zeroT T
  | .int _, x, h => of_decide_eq_true h
  | .bool, x, h => by
    have h' : (!x) = true := h
    cases x with
    | true => cases h'
    | false => rfl
  | .pair a b, x, h => by
    simp only [isZ, Bool.and_eq_true] at h
    obtain ⟨y, z⟩ := x
    have h1 := isZ_spec a y h.1
    have h2 := isZ_spec b z h.2
    subst h1; subst h2; rfl
  | .list _, x, h => by
    have h' : List.isEmpty x = true := h
    exact List.isEmpty_iff.1 h'

def shapeB (E : Env) (d : TypeDesc) : Ty → Bool
  | .int k => match d with | .int k' => decide (k = k') | _ => false
  | .bool => match d with | .bool => true | _ => false
  | .list T => match d with | .slice e => decide (E.ty e = some T) | _ => false
  | .pair _ _ => true

def fieldsB (P : Program) : TypeDesc → Bool
  | .struct fs => fs.toList.all fun fd => (P.info? fd.type).isSome
  | _ => true

def tyB (P : Program) (E : Env) (t : TypeId) (U : Ty) : Bool :=
  match P.info? t, P.underlying t with
  | some ti, some d => ti.size == U.size && aggD d == U.isPair && shapeB E d U && fieldsB P d &&
      (match ti.zero with | some z => (match decV U z with | some x => isZ U x | none => false) | none => false)
  | _, _ => false

theorem tyB_spec {P : Program} {E : Env} {t : TypeId} {U : Ty} (h : tyB P E t U = true) : ∃ ti d, TyOK P E t U ti d := by
  unfold tyB at h
  split at h
  · rename_i ti d hi hd
    simp only [Bool.and_eq_true, beq_iff_eq] at h
    obtain ⟨⟨⟨⟨h1, h2⟩, h3⟩, h4⟩, h5⟩ := h
    refine ⟨ti, d, hi, hd, h1, h2, ?_, ?_, ?_, ?_, ?_⟩
    · split at h5
      · rename_i z hz
        split at h5
        · rename_i x hx
          exact ⟨z, hz, by rw [hx, isZ_spec U x h5]⟩
        · cases h5
      · cases h5
    · intro k e
      subst e
      simp only [shapeB] at h3
      split at h3
      · rw [of_decide_eq_true h3]
      · cases h3
    · intro e
      subst e
      simp only [shapeB] at h3
      split at h3
      · rfl
      · cases h3
    · intro T e
      subst e
      simp only [shapeB] at h3
      split at h3
      · exact ⟨_, rfl, of_decide_eq_true h3⟩
      · cases h3
    · intro fs e fd hfd
      subst e
      simp only [fieldsB, List.all_eq_true] at h4
      exact Option.isSome_iff_exists.1 (h4 fd hfd)
  · cases h

def fldB (P : Program) (E : Env) (t : TypeId) (f off : Nat) (U : Ty) : Bool :=
  match P.underlying t with
  | some (.struct fs) => match fs[f]? with
    | some fd => fd.offset == off && decide (E.ty fd.type = some U)
    | none => false
  | _ => false

def isStr : Option TypeDesc → Bool
  | some .string => true
  | _ => false

def baseE (G : World → Prop) (tyL : List (Nat × Ty)) (eqL strL : List Nat) (fldL : List (Nat × List (Nat × (Nat × Ty)))) : Env :=
  ⟨G, assoc tyL, fun t => eqL.contains t, fun t => strL.contains t, fun t f => match assoc fldL t with | some l => assoc l f | none => none, fun _ => none⟩

def baseB (P : Program) (G : World → Prop) (tyL : List (Nat × Ty)) (eqL strL : List Nat) (fldL : List (Nat × List (Nat × (Nat × Ty)))) : Bool :=
  (tyL.all fun q => tyB P (baseE G tyL eqL strL fldL) q.1 q.2) &&
  (eqL.all fun t => !P.eqGuardType P.depth t && (match assoc tyL t with | some U => eqB P (baseE G tyL eqL strL fldL) 20 t U | none => true)) &&
  (fldL.all fun q => q.2.all fun r => fldB P (baseE G tyL eqL strL fldL) q.1 r.1 r.2.1 r.2.2) &&
  (strL.all fun t => isStr (P.underlying t))

theorem Env.OK.base {P : Program} {G : World → Prop} {tyL : List (Nat × Ty)} {eqL strL : List Nat} {fldL : List (Nat × List (Nat × (Nat × Ty)))} (h : baseB P G tyL eqL strL fldL = true) : (baseE G tyL eqL strL fldL).OK P := by
  unfold baseB at h
  simp only [Bool.and_eq_true, List.all_eq_true] at h
  obtain ⟨⟨⟨h1, h2⟩, h3⟩, h5⟩ := h
  refine ⟨fun t ht => ?_, fun t U he ht => ?_, fun t U ht => ?_, fun t f q hq => ?_, fun f S hS => by cases hS⟩
  · have h6 := h5 t (by simpa [baseE] using ht)
    unfold isStr at h6
    split at h6
    · assumption
    · cases h6
  · have h4 := h2 t (by simpa [baseE] using he)
    simp only [Bool.not_eq_true'] at h4
    have ht' : assoc tyL t = some U := ht
    rw [ht'] at h4
    exact h4
  · exact tyB_spec (h1 (t, U) (assoc_mem ht))
  · simp only [baseE] at hq
    split at hq
    · rename_i l hl
      have h4 := h3 (t, l) (assoc_mem hl) (f, q) (assoc_mem hq)
      unfold fldB at h4
      split at h4
      · rename_i fs hfs
        split at h4
        · rename_i fd hfd
          simp only [Bool.and_eq_true, beq_iff_eq] at h4
          exact ⟨fs, fd, hfs, hfd, h4.1, of_decide_eq_true h4.2⟩
        · cases h4
      · cases h4
    · cases hq
end Go.Proofs.YtaookeneeemfbaaDoor.Rf
