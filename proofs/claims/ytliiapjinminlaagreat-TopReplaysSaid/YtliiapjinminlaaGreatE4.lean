/- A function's code run upon plain values, in the operations' own order, and that it is what the machine does: whatever the program (part 4). No condition. -/
import Derived.Test.YtliiapjinminlaaGreatE3
import Derived.Laws.Externs
import Derived.ChangeSlices
import Derived.ChangeOld
import Derived.SizedLaws
import Derived.Deep.Slices
import Derived.Deep.Fields
import Derived.Carry
import Derived.OpenShut
import Derived.ShutString
import Derived.ProofKit
import Derived.WalkKit
namespace Go.Proofs.YtliiapjinminlaaGreat.Rf
open Go Go.RowKit Go.Proofs
set_option linter.unusedVariables false
set_option linter.unusedSimpArgs false
section
variable {P : Program} {E : Env} {X : Ctx} {O : Octx} {r : Option Nat} {ρ ρ' : Nat -> Value} {s s' t : St} {a : Act} {w w' : World} {o : Oper} {ops : Array Oper}
theorem SegOK.of (hE : E.OK P) (hm : P.follows .mixedOrders = true) {S : Seg} (d : Nat) (h : Hint) (ho : HintOK P E h) (he : ∀ x, evN E d S.X S.f S.p (atR (codeOf E S.f) S.p) h (S.ins.mk' x) (outK S.X S.outs) = S.G x) : SegOK P E S := fun x r hr O rr hF =>
 evN_sound hE hm d S.X S.f S.p _ h _ _ _ O rr rfl ho ((he x).trans hr) (fun _ _ he => outK_spec _ _ he) hF
def loopK (S : Seg) (g : S.ins.den -> Option (denS S.outs)) (e : Exit) (t : St) : Option (denS S.outs) :=
 match e with
 | .normal => S.ins.take S.X t g
 | e => outK S.X S.outs e t
theorem SegOK.loop (hE : E.OK P) (hm : P.follows .mixedOrders = true) {S : Seg} {c : Code} (hc : atR (codeOf E S.f) S.p = .loop c) (g : Nat -> S.ins.den -> Option (denS S.outs)) (k : Nat) (hG : S.G = g k) (h0 : ∀ x, g 0 x = none)
  (d : Nat) (h : Hint) (ho : HintOK P E h) (he : ∀ k x, evN E d S.X S.f (.l :: S.p) c h (S.ins.mk' x) (loopK S (g k)) = g (k + 1) x) : SegOK P E S := by
 intro x r hr O rr hF
 rw [hG] at hr
 rw [hc]
 refine Awp.loop (fun k s => ∃ x, g k x = some r /\ Weaker E S.X (S.ins.mk' x) s) ⟨x, hr, Weaker.refl _⟩ fun k s hk => ?_
 obtain ⟨x, hx, hs⟩ := hk
 cases k with
 | zero => rw [h0] at hx; cases hx
 | succ k =>
  refine Awp.weaker hF (evN_sound hE hm d S.X S.f (.l :: S.p) c h _ _ _ O rr (by rw [atR, hc]; rfl) ho ((he k x).trans hx) (fun e t he => ?_) hF) hs
  cases e with
  | normal =>
   obtain ⟨y, h1, h2⟩ := Mask.take_spec (E := E) he
   exact ⟨k, Nat.lt_succ_self k, y, h1, h2⟩
  | _ => exact outK_spec _ _ he
def jumpK (S : Seg) (l : Nat) {J : Mask} (g : J.den -> Option (denS S.outs)) (e : Exit) (t : St) : Option (denS S.outs) :=
 match e with
 | .goto l' => bif Nat.beq l' l then J.take S.X t g else none
 | e => outK S.X S.outs e t
theorem SegOK.scope (hE : E.OK P) (hm : P.follows .mixedOrders = true) {S : Seg} {c x : Code} {l : Nat} (hc : atR (codeOf E S.f) S.p = .scope c) {p : List Dir} (hx : atR (codeOf E S.f) p = x) (hf : findLabel c l = some (.seq .skip x))
  (J : Mask) (g : Nat -> J.den -> Option (denS S.outs)) (k : Nat) (h0 : ∀ x, g 0 x = none) (d : Nat) (h1 h2 : Hint) (ho1 : HintOK P E h1) (ho2 : HintOK P E h2)
  (he1 : ∀ y, evN E d S.X S.f (.l :: S.p) c h1 (S.ins.mk' y) (jumpK S l (g k)) = S.G y)
  (he2 : ∀ k y, evN E d S.X S.f p x h2 (J.mk' y) (jumpK S l (g k)) = g (k + 1) y) : SegOK P E S := by
 intro y r hr O rr hF
 rw [hc]
 have out : ∀ (k : Nat) (e : Exit) (t : St), jumpK S l (g k) e t = some r -> jumpA l (fun t => ∃ z, g k z = some r /\ Weaker E S.X (J.mk' z) t) (fun e t => FinS (fun e' t' => e = e' /\ Weaker E S.X t' t) S.outs r) e t := fun k e t he => by
  cases e with
  | goto l' =>
   simp only [jumpK] at he
   cases hb : Nat.beq l' l with
   | false => rw [hb] at he; cases he
   | true =>
    rw [hb] at he
    obtain ⟨z, h3, h4⟩ := Mask.take_spec (E := E) he
    exact ⟨Nat.eq_of_beq_eq_true hb, z, h3, h4⟩
  | _ => exact outK_spec _ _ he
 refine Awp.scope hf (fun k s => ∃ z, g k z = some r /\ Weaker E S.X (J.mk' z) s) ?_ fun k s hk => ?_
 ·refine evN_sound hE hm d S.X S.f (.l :: S.p) c h1 _ _ _ O rr (by rw [atR, hc]; rfl) ho1 ((he1 y).trans hr) (fun e t he => ?_) hF
  have := out k e t he
  cases e with
  | goto l' => exact ⟨this.1, k, this.2⟩
  | _ => exact this
 ·obtain ⟨z, hz, hs⟩ := hk
  cases k with
  | zero => rw [h0] at hz; cases hz
  | succ k =>
   refine Awp.weaker hF (evN_sound hE hm d S.X S.f p x h2 _ _ _ O rr hx.symm ho2 ((he2 k z).trans hz) (fun e t he => ?_) hF) hs
   have := out k e t he
   cases e with
   | goto l' => exact ⟨this.1, k, Nat.lt_succ_self k, this.2⟩
   | _ => exact this
def argA : (l : List Ty) -> HL l -> Nat -> Option AV
 | [], _, _ => none
 | T :: _, x, 0 => some (.v T x.1)
 | _ :: l, x, k + 1 => argA l x.2 k
def St.init (l : List Ty) (x : HL l) : St := ⟨fun f t => bif Nat.beq f 0 then argA l x t else none, fun _ => none, fun _ => 0, 0, fun _ => none⟩
def retL (E : Env) (s : St) : List ResultVar -> (l : List Ty) -> Option (HL l)
 | [], [] => some ()
 | .tmp p :: r, T :: l => match s.tm 0 p with
  | some av => match asB s.bx T av, retL E s r l with
   | some x, some y => some (x, y)
   | _, _ => none
  | none => none
 | .cell p ty :: r, T :: l => match s.tm 0 p, E.lay ty with
  | some av, some q => match loadA s.bx q.1 q.2.1 av with
   | some u => match asB s.bx T u, retL E s r l with
    | some x, some y => some (x, y)
    | _, _ => none
   | none => none
  | _, _ => none
 | _, _ => none
def isEnd : Exit -> Bool
 | .ret => true
 | .normal => true
 | _ => false
def evF (E : Env) (d : Nat) (fn : Func) (f : FuncId) (h : Hint) (args res : List Ty) (xs : HL args) : Option (HL res) :=
 evN E d ⟨0, fn.ntmps, false, [], []⟩ f [] (codeOf E f) h (St.init args xs) fun e t => bif isEnd e then retL E t fn.results.toList res else none
theorem argA_rep {M : Mm} : ∀ (l : List Ty) (x : HL l) (vs : List Value), RepL M.w M.okv l x vs -> vs.length = l.length /\ ∀ t av, argA l x t = some av -> ∃ v, vs[t]? = some v /\ RepA M av v /\ ∀ us nl, av.bd us nl = true
 | [], _, vs, h => by rw [show vs = [] from h]; exact ⟨rfl, fun _ _ e => by simp [argA] at e⟩
 | T :: l, x, vs, h => by
  obtain ⟨v, q, e, h1, h2⟩ := h
  subst e
  obtain ⟨h3, h4⟩ := argA_rep (M := M) l x.2 q h2
  refine ⟨by simp [h3], fun t av ht => ?_⟩
  cases t with
  | zero => cases ht; exact ⟨v, rfl, h1, fun _ _ => rfl⟩
  | succ t => simpa using h4 t av ht
theorem retL_sound (hE : E.OK P) {n : Nat} {ok' : Nat -> Prop} (hok : ∀ k, (O.ok0 k \/ O.w0.heap.size <= k) -> ok' k) (h : RelC 0 n O ρ s a w) : ∀ (rs : List ResultVar) (l : List Ty) (r : HL l), retL E s rs l = some r ->
  ∃ vs, (rs.mapM (fun | .tmp t => pure (a.tmps.getD t undef) | .cell p t => do loadVar t (<- asAddr (a.tmps.getD p undef)) : ResultVar -> Sem Value)).run P w = .ok vs w /\ RepL w ok' l r vs
 | [], [], r, _ => ⟨[], rfl, rfl⟩
 | [], _ :: _, r, h => by simp [retL] at h
 | .tmp p :: rs, [], r, h => by simp [retL] at h
 | .cell p ty :: rs, [], r, h => by simp [retL] at h
 | .tmp p :: rs, T :: l, r, he => by
  simp only [retL] at he
  split at he
  ·rename_i av hav
   split at he
   ·rename_i x y hx hy
    cases he
    obtain ⟨vs, h1, h2⟩ := retL_sound hE hok h rs l y hy
    have hr := asB_rep (ok' := ok') h.bx (fun k hk => hok k hk.1.1) hx (fun id _ k hs hk => by
     obtain ⟨B, hB⟩ := Option.isSome_iff_exists.1 hs
     exact hok k (.inr ((h.bx id B hB).block hk).1)) (h.tm p av hav).2
    refine ⟨_ :: vs, ?_, _, _, rfl, hr, h2⟩
    simp only [List.mapM_cons, Sem.run_bind, Sem.run_pure, Result.andThen_ok, h1]
   ·cases he
  ·cases he
 | .cell p ty :: rs, T :: l, r, he => by
  simp only [retL] at he
  split at he
  ·rename_i av q hav hq
   split at he
   ·rename_i u hu
    split at he
    ·rename_i x y hx hy
     cases he
     obtain ⟨vs, h1, h2⟩ := retL_sound hE hok h rs l y hy
     obtain ⟨ad, z, e1, e2, e3⟩ := loadA_run hE h.toRelO hq (h.tm p av hav).2 hu
     have hr := asB_rep (ok' := ok') h.bx (fun k hk => hok k hk.1.1) hx (fun id _ k hs hk => by
      obtain ⟨B, hB⟩ := Option.isSome_iff_exists.1 hs
      exact hok k (.inr ((h.bx id B hB).block hk).1)) (RepB.toA e3)
     refine ⟨_ :: vs, ?_, _, _, rfl, hr, h2⟩
     simp only [List.mapM_cons, e1, asAddr_ptr, Sem.run_bind, Sem.run_pure, Result.andThen_ok, e2, h1]
    ·cases he
   ·cases he
  ·cases he
theorem repL_res {ok : Nat -> Prop} : ∀ (l : List Ty) (r : HL l) (vs : List Value), RepL w ok l r vs -> RepR w ok l r (if h : vs.toArray.size = 1 then vs.toArray[0] else .tuple vs.toArray) := by
 have len : ∀ (l : List Ty) (r : HL l) (vs : List Value), RepL w ok l r vs -> vs.length = l.length := by
  intro l
  induction l with
  | nil => intro r vs h; rw [show vs = [] from h]; rfl
  | cons T l ih =>
   intro r vs h
   obtain ⟨v, q, e, h1, h2⟩ := h
   subst e
   simp [ih _ _ h2]
 intro l r vs h
 have hl := len l r vs h
 match l, r, vs, h with
 | [], r, [], h => exact ⟨[], rfl, h⟩
 | [T], r, [v], h =>
  obtain ⟨v', q, e, h3, _⟩ := h
  cases e
  exact h3
 | T :: T' :: l, r, [], h => simp at hl
 | T :: T' :: l, r, [v], h => simp at hl
 | T :: T' :: l, r, v :: v' :: vs, h => exact ⟨_, by simp, h⟩
theorem evF_sound (hE : E.OK P) (hm : P.follows .mixedOrders = true) {f : FuncId} {fn : Func} {args res : List Ty} {F : HL args -> Option (HL res)} (hf : E.fn f = some fn) (hl : Nat.ble args.length fn.ntmps = true) (d : Nat) (h : Hint) (ho : HintOK P E h)
  (he : ∀ xs, evF E d fn f h args res xs = F xs) : SpecOK P E.G f ⟨args, res, F⟩ := by
 obtain ⟨hf', hn, hb⟩ := hE.fn f fn hf
 obtain ⟨c, hc⟩ := Option.isSome_iff_exists.1 hb
 have hcode : codeOf E f = c := by simp [codeOf, hf, hc]
 refine ⟨⟨fn, c, hf', hn, hc⟩, fun w ok xs vs r hg hxs hr => ?_⟩
 obtain ⟨O, hO⟩ : ∃ O : Octx, O = ⟨w, ok, [], [], [], fun _ => True, []⟩ := ⟨_, rfl⟩
 have hF : Fits E ⟨0, fn.ntmps, false, [], []⟩ O none := by
  subst hO
  exact ⟨hg, rfl, fun _ h => (by cases h), fun _ h => (by cases h), fun _ h => (by cases h), fun _ h => (by cases h), fun _ h => (by cases h), fun _ h => (by cases h)⟩
 have hr' := (he xs).trans hr
 have hwp := evN_sound hE hm d ⟨0, fn.ntmps, false, [], []⟩ f [] (codeOf E f) h (St.init args xs) _ (fun e t => isEnd e = true /\ retL E t fn.results.toList res = some r) O none rfl ho hr' (fun e t he => by
  cases hq : isEnd e with
  | true => rw [hq] at he; exact ⟨rfl, he⟩
  | false => rw [hq] at he; cases he) hF
 obtain ⟨hlen, hargs⟩ := argA_rep (M := mem O (fun _ => undef) (fun _ => none) w) args xs vs (by
  have : ∀ (l : List Ty) (x : HL l) (vs : List Value), RepL w ok l x vs -> RepL w (okS O (fun _ => undef) (fun _ => none)) l x vs := by
   intro l
   induction l with
   | nil => exact fun _ _ h => h
   | cons T l ih =>
    intro x vs h
    obtain ⟨v, q, e, h1, h2⟩ := h
    exact ⟨v, q, e, Rep.map (fun k c e z hk hh => ⟨⟨⟨by rw [hO]; exact .inl hk, fun id hid => by cases hid⟩, by rw [hO]; trivial⟩, hh⟩) h1, ih _ _ h2⟩
  exact this _ _ _ hxs)
 have hle : args.length <= fn.ntmps := Nat.le_of_ble_eq_true hl
 refine (callsFW (r := none) (n := 0)).1 (callsIn_of_wp_marks hf' hc trivial ?_)
 have hrel : Rel 0 fn.ntmps O (St.init args xs) { tmps := vs.toArray ++ Array.replicate (fn.ntmps - vs.toArray.size) undef, defers := [] } w := by
  refine ⟨fun _ => undef, ⟨fun p hp => ?_, fun id B hB => (by cases hB), fun i j k hi => (by cases hi), ?_, fun q hq => ?_, fun q hq => ?_, fun i k hi => (by cases hi), fun k _ => by rw [hO]; trivial, fun q hq => by rw [hO] at hq; cases hq⟩, fun p hp => ?_, ?_, fun t av ht => ?_, [], rfl, List.nodup_nil, fun D hD => (by cases hD)⟩
  ·rw [hO] at hp; cases hp
  ·rw [hO]; exact Below.refl _ _
  ·rw [hO] at hq; cases hq
  ·rw [hO] at hq; cases hq
  ·rw [hO] at hp; cases hp
  ·simp [hlen]; omega
  ·have ht' : argA args xs t = some av := ht
   obtain ⟨v, hv, hrep, hbd⟩ := hargs t av ht'
   have hlt : t < vs.length := (List.getElem?_eq_some_iff.1 hv).1
   have : (vs.toArray ++ Array.replicate (fn.ntmps - vs.toArray.size) undef).getD t undef = v := by
    simp [Array.getElem?_append, hlt] at hv ⊢
    rw [hv]
   refine ⟨hbd _ _, ?_⟩
   show RepA _ av ((vs.toArray ++ Array.replicate (fn.ntmps - vs.toArray.size) undef).getD t undef)
   rw [this]
   exact hrep
 have hwp' := hwp _ _ hrel
 rw [hcode] at hwp'
 refine wpIn_mono hwp' fun e a' w' ⟨t, ⟨he, hret⟩, ρ, hrl⟩ => ?_
 have key : LeavesInM (FW none) 0 P fn a'.tmps (fun e w' => ∃ v, e = .returned v /\ Below w.heap.size w w' /\ RepR w' (fun k => ok k \/ w.heap.size <= k) res r v) a'.defers .returning w' := by
  obtain ⟨Ds, hDs, hD⟩ := hrl.defers
  rw [hDs]
  refine leave_marks (b := 0) (n := fn.ntmps) (O := O) (ρ := ρ) (s := t) (fun w2 h2 => ?_) Ds w' ?_
  ·obtain ⟨vs', h3, h4⟩ := retL_sound hE (ok' := fun k => ok k \/ w.heap.size <= k) (fun k hk => by rw [hO] at hk; exact hk) h2 _ _ _ hret
   refine ⟨_, ?_, _, rfl, by have := h2.below; rw [hO] at this; exact this, repL_res _ _ _ h4⟩
   unfold results
   rw [show fn.results = fn.results.toList.toArray by simp, List.mapM_toArray]
   simp only [Sem.run_bind, Sem.run_map]
   exact (congrArg (fun r : Result (List Value) => (r.andThen fun x w' => Result.ok x.toArray w').andThen fun vs w' => (pure (if h : vs.size = 1 then vs[0] else Value.tuple vs) : Sem Value).run P w') h3).trans rfl
  ·rw [<- hDs]; exact hrl
 cases e <;> first | exact key | cases he
def Env.add (E : Env) (f : FuncId) (S : Spec) : Env := { E with tab := fun g => bif Nat.beq g f then some S else E.tab g }
theorem TyOK.add {t : TypeId} {U : Ty} {d : TypeDesc} {f : FuncId} {S : Spec} (h : TyOK P E t U d) : TyOK P (E.add f S) t U d :=
 ⟨h.desc, h.lay, h.zero, h.int, h.bool, h.list⟩
theorem eqFs_add {rec rec' : TypeId -> Ty -> Bool} {f : FuncId} {S : Spec} (h : ∀ t U, rec t U = rec' t U) : ∀ (fs : List Field) (U : Ty) (off : Nat), eqFs rec E fs U off = eqFs rec' (E.add f S) fs U off
 | [], _, _ => rfl
 | [_], U, off => by simp only [eqFs, h]; rfl
 | _ :: g :: fs, .pair A B, off => by simp only [eqFs, h, eqFs_add (f := f) (S := S) h (g :: fs) B]; rfl
 | _ :: _ :: _, .int _, _ => rfl
 | _ :: _ :: _, .bool, _ => rfl
 | _ :: _ :: _, .list _, _ => rfl
theorem eqB_add {f : FuncId} {S : Spec} : ∀ (k : Nat) (t : TypeId) (U : Ty), eqB P E k t U = eqB P (E.add f S) k t U
 | 0, _, _ => rfl
 | k + 1, t, U => by
  simp only [eqB]
  split <;> try rfl
  rw [eqFs_add (eqB_add k)]
theorem Env.OK.add (h : E.OK P) {f : FuncId} {S : Spec} (hS : SpecOK P E.G f S) : (E.add f S).OK P where
 str := h.str
 pt := h.pt
 eq := fun t U h1 h2 => by rw [<- eqB_add]; exact h.eq t U h1 h2
 lay := h.lay
 ty := fun t U h1 => by obtain ⟨d, h2⟩ := h.ty t U h1; exact ⟨d, h2.add⟩
 el := h.el
 fld := h.fld
 arr := h.arr
 one := h.one
 fn := h.fn
 cln := h.cln
 xt := h.xt
 tab := fun g S' hg => by
  simp only [Env.add, bif_beq] at hg
  split at hg
  ·rename_i e; subst e; cases hg; exact hS
  ·exact h.tab g S' hg
end

def assoc {α : Type} : List (Nat × α) -> Nat -> Option α
 | [], _ => none
 | (k, v) :: l, t => bif Nat.beq t k then some v else assoc l t
theorem assoc_mem {α : Type} : ∀ {a : List (Nat × α)} {t : Nat} {v : α}, assoc a t = some v -> (t, v) ∈ a
 | [], _, _, e => by cases e
 | (k, u) :: l, t, v, e => by
  simp only [assoc, bif_beq] at e
  split at e
  ·rename_i e1; subst e1; cases e; exact List.mem_cons_self
  ·exact List.mem_cons_of_mem _ (assoc_mem e)
inductive LT where
 | plain (U : Ty)
 | cst (v : Value)
 | pr (a b : LT)
structure Tables where
 ty : List (Nat × Ty)
 lay : List (Nat × Nat × Bool × Value)
 el : List (Nat × TypeId × Nat)
 eq : List Nat
 str : List Nat
 pt : List Nat
 fld : List (Nat × List (Nat × Nat × TypeId))
 arr : List (Nat × Nat × TypeId)
 st : List (Nat × LT)
 one : List Nat
def zeroAV : Ty -> AV
 | .list _ => .cst (.slice none 0 0)
 | .pair a b => bif (Ty.pair a b).free then .v (.pair a b) (zeroT (.pair a b)) else .pr (zeroAV a) (zeroAV b)
 | .int k => .v (.int k) (0 : Int)
 | .bool => .v .bool false
def LT.av : LT -> AV
 | .plain U => zeroAV U
 | .cst v => .cst v
 | .pr a b => .pr a.av b.av
def LT.size : LT -> Nat
 | .plain U => U.size
 | .cst _ => 1
 | .pr a b => a.size + b.size
def baseLay (T : Tables) (t : TypeId) : Option (Nat × Bool × AV) :=
 match assoc T.ty t with
 | some U => some (U.size, U.isPair, zeroAV U)
 | none => match assoc T.lay t with
  | some q => some (q.1, q.2.1, .cst q.2.2)
  | none => match assoc T.st t with
   | some L => some (L.size, true, L.av)
   | none => none
def baseE (G : World -> Prop) (T : Tables) (fnL : List (Nat × Func)) (clL : List (Nat × TypeId)) (xtL : List (Nat × Spec)) : Env where
 G := G
 ty := assoc T.ty
 lay := baseLay T
 el := assoc T.el
 eq := fun t => T.eq.any fun x => Nat.beq x t
 str := fun t => T.str.any fun x => Nat.beq x t
 pt := fun t => T.pt.any fun x => Nat.beq x t
 fld := fun t f => match assoc T.fld t with
  | some l => assoc l f
  | none => none
 arr := assoc T.arr
 one := fun t => T.one.any fun x => Nat.beq x t
 fn := assoc fnL
 cln := assoc clL
 xt := assoc xtL
 tab := fun _ => none
def isZ : (T : Ty) -> T.den -> Bool
 | .int _, x => decide ((x : Int) = 0)
 | .bool, x => !x
 | .pair a b, x => isZ a x.1 && isZ b x.2
 | .list _, x => List.isEmpty x
theorem isZ_spec : ∀ (T : Ty) (x : T.den), isZ T x = true -> x = zeroT T
 | .int _, x, h => of_decide_eq_true h
 | .bool, x, h => by
  have h' : (!x) = true := h
  cases x with
  | true => cases h'
  | false => rfl
 | .pair a b, x, h => by
  simp only [isZ, Bool.and_eq_true] at h
  obtain ⟨y, z⟩ := x
  have h1 := isZ_spec a y h.1
  have h2 := isZ_spec b z h.2
  subst h1; subst h2; rfl
 | .list _, x, h => by
  have h' : List.isEmpty x = true := h
  exact List.isEmpty_iff.1 h'
def fieldsB (P : Program) : TypeDesc -> Bool
 | .struct fs => fs.toList.all fun fd => (P.info? fd.type).isSome
 | _ => true
def shapeB (T : Tables) (t : TypeId) (d : TypeDesc) : Ty -> Bool
 | .int k => match d with | .int k' => decide (k = k') | _ => false
 | .bool => match d with | .bool => true | _ => false
 | .list U => match d with
  | .slice e => decide (assoc T.ty e = some U) && (match assoc T.el t with | some q => Nat.beq q.1 e | none => false)
  | _ => false
 | .pair _ _ => true
def tyB (P : Program) (T : Tables) (t : TypeId) (U : Ty) : Bool :=
 match P.info? t, P.underlying t with
 | some ti, some d => ti.size == U.size && aggD d == U.isPair && shapeB T t d U && fieldsB P d &&
   (match ti.zero with | some z => (match decV U z with | some x => isZ U x | none => false) | none => false)
 | _, _ => false
def sameV : Value -> Value -> Bool
 | .pointer none, .pointer none => true
 | .nilFunc, .nilFunc => true
 | _, _ => false
def layB (P : Program) (t : TypeId) (q : Nat × Bool × Value) : Bool :=
 match P.info? t, P.underlying t with
 | some ti, some d => ti.size == q.1 && Nat.blt 0 q.1 && aggD d == q.2.1 && fieldsB P d && q.2.2.cells.all (·.oneCell') && q.2.2.cells.size == q.1 && Value.isAgg q.2.2 == q.2.1 &&
   (match ti.zero with | some z => sameV z q.2.2 | none => false)
 | _, _ => false
def LT.chk : LT -> List Value -> Bool
 | .plain U, cs => match decL U cs with
  | some x => isZ U x
  | none => false
 | .cst v, [u] => sameV u v
 | .pr a b, cs => a.chk (cs.take a.size) && b.chk (cs.drop a.size)
 | _, _ => false
def LT.isPr : LT -> Bool
 | .pr _ _ => true
 | _ => false
def stB (P : Program) (t : TypeId) (L : LT) : Bool :=
 match P.info? t, P.underlying t with
 | some ti, some d => ti.size == L.size && Nat.blt 0 L.size && aggD d && fieldsB P d && L.isPr && (match ti.zero with | some (.agg cs) => L.chk cs.toList | _ => false)
 | _, _ => false
def elB (P : Program) (t : TypeId) (q : TypeId × Nat) : Bool :=
 match P.underlying t, P.info? q.1 with
 | some (.slice e), some ti => Nat.beq e q.1 && Nat.beq ti.bytes q.2 && Nat.blt 0 q.2
 | _, _ => false
def fldB (P : Program) (t : TypeId) (f : Nat) (q : Nat × TypeId) : Bool :=
 match P.underlying t with
 | some (.struct fs) => match fs[f]? with
  | some fd => Nat.beq fd.offset q.1 && Nat.beq fd.type q.2
  | none => false
 | _ => false
def arrB (P : Program) (t : TypeId) (q : Nat × TypeId) : Bool :=
 match P.underlying t with
 | some (.array n e) => Nat.beq n q.1 && Nat.beq e q.2
 | _ => false
def isStr : Option TypeDesc -> Bool
 | some .string => true
 | _ => false
def isPt : Option TypeDesc -> Bool
 | some (.pointer _) => true
 | _ => false
def eqOK (P : Program) (E : Env) (T : Tables) (t : TypeId) : Bool :=
 !P.eqGuardType P.depth t && (match assoc T.ty t with | some U => eqB P E 20 t U | none => true)
def oneB (P : Program) (t : TypeId) : Bool :=
 match P.info? t, P.underlying t with
 | some ti, some (.struct fs) => Nat.beq ti.size 1 && (match ti.zero with | some (.agg cs) => (match cs.toList with | [.slice none 0 0] => true | _ => false) | _ => false) &&
   (match fs.toList with | [fd] => Nat.beq fd.offset 0 && (match P.info? fd.type with | some tf => Nat.beq tf.size 1 | none => false) | _ => false)
 | _, _ => false
theorem oneB_spec {P : Program} {t : TypeId} (h : oneB P t = true) : OneOK P t := by
 unfold oneB at h
 split at h
 ·rename_i ti fs hi hd
  simp only [Bool.and_eq_true] at h
  obtain ⟨⟨h1, h2⟩, h3⟩ := h
  split at h2
  ·rename_i cs hz
   split at h2
   ·rename_i hcs
    split at h3
    ·rename_i fd hfs
     rw [Bool.and_eq_true] at h3
     obtain ⟨h3, h4⟩ := h3
     split at h4
     ·rename_i tf htf
      have e1 : cs = #[.slice none 0 0] := by apply Array.ext'; simpa using hcs
      have e2 : fs = #[fd] := by apply Array.ext'; simpa using hfs
      subst e1; subst e2
      exact ⟨ti, fd, tf, hi, Nat.eq_of_beq_eq_true h1, hz, hd, Nat.eq_of_beq_eq_true h3, htf, Nat.eq_of_beq_eq_true h4⟩
     ·cases h4
    ·cases h3
   ·cases h2
  ·cases h2
 ·cases h
def baseB (P : Program) (E : Env) (T : Tables) : Bool :=
 (T.ty.all fun q => tyB P T q.1 q.2) && (T.lay.all fun q => layB P q.1 q.2) && (T.el.all fun q => elB P q.1 q.2) && (T.eq.all fun t => eqOK P E T t) && (T.str.all fun t => isStr (P.underlying t)) &&
 (T.pt.all fun t => isPt (P.underlying t)) && (T.fld.all fun q => q.2.all fun r => fldB P q.1 r.1 r.2) && (T.arr.all fun q => arrB P q.1 q.2) && (T.st.all fun q => stB P q.1 q.2) && (T.one.all fun t => oneB P t)
def fnB (fn : Func) : Bool := !(fn.name == "runtime.NumGoroutine") && fn.body.isSome
def FnsOK (P : Program) : List (Nat × Func) -> Prop
 | [] => True
 | q :: l => (P.funcs[q.1]? = some q.2 /\ fnB q.2 = true) /\ FnsOK P l
theorem FnsOK.get {P : Program} : ∀ {l : List (Nat × Func)}, FnsOK P l -> ∀ q ∈ l, P.funcs[q.1]? = some q.2 /\ fnB q.2 = true
 | _ :: _, h, q, hq => by
  rcases List.mem_cons.1 hq with e | hq
  ·subst e; exact h.1
  ·exact FnsOK.get h.2 q hq
def ClsOK (P : Program) : List (Nat × TypeId) -> Prop
 | [] => True
 | q :: l => CloneOK P q.1 q.2 /\ ClsOK P l
theorem ClsOK.get {P : Program} : ∀ {l : List (Nat × TypeId)}, ClsOK P l -> ∀ q ∈ l, CloneOK P q.1 q.2
 | _ :: _, h, q, hq => by
  rcases List.mem_cons.1 hq with e | hq
  ·subst e; exact h.1
  ·exact ClsOK.get h.2 q hq
def XtsOK (P : Program) : List (Nat × Spec) -> Prop
 | [] => True
 | q :: l => XSpecOK P q.1 q.2 /\ XtsOK P l
theorem XtsOK.get {P : Program} : ∀ {l : List (Nat × Spec)}, XtsOK P l -> ∀ q ∈ l, XSpecOK P q.1 q.2
 | _ :: _, h, q, hq => by
  rcases List.mem_cons.1 hq with e | hq
  ·subst e; exact h.1
  ·exact XtsOK.get h.2 q hq
theorem any_beq {l : List Nat} {t : Nat} (h : (l.any fun x => Nat.beq x t) = true) : t ∈ l := by
 obtain ⟨x, hx, e⟩ := List.any_eq_true.1 h
 rw [<- Nat.eq_of_beq_eq_true e]; exact hx
section
variable {P : Program} {G : World -> Prop} {T : Tables} {fnL : List (Nat × Func)} {clL : List (Nat × TypeId)} {xtL : List (Nat × Spec)}
theorem sameV_eq {z c : Value} (h : sameV z c = true) : z = c := by
 unfold sameV at h
 split at h
 ·rfl
 ·rfl
 ·cases h
theorem fieldsB_spec {d : TypeDesc} (h : fieldsB P d = true) : ∀ fs, d = .struct fs -> ∀ fd ∈ fs.toList, ∃ ti, P.info? fd.type = some ti := fun fs e fd hfd => by
 subst e
 simp only [fieldsB, List.all_eq_true] at h
 exact Option.isSome_iff_exists.1 (h fd hfd)
theorem zeroAV_facts {us : Nat -> Nat} {nl : Nat} : ∀ U : Ty, (zeroAV U).fit = true /\ (zeroAV U).size = U.size /\ (zeroAV U).agg = U.isPair /\ (zeroAV U).bd us nl = true
 | .list _ => by
  have : (Value.slice none 0 0).cells = #[.slice none 0 0] := oneCell_cells rfl
  refine ⟨?_, ?_, rfl, rfl⟩
  ·show (Value.slice none 0 0).cells.all (·.oneCell') = true
   rw [this]; simp; rfl
  ·show (Value.slice none 0 0).cells.size = 1
   rw [this]; rfl
 | .int _ => ⟨rfl, rfl, rfl, rfl⟩
 | .bool => ⟨rfl, rfl, rfl, rfl⟩
 | .pair a b => by
  simp only [zeroAV]
  cases (Ty.pair a b).free with
  | true => exact ⟨rfl, rfl, rfl, rfl⟩
  | false =>
   obtain ⟨h1, h2, _, h4⟩ := zeroAV_facts (us := us) (nl := nl) a
   obtain ⟨g1, g2, _, g4⟩ := zeroAV_facts (us := us) (nl := nl) b
   exact ⟨by simp [AV.fit, h1, g1], by simp [AV.size, Ty.size, h2, g2], rfl, by simp [AV.bd, h4, g4]⟩
theorem decN_nil {α : Type} {cs : List Value} (h : decN (α := α) cs = some []) : cs = [.slice none 0 0] := by
 unfold decN at h
 split at h
 ·rfl
 ·cases h
theorem zeroAV_holds {M : Mm} : ∀ (U : Ty) (cs : List Value), decL U cs = some (zeroT U) -> HoldsA M (zeroAV U) cs
 | .list t, cs, h => by
  have : cs = [.slice none 0 0] := decN_nil h
  subst this
  exact ⟨by rw [oneCell_cells rfl], fun u hu => by simp at hu; subst hu; rfl⟩
 | .int k, cs, h => decL_holds (w := M.w) (ok := M.okv) (.int k) cs _ h
 | .bool, cs, h => decL_holds (w := M.w) (ok := M.okv) .bool cs _ h
 | .pair a b, cs, h => by
  simp only [zeroAV]
  cases (Ty.pair a b).free with
  | true => exact decL_holds (w := M.w) (ok := M.okv) (.pair a b) cs _ h
  | false =>
   simp only [decL, Option.bind_eq_some_iff] at h
   obtain ⟨y, hy, z, hz, e⟩ := h
   have e' : (y, z) = (zeroT a, zeroT b) := Option.some.inj e
   have e1 : y = zeroT a := congrArg Prod.fst e'
   have e2 : z = zeroT b := congrArg Prod.snd e'
   rw [e1] at hy; rw [e2] at hz
   exact ⟨_, _, (List.take_append_drop a.size cs).symm, zeroAV_holds a _ hy, zeroAV_holds b _ hz⟩
theorem zeroAV_rep {M : Mm} (U : Ty) (z : Value) (h : decV U z = some (zeroT U)) : RepB M (zeroAV U) z := by
 cases U with
 | list t =>
  have h0 := decN_nil (α := t.den) h
  show z = Value.slice none 0 0
  simpa using h0
 | int k => exact ⟨[z], zeroAV_holds (.int k) [z] h, rfl⟩
 | bool => exact ⟨[z], zeroAV_holds .bool [z] h, rfl⟩
 | pair a b =>
  cases z <;> first | (cases h; done) | skip
  rename_i cs
  have hh := zeroAV_holds (M := M) (.pair a b) cs.toList h
  simp only [zeroAV] at hh ⊢
  cases hf : (Ty.pair a b).free with
  | true => rw [hf] at hh; exact ⟨cs.toList, hh, rfl⟩
  | false => rw [hf] at hh; exact ⟨cs.toList, hh, rfl⟩
theorem tyB_lay {t : TypeId} {U : Ty} (h : tyB P T t U = true) : ∃ ti d, LayOK P t (U.size, U.isPair, zeroAV U) ti d /\ shapeB T t d U = true /\ ∃ z, ti.zero = some z /\ decV U z = some (zeroT U) := by
 unfold tyB at h
 split at h
 ·rename_i ti d hi hd
  simp only [Bool.and_eq_true, beq_iff_eq] at h
  obtain ⟨⟨⟨⟨h1, h2⟩, h3⟩, h4⟩, h5⟩ := h
  split at h5
  ·rename_i z hz
   split at h5
   ·rename_i x hx
    have hx0 := isZ_spec U x h5
    subst hx0
    refine ⟨ti, d, ⟨hi, hd, h1, tySize_pos U, h2, (zeroAV_facts (us := fun _ => 0) (nl := 0) U).1, fun us nl => (zeroAV_facts (us := us) (nl := nl) U).2.2.2, (zeroAV_facts (us := fun _ => 0) (nl := 0) U).2.1, (zeroAV_facts (us := fun _ => 0) (nl := 0) U).2.2.1, ⟨z, hz, fun M => zeroAV_rep U z hx⟩, fieldsB_spec h4⟩, h3, z, hz, hx⟩
   ·cases h5
  ·cases h5
 ·cases h
theorem layB_spec {t : TypeId} {q : Nat × Bool × Value} (h : layB P t q = true) : ∃ ti d, LayOK P t (q.1, q.2.1, .cst q.2.2) ti d := by
 unfold layB at h
 split at h
 ·rename_i ti d hi hd
  simp only [Bool.and_eq_true, beq_iff_eq] at h
  obtain ⟨⟨⟨⟨⟨⟨⟨h1, h2⟩, h3⟩, h4⟩, h5⟩, h6⟩, h7⟩, h8⟩ := h
  split at h8
  ·rename_i z hz
   have := sameV_eq h8
   subst this
   exact ⟨ti, d, ⟨hi, hd, h1, by simpa using h2, h3, h5, fun _ _ => rfl, h6, h7, ⟨_, hz, fun M => rfl⟩, fieldsB_spec h4⟩⟩
  ·cases h8
 ·cases h
theorem sameV_one {u v : Value} (h : sameV u v = true) : u = v /\ v.cells = #[v] /\ v.oneCell' = true := by
 have e := sameV_eq h
 subst e
 unfold sameV at h
 split at h
 ·exact ⟨rfl, oneCell_cells rfl, rfl⟩
 ·exact ⟨rfl, oneCell_cells rfl, rfl⟩
 ·cases h
theorem LT.holds {M : Mm} : ∀ (L : LT) (cs : List Value), L.chk cs = true -> HoldsA M L.av cs /\ L.av.fit = true /\ L.av.size = L.size /\ ∀ us nl, L.av.bd us nl = true
 | .plain U, cs, h => by
  simp only [LT.chk] at h
  split at h
  ·rename_i x hx
   have hx0 := isZ_spec U x h
   subst hx0
   exact ⟨zeroAV_holds U cs hx, (zeroAV_facts (us := fun _ => 0) (nl := 0) U).1, (zeroAV_facts (us := fun _ => 0) (nl := 0) U).2.1, fun us nl => (zeroAV_facts (us := us) (nl := nl) U).2.2.2⟩
  ·cases h
 | .cst v, cs, h => by
  match cs, h with
  | [u], h =>
   obtain ⟨rfl, hc, ho⟩ := sameV_one h
   refine ⟨⟨by rw [hc], fun w hw => by simp at hw; subst hw; exact ho⟩, ?_, ?_, fun _ _ => rfl⟩
   ·show u.cells.all (·.oneCell') = true
    rw [hc]; simp [ho]
   ·show u.cells.size = 1
    rw [hc]; rfl
  | [], h => cases h
  | _ :: _ :: _, h => cases h
 | .pr a b, cs, h => by
  simp only [LT.chk, Bool.and_eq_true] at h
  obtain ⟨h1, h2, h3, h4⟩ := LT.holds (M := M) a _ h.1
  obtain ⟨g1, g2, g3, g4⟩ := LT.holds (M := M) b _ h.2
  exact ⟨⟨_, _, (List.take_append_drop a.size cs).symm, h1, g1⟩, by simp [LT.av, AV.fit, h2, g2], by simp [LT.av, AV.size, LT.size, h3, g3], fun us nl => by simp [LT.av, AV.bd, h4, g4]⟩
theorem stB_spec {t : TypeId} {L : LT} (h : stB P t L = true) : ∃ ti d, LayOK P t (L.size, true, L.av) ti d := by
 unfold stB at h
 split at h
 ·rename_i ti d hi hd
  simp only [Bool.and_eq_true, beq_iff_eq] at h
  obtain ⟨⟨⟨⟨⟨h1, h2⟩, h3⟩, h4⟩, h5⟩, h6⟩ := h
  split at h6
  ·rename_i cs hz
   have key := fun M => LT.holds (M := M) L cs.toList h6
   obtain ⟨_, k2, k3, k4⟩ := key ⟨default, fun _ => True, fun _ => undef, fun _ => none, fun _ => none, fun _ => True⟩
   refine ⟨ti, d, ⟨hi, hd, h1, by simpa using h2, h3, k2, k4, k3, ?_, ⟨_, hz, fun M => ?_⟩, fieldsB_spec h4⟩⟩
   ·cases L <;> first | rfl | cases h5
   ·cases L with
    | pr a b => exact ⟨cs.toList, (key M).1, rfl⟩
    | _ => cases h5
  ·cases h6
 ·cases h
theorem Env.OK.base (h : baseB P (baseE G T fnL clL xtL) T = true) (hf : FnsOK P fnL) (hc : ClsOK P clL) (hx : XtsOK P xtL) : (baseE G T fnL clL xtL).OK P := by
 unfold baseB at h
 simp only [Bool.and_eq_true, List.all_eq_true] at h
 obtain ⟨⟨⟨⟨⟨⟨⟨⟨⟨h1, h2⟩, h3⟩, h4⟩, h5⟩, h6⟩, h7⟩, h8⟩, h9⟩, h10⟩ := h
 refine ⟨fun t ht => ?_, fun t ht => ?_, fun t U he ht => ?_, fun t q hq => ?_, fun t U ht => ?_, fun t e b he => ?_, fun t f q hq => ?_, fun t n e ha => ?_, fun t ht => oneB_spec (h10 t (any_beq ht)), fun f fn hfn => ?_, fun f t hq => ?_, fun f S hS => hx.get _ (assoc_mem hS), fun f S hS => by cases hS⟩
 ·have := h5 t (any_beq ht)
  unfold isStr at this
  split at this
  ·assumption
  ·cases this
 ·have := h6 t (any_beq ht)
  unfold isPt at this
  split at this
  ·rename_i e he; exact ⟨e, he⟩
  ·cases this
 ·have := h4 t (any_beq he)
  simp only [eqOK, Bool.and_eq_true, Bool.not_eq_true'] at this
  have ht' : assoc T.ty t = some U := ht
  rw [ht'] at this
  exact this
 ·have hq' : baseLay T t = some q := hq
  unfold baseLay at hq'
  split at hq'
  ·rename_i U hU
   cases hq'
   obtain ⟨ti, d, hL, _⟩ := tyB_lay (h1 (t, U) (assoc_mem hU))
   exact ⟨ti, d, hL⟩
  ·split at hq'
   ·rename_i q0 hq0
    cases hq'
    exact layB_spec (h2 (t, q0) (assoc_mem hq0))
   ·split at hq'
    ·rename_i L hL
     cases hq'
     exact stB_spec (h9 (t, L) (assoc_mem hL))
    ·cases hq'
 ·have ht' : assoc T.ty t = some U := ht
  obtain ⟨ti, d, hL, hs, z, hz, hzr⟩ := tyB_lay (h1 (t, U) (assoc_mem ht'))
  refine ⟨d, hL.desc, ⟨_, show baseLay T t = _ by unfold baseLay; rw [ht']⟩, ⟨ti, z, hL.info, hz, hzr⟩, fun k e => ?_, fun e => ?_, fun V e => ?_⟩
  ·subst e
   simp only [shapeB] at hs
   split at hs
   ·rw [of_decide_eq_true hs]
   ·cases hs
  ·subst e
   simp only [shapeB] at hs
   split at hs
   ·rfl
   ·cases hs
  ·subst e
   simp only [shapeB] at hs
   split at hs
   ·rename_i e
    rw [Bool.and_eq_true] at hs
    obtain ⟨g1, g2⟩ := hs
    split at g2
    ·rename_i q hq
     have := Nat.eq_of_beq_eq_true g2
     exact ⟨e, q.2, rfl, of_decide_eq_true g1, by show assoc T.el t = _; rw [hq, <- this]⟩
    ·cases g2
   ·cases hs
 ·have := h3 (t, e, b) (assoc_mem he)
  unfold elB at this
  split at this
  ·rename_i e' ti hd hi
   simp only [Bool.and_eq_true] at this
   obtain ⟨⟨g1, g2⟩, g3⟩ := this
   have g1 := Nat.eq_of_beq_eq_true g1
   have g2 := Nat.eq_of_beq_eq_true g2
   simp only at g1 g2 g3 hd hi
   subst g1
   exact ⟨hd, ⟨ti, hi, g2⟩, by simpa using g3⟩
  ·cases this
 ·have hq' : (match assoc T.fld t with | some l => assoc l f | none => none) = some q := hq
  split at hq'
  ·rename_i l hl
   have := h7 (t, l) (assoc_mem hl) (f, q) (assoc_mem hq')
   unfold fldB at this
   split at this
   ·rename_i fs hd
    split at this
    ·rename_i fd hfd
     rw [Bool.and_eq_true] at this
     exact ⟨fs, fd, hd, hfd, Nat.eq_of_beq_eq_true this.1, Nat.eq_of_beq_eq_true this.2⟩
    ·cases this
   ·cases this
  ·cases hq'
 ·have := h8 (t, n, e) (assoc_mem ha)
  unfold arrB at this
  split at this
  ·rename_i n' e' hd
   rw [Bool.and_eq_true] at this
   have g1 := Nat.eq_of_beq_eq_true this.1
   have g2 := Nat.eq_of_beq_eq_true this.2
   simp only at g1 g2 hd
   rw [<- g1, <- g2]; exact hd
  ·cases this
 ·obtain ⟨g1, g2⟩ := FnsOK.get hf (f, fn) (assoc_mem hfn)
  simp only [fnB, Bool.and_eq_true, Bool.not_eq_true'] at g2
  exact ⟨g1, g2.1, g2.2⟩
 ·exact ClsOK.get hc (f, t) (assoc_mem hq)
end
section
variable {P : Program}
theorem op_val {F : Fence} {n : Nat} {ops : Array Oper} {Q : Exit -> Act -> World -> Prop} {i : Nat} {K : Act -> World -> Prop} {a : Act} {w w' : World} {o : Oper} {v : Value} (hF : ∀ f, F.fn f) (ho : ops[i]? = some o) (hg : o.guard = none) (hd : ∀ c, o.op ≠ .defer c)
  (hrun : (execOp a.eval o).run P w = .ok (.value v) w') (hK : K (a.put o.dst v) w') : wpOpIn F n P ops Q i K a w := by
 unfold wpOpIn
 simp only [ho, Region.wanted, hg, if_true]
 refine ⟨fun f _ => hF f, ?_⟩
 rw [Oper.semAt_eq _ _ _ hd, hrun]
 exact hK
def co0 (t : TypeId) : Oper := { dst := some 2, op := .assign (.const (.slice none 0 0)), type := t, pos := "slices.go:355", after := #[], guard := none }
def co1 (t : TypeId) : Oper := { dst := some 3, op := .move (.tmp 0), type := t, pos := "slices.go:357", after := #[], guard := none }
def co2 (t tb : TypeId) : Oper := { dst := some 4, op := .binOp .eql t (.tmp 3) (.const (.slice none 0 0)) t, type := tb, pos := "slices.go:357", after := #[{ on := 0, ground := .data }], guard := none }
def co3 (t : TypeId) : Oper := { dst := some 2, op := .assign (.const (.slice none 0 0)), type := t, pos := "slices.go:358", after := #[], guard := none }
def co4 (t : TypeId) : Oper := { dst := some 5, op := .buildSlice t 0 #[], type := t, pos := "slices.go:362", after := #[], guard := none }
def co5 (t : TypeId) : Oper := { dst := some 6, op := .move (.tmp 0), type := t, pos := "slices.go:362", after := #[], guard := none }
def co6 (t : TypeId) : Oper := { dst := some 7, op := .call { callee := .builtin .append, args := #[.tmp 5, .tmp 6], argTypes := #[t, t] }, type := t, pos := "slices.go:362", after := #[{ on := 0, ground := .data }, { on := 1, ground := .data }], guard := none }
def co7 (t : TypeId) : Oper := { dst := some 2, op := .assign (.tmp 7), type := t, pos := "slices.go:362", after := #[{ on := 2, ground := .data }, { on := 2, ground := .chain }, { on := 0, ground := .phase }, { on := 1, ground := .phase }, { on := 2, ground := .phase }], guard := none }
def cloneCode (t tb : TypeId) : Code :=
 .seq (.region 0 #[co0 t] false) (.seq (.seq (.region 1 #[co1 t, co2 t tb] false) (.cond (.tmp 4) (.seq (.region 2 #[co3 t] false) .ret) .skip)) (.seq (.region 3 #[co4 t, co5 t, co6 t, co7 t] false) .ret))
theorem clone_ok {f : FuncId} {fn : Func} {t tb : TypeId} (hf : P.funcs[f]? = some fn) (hn : (fn.name == "runtime.NumGoroutine") = false) (hb : fn.body = some (cloneCode t tb)) (hr : fn.results = #[.tmp 2]) (hnt : fn.ntmps = 8) : CloneOK P f t := by
 refine ⟨⟨fn, _, hf, hn, hb⟩, fun w v n cs e ti z ht hti hz hzs hpos hs hmax hby => ?_⟩
 obtain ⟨A, cap, rfl, hl, hone, hcells⟩ := hs
 have hF : ∀ f, (FW none).fn f := fun _ => trivial
 refine (callsFW (r := none) (n := 0)).1 (callsIn_of_wp_marks hf hb trivial ?_)
 have hin : (#[Value.slice A n cap] ++ Array.replicate (fn.ntmps - (#[Value.slice A n cap] : Array Value).size) undef) = #[.slice A n cap, undef, undef, undef, undef, undef, undef, undef] := by rw [hnt]; rfl
 rw [hin]
 have hres : ∀ (x : Value) (tmps : Array Value) (w' : World), tmps.getD 2 undef = x -> (results fn tmps).run P w' = .ok x w' := fun x tmps w' hx => by
  simp [results, hr, Sem.run_bind]
  simpa using hx
 refine wpIn_seq (wpIn_region ?_)
 show wpOpsIn _ _ P _ _ [0] _ _
 rw [wpOpsIn_cons]
 refine op_val hF (v := .slice none 0 0) (o := co0 t) rfl rfl (fun c h => by cases h) rfl ?_
 show Code.wpIn _ _ P _ _ ⟨#[.slice A n cap, undef, .slice none 0 0, undef, undef, undef, undef, undef], []⟩ w
 refine wpIn_seq (wpIn_seq (wpIn_region ?_))
 show wpOpsIn _ _ P _ _ [0, 1] _ _
 rw [wpOpsIn_cons]
 refine op_val hF (v := .slice A n cap) (o := co1 t) rfl rfl (fun c h => by cases h) rfl ?_
 rw [wpOpsIn_cons]
 refine op_val hF (v := .bool A.isNone) (w' := w) (o := co2 t tb) rfl rfl (fun c h => by cases h) ?_ ?_
 ·have heq : ∀ (k : Nat), (Op.equalIn (k + 1) t (.slice A n cap) (.slice none 0 0)).run P w = .ok A.isNone w := fun k => by
   cases A <;> simp [Op.equalIn, Sem.run_bind, run_underlying ht]
  have h9 := heq 9999
  have h10 : (binOp .eql t (.slice A n cap) (.slice none 0 0)).run P w = .ok (.bool A.isNone) w := by
   simp only [binOp]
   simp [Op.equal, Op.maxDepth, h9]
  show (do let v <- (do eqGuard .eql t (.tmp 3) (.const (.slice none 0 0)) (.slice A n cap) (.slice none 0 0); binOp .eql t (.slice A n cap) (.slice none 0 0)); pure (Next.value v) : Sem Next).run P w = _
  have h11 : (eqGuard .eql t (.tmp 3) (.const (.slice none 0 0)) (.slice A n cap) (.slice none 0 0)).run P w = .ok () w := by simp [eqGuard]
  simp only [Sem.run_bind, h11, Result.andThen_ok, h10, Sem.run_pure]
 show Code.wpIn _ _ P _ _ ⟨#[.slice A n cap, undef, .slice none 0 0, .slice A n cap, .bool A.isNone, undef, undef, undef], []⟩ w
 refine wpIn_cond (t := A.isNone) rfl ?_
 cases A with
 | none =>
  simp only [Option.isNone_none, if_true]
  refine wpIn_seq (wpIn_region ?_)
  show wpOpsIn _ _ P _ _ [0] _ _
  rw [wpOpsIn_cons]
  refine op_val hF (v := .slice none 0 0) (o := co3 t) rfl rfl (fun c h => by cases h) rfl ?_
  refine wpIn_ret ?_
  have hn0 : n = 0 := Classical.byContradiction fun hne => by obtain ⟨a, ha, _⟩ := hcells hne; cases ha
  subst hn0
  have hcs : cs = [] := List.eq_nil_of_length_eq_zero (by simpa using hl)
  subst hcs
  refine ⟨.slice none 0 0, hres _ _ _ rfl, _, rfl, ⟨rfl, rfl, rfl, Nat.le_refl _, fun _ _ _ => rfl⟩, World.ownsRow_nil w _ e ti.size⟩
 | some ad =>
  simp only [Option.isNone_some, Bool.false_eq_true, if_false]
  refine wpIn_skip ?_
  refine wpIn_seq (wpIn_region ?_)
  show wpOpsIn _ _ P _ _ [0, 1, 2, 3] _ _
  obtain ⟨w1, hw1⟩ : ∃ w1, w1 = w.alloc (.cells #[] e) := ⟨_, rfl⟩
  have hown1 : w1.ownsRow w.heap.size e ti.size (.slice (some ⟨w.heap.size, 0, none⟩) 0 0) 0 [] := by
   rw [hw1]; exact World.ownsRow_made w #[] 0 (Nat.le_refl _) (Nat.zero_le _) (by simp)
  have hs1 : IsSlice w1 ti.size n cs (.slice (some ad) n cap) := ⟨some ad, cap, rfl, hl, hone, fun hne => by
   obtain ⟨a, ha, hc⟩ := hcells hne
   refine ⟨a, ha, fun j u hj => ?_⟩
   have hcu := hc j u hj
   have hlt : (a.add j).block < w.heap.size := by
    simp only [World.cell?] at hcu
    split at hcu
    ·rename_i hh; exact (Array.getElem?_eq_some_iff.1 hh).1
    ·cases hcu
   rw [<- hcu, hw1]
   exact World.cell?_of_block (Below.heap_alloc _ _ _ hlt)⟩
  obtain ⟨v', w2, hrun, how, hgr, hnew⟩ := run_append_box (P := P) w.heap.size t t e ti z ht hti hz hzs hpos _ 0 [] hown1 _ n cs hs1 (by simpa using hmax) (by simpa using hby) (by rw [hw1]; simp)
  rw [wpOpsIn_cons]
  refine op_val hF (v := .slice (some ⟨w.heap.size, 0, none⟩) 0 0) (w' := w1) (o := co4 t) rfl rfl (fun c h => by cases h) ?_ ?_
  ·have hsz : (sizeOf e).run P w = .ok ti.size w := by simp [sizeOf, typeInfo, hti]
   simp only [execOp, co4, Instr.buildSlice, Sem.run_bind, run_underlying ht, Result.andThen_ok, hsz]
   rw [if_neg (by omega), if_pos (by omega)]
   have hz0 : ∀ f : Nat -> Value, (Array.range (0 * ti.size)).map f = #[] := fun f => by simp
   simp only [Sem.run_pure, Result.andThen_ok, hz0, hw1]
   simp [Instr.fill, newRow]
  show wpOpsIn _ _ P _ _ [1, 2, 3] ⟨#[.slice (some ad) n cap, undef, .slice none 0 0, .slice (some ad) n cap, .bool false, .slice (some ⟨w.heap.size, 0, none⟩) 0 0, undef, undef], []⟩ w1
  rw [wpOpsIn_cons]
  refine op_val hF (v := .slice (some ad) n cap) (w' := w1) (o := co5 t) rfl rfl (fun c h => by cases h) rfl ?_
  show wpOpsIn _ _ P _ _ [2, 3] ⟨#[.slice (some ad) n cap, undef, .slice none 0 0, .slice (some ad) n cap, .bool false, .slice (some ⟨w.heap.size, 0, none⟩) 0 0, .slice (some ad) n cap, undef], []⟩ w1
  rw [wpOpsIn_cons]
  refine op_val hF (v := v') (w' := w2) (o := co6 t) rfl rfl (fun c h => by cases h) ?_ ?_
  ·simp only [execOp, co6, resolve, Sem.run_bind, Sem.run_pure, Result.andThen_ok, invoke, builtin]
   have hmap : (#[Operand.tmp 5, Operand.tmp 6]).map (Act.eval ⟨#[.slice (some ad) n cap, undef, .slice none 0 0, .slice (some ad) n cap, .bool false, .slice (some ⟨w.heap.size, 0, none⟩) 0 0, .slice (some ad) n cap, undef], []⟩) = #[.slice (some ⟨w.heap.size, 0, none⟩) 0 0, .slice (some ad) n cap] := by simp [Act.eval]
   rw [hmap, hrun]; rfl
  show wpOpsIn _ _ P _ _ [3] ⟨#[.slice (some ad) n cap, undef, .slice none 0 0, .slice (some ad) n cap, .bool false, .slice (some ⟨w.heap.size, 0, none⟩) 0 0, .slice (some ad) n cap, v'], []⟩ w2
  rw [wpOpsIn_cons]
  refine op_val hF (v := v') (w' := w2) (o := co7 t) rfl rfl (fun c h => by cases h) rfl ?_
  refine wpIn_ret ?_
  refine ⟨v', hres _ _ _ rfl, _, rfl, ?_, by simpa using how⟩
  have hsz1 : w.heap.size <= w1.heap.size := by rw [hw1]; simp
  refine ⟨hgr.os.trans (by rw [hw1]; rfl), hgr.tape.trans (by rw [hw1]; rfl), hgr.output.trans (by rw [hw1]; rfl), Nat.le_trans hsz1 hgr.size, fun k hk _ => ?_⟩
  refine (hgr.block k (by omega) (by simp [refB]; omega)).trans ?_
  rw [hw1]; exact Below.heap_alloc _ _ _ hk
end
section
variable {P : Program}
theorem Rep.int_of {w : World} {ok : Nat -> Prop} {k : IntKind} {x : Int} {v : Value} (h : Rep w ok (.int k) x v) : v = .int k x := by
 obtain ⟨cs, h, rfl⟩ := h
 have : cs = [.int k x] := h
 subst this; rfl
def add64F (x : HL [.int .u64, .int .u64, .int .u64]) : Option (HL [.int .u64, .int .u64]) :=
 if 0 <= x.1 /\ 0 <= x.2.1 /\ 0 <= x.2.2.1 /\ x.2.2.1 <= 1 then some ((x.1 + x.2.1 + x.2.2.1) % 18446744073709551616, (x.1 + x.2.1 + x.2.2.1) / 18446744073709551616, ()) else none
theorem add64_ok {f : FuncId} {fn : Func} (hf : P.funcs[f]? = some fn) (hname : (fn.name == "runtime.NumGoroutine") = false) (hb : fn.body.isNone = true) (hn : Extern.findNext fn = none) (he : Extern.find fn = some add64Entry) :
  XSpecOK P f ⟨[.int .u64, .int .u64, .int .u64], [.int .u64, .int .u64], add64F⟩ := by
 intro w ok xs vs r hx hr
 obtain ⟨v0, _, rfl, h0, v1, _, rfl, h1, v2, _, rfl, h2, rfl⟩ := hx
 rw [Rep.int_of h0, Rep.int_of h1, Rep.int_of h2]
 simp only [add64F] at hr
 split at hr
 ·rename_i hq
  cases hr
  refine ⟨.tuple #[.int .u64 ((xs.1 + xs.2.1 + xs.2.2.1) % 18446744073709551616), .int .u64 ((xs.1 + xs.2.1 + xs.2.2.1) / 18446744073709551616)], ?_, _, rfl, _, _, rfl, ⟨[_], rfl, rfl⟩, _, _, rfl, ⟨[_], rfl, rfl⟩, rfl⟩
  rw [run_callFunc_extern hf hname hb hn he, run_add64 _ _ _ hq.1 hq.2.1 hq.2.2.1 hq.2.2.2]
  simp only [Result.andThen]
 ·cases hr
def sub64Entry : Array Value -> Sem Value := fun args => do
 let (x, y, b) <- Extern.MathBitsCarry.three "Sub64" args
 pure (Extern.MathBitsCarry.pair ((x + Extern.MathBitsCarry.m64 - y - b) % Extern.MathBitsCarry.m64) (if x < y + b then 1 else 0))
theorem run_sub64' (x y b : Nat) (hb : b <= 1) (w : World) : (sub64Entry #[.int .u64 x, .int .u64 y, .int .u64 b]).run P w =
  .ok (.tuple #[.int .u64 (((x + 18446744073709551616 - y - b) % 18446744073709551616 : Nat) : Int), .int .u64 ((if x < y + b then 1 else 0 : Nat) : Int)]) w := by
 have : b = 0 \/ b = 1 := by omega
 rcases this with rfl | rfl <;> rfl
def sub64F (x : HL [.int .u64, .int .u64, .int .u64]) : Option (HL [.int .u64, .int .u64]) :=
 if 0 <= x.1 /\ 0 <= x.2.1 /\ x.2.1 < 18446744073709551616 /\ 0 <= x.2.2.1 /\ x.2.2.1 <= 1 then some ((x.1 - x.2.1 - x.2.2.1) % 18446744073709551616, (if x.1 < x.2.1 + x.2.2.1 then 1 else 0), ()) else none
theorem sub64_ok {f : FuncId} {fn : Func} (hf : P.funcs[f]? = some fn) (hname : (fn.name == "runtime.NumGoroutine") = false) (hb : fn.body.isNone = true) (hn : Extern.findNext fn = none) (he : Extern.find fn = some sub64Entry) :
  XSpecOK P f ⟨[.int .u64, .int .u64, .int .u64], [.int .u64, .int .u64], sub64F⟩ := by
 intro w ok xs vs r hx hr
 obtain ⟨v0, _, rfl, h0, v1, _, rfl, h1, v2, _, rfl, h2, rfl⟩ := hx
 rw [Rep.int_of h0, Rep.int_of h1, Rep.int_of h2]
 obtain ⟨a0, a1, a2, _⟩ := xs
 simp only [sub64F] at hr
 split at hr
 ·rename_i hq
  obtain ⟨q0, q1, q2, q3, q4⟩ := hq
  obtain ⟨x, rfl⟩ := Int.eq_ofNat_of_zero_le q0
  obtain ⟨y, rfl⟩ := Int.eq_ofNat_of_zero_le q1
  obtain ⟨b, rfl⟩ := Int.eq_ofNat_of_zero_le q3
  have q2 : (y : Int) < 18446744073709551616 := q2
  have q4 : (b : Int) <= 1 := q4
  cases hr
  refine ⟨.tuple #[.int .u64 (((x : Int) - y - b) % 18446744073709551616), .int .u64 (if (x : Int) < y + b then 1 else 0)], ?_, _, rfl, _, _, rfl, ⟨[_], rfl, rfl⟩, _, _, rfl, ⟨[_], rfl, rfl⟩, rfl⟩
  have e1 : (((x + 18446744073709551616 - y - b) % 18446744073709551616 : Nat) : Int) = ((x : Int) - y - b) % 18446744073709551616 := by omega
  have e2 : ((if x < y + b then 1 else 0 : Nat) : Int) = if (x : Int) < y + b then 1 else 0 := by split <;> split <;> omega
  rw [run_callFunc_extern hf hname hb hn he, run_sub64' x y b (by omega)]
  simp only [Result.andThen, e1, e2]
 ·cases hr
end

open Go.ChangeShapes Go.WideShapes Go.Deep
def okU : (U : Ty) -> U.den -> Prop
 | .int k, x => (Lit.int k x).wf = true
 | .bool, _ => True
 | .pair a b, x => okU a x.1 /\ okU b x.2
 | .list t, l => l.length <= maxLen /\ ∀ x ∈ (l : List t.den), okU t x
def DRep {H : Type} (enc : TypeId × Value -> H) (P : Program) (w : World) (t : TypeId) (U : Ty) : Prop :=
 ∀ (base : Nat) (spare : Nat -> Bool) (held : Bool) (fuel : Nat) (cs : List Value) (x : DataW H × List MemPlace), DataW.trod enc P w base spare held fuel t cs = some x -> ∃ v : U.den, Holds w (fun _ => True) U v cs /\ okU U v
section
variable {H : Type} {enc : TypeId × Value -> H} {P : Program} {w : World}
theorem DRep.int {t : TypeId} {k : IntKind} (ht : P.underlying t = some (.int k)) : DRep enc P w t (.int k) := by
 intro base spare held fuel cs x h
 obtain ⟨n, rfl, _, hw⟩ := DataW.trod_int ht h
 exact ⟨n, rfl, hw⟩
theorem DRep.bool {t : TypeId} (ht : P.underlying t = some .bool) : DRep enc P w t .bool := by
 intro base spare held fuel cs x h
 obtain ⟨b, rfl, _⟩ := DataW.trod_bool ht h
 exact ⟨b, rfl, trivial⟩
theorem All2.build {α β : Type} {R : α -> β -> Prop} {Q : α -> Prop} : ∀ (n : Nat) (f : Nat -> β -> Prop), (∀ i, i < n -> ∃ x c, R x c /\ Q x /\ f i c) -> ∃ (l : List α) (cs : List β), l.length = n /\ cs.length = n /\ All2 R l cs /\ (∀ x ∈ l, Q x) /\ ∀ i c, cs[i]? = some c -> f i c
 | 0, f, _ => ⟨[], [], rfl, rfl, trivial, fun _ h => (by cases h), fun _ _ h => by cases h⟩
 | n + 1, f, h => by
  obtain ⟨x, c, h1, h2, h3⟩ := h 0 (by omega)
  obtain ⟨l, cs, g1, g2, g3, g4, g5⟩ := All2.build (R := R) (Q := Q) n (fun i => f (i + 1)) (fun i hi => h (i + 1) (by omega))
  refine ⟨x :: l, c :: cs, by simp [g1], by simp [g2], ⟨h1, g3⟩, fun y hy => ?_, fun i c' hc => ?_⟩
  ·rcases List.mem_cons.1 hy with e | hy
   ·rw [e]; exact h2
   ·exact g4 y hy
  ·cases i with
   | zero => cases hc; exact h3
   | succ i => exact g5 i c' (by simpa using hc)
theorem DRep.slice {t e : TypeId} {T : Ty} (ht : P.underlying t = some (.slice e)) (hC : P.cellsOf e = T.size) (hop : DRep enc P w e T) : DRep enc P w t (.list T) := by
 intro base spare held fuel cs x h
 rcases open_slice ht h with ⟨rfl, rfl⟩ | ⟨a, len, cap, m, n, D, Pl, rfl, hb, hle, hm, hmm, rfl, hi⟩
 ·exact ⟨[], ⟨none, 0, [], rfl, ⟨Nat.le_refl _, Nat.zero_le _⟩, trivial, fun h => absurd rfl h⟩, Nat.zero_le _, fun _ h => by cases h⟩
 ·have hlm : len <= m := by rw [hmm]; split <;> omega
  have hpos := tySize_pos T
  obtain ⟨l, css, g1, g2, g3, g4, g5⟩ := All2.build (R := Holds w (fun _ => True) T) (Q := okU T) len (fun i c => c.length = T.size /\ ∀ j u, c[j]? = some u -> w.cell? ((a.add (i * T.size)).add j) = some u) (fun i hil => by
   obtain ⟨cs', hc, ht'⟩ := hi i (by omega)
   obtain ⟨v, hv, hok⟩ := hop _ _ _ _ _ _ ht'
   refine ⟨v, cs', hv, hok, Holds.len _ _ _ hv, fun j u hu => ?_⟩
   rw [hC] at hc
   obtain ⟨_, hcl, hat⟩ := World.cells?_some hc
   have hj := (List.getElem?_eq_some_iff.1 hu).1
   exact (hat j (by rw [<- Holds.len _ _ _ hv]; exact hj)).trans hu)
  subst g1
  have hmax : l.length <= 9223372036854775807 := by
   have : maxLen <= 9223372036854775807 := by decide
   omega
  refine ⟨l, ⟨some a, cap, css, rfl, ⟨hle, hmax⟩, g3, fun hne => ?_⟩, Nat.le_trans hle hm, g4⟩
  obtain ⟨b, o, sp⟩ := a
  have hlen : 0 < l.length := List.length_pos_iff.2 hne
  obtain ⟨c0, hc0⟩ : ∃ c, css[0]? = some c := ⟨_, List.getElem?_eq_getElem (by omega)⟩
  obtain ⟨hc0l, hc0c⟩ := g5 0 c0 hc0
  obtain ⟨u0, hu0⟩ : ∃ u, c0[0]? = some u := ⟨_, List.getElem?_eq_getElem (by omega)⟩
  have h0 := hc0c 0 u0 hu0
  have hadd0 : (((⟨b, o, sp⟩ : Addr).add (0 * T.size)).add 0) = ⟨b, o, sp⟩ := by simp [Addr.add]
  rw [hadd0] at h0
  unfold World.cell? at h0
  simp only at h0
  split at h0
  ·rename_i cc el z hh
   split at h0
   ·cases h0
   ·rename_i hsp
    have hs : sp = none := by simpa using hsp
    subst hs
    refine ⟨_, rfl, rfl, trivial, cc, el, z, hh, fun j v hj => ?_⟩
    have key : ∀ (css : List (List Value)) (k0 : Nat), (∀ i c, css[i]? = some c -> c.length = T.size /\ ∀ j u, c[j]? = some u -> cc[o + ((k0 + i) * T.size + j)]? = some u) -> ∀ j v, css.flatten[j]? = some v -> cc[o + (k0 * T.size + j)]? = some v := by
     intro css
     induction css with
     | nil => intro k0 _ j v hj; simp at hj
     | cons c css ih =>
      intro k0 hall j v hj
      obtain ⟨h1, h2⟩ := hall 0 c rfl
      rw [List.flatten_cons, List.getElem?_append] at hj
      split at hj
      ·have := h2 j v hj
       simpa using this
      ·rename_i hge
       have := ih (k0 + 1) (fun i c' hc' => by
        have := hall (i + 1) c' (by simpa using hc')
        rw [show k0 + (i + 1) = k0 + 1 + i by omega] at this
        exact this) (j - c.length) v hj
       rw [h1, Nat.add_mul] at this
       rw [<- this]
       congr 1
       rw [h1] at hge
       omega
    have := key css 0 (fun i c hc => ⟨(g5 i c hc).1, fun j u hu => by
     have h3 := (g5 i c hc).2 j u hu
     have hadd : (((⟨b, o, none⟩ : Addr).add (i * T.size)).add j) = ⟨b, o + (i * T.size + j), none⟩ := by
      rw [addr_add (A := ⟨b, o, none⟩) rfl (i * T.size), addr_add (A := ⟨b, o + i * T.size, none⟩) rfl]
      simp [Nat.add_assoc]
     rw [hadd] at h3
     simp only [World.cell?, hh] at h3
     simpa using h3⟩) j v hj
    simpa using this
  ·cases h0
def FRep {H : Type} (enc : TypeId × Value -> H) (P : Program) (w : World) (fs : List Field) (o : Nat) (U : Ty) : Prop :=
 ∀ (base : Nat) (spare : Nat -> Bool) (held : Bool) (n : Nat) (cs : List Value), cs.length = o + U.size ->
  (∀ f ∈ fs, ∃ y, DataW.trod enc P w base spare held n f.type ((cs.drop f.offset).take (P.cellsOf f.type)) = some y) -> ∃ v : U.den, Holds w (fun _ => True) U v (cs.drop o) /\ okU U v
theorem FRep.one {o : Nat} {f : Field} {U : Ty} (ho : f.offset = o) (hc : P.cellsOf f.type = U.size) (h : DRep enc P w f.type U) : FRep enc P w [f] o U := by
 intro base spare held n cs hl hf
 obtain ⟨y, hy⟩ := hf f (by simp)
 rw [ho, hc, List.take_of_length_le (by simp; omega)] at hy
 exact h _ _ _ _ _ _ hy
theorem FRep.cons {o : Nat} {f : Field} {fs : List Field} {A B : Ty} (ho : f.offset = o) (hc : P.cellsOf f.type = A.size) (h : DRep enc P w f.type A) (h' : FRep enc P w fs (o + A.size) B) : FRep enc P w (f :: fs) o (.pair A B) := by
 intro base spare held n cs hl hf
 have hl' : cs.length = o + (A.size + B.size) := hl
 obtain ⟨y, hy⟩ := hf f (by simp)
 rw [ho, hc] at hy
 obtain ⟨v, hK, hok⟩ := h _ _ _ _ _ _ hy
 obtain ⟨v', hK', hok'⟩ := h' base spare held n cs (by omega) (fun f' hf' => hf f' (List.mem_cons_of_mem _ hf'))
 refine ⟨(v, v'), ⟨_, _, ?_, hK, hK'⟩, hok, hok'⟩
 rw [<- List.drop_drop, List.take_append_drop]
theorem DRep.struct {t : TypeId} {fs : Array Field} {U : Ty} (hs : P.underlying t = some (.struct fs)) (hC : P.cellsOf t = U.size) (h : FRep enc P w fs.toList 0 U) : DRep enc P w t U := by
 intro base spare held fuel cs x hx
 obtain ⟨xs, n, _, rfl, hlen, hxl, hf⟩ := DataW.trod_struct hs hx
 obtain ⟨v, hK, hok⟩ := h base spare held n cs (by omega) (fun f hm => by
  obtain ⟨i, hi⟩ := List.getElem?_of_mem hm
  have hi' : fs[i]? = some f := by simpa using hi
  have hil : i < fs.size := (Array.getElem?_eq_some_iff.1 hi').1
  have hx' : xs[i]? = some (xs[i]'(by omega)) := List.getElem?_eq_getElem (by omega)
  exact ⟨_, (hf i f hi').trans hx'⟩)
 exact ⟨v, by simpa using hK, hok⟩
def fieldB (rec : TypeId -> Ty -> Bool) (P : Program) : List Field -> Nat -> Ty -> Bool
 | [], _, _ => false
 | [f], o, U => Nat.beq f.offset o && Nat.beq (P.cellsOf f.type) U.size && rec f.type U
 | f :: g :: fs, o, .pair A B => Nat.beq f.offset o && Nat.beq (P.cellsOf f.type) A.size && rec f.type A && fieldB rec P (g :: fs) (o + A.size) B
 | _, _, _ => false
def doorB (P : Program) : Nat -> TypeId -> Ty -> Bool
 | 0, _, _ => false
 | k + 1, t, U =>
  match P.underlying t, U with
  | some .bool, .bool => true
  | some (.int j), .int j' => decide (j = j')
  | some (.slice e), .list T => Nat.beq (P.cellsOf e) T.size && doorB P k e T
  | some (.struct fs), U => Nat.beq (P.cellsOf t) U.size && fieldB (doorB P k) P fs.toList 0 U
  | _, _ => false
theorem fieldB_spec {rec : TypeId -> Ty -> Bool} (hr : ∀ t U, rec t U = true -> DRep enc P w t U) : ∀ (fs : List Field) (o : Nat) (U : Ty), fieldB rec P fs o U = true -> FRep enc P w fs o U
 | [], _, _, h => by cases h
 | [f], o, U, h => by
  simp only [fieldB, Bool.and_eq_true] at h
  exact FRep.one (beq_of h.1.1) (beq_of h.1.2) (hr _ _ h.2)
 | f :: g :: fs, o, .pair A B, h => by
  simp only [fieldB, Bool.and_eq_true] at h
  obtain ⟨⟨⟨h1, h2⟩, h3⟩, h4⟩ := h
  exact FRep.cons (beq_of h1) (beq_of h2) (hr _ _ h3) (fieldB_spec hr (g :: fs) _ B h4)
 | _ :: _ :: _, _, .int _, h => by cases h
 | _ :: _ :: _, _, .bool, h => by cases h
 | _ :: _ :: _, _, .list _, h => by cases h
theorem doorB_spec : ∀ (k : Nat) (t : TypeId) (U : Ty), doorB P k t U = true -> DRep enc P w t U
 | 0, _, _, h => by cases h
 | k + 1, t, U, h => by
  simp only [doorB] at h
  split at h
  ·rename_i hd; exact DRep.bool hd
  ·rename_i j j' hd
   have := of_decide_eq_true h
   subst this
   exact DRep.int hd
  ·rename_i e T hd
   rw [Bool.and_eq_true] at h
   exact DRep.slice hd (beq_of h.1) (doorB_spec k e T h.2)
  ·rename_i fs hd
   rw [Bool.and_eq_true] at h
   exact DRep.struct hd (beq_of h.1) (fieldB_spec (doorB_spec k) _ _ _ h.2)
  ·cases h
end
section
variable {H : Type} {enc : TypeId × Value -> H} {P : Program} {w : World}
def okL : (l : List Ty) -> HL l -> Prop
 | [], _ => True
 | T :: l, x => okU T x.1 /\ okL l x.2
def topB (P : Program) (t : TypeId) (U : Ty) : Bool :=
 match P.underlying t with
 | some (.struct _) => U.isPair
 | _ => true
theorem plain_arg {r : Reach} {base k : Nat} {spare : Nat -> Bool} {held : Bool} {t : TypeId} {U : Ty} {v : Value} {d : DataW H} {ps : List MemPlace} (h1 : doorB P (k + 1) t U = true) (h2 : topB P t U = true) (hv : Value.okWide P w r base t v) (h : DataW.Trod enc P w 0 spare held t v d ps) :
  ∃ x : U.den, Rep w (fun _ => True) U x v /\ okU U x := by
 obtain ⟨fuel, hf⟩ := h
 obtain ⟨x, hx, hok⟩ := doorB_spec (enc := enc) (w := w) _ _ _ h1 _ _ _ _ _ _ hf
 refine ⟨x, ⟨_, hx, ?_⟩, hok⟩
 cases U with
 | pair A B =>
  clear hx hok
  simp only [doorB] at h1
  cases hd : P.underlying t with
  | none => rw [hd] at h1; cases h1
  | some D =>
   rw [hd] at h1
   cases D <;> first | (cases h1; done) | skip
   obtain ⟨cs, rfl, _⟩ := okWide_struct hd hv
   rfl
 | bool =>
  clear hx hok
  simp only [doorB] at h1
  cases hd : P.underlying t with
  | none => rw [hd] at h1; cases h1
  | some D =>
   rw [hd] at h1
   cases D <;> first | (cases h1; done) | skip
   ·obtain ⟨b, rfl⟩ := okWide_bool hd hv; rfl
   ·unfold topB at h2; rw [hd] at h2; cases h2
 | int j =>
  clear hx hok
  simp only [doorB] at h1
  cases hd : P.underlying t with
  | none => rw [hd] at h1; cases h1
  | some D =>
   rw [hd] at h1
   cases D <;> first | (cases h1; done) | skip
   ·obtain ⟨b, rfl⟩ := okWide_int hd hv; rfl
   ·unfold topB at h2; rw [hd] at h2; cases h2
 | list T =>
  clear hx hok
  simp only [doorB] at h1
  cases hd : P.underlying t with
  | none => rw [hd] at h1; cases h1
  | some D =>
   rw [hd] at h1
   cases D <;> first | (cases h1; done) | skip
   ·obtain ⟨a, l, c, rfl⟩ := okWide_slice hd hv; rfl
   ·unfold topB at h2; rw [hd] at h2; cases h2
def doorsB (P : Program) (k : Nat) : List TypeId -> List Ty -> Bool
 | [], [] => true
 | t :: ts, U :: Us => doorB P (k + 1) t U && topB P t U && doorsB P k ts Us
 | _, _ => false
theorem plain_args {r : Reach} {base k : Nat} {spare : Nat -> Bool} {held : Bool} : ∀ (ts : List TypeId) (Us : List Ty) (vs : List Value) (ds : List (DataW H)) (ps : List MemPlace), doorsB P k ts Us = true ->
  (∀ (j : Nat) t v, ts[j]? = some t -> vs[j]? = some v -> Value.okWide P w r base t v) -> DataW.TrodAll enc P w 0 spare held ts vs ds ps -> ∃ xs : HL Us, RepL w (fun _ => True) Us xs vs /\ okL Us xs
 | [], [], [], [], _, _, _, _ => ⟨(), rfl, trivial⟩
 | t :: ts, U :: Us, v :: vs, d :: ds, ps, hb, hv, h => by
  simp only [doorsB, Bool.and_eq_true] at hb
  obtain ⟨p, q, h1, h2, _⟩ := h
  obtain ⟨x, hx, hok⟩ := plain_arg hb.1.1 hb.1.2 (hv 0 t v rfl rfl) h1
  obtain ⟨xs, hxs, hoks⟩ := plain_args ts Us vs ds q hb.2 (fun j t v ht hv' => hv (j + 1) t v (by simpa using ht) (by simpa using hv')) h2
  exact ⟨(x, xs), ⟨v, vs, rfl, hx, hxs⟩, hok, hoks⟩
 | [], _ :: _, _, _, _, hb, _, _ => by cases hb
 | _ :: _, [], _, _, _, hb, _, _ => by cases hb
 | [], [], _ :: _, _, _, _, _, h => h.elim
 | [], [], [], _ :: _, _, _, _, h => h.elim
 | _ :: _, _ :: _, [], _, _, _, _, h => h.elim
 | _ :: _, _ :: _, _ :: _, [], _, _, _, h => h.elim
theorem trodAll_below {W W' : World} (hl : laidOutB P = true) (hb : Below W.heap.size W W') : ∀ (ts : List TypeId) (vs : List Value) (ds : List (DataW H)) (ps : List MemPlace),
  (ts.all fun t => P.readableRec t && decide (t < P.types.size)) = true -> DataW.TrodAll enc P W 0 (fun _ => true) true ts vs ds ps -> DataW.TrodAll enc P W' 0 (fun b => decide (b < W.heap.size)) true ts vs ds ps
 | [], [], [], _, _, h => h
 | t :: ts, v :: vs, d :: ds, ps, hr, h => by
  simp only [List.all_cons, Bool.and_eq_true, decide_eq_true_eq] at hr
  obtain ⟨p, q, h1, h2, e⟩ := h
  refine ⟨p, q, Below.trod hl hr.1.1 hr.1.2 h1 hb (fun x hx => ?_), trodAll_below hl hb ts vs ds q (by simpa using hr.2) h2, e⟩
  obtain ⟨m, hm⟩ := h1
  exact DataW.trod_lt m _ _ _ hm x hx
 | [], _ :: _, _, _, _, h => h.elim
 | [], [], _ :: _, _, _, h => h.elim
 | _ :: _, [], _, _, _, h => h.elim
 | _ :: _, _ :: _, [], _, _, h => h.elim
end
section
open Go.ChangeShapes
theorem law_calls {P : Program} {n : FuncId} {Us : List Ty} {F : Nat -> HL Us -> Option (HL [.bool])} {k : Nat} (hS : SpecOK P (fun _ => True) n ⟨Us, [.bool], F k⟩) {w : World} {xs : HL Us} {vs : List Value}
  (hx : RepL w (fun _ => True) Us xs vs) (h : F k xs = some (true, ())) : Calls P n vs.toArray w fun e w' => e = .returned (.bool true) /\ Below w.heap.size w w' := by
 refine (hS.2 w (fun _ => True) xs vs (true, ()) (fun _ _ => trivial) hx h).mono fun e w' he => ?_
 obtain ⟨v, rfl, hb, hr⟩ := he
 exact ⟨by rw [Rep.bool hr], hb⟩
end
end Go.Proofs.YtliiapjinminlaaGreat.Rf
