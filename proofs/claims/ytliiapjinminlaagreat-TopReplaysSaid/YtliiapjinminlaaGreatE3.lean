/- A function's code run upon plain values, in the operations' own order, and that it is what the machine does: whatever the program (part 3). No condition. -/
import Derived.Test.YtliiapjinminlaaGreatE2
namespace Go.Proofs.YtliiapjinminlaaGreat.Rf
open Go Go.RowKit Go.Proofs
set_option linter.unusedVariables false
set_option linter.unusedSimpArgs false

abbrev HH (R : Type) := Ctx -> FuncId -> List Dir -> Code -> Hint -> St -> (Exit -> St -> Option R) -> Option R
def dstOK (X : Ctx) (dst : Option Nat) : Bool := dst.all fun d => Nat.blt d X.n
def specK {R : Type} (E : Env) (X : Ctx) (o : Oper) (s : St) (K : St -> Option R) : Option R :=
 match o.op with
 | .call ⟨.value x, args, _⟩ => match s.ev X.b x with
  | some (.clo f .nl) => match E.tab f with
   | some S => someK (asBL s.bx S.args (args.toList.map (s.ev X.b))) fun xs => (S.F xs).bind fun y =>
     someK (s.app X.b X.n o.dst (if freeL S.res = true then .put (resAV S.res y) else .del (idsL (args.toList.map (s.ev X.b))) (resAV S.res y))) K
   | none => none
  | _ => none
 | _ => none
def segK {R : Type} (E : Env) (X : Ctx) (S : Seg) (o : Oper) (s : St) (K : St -> Option R) : Option R :=
 match o.op with
 | .call ⟨.value x, args, _⟩ => match s.ev X.b x with
  | some (.clo f caps) => match E.fn f, seqA (args.toList.map (s.ev X.b)), capsL caps with
   | some fn, some avs, some cl => bif Nat.beq S.f f && pathB S.p [] && S.X.same ⟨S.X.b, fn.ntmps, false, [S.X.act.headD 0], []⟩ && !(Nat.beq (S.X.act.headD 0) S.X.b) && X.ys.isEmpty && Nat.ble (avs.length + cl.length) fn.ntmps && dstOK X o.dst then
     useK S (s.closeF S.ins S.X.b (S.X.act.headD 0) (avs ++ cl)) fun e t =>
      bif (match e with | .ret => true | .normal => true | _ => false) then
       (match retA E t S.X.b fn.results.toList with
        | some c => bif Nat.ble t.nl s.nl && (resA c).on (goodT t) then K (renS true X.b o.dst ((s.openF t S.ins (S.X.act.headD 0)).putT X.b o.dst (resA c))) else none
        | none => none)
      else none
     else none
   | _, _, _ => none
  | _ => none
 | _ => none
def keepB (E : Env) (b : Nat) (M : Mask) (f : Nat -> Nat) (s : St) (q : TypeId × Nat) : Bool := match s.tm b q.2, E.lay q.1 with
 | some (.ptr id ver off), some z => match s.bx id with
  | some (.cells ver' c) => Nat.beq ver ver' && !(memB M.given (f id)) && (match subA c off z.1 with | some p => p.fit && (p.agg == z.2.1) | none => false)
  | _ => false
 | _, _ => false
def segR {R : Type} (E : Env) (X : Ctx) (S : Seg) (l : List (Nat × Nat)) (ks : List (TypeId × Nat)) (o : Oper) (s : St) (K : St -> Option R) : Option R :=
 bif ks.all (keepB E X.b S.ins (prm l) s) then
  (match l with
  | [] => segK E X S o s K
  | q :: l => segK E X S o (s.ren (prm (q :: l)) (mrp (q :: l))) fun t => K (t.ren (mrp (q :: l)) (prm (q :: l))))
 else none
def isBusy : Option Jmp -> Bool
 | some .busy => true
 | _ => false
def placeK {R : Type} (E : Env) (H : HH R) (X : Ctx) (b : Nat) (h : Hint) (o : Oper) (s : St) (K : St -> Option R) : Option R :=
 match o.op with
 | .call ⟨.value x, args, _⟩ => match s.ev X.b x with
  | some (.clo f caps) => match E.fn f, seqA (args.toList.map (s.ev X.b)), capsL caps with
   | some fn, some avs, some cl => bif Nat.ble (avs.length + cl.length) fn.ntmps && X.free b && dstOK X o.dst then
     H (X.call b fn.ntmps) f [] (codeOf E f) h (s.enter b (inTm (avs ++ cl))) fun e t =>
      bif (match e with | .ret => true | .normal => true | _ => false) then
       (match retA E t b fn.results.toList with
        | some c => K (renS (Nat.ble 512 b) X.b o.dst (t.putT X.b o.dst (resA c)))
        | none => none)
      else none
     else none
   | _, _, _ => none
  | some (.yld k) => match X.ys.find? fun y => Nat.beq y.k k with
   | some y => match atR (codeOf E y.f) y.p with
    | .rangeFunc _ ps assign body => match seqA (args.toList.map (s.ev X.b)) with
     | some avs => bif Nat.beq avs.length ps.toList.length && (ps.toList.all fun p => Nat.blt p y.n) && (s.jp k).isNone && X.free b && dstOK X o.dst then
       H (X.round b y.n) y.f (.ra :: y.p) assign h.a (s.enter b (roundTm (s.tm y.b) (ps.toList.zip avs))) fun e t1 =>
        bif (match e with | .normal => true | _ => false) && (t1.jp k).isNone then
         H (X.round b y.n) y.f (.rb :: y.p) body h.b (t1.setJ k (some .busy)) fun e t =>
          bif isBusy (t.jp k) then
           (match e with
            | .normal => K ((t.setJ k none).putT X.b o.dst (.cst (.bool true)))
            | .ret => K ((t.setJ k (some .ret)).putT X.b o.dst (.cst (.bool false)))
            | .exit id => K ((t.setJ k (some (.exit id))).putT X.b o.dst (.cst (.bool false)))
            | _ => none)
          else none
        else none
       else none
     | none => none
    | _ => none
   | none => none
  | _ => none
 | _ => none
def stepM {R : Type} (E : Env) (H : HH R) (X : Ctx) (q : OpH) (o : Oper) (s : St) (c : Bool) (K : St -> Option R) : Option R :=
 bif c then (match q with
  | .plain own => plainK E ⟨X.b, own⟩ o.dst (s.ev X.b) s.bx o.op fun e => someK (s.app X.b X.n o.dst e) K
  | .spec => specK E X o s K
  | .call b h => placeK E H X b h o s K
  | .seg S l ks => segR E X S l ks o s K
  | .sp => spK E X o s K)
 else someK (s.app X.b X.n o.dst (.put (.cst undef))) K
def runM {R : Type} (E : Env) (H : HH R) (X : Ctx) (h : Hint) (ops : Array Oper) : List Nat -> St -> (St -> Option R) -> Option R
 | [], s, K => K s
 | i :: l, s, K =>
  match ops[i]? with
  | some o =>
   match o.guard with
   | none => stepM E H X (h.op i) o s true fun t => runM E H X h ops l t K
   | some (j, want) =>
    match (ops[j]?).bind (·.dst) with
    | some g =>
     match s.tm X.b g with
     | some (.v .bool x) => bif x then stepM E H X (h.op i) o (s.putT X.b (some g) (.v .bool true)) (true == want) fun t => runM E H X h ops l t K
       else stepM E H X (h.op i) o (s.putT X.b (some g) (.v .bool false)) (false == want) fun t => runM E H X h ops l t K
     | some (.cst (.bool x)) => stepM E H X (h.op i) o s (x == want) fun t => runM E H X h ops l t K
     | some (.cst _) => stepM E H X (h.op i) o s false fun t => runM E H X h ops l t K
     | _ => none
    | none => none
  | none => none
def moveB (ops : Array Oper) (k : Nat) : Bool := match ops[k]? with
 | some o => (match o.op with | .move _ => true | _ => false)
 | none => false
def hoistB (md : Region.Mode) (ops : Array Oper) (k : Nat) (listed : Array Bool) : Bool :=
 moveB ops k && Region.noSelect ops && Region.free md ops listed k && (Region.ready md ops listed).contains k
def takesN (md : Region.Mode) (ops : Array Oper) : Nat -> Nat -> Array Bool -> Nat
 | 0, _, _ => 0
 | n + 1, k, listed => bif hoistB md ops k listed then takesN md ops n (k + 1) (listed.setIfInBounds k true) + 1 else 0
def takesB (md : Region.Mode) (ops : Array Oper) : Nat -> Nat -> Array Bool -> Bool
 | 0, _, _ => true
 | n + 1, k, listed => hoistB md ops k listed && takesB md ops n (k + 1) (listed.setIfInBounds k true)
def chainB (al : Bool) (comm : Nat -> Nat -> Bool) (nc : Nat -> Bool) (sw : Nat -> Bool) (md : Region.Mode) (ops : Array Oper) : Nat -> Nat -> Array Bool -> Bool
 | 0, _, listed => (Region.ready md ops listed).isEmpty
 | fuel + 1, k, listed => ((natsB (Region.ready md ops listed) [k] || al && hoistB md ops k listed ||
    al && sw k && natsB (Region.ready md ops listed) [k, k + 1] && natsB (Region.ready md ops (listed.setIfInBounds (k + 1) true)) [k]) && chainB al comm nc sw md ops fuel (k + 1) (listed.setIfInBounds k true)) ||
   (nc k && lexC comm md ops (fuel + 1) k listed)
def Hint.pre (h : Hint) : Nat -> Nat -> Nat
 | 0, k => k
 | m + 1, k => match h.op k with
  | .plain _ => h.pre m (k + 1)
  | _ => k
def Hint.noCall (h : Hint) : Nat -> Nat -> Bool
 | 0, _ => true
 | m + 1, k => (match h.op k with | .plain _ => true | _ => false) && h.noCall m (k + 1)
def swB (h : Hint) (ops : Array Oper) (k j : Nat) : Bool := match h.op k, h.op j, ops[k]?, ops[j]? with
 | .seg _ _ ks, .plain _, some o, some q => (match o.guard, q.guard with | none, none => true | some (i, x), some (j, y) => Nat.beq i j && (x == y) | _, _ => false) && (match q.op with | .load t (.tmp p) => (ks.any fun z => Nat.beq z.1 t && Nat.beq z.2 p) && (match o.dst with | some d => !(Nat.beq d p) | none => true) | _ => false) &&
   q.apart ops o && (match o.op with | .call _ => true | _ => false)
 | _, _, _, _ => false
def comm0 (E : Env) (ops : Array Oper) (own : Nat -> Bool) (i j : Nat) : Bool :=
 match ops[i]?, ops[j]? with
 | some x, some y => x.apart ops y && (opc E (own i) x.op == 0 || opc E (own j) y.op == 0)
 | _, _ => false
def callsB (E : Env) (X : Ctx) (h : Hint) (ops : Array Oper) (tm : Nat -> Option AV) : Bool :=
 chainB (!X.rd) (comm0 E ops h.ownB) (fun k => h.noCall (ops.size - k) k) (fun k => swB h ops k (k + 1)) .any ops ops.size 0 (Array.replicate ops.size false) ||
 (let p := h.pre ops.size 0
  let m := bif X.rd then 0 else Nat.min (takesN .any ops ops.size 0 (Array.replicate ops.size false)) p
  Nat.ble p ops.size && takesB .any ops m 0 (Array.replicate ops.size false) && lexP (commR E X.b ops h.ownB tm) .any ops p (p - m) m (setsL m 0 (Array.replicate ops.size false)) &&
  chainB (!X.rd) (comm0 E ops h.ownB) (fun k => h.noCall (ops.size - k) k) (fun k => swB h ops k (k + 1)) .any ops (ops.size - p) p (setsL p 0 (Array.replicate ops.size false)))
def rotL (n : Nat) : List Nat := 1 :: 2 :: 0 :: List.range' 3 (n - 3)
def rotB (E : Env) (X : Ctx) (h : Hint) (ops : Array Oper) : Bool :=
 !X.rd && swB h ops 2 0 && hoistB .any ops 1 (Array.replicate ops.size false) && natsB (Region.ready .any ops ((Array.replicate ops.size false).setIfInBounds 1 true)) [0, 2] &&
  natsB (Region.ready .any ops (((Array.replicate ops.size false).setIfInBounds 1 true).setIfInBounds 0 true)) [2] && natsB (Region.ready .any ops (((Array.replicate ops.size false).setIfInBounds 1 true).setIfInBounds 2 true)) [0] &&
  chainB (!X.rd) (comm0 E ops h.ownB) (fun k => h.noCall (ops.size - k) k) (fun k => swB h ops k (k + 1)) .any ops (ops.size - 3) 3 ((((Array.replicate ops.size false).setIfInBounds 1 true).setIfInBounds 2 true).setIfInBounds 0 true)
def evC {R : Type} (E : Env) (H : HH R) (X : Ctx) (f : FuncId) : List Dir -> Code -> Hint -> St -> (Exit -> St -> Option R) -> Option R
 | p, c, h, s, K => match h with
  | .use S => bif S.X.same X && Nat.beq S.f f && pathB S.p p then useK S s K else none
  | h => match c with
   | .skip => K .normal s
   | .ret => K .ret s
   | .exit id => K (.exit id) s
   | .label _ => K .normal s
   | .goto l => K (.goto l) s
   | .region _ ops draw => bif draw && rotB E X h ops then runM E H X h ops (rotL ops.size) s (K .normal) else (bif !draw || (bif h.calls then callsB E X h ops (s.tm X.b) else lexC (commR E X.b ops h.ownB (s.tm X.b)) .any ops ops.size 0 (Array.replicate ops.size false)) then
     runM E H X h ops (List.range' 0 ops.size) s (K .normal) else none)
   | .seq x y => evC E H X f (.s1 :: p) x h.a s fun e t => match e with
    | .normal => evC E H X f (.s2 :: p) y h.b t K
    | e => K e t
   | .cond c x y => match (s.ev X.b c).bind (asT .bool) with
    | some v => bif v then evC E H X f (.c1 :: p) x h.a s K else evC E H X f (.c2 :: p) y h.b s K
    | none => none
   | .block id c => evC E H X f (.b :: p) c h.a s fun e t => match e with
    | .exit id' => bif Nat.beq id' id then K .normal t else K (.exit id') t
    | e => K e t
   | .rangeFunc g _ _ _ => match h with
    | .rf k b hh => match s.ev X.b g with
     | some (.clo f' caps) => match E.fn f', capsL caps with
      | some fn, some cl => bif !X.rd && Nat.ble s.nl k && (X.ys.all fun y => !(Nat.beq y.k k)) && X.free b && Nat.ble (1 + cl.length) fn.ntmps then
        H (X.range b fn.ntmps k f p) f' [] (codeOf E f') hh (({ s with nl := k + 1, jp := setJ s.jp k none } : St).enter b (inTm (.yld k :: cl))) fun e t =>
         bif (match e with | .ret => true | .normal => true | _ => false) && (retA E t b fn.results.toList).isSome then
          (match t.jp k with
           | none => K .normal t
           | some .ret => K .ret t
           | some (.exit id) => K (.exit id) t
           | some .busy => none)
         else none
        else none
      | _, _ => none
     | _ => none
    | _ => none
   | _ => none
def evN {R : Type} (E : Env) : Nat -> HH R
 | 0 => fun _ _ _ _ _ _ _ => none
 | d + 1 => fun X f p c h s K => evC E (evN E d) X f p c h s K
section
variable {P : Program} {E : Env} {X : Ctx} {O : Octx} {r : Option Nat} {ρ ρ' : Nat -> Value} {s s' t : St} {a : Act} {w w' : World} {R : Type} {H : HH R} {o : Oper} {ops : Array Oper} {y : R}
def HOK (P : Program) (E : Env) (y : R) (H : HH R) : Prop := ∀ X f p c h s K (Q : Exit -> St -> Prop) O r, c = atR (codeOf E f) p -> HintOK P E h -> H X f p c h s K = some y -> (∀ e t, K e t = some y -> Q e t) -> Fits E X O r -> Awp P X O r c Q s
theorem putT_self {g : Nat} {av : AV} {b : Nat} (h : s.tm b g = some av) : s.putT b (some g) av = s := by
 obtain ⟨tm, bx, us, nl, jp⟩ := s
 simp only [St.putT, St.mk.injEq, and_true]
 funext f t
 simp only [updT]
 cases hc : (Nat.beq t g && Nat.beq f b) with
 | false => rfl
 | true =>
  rw [Bool.and_eq_true] at hc
  rw [Nat.eq_of_beq_eq_true hc.1, Nat.eq_of_beq_eq_true hc.2]
  exact h.symm
theorem specK_sound (hE : E.OK P) (hF : Fits E X O r) {K : St -> Option R} (h : specK E X o s K = some y) {KK : Act -> World -> Prop} {Qx : Exit -> Act -> World -> Prop}
  (hK : ∀ t, K t = some y -> ∀ a w, Rel X.b X.n O t a w -> KK a w) (hr : Rel X.b X.n O s a w) : o.wpIn (FW r) 0 P a w KK Qx := by
 obtain ⟨ρ, hr⟩ := hr
 unfold specK at h
 split at h
 ·rename_i x args ats ho
  split at h
  ·rename_i f hx
   split at h
   ·rename_i S hS
    rw [someK_eq, Option.bind_eq_some_iff] at h
    obtain ⟨xs, hxs, h⟩ := h
    rw [Option.bind_eq_some_iff] at h
    obtain ⟨z, hz, h⟩ := h
    rw [someK_eq, Option.bind_eq_some_iff] at h
    obtain ⟨t, ht, h⟩ := h
    exact wpOp_spec hE hF hr ho hx hS hxs hz ht (hK t h)
   ·cases h
  ·cases h
 ·cases h
theorem beq_of {m n : Nat} (h : Nat.beq m n = true) : m = n := Nat.eq_of_beq_eq_true h
theorem placeK_sound (hE : E.OK P) (hH : HOK P E y H) (hF : Fits E X O r) {b : Nat} {h : Hint} (ho' : HintOK P E h) {K : St -> Option R} (hh : placeK E H X b h o s K = some y) {KK : Act -> World -> Prop} {Qx : Exit -> Act -> World -> Prop}
  (hK : ∀ t, K t = some y -> ∀ a w, Rel X.b X.n O t a w -> KK a w) (hr : Rel X.b X.n O s a w) : o.wpIn (FW r) 0 P a w KK Qx := by
 obtain ⟨ρ, hr⟩ := hr
 unfold placeK at hh
 split at hh
 ·rename_i x args ats ho
  split at hh
  ·rename_i f caps hx
   split at hh
   ·rename_i fn avs cl hfn hav hcl
    cases hc : (Nat.ble (avs.length + cl.length) fn.ntmps && X.free b && dstOK X o.dst) with
    | false => rw [hc] at hh; cases hh
    | true =>
     rw [hc] at hh
     simp only [Bool.and_eq_true] at hc
     obtain ⟨⟨h1, h2⟩, h3⟩ := hc
     simp only [cond_true] at hh
     refine wpOp_place hE hF hr ho hx hfn hav hcl (Nat.le_of_ble_eq_true h1) h2 h3 (Q := fun t av => K (renS (Nat.ble 512 b) X.b o.dst (t.putT X.b o.dst av)) = some y)
      (fun O' hF' => hH _ _ _ _ _ _ _ _ O' none rfl ho' hh (fun e t he => ?_) hF') (fun t av hq a' w' hrel => hK _ hq a' w' (renS_rel hrel))
     cases e with
     | normal =>
      simp only [cond_true] at he
      split at he
      ·rename_i c hc; exact ⟨.inr rfl, c, hc, he⟩
      ·cases he
     | ret =>
      simp only [cond_true] at he
      split at he
      ·rename_i c hc; exact ⟨.inl rfl, c, hc, he⟩
      ·cases he
     | _ => cases he
   ·cases hh
  ·rename_i k hx
   split at hh
   ·rename_i y' hy'
    have hy1 := List.mem_of_find?_eq_some hy'
    have hy2 := List.find?_some hy'
    have hy2 := beq_of hy2
    subst hy2
    split at hh
    ·rename_i g ps assign body hcode
     split at hh
     ·rename_i avs hav
      cases hc : (Nat.beq avs.length ps.toList.length && (ps.toList.all fun p => Nat.blt p y'.n) && (s.jp y'.k).isNone && X.free b && dstOK X o.dst) with
      | false => rw [hc] at hh; cases hh
      | true =>
       rw [hc] at hh
       simp only [Bool.and_eq_true, List.all_eq_true] at hc
       obtain ⟨⟨⟨⟨h1, h2⟩, h3⟩, h4⟩, h5⟩ := hc
       simp only [cond_true] at hh
       refine wpOp_round hF hr ho hy1 hx hcode hav (beq_of h1) (fun p hp => by simpa using h2 p hp) (by simpa using h3) h4 h5 (Q := fun t c => K (t.putT X.b o.dst (.cst (.bool c))) = some y)
        (fun O' l hF' => ?_) (fun t c hq a' w' hrel => hK _ hq a' w' hrel)
       refine hH _ _ _ _ _ _ _ _ O' (some l) (by rw [atR, hcode]; rfl) ho'.a hh (fun e t1 he => ?_) hF'
       cases e with
       | normal =>
        cases hj : (t1.jp y'.k) with
        | some j => rw [hj] at he; cases he
        | none =>
         rw [hj] at he
         simp only [Option.isNone_none, Bool.and_self, cond_true] at he
         refine ⟨rfl, rfl, hH _ _ _ _ _ _ _ _ O' (some l) (by rw [atR, hcode]; rfl) ho'.b he (fun e t he => ?_) hF'⟩
         cases hb : isBusy (t.jp y'.k) with
         | false => rw [hb] at he; cases he
         | true =>
          rw [hb] at he
          simp only [cond_true] at he
          refine ⟨?_, ?_⟩
          ·revert hb
           cases t.jp y'.k with
           | none => intro h; cases h
           | some j => cases j <;> first | (intro h; cases h; done) | exact fun _ => rfl
          ·cases e <;> first | exact he | cases he
       | _ => cases he
     ·cases hh
    ·cases hh
   ·cases hh
  ·cases hh
 ·cases hh
theorem segK_soundK (hE : E.OK P) (hF : Fits E X O r) {S : Seg} (hS : SegOK P E S) {K : St -> Option R} (hh : segK E X S o s K = some y) {KK : Act -> World -> Prop} {Qx : Exit -> Act -> World -> Prop} {ρ : Nat -> Value}
  (hK : ∀ t, K t = some y -> ∀ v w', Rel X.b X.n O t (a.put o.dst v) w' -> (∀ id B k, s.bx id = some B -> memB S.ins.given id = false -> refB (ρ id) = some k -> w'.heap[k]? = w.heap[k]?) -> KK (a.put o.dst v) w') (hr : RelC X.b X.n O ρ s a w) : o.wpIn (FW r) 0 P a w KK Qx := by
 unfold segK at hh
 split at hh
 ·rename_i x args ats ho
  split at hh
  ·rename_i f caps hx
   split at hh
   ·rename_i fn avs cl hfn hav hcl
    cases hc : (Nat.beq S.f f && pathB S.p [] && S.X.same ⟨S.X.b, fn.ntmps, false, [S.X.act.headD 0], []⟩ && !(Nat.beq (S.X.act.headD 0) S.X.b) && X.ys.isEmpty && Nat.ble (avs.length + cl.length) fn.ntmps && dstOK X o.dst) with
    | false => rw [hc] at hh; cases hh
    | true =>
     rw [hc] at hh
     simp only [Bool.and_eq_true] at hc
     obtain ⟨⟨⟨⟨⟨⟨h1, h2⟩, h3⟩, h7⟩, h4⟩, h5⟩, h6⟩ := hc
     simp only [cond_true] at hh
     have e1 := beq_of h1
     have e2 := pathB_eq h2
     have e3 := Ctx.same_eq h3
     have hys : X.ys = [] := by simpa using h4
     refine wpOp_seg hE hF hys hr ho hx hfn hav hcl (Nat.le_of_ble_eq_true h5) h6 S.ins (b := S.X.b) (fc := S.X.act.headD 0) (by simpa using h7) (Q := fun t av => (Nat.ble t.nl s.nl && av.on (goodT t)) = true /\ K (renS true X.b o.dst ((s.openF t S.ins (S.X.act.headD 0)).putT X.b o.dst av)) = some y)
      (fun O' hF' => ?_) (fun t av hq => ?_) (fun t av hq v w' hrel hkept => hK _ hq.2 v w' (renS_rel hrel) hkept)
     ·rw [<- e3] at hF' ⊢
      have := useK_sound (Q := retQ E S.X.b fn fun t av => (Nat.ble t.nl s.nl && av.on (goodT t)) = true /\ K (renS true X.b o.dst ((s.openF t S.ins (S.X.act.headD 0)).putT X.b o.dst av)) = some y) hS hF' hh (fun e t he => by
       have key : ∀ c, (bif Nat.ble t.nl s.nl && (resA c).on (goodT t) then K (renS true X.b o.dst ((s.openF t S.ins (S.X.act.headD 0)).putT X.b o.dst (resA c))) else none) = some y -> (Nat.ble t.nl s.nl && (resA c).on (goodT t)) = true /\ K (renS true X.b o.dst ((s.openF t S.ins (S.X.act.headD 0)).putT X.b o.dst (resA c))) = some y := fun c h => by
        cases hb : (Nat.ble t.nl s.nl && (resA c).on (goodT t)) with
        | true => rw [hb] at h; exact ⟨rfl, h⟩
        | false => rw [hb] at h; cases h
       cases e with
       | normal =>
        simp only [cond_true] at he
        split at he
        ·rename_i c hc; exact ⟨.inr rfl, c, hc, key c he⟩
        ·cases he
       | ret =>
        simp only [cond_true] at he
        split at he
        ·rename_i c hc; exact ⟨.inl rfl, c, hc, key c he⟩
        ·cases he
       | _ => cases he)
      rw [e1, e2] at this
      exact this
     ·have := hq.1
      rw [Bool.and_eq_true] at this
      exact ⟨Nat.le_of_ble_eq_true this.1, this.2⟩
   ·cases hh
  ·cases hh
 ·cases hh
theorem segR_soundK (hE : E.OK P) (hF : Fits E X O r) {S : Seg} (hS : SegOK P E S) {l : List (Nat × Nat)} {ks : List (TypeId × Nat)} {K : St -> Option R} (hh : segR E X S l ks o s K = some y) {KK : Act -> World -> Prop} {Qx : Exit -> Act -> World -> Prop} {ρ : Nat -> Value}
  (hK : ∀ t, K t = some y -> ∀ v w', Rel X.b X.n O t (a.put o.dst v) w' -> (∀ id B k, s.bx id = some B -> memB S.ins.given (prm l id) = false -> refB (ρ id) = some k -> w'.heap[k]? = w.heap[k]?) -> KK (a.put o.dst v) w') (hr : RelC X.b X.n O ρ s a w) : o.wpIn (FW r) 0 P a w KK Qx := by
 unfold segR at hh
 cases hk : ks.all (keepB E X.b S.ins (prm l) s) with
 | false => rw [hk] at hh; cases hh
 | true =>
  rw [hk] at hh
  simp only [cond_true] at hh
  cases l with
  | nil => exact segK_soundK hE hF hS hh hK hr
  | cons q l =>
   replace hh : segK E X S o (s.ren (prm (q :: l)) (mrp (q :: l))) (fun t => K (t.ren (mrp (q :: l)) (prm (q :: l)))) = some y := hh
   have h1 := mrp_prm (q :: l)
   have h2 := prm_mrp (q :: l)
   clear hk
   revert hh h1 h2 hK
   generalize prm (q :: l) = f
   generalize mrp (q :: l) = g
   intro hK hh h1 h2
   refine segK_soundK (K := fun t => K (t.ren g f)) hE hF hS hh (fun t ht v w' h hkept => hK (t.ren g f) ht v w' (h.ren h2 h1) (fun id B k hB hg hk => ?_)) (hr.ren h1 h2)
   refine hkept (f id) (B.ren f) k ?_ hg ?_
   ·simp only [St.ren, h1, hB]
   ·show refB (ρ (g (f id))) = some k
    rw [h1]; exact hk
theorem segR_sound (hE : E.OK P) (hF : Fits E X O r) {S : Seg} (hS : SegOK P E S) {l : List (Nat × Nat)} {ks : List (TypeId × Nat)} {K : St -> Option R} (hh : segR E X S l ks o s K = some y) {KK : Act -> World -> Prop} {Qx : Exit -> Act -> World -> Prop}
  (hK : ∀ t, K t = some y -> ∀ a w, Rel X.b X.n O t a w -> KK a w) (hr : Rel X.b X.n O s a w) : o.wpIn (FW r) 0 P a w KK Qx := by
 obtain ⟨ρ, hr⟩ := hr
 exact segR_soundK hE hF hS hh (fun t ht v w' h _ => hK t ht _ _ h) hr
theorem keep_load (hE : E.OK P) {b n : Nat} {ρ : Nat -> Value} (h : RelC b n O ρ s a w) {t : TypeId} {p : Nat} {f : Nat -> Nat} {M : Mask} (hk : keepB E b M f s (t, p) = true) :
  ∃ v id B g, s.bx id = some B /\ memB M.given (f id) = false /\ refB (ρ id) = some g /\ ∀ o' : Oper, o'.op = .load t (.tmp p) -> (execOp a.eval o').run P w = .ok (.value v) w /\
   ∀ (a' : Act) (w' : World), a'.eval (.tmp p) = a.eval (.tmp p) -> w'.heap[g]? = w.heap[g]? -> (execOp a'.eval o').run P w' = .ok (.value v) w' := by
 unfold keepB at hk
 split at hk
 ·rename_i id ver off z htm hz
  split at hk
  ·rename_i ver' c hB
   simp only [Bool.and_eq_true] at hk
   obtain ⟨⟨h1, h2⟩, h3⟩ := hk
   have e1 := Nat.eq_of_beq_eq_true h1
   subst e1
   split at h3
   ·rename_i p' hp'
    rw [Bool.and_eq_true] at h3
    obtain ⟨hf, hag⟩ := h3
    have hag' : p'.agg = z.2.1 := by simpa using hag
    obtain ⟨g, cs, e, hx, hρ, hh, hc⟩ := ptr_at h.toRelO hB (h.tm p _ htm).2
    obtain ⟨h4, h5⟩ := subA_holds _ _ _ _ _ hp' hc
    have hat : At w g 0 cs.toList := ⟨cs, e, _, hh, fun j v hj => by simpa using hj⟩
    have hat' := At.part (k := off) (m := z.1) hat
    rw [Nat.zero_add] at hat'
    have hl : ((cs.toList.drop off).take z.1).length = z.1 := by simp at h5 ⊢; omega
    have hone : z.2.1 = false -> z.1 = 1 := fun hb => by rw [<- hl, HoldsA.len _ _ h4]; exact agg_one _ hf (hag'.trans hb)
    obtain ⟨ti, d, hL⟩ := hE.lay t z hz
    refine ⟨mkA p' ((cs.toList.drop off).take z.1), id, _, g, hB, by simpa using h2, ?_, fun o' ho' => ?_⟩
    ·rw [hρ]; rfl
    ·have run : ∀ (a' : Act) (w' : World), a'.eval (.tmp p) = .pointer (some ⟨g, off, none⟩) -> At w' g off ((cs.toList.drop off).take z.1) -> (execOp a'.eval o').run P w' = .ok (.value (mkA p' ((cs.toList.drop off).take z.1))) w' := fun a' w' hx' ha' => by
      simp only [execOp, ho', hx', Instr.loadAt, Instr.sureAddr, Sem.run_bind, Sem.run_pure, Result.andThen_ok, run_loadVar_at hL ha' hl hone, h4.mk hf, hag']
     refine ⟨run a w hx hat', fun a' w' ea ew => run a' w' (ea.trans hx) ?_⟩
     obtain ⟨c1, el, zz, hg, hv⟩ := hat'
     exact ⟨c1, el, zz, by rw [ew]; exact hg, hv⟩
   ·cases h3
  ·cases hk
 ·cases hk
theorem stepM_sound (hE : E.OK P) (hH : HOK P E y H) (hF : Fits E X O r) {i : Nat} {h : Hint} (ho' : HintOK P E h) (ho : ops[i]? = some o) {c : Bool} (hc : wantA X.b ops s o = some c) {K : St -> Option R} (hh : stepM E H X (h.op i) o s c K = some y)
  {KK : Act -> World -> Prop} {Qx : Exit -> Act -> World -> Prop} (hK : ∀ t, K t = some y -> ∀ a w, Rel X.b X.n O t a w -> KK a w) (hr : Rel X.b X.n O s a w) : wpOpIn (FW r) 0 P ops Qx i KK a w := by
 obtain ⟨ρ, hr'⟩ := hr
 have hw := wantA_sound hr' hc
 unfold wpOpIn
 simp only [ho, hw]
 unfold stepM at hh
 cases c with
 | false =>
  simp only [cond_false, someK_eq, Option.bind_eq_some_iff] at hh
  obtain ⟨t, ht, hh⟩ := hh
  simp only [Bool.false_eq_true, if_false]
  exact ⟨fun _ _ => trivial, hK t hh _ _ (skip_after hr' ht)⟩
 | true =>
  simp only [cond_true] at hh
  simp only [if_true]
  cases hq : h.op i with
  | plain own =>
   rw [hq] at hh
   simp only [plainK_eq, Option.bind_eq_some_iff, someK_eq] at hh
   obtain ⟨e, he, t, ht, hh⟩ := hh
   exact wpOp_eff hE hF.g hr' he ht (hK t hh)
  | spec => rw [hq] at hh; exact specK_sound hE hF hh hK ⟨ρ, hr'⟩
  | call b q => rw [hq] at hh; exact placeK_sound hE hH hF (HintOK.op ho' hq) hh hK ⟨ρ, hr'⟩
  | seg S l ks => rw [hq] at hh; exact segR_sound hE hF (HintOK.seg ho' hq) hh hK ⟨ρ, hr'⟩
  | sp => rw [hq] at hh; exact spK_sound hE hh hK ⟨ρ, hr'⟩
theorem runM_cons {h : Hint} {i : Nat} {l : List Nat} {K : St -> Option R} (hh : runM E H X h ops (i :: l) s K = some y) :
  ∃ o c, ops[i]? = some o /\ wantA X.b ops s o = some c /\ (stepM E H X (h.op i) o s c fun t => runM E H X h ops l t K) = some y := by
 unfold runM at hh
 split at hh
 ·rename_i o ho
  split at hh
  ·rename_i hg
   exact ⟨o, true, ho, by simp only [wantA, hg], hh⟩
  ·rename_i j want hg
   split at hh
   ·rename_i g hj
    split at hh
    ·rename_i x hx
     have hw : wantA X.b ops s o = some (x == want) := by simp only [wantA, hg, hj, Option.bind_some, hx]; rfl
     cases x with
     | true => rw [putT_self hx] at hh; exact ⟨o, _, ho, hw, hh⟩
     | false => rw [putT_self hx] at hh; exact ⟨o, _, ho, hw, hh⟩
    ·rename_i x hx
     exact ⟨o, _, ho, by simp only [wantA, hg, hj, Option.bind_some, hx], hh⟩
    ·rename_i v hnb hx
     exact ⟨o, _, ho, by simp only [wantA, hg, hj, Option.bind_some, hx], hh⟩
    ·cases hh
   ·cases hh
 ·cases hh
theorem runM_ops (hE : E.OK P) (hH : HOK P E y H) (hF : Fits E X O r) {h : Hint} (ho' : HintOK P E h) {Qx : Exit -> Act -> World -> Prop} : ∀ (l : List Nat) (s : St) (K : St -> Option R) (a : Act) (w : World), runM E H X h ops l s K = some y ->
  (∀ t, K t = some y -> ∀ a w, Rel X.b X.n O t a w -> Qx .normal a w) -> Rel X.b X.n O s a w -> wpOpsIn (FW r) 0 P ops Qx l a w
 | [], s, K, a, w, hh, hK, hr => hK s hh a w hr
 | i :: l, s, K, a, w, hh, hK, hr => by
  obtain ⟨o, c, ho, hc, hh⟩ := runM_cons hh
  rw [wpOpsIn_cons]
  exact stepM_sound hE hH hF ho' ho hc hh (fun t ht a w hr => runM_ops hE hH hF ho' l t K a w ht hK hr) hr
theorem runM_plain {h : Hint} (hc : h.calls = false) : ∀ (l : List Nat) (s : St) (K : St -> Option R), runM E H X h ops l s K = some y -> ∃ t, runL (stepR E h.ownB X.b X.n ops) l s = some t /\ K t = some y
 | [], s, K, hh => ⟨s, rfl, hh⟩
 | i :: l, s, K, hh => by
  obtain ⟨o, c, ho, hw, hh⟩ := runM_cons hh
  rw [HintOK.plain hc i] at hh
  have : ∃ t, stepR E h.ownB X.b X.n ops i s = some t /\ runM E H X h ops l t K = some y := by
   unfold stepM at hh
   simp only [stepR, ho, Option.bind_some, hw]
   cases c with
   | true =>
    simp only [cond_true, plainK_eq, Option.bind_eq_some_iff, someK_eq] at hh ⊢
    obtain ⟨e, he, t, ht, hh⟩ := hh
    exact ⟨t, ⟨e, he, ht⟩, hh⟩
   | false =>
    simp only [cond_false, someK_eq, Option.bind_eq_some_iff] at hh ⊢
    obtain ⟨t, ht, hh⟩ := hh
    exact ⟨t, ⟨_, rfl, ht⟩, hh⟩
  obtain ⟨t, h1, h2⟩ := this
  obtain ⟨u, h3, h4⟩ := runM_plain hc l t K h2
  exact ⟨u, by simp only [runL, h1, Option.bind_some, h3], h4⟩
theorem Hint.pre_plain {h : Hint} : ∀ (m k i : Nat), k <= i -> i < h.pre m k -> h.op i = .plain (h.ownB i)
 | 0, k, i, h1, h2 => by simp only [Hint.pre] at h2; omega
 | m + 1, k, i, h1, h2 => by
  simp only [Hint.pre] at h2
  split at h2
  ·rename_i o ho
   by_cases e : i = k
   ·subst e; simp only [Hint.ownB, ho]
   ·exact Hint.pre_plain m (k + 1) i (by omega) h2
  ·omega
theorem runM_plainL {h : Hint} {l' : List Nat} : ∀ (l : List Nat) (s : St) (K : St -> Option R), (∀ i ∈ l, h.op i = .plain (h.ownB i)) -> runM E H X h ops (l ++ l') s K = some y ->
  ∃ t, runL (stepR E h.ownB X.b X.n ops) l s = some t /\ runM E H X h ops l' t K = some y
 | [], s, K, _, hh => ⟨s, rfl, hh⟩
 | i :: l, s, K, hp, hh => by
  rw [List.cons_append] at hh
  obtain ⟨o, c, ho, hw, hh⟩ := runM_cons hh
  rw [hp i (by simp)] at hh
  have : ∃ t, stepR E h.ownB X.b X.n ops i s = some t /\ runM E H X h ops (l ++ l') t K = some y := by
   unfold stepM at hh
   simp only [stepR, ho, Option.bind_some, hw]
   cases c with
   | true =>
    simp only [cond_true, plainK_eq, Option.bind_eq_some_iff, someK_eq] at hh ⊢
    obtain ⟨e, he, t, ht, hh⟩ := hh
    exact ⟨t, ⟨e, he, ht⟩, hh⟩
   | false =>
    simp only [cond_false, someK_eq, Option.bind_eq_some_iff] at hh ⊢
    obtain ⟨t, ht, hh⟩ := hh
    exact ⟨t, ⟨_, rfl, ht⟩, hh⟩
  obtain ⟨t, h1, h2⟩ := this
  obtain ⟨u, h3, h4⟩ := runM_plainL l t K (fun i hi => hp i (by simp [hi])) h2
  exact ⟨u, by simp only [runL, h1, Option.bind_some, h3], h4⟩
theorem Hint.noCall_spec {h : Hint} : ∀ (m k i : Nat), k <= i -> i < k + m -> h.noCall m k = true -> h.op i = .plain (h.ownB i)
 | 0, k, i, h1, h2, _ => by omega
 | m + 1, k, i, h1, h2, hn => by
  simp only [Hint.noCall, Bool.and_eq_true] at hn
  by_cases e : k = i
  ·subst e
   have := hn.1
   unfold Hint.ownB
   split at this
   ·rename_i o ho; rw [ho]
   ·cases this
  ·exact Hint.noCall_spec m (k + 1) i (by omega) (by omega) hn.2
theorem hoist_spec {k : Nat} {listed : Array Bool} (h : hoistB .any ops k listed = true) : ∃ o x, ops[k]? = some o /\ o.op = .move x /\ Region.noSelect ops = true /\ Region.free .any ops listed k = true /\ (Region.ready .any ops listed).contains k = true := by
 simp only [hoistB, Bool.and_eq_true] at h
 obtain ⟨⟨⟨h1, h2⟩, h3⟩, h4⟩ := h
 unfold moveB at h1
 split at h1
 ·rename_i o ho
  split at h1
  ·rename_i x hx
   exact ⟨o, x, ho, hx, h2, h3, h4⟩
  ·cases h1
 ·cases h1
theorem move_take {Qx : Exit -> Act -> World -> Prop} {KK : Act -> World -> Prop} {k : Nat} {o : Oper} {x : Operand} {a : Act} {w : World} (ho : ops[k]? = some o) (hm : o.op = .move x) (h : wpOpIn (FW r) 0 P ops Qx k KK a w) :
  ∃ v, KK (a.put o.dst v) w /\ YieldsFenced P ops o v a := by
 have hrun : ∀ w, (execOp a.eval o).run P w = .ok (.value (a.eval x)) w := fun w => by simp [execOp, hm]
 cases hw : Region.wanted o (yielded ops a.tmps) with
 | true =>
  refine ⟨a.eval x, ?_, .inl ⟨hw, hrun⟩, fun w => by simp [Oper.about, hm]⟩
  unfold wpOpIn at h
  simp only [ho, hw, if_true, Oper.wpIn] at h
  have h2 := h.2
  rw [Oper.semAt_eq _ _ _ (fun c hc => by rw [hm] at hc; cases hc), hrun] at h2
  exact h2
 | false =>
  refine ⟨undef, ?_, .inr ⟨hw, rfl⟩, fun w => by simp [Oper.about, hm]⟩
  unfold wpOpIn at h
  simp only [ho, hw, Bool.false_eq_true, if_false] at h
  exact h.2
theorem round_none (hF : Fits E X O r) (h : X.rd = false) : r = none := by
 have := hF.rd
 rw [h] at this
 cases r with
 | none => rfl
 | some l => simp at this
theorem runL_takes {S : Type} {g : Nat -> S -> Option S} {rel : S -> Act -> World -> Prop} (hs : SoundG (FW r) P ops g rel) {Qx : Exit -> Act -> World -> Prop} (hQ : ∀ c a a' w, Qx (.panic c) a w -> Qx (.panic c) a' w) {fuel : Nat} : ∀ (n k : Nat) (listed : Array Bool) (s t : S) (a : Act) (w : World), (n ≠ 0 -> r = none) -> takesB .any ops n k listed = true ->
  runL g (List.range' k n) s = some t -> Closed .any ops listed -> rel s a w -> (∀ a' w', Closed .any ops (setsL n k listed) -> rel t a' w' -> wpAnyIn (FW r) 0 P .any ops Qx fuel (setsL n k listed) a' w') ->
  wpAnyIn (FW r) 0 P .any ops Qx (fuel + n) listed a w
 | 0, k, listed, s, t, a, w, _, _, hh, hcl, hr, hK => by
  simp [runL] at hh
  subst hh
  exact hK a w hcl hr
 | n + 1, k, listed, s, t, a, w, hnr, hB, hh, hcl, hr, hK => by
  simp only [takesB, Bool.and_eq_true] at hB
  obtain ⟨o, x, ho, hm, h2, h3, h4⟩ := hoist_spec hB.1
  rw [List.range'_succ] at hh
  simp only [runL, Option.bind_eq_some_iff] at hh
  obtain ⟨s1, e1, e2⟩ := hh
  have := hs k o s s1 a w ho hr e1 Qx (fun a w => wpAnyIn (FW r) 0 P .any ops Qx (fuel + n) (listed.setIfInBounds k true) a w) (fun a w hr => runL_takes hs hQ n (k + 1) _ s1 t a w (fun _ => hnr (by omega)) hB.2 e2 (hcl.add (by simpa using h4)) hr hK)
  obtain ⟨v, h5, h6⟩ := move_take ho hm this
  exact wpAnyIn_take (hnr (by omega)) ho h2 h3 h4 (fun c a w h => hQ c _ _ w h) h6 h5
theorem runL_keeps {S : Type} {g : Nat -> S -> Option S} {inv : S -> Prop} (hk : KeepsG g inv) : ∀ (l : List Nat) (s t : S), runL g l s = some t -> inv s -> inv t
 | [], s, t, h, hi => by simp [runL] at h; subst h; exact hi
 | i :: l, s, t, h, hi => by
  simp only [runL, Option.bind_eq_some_iff] at h
  obtain ⟨s1, e1, e2⟩ := h
  exact runL_keeps hk l s1 t e2 (hk i s s1 hi e1)
theorem wpOpIn_putF {F : Fence} {n : Nat} {Q : Exit -> Act -> World -> Prop} {j : Nat} {oj : Oper} {x : Option Tmp} {v : Value} (hro : F.round = none) (hj : ops[j]? = some oj) (h1 : ∀ d, x = some d -> d ∉ oj.looksAt ops) (h2 : ∀ d, x = some d -> oj.dst ≠ some d)
  (hsj : ∀ cs b, oj.op ≠ .select cs b) (hQ : ∀ c a a' w, Q (.panic c) a w -> Q (.panic c) a' w) {K : Act -> World -> Prop} {a : Act} {w : World} (h : wpOpIn F n P ops Q j K a w) :
  wpOpIn F n P ops Q j (fun a'' w' => ∃ a', a'' = a'.put x v /\ K a' w') (a.put x v) w := by
 unfold wpOpIn at *
 simp only [hj] at *
 rw [wanted_put oj a x v h1, about_put oj w a x v h1]
 split
 ·rename_i hw
  simp only [hw, if_true] at h
  unfold Oper.wpIn at *
  rw [about_put oj w a x v h1]
  refine ⟨h.1, ?_⟩
  have h := h.2
  rw [hro, Oper.semAt_none] at h
  rw [hro, Oper.semAt_none, execOp_put oj hsj a x v h1]
  generalize (execOp a.eval oj).run P w = r at *
  cases r with
  | ok z w' =>
   cases z <;> simp only [Oper.uponIn] at h ⊢
   case value u => exact ⟨_, Act.put_comm a v u h2, h⟩
   case skip => exact ⟨_, Act.put_comm a v undef h2, h⟩
   case defer d =>
    refine ⟨_, ?_, h⟩
    rw [Act.put_defers]
    exact Act.put_comm _ v undef h2
   case enter f args =>
    refine ⟨h.1, CallsIn.mono h.2 fun e w'' he => ?_⟩
    cases e with
    | returned u => exact ⟨_, Act.put_comm a v u h2, he⟩
    | panicked c => exact hQ _ _ _ _ he
    | outgrown => exact he
   case row row args => exact ⟨h.1, RowsIn.mono h.2 fun u w'' he => ⟨_, Act.put_comm a v u h2, he⟩⟩
   case round l f tmps assign body =>
    refine ⟨h.1, RoundIn.mono h.2 fun e w'' he => ?_⟩
    cases e with
    | returned u => exact ⟨_, Act.put_comm a v u h2, he⟩
    | panicked c => exact hQ _ _ _ _ he
    | outgrown => exact he
  | halt z w' =>
   cases z <;> simp only [Oper.uponIn] at h ⊢
   case panic u => exact hQ _ _ _ _ h
 ·rename_i hw
  simp only [hw] at h
  exact ⟨h.1, _, Act.put_comm a v undef h2, h.2⟩
theorem comm0_ok {own : Nat -> Bool} {b n i j : Nat} (h : comm0 E ops own i j = true) : CommG (stepR E own b n ops) (fun s => BD (s.ev b) s.bx s.us s.nl) i j := by
 intro s s1 s2 hbd h1 h2
 have hc : commR E b ops own (s.tm b) i j = true := by
  unfold comm0 at h
  unfold commR
  split at h
  ·rename_i x y hx hy
   rw [Bool.and_eq_true] at h
   simp only [hx, hy, Bool.and_eq_true, pairC, Bool.or_eq_true]
   refine ⟨h.1, ?_⟩
   have := h.2
   rw [Bool.or_eq_true] at this
   rcases this with e | e
   ·simp [e]
   ·simp [e]
  ·cases h
 exact commR_ok hc s s1 s2 (invK_self hbd) h1 h2
theorem value_op {Qx : Exit -> Act -> World -> Prop} {KK : Act -> World -> Prop} {j : Nat} {q : Oper} {v : Value} {t : TypeId} {x : Operand} {a : Act} {w : World} (ho : ops[j]? = some q) (hw : Region.wanted q (yielded ops a.tmps) = true) (hm : q.op = .load t x)
  (hrun : (execOp a.eval q).run P w = .ok (.value v) w) : wpOpIn (FW r) 0 P ops Qx j KK a w ↔ KK (a.put q.dst v) w := by
 unfold wpOpIn
 simp only [ho, hw, if_true, Oper.wpIn]
 rw [Oper.semAt_eq _ _ _ (fun c hc => by rw [hm] at hc; cases hc), hrun]
 exact ⟨fun h => h.2, fun h => ⟨fun f hf => by simp [Oper.about, hm] at hf, h⟩⟩
theorem swB_spec {h : Hint} {k j : Nat} (hs : swB h ops k j = true) : ∃ S l ks o q t p, h.op k = .seg S l ks /\ ops[k]? = some o /\ ops[j]? = some q /\ q.guard = o.guard /\ q.op = .load t (.tmp p) /\ (t, p) ∈ ks /\ o.dst ≠ some p /\ q.apart ops o = true /\ ∃ c, o.op = .call c := by
 unfold swB at hs
 split at hs
 ·rename_i S l ks own o q e1 e2 e3 e4
  simp only [Bool.and_eq_true] at hs
  obtain ⟨⟨⟨h1, h3⟩, h4⟩, h5⟩ := hs
  split at h3
  ·rename_i t p hop
   rw [Bool.and_eq_true] at h3
   obtain ⟨h6, h7⟩ := h3
   obtain ⟨z, hz, hz2⟩ := List.any_eq_true.1 h6
   rw [Bool.and_eq_true] at hz2
   have e5 := Nat.eq_of_beq_eq_true hz2.1
   have e6 := Nat.eq_of_beq_eq_true hz2.2
   obtain ⟨z1, z2⟩ := z
   simp only at e5 e6
   subst e5; subst e6
   refine ⟨S, l, ks, o, q, z1, z2, e1, e3, e4, ?_, hop, hz, fun e => ?_, h4, ?_⟩
   ·split at h1
    ·rename_i g1 g2; rw [g1, g2]
    ·rename_i i x j y g1 g2
     rw [Bool.and_eq_true] at h1
     rw [g1, g2, Nat.eq_of_beq_eq_true h1.1, eq_of_beq h1.2]
    ·cases h1
   ·rw [e] at h7
    simp at h7
   ·split at h5
    ·rename_i c hc; exact ⟨c, hc⟩
    ·cases h5
  ·cases h3
 ·cases hs
theorem sw_any (hE : E.OK P) (hH : HOK P E y H) (hF : Fits E X O r) {h : Hint} (ho' : HintOK P E h) {Qx : Exit -> Act -> World -> Prop} (hQ : ∀ c a a' w, Qx (.panic c) a w -> Qx (.panic c) a' w) (hro : r = none) {k j n' : Nat} {listed : Array Bool} {s : St} {K : St -> Option R} {a : Act} {w : World} {o : Oper} {c : Bool}
  (hkj : k ≠ j) (hsw : swB h ops k j = true) (hne : Region.ready .any ops listed ≠ []) (hrd : ∀ i ∈ Region.ready .any ops listed, i = k \/ i = j) (hready2 : Region.ready .any ops (listed.setIfInBounds j true) = [k]) (hmem : j ∈ Region.ready .any ops (listed.setIfInBounds k true))
  (ho : ops[k]? = some o) (hc : wantA X.b ops s o = some c) (hh : stepM E H X (h.op k) o s c K = some y)
  (ih : ∀ t, K t = some y -> ∀ a w, Rel X.b X.n O t a w -> wpAnyIn (FW r) 0 P .any ops Qx (n' + 1) (listed.setIfInBounds k true) a w) (hr : Rel X.b X.n O s a w) : wpAnyIn (FW r) 0 P .any ops Qx (n' + 2) listed a w := by
 obtain ⟨S, l, ks, o', q, t, p, e1, e3, e4, hgg, hop, hks, hdp, hap, cc, hcall⟩ := swB_spec hsw
 rw [ho] at e3
 cases e3
 refine ⟨fun h0 => absurd h0 hne, fun i hi => ?_⟩
 rcases hrd i hi with e | e
 ·subst e
  exact stepM_sound hE hH hF ho' ho hc hh ih hr
 ·subst e
  obtain ⟨ρ, hrc⟩ := hr
  have hwo := wantA_sound hrc hc
  have hwq : Region.wanted q (yielded ops a.tmps) = c := by rw [<- hwo]; simp only [Region.wanted, hgg]
  obtain ⟨a1, a2, a3⟩ := Oper.apart_spec hap
  have hsel : ∀ cs b, o.op ≠ .select cs b := fun cs b e => by rw [hcall] at e; cases e
  cases c with
  | false =>
   unfold stepM at hh
   simp only [cond_false, someK_eq, Option.bind_eq_some_iff] at hh
   obtain ⟨st, hst0, hst⟩ := hh
   have h5 := (ih st hst (a.put o.dst undef) w (skip_after hrc hst0)).2 i hmem
   have hwq' : Region.wanted q (yielded ops (a.put o.dst undef).tmps) = false := by rw [wanted_put q a o.dst undef a3]; exact hwq
   unfold wpOpIn at h5
   simp only [e4, hwq', Bool.false_eq_true, if_false] at h5
   unfold wpOpIn
   simp only [e4, hwq, Bool.false_eq_true, if_false]
   refine ⟨fun f hf => by simp [Oper.about, hop] at hf, fun h0 => (by rw [hready2] at h0; cases h0), fun i' hi => ?_⟩
   rw [hready2] at hi
   have hik : i' = k := by simpa using hi
   subst hik
   have hwo' : Region.wanted o (yielded ops (a.put q.dst undef).tmps) = false := by rw [wanted_put o a q.dst undef a1]; exact hwo
   unfold wpOpIn
   simp only [ho, hwo', Bool.false_eq_true, if_false]
   refine ⟨fun _ _ => trivial, ?_⟩
   rw [Act.put_comm a undef undef a2, Array.setIfInBounds_comm _ _ (Ne.symm hkj)]
   exact h5.2
  | true =>
  unfold stepM at hh
  rw [e1] at hh
  simp only [cond_true] at hh
  have hkeep : keepB E X.b S.ins (prm l) s (t, p) = true := by
   have hh' := hh
   unfold segR at hh'
   cases hall : ks.all (keepB E X.b S.ins (prm l) s) with
   | false => rw [hall] at hh'; cases hh'
   | true => exact List.all_eq_true.1 hall _ hks
  obtain ⟨v, id, B, g, hB, hgiv, href, hrun⟩ := keep_load hE hrc hkeep
  rw [value_op e4 hwq hop (hrun q hop).1]
  refine ⟨fun h0 => (by rw [hready2] at h0; cases h0), fun i' hi => ?_⟩
  rw [hready2] at hi
  have hik : i' = k := by simpa using hi
  subst hik
  have hstep : wpOpIn (FW r) 0 P ops Qx i' (fun a' w' => wpAnyIn (FW r) 0 P .any ops Qx n' ((listed.setIfInBounds i' true).setIfInBounds i true) (a'.put q.dst v) w') a w := by
   unfold wpOpIn
   simp only [ho, hwo, if_true]
   refine segR_soundK hE hF (HintOK.seg ho' e1) hh (fun st hst u w' hrel hkept => ?_) hrc
   have h5 := (ih st hst (a.put o.dst u) w' hrel).2 i hmem
   have hev : (a.put o.dst u).eval (.tmp p) = a.eval (.tmp p) := Act.eval_put fun d hd e => hdp (by rw [hd]; cases e; rfl)
   rw [value_op e4 (by rw [wanted_put q a o.dst u a3]; exact hwq) hop ((hrun q hop).2 _ w' hev (hkept id B g hB hgiv href))] at h5
   exact h5
  have := wpOpIn_putF (x := q.dst) (v := v) (by rw [hro]; rfl) ho a1 a2 hsel hQ hstep
  refine wpOpIn_mono (fun a'' w' ⟨a', e, h⟩ => ?_) this
  subst e
  rw [Array.setIfInBounds_comm _ _ (Ne.symm hkj)]
  exact h
theorem runM_chain (hE : E.OK P) (hm : P.follows .mixedOrders = true) (hH : HOK P E y H) (hF : Fits E X O r) {h : Hint} (ho' : HintOK P E h) {Qx : Exit -> Act -> World -> Prop} (hQ : ∀ c a a' w, Qx (.panic c) a w -> Qx (.panic c) a' w) : ∀ (n k : Nat) (listed : Array Bool) (s : St) (K : St -> Option R) (a : Act) (w : World), k + n = ops.size -> Closed .any ops listed ->
  chainB (!X.rd) (comm0 E ops h.ownB) (fun k => h.noCall (ops.size - k) k) (fun k => swB h ops k (k + 1)) .any ops n k listed = true ->
  runM E H X h ops (List.range' k n) s K = some y -> (∀ t, K t = some y -> ∀ a w, Rel X.b X.n O t a w -> Qx .normal a w) -> Rel X.b X.n O s a w -> wpAnyIn (FW r) 0 P .any ops Qx n listed a w
 | 0, k, listed, s, K, a, w, _, _, hB, hh, hK, hr => ⟨by simpa [chainB] using hB, hK s hh a w hr⟩
 | n + 1, k, listed, s, K, a, w, hn, hcl, hB, hh, hK, hr => by
  simp only [chainB, Bool.or_eq_true, Bool.and_eq_true] at hB
  rcases hB with ⟨(hB1 | hB1) | hB1, hB2⟩ | ⟨hB1, hB2⟩
  ·rw [List.range'_succ] at hh
   obtain ⟨o, c, ho, hc, hh⟩ := runM_cons hh
   have hready := natsB_eq hB1
   refine ⟨fun h0 => (by rw [hready] at h0; cases h0), fun i hi => ?_⟩
   have hi0 := hi
   rw [hready] at hi
   have hik : i = k := by simpa using hi
   subst hik
   exact stepM_sound hE hH hF ho' ho hc hh (fun t ht a w hr => runM_chain hE hm hH hF ho' hQ n (i + 1) _ t K a w (by omega) (hcl.add hi0) hB2 ht hK hr) hr
  ·rw [List.range'_succ] at hh
   obtain ⟨o, c, ho, hc, hh⟩ := runM_cons hh
   obtain ⟨hal, hB1⟩ := hB1
   obtain ⟨o', x, hox, hmv, h2, h3, h4⟩ := hoist_spec hB1
   have := stepM_sound (Qx := Qx) hE hH hF ho' ho hc hh (fun t ht a w hr => runM_chain hE hm hH hF ho' hQ n (k + 1) _ t K a w (by omega) (hcl.add (by simpa using h4)) hB2 ht hK hr) hr
   obtain ⟨v, h5, h6⟩ := move_take hox hmv this
   exact wpAnyIn_take (round_none hF (by simpa using hal)) hox h2 h3 h4 (fun c a w h => hQ c _ _ w h) h6 h5
  ·obtain ⟨⟨⟨hal, hsw⟩, hrd⟩, hrd2⟩ := hB1
   rw [List.range'_succ] at hh
   obtain ⟨o, c, ho, hc, hh⟩ := runM_cons hh
   have hready := natsB_eq hrd
   have hready2 := natsB_eq hrd2
   obtain ⟨_, _, _, _, q, _, _, _, _, e4, _⟩ := swB_spec hsw
   have hlt : k + 1 < ops.size := (Array.getElem?_eq_some_iff.1 e4).1
   obtain ⟨n', rfl⟩ : ∃ n', n = n' + 1 := ⟨n - 1, by omega⟩
   exact sw_any hE hH hF ho' hQ (round_none hF (by simpa using hal : X.rd = false)) (j := k + 1) (by omega) hsw (by rw [hready]; simp) (fun i hi => by rw [hready] at hi; simpa using hi) hready2 (ready_mono (by rw [hready]; simp) (by omega)) ho hc hh
    (fun t ht a w hr => runM_chain hE hm hH hF ho' hQ (n' + 1) (k + 1) _ t K a w (by omega) (hcl.add (by rw [hready]; simp)) hB2 ht hK hr) hr
  ·obtain ⟨t, h1, h2⟩ := runM_plainL (l' := []) (List.range' k (n + 1)) s K (fun i hi => Hint.noCall_spec (ops.size - k) k i (by rw [List.mem_range'_1] at hi; omega) (by rw [List.mem_range'_1] at hi; omega) hB1) (by rw [List.append_nil]; exact hh)
   have hbd : BD (s.ev X.b) s.bx s.us s.nl := by obtain ⟨ρ, hr⟩ := hr; exact hr.bds
   exact wpAny_of_anyA (QA := fun x => x = t) (stepR_sound hE hF.g) (fun x a w hx hr => hK t h2 a w (hx ▸ hr)) _ _ s a w
    (anyA_lex (inv := fun s => BD (s.ev X.b) s.bx s.us s.nl) (fun i s t hv hs => BD.step hE hv hs) (fun i j hij => comm0_ok hij) _ k _ s t hbd hcl hB2 h1 rfl) hr
theorem lexP_closed {comm : Nat -> Nat -> Bool} {md : Region.Mode} {p : Nat} : ∀ (n k : Nat) (listed : Array Bool), Closed md ops listed -> lexP comm md ops p n k listed = true -> Closed md ops (setsL n k listed)
 | 0, _, _, h, _ => h
 | n + 1, k, listed, h, hB => by
  simp only [lexP, Bool.and_eq_true] at hB
  exact lexP_closed n (k + 1) _ (h.add (by simpa using hB.1.1.1.2)) hB.2
theorem setsL_add {m : Nat} : ∀ (n k : Nat) (l : Array Bool), setsL m (k + n) (setsL n k l) = setsL (n + m) k l
 | 0, k, l => by simp [setsL]
 | n + 1, k, l => by
  rw [show n + 1 + m = (n + m) + 1 by omega]
  simp only [setsL]
  rw [<- setsL_add n (k + 1)]
  rw [show k + (n + 1) = k + 1 + n by omega]
theorem rot_any (hE : E.OK P) (hm : P.follows .mixedOrders = true) (hH : HOK P E y H) (hF : Fits E X O r) {h : Hint} (ho' : HintOK P E h) {Qx : Exit -> Act -> World -> Prop} (hQ : ∀ c a a' w, Qx (.panic c) a w -> Qx (.panic c) a' w) {s : St} {K : St -> Option R} {a : Act} {w : World}
  (hB : rotB E X h ops = true) (hh : runM E H X h ops (rotL ops.size) s K = some y) (hK : ∀ t, K t = some y -> ∀ a w, Rel X.b X.n O t a w -> Qx .normal a w) (hr : Rel X.b X.n O s a w) : wpAnyIn (FW r) 0 P .any ops Qx ops.size (Array.replicate ops.size false) a w := by
 simp only [rotB, Bool.and_eq_true, Bool.not_eq_true'] at hB
 obtain ⟨⟨⟨⟨⟨⟨hal, hsw⟩, hho⟩, hr1⟩, hr2⟩, hr3⟩, hch⟩ := hB
 have hr1 := natsB_eq hr1
 have hr2 := natsB_eq hr2
 have hr3 := natsB_eq hr3
 have hro := round_none hF hal
 obtain ⟨o', x, hox, hmv, h2, h3, h4⟩ := hoist_spec hho
 obtain ⟨_, _, _, _, _, _, _, _, e2, _⟩ := swB_spec hsw
 have hlt : 2 < ops.size := (Array.getElem?_eq_some_iff.1 e2).1
 obtain ⟨n, hn⟩ : ∃ n, ops.size = n + 3 := ⟨ops.size - 3, by omega⟩
 unfold rotL at hh
 rw [show ops.size - 3 = n by omega] at hh hch
 generalize hl : Array.replicate ops.size false = l0 at *
 rw [hn]
 have hcl0 : Closed .any ops l0 := by rw [<- hl]; exact closed_none _
 have hcl1 := hcl0.add (j := 1) (by simpa using h4)
 have hcl2 := hcl1.add (j := 2) (by rw [hr1]; simp)
 have hcl3 := hcl2.add (j := 0) (by rw [hr3]; simp)
 obtain ⟨o, c, ho, hc, hh⟩ := runM_cons hh
 have := stepM_sound (Qx := Qx) hE hH hF ho' ho hc hh (KK := fun a w => wpAnyIn (FW r) 0 P .any ops Qx (n + 2) (l0.setIfInBounds 1 true) a w) (fun t ht a w hr => by
  obtain ⟨o2, c2, ho2, hc2, hh2⟩ := runM_cons ht
  refine sw_any hE hH hF ho' hQ hro (k := 2) (j := 0) (by omega) hsw (by rw [hr1]; simp) (fun i hi => by rw [hr1] at hi; simpa [or_comm] using hi) hr2 (by rw [hr3]; simp) ho2 hc2 hh2 (fun t ht a w hr => ?_) hr
  obtain ⟨o3, c3, ho3, hc3, hh3⟩ := runM_cons ht
  refine ⟨fun h0 => (by rw [hr3] at h0; cases h0), fun i hi => ?_⟩
  rw [hr3] at hi
  have hik : i = 0 := by simpa using hi
  subst hik
  exact stepM_sound hE hH hF ho' ho3 hc3 hh3 (fun t ht a w hr => runM_chain hE hm hH hF ho' hQ n 3 _ t K a w (by omega) hcl3 hch ht hK hr) hr) hr
 obtain ⟨v, h5, h6⟩ := move_take hox hmv this
 exact wpAnyIn_take hro hox h2 h3 h4 (fun c a w h => hQ c _ _ w h) h6 h5
theorem Awp.region (hE : E.OK P) (hm : P.follows .mixedOrders = true) (hH : HOK P E y H) (hF : Fits E X O r) {h : Hint} (ho' : HintOK P E h) {id : Nat} {draw : Bool} {K : St -> Option R} {Q : Exit -> St -> Prop}
  (hh : (bif !draw || (bif h.calls then callsB E X h ops (s.tm X.b) else lexC (commR E X.b ops h.ownB (s.tm X.b)) .any ops ops.size 0 (Array.replicate ops.size false)) then
     runM E H X h ops (List.range' 0 ops.size) s K else none) = some y) (hK : ∀ t, K t = some y -> Q .normal t) : Awp P X O r (.region id ops draw) Q s := by
 refine Awp.imp (Q := fun e t => e = .normal /\ Q .normal t) ?_ (fun e t ht => by obtain ⟨rfl, h⟩ := ht; exact h)
 have hK' : ∀ t, K t = some y -> ∀ a w, Rel X.b X.n O t a w -> ∃ t', ((Exit.normal = .normal) /\ Q .normal t') /\ Rel X.b X.n O t' a w := fun t ht a w hr => ⟨t, ⟨rfl, hK t ht⟩, hr⟩
 have hQ : ∀ c (a a' : Act) (w : World), (∃ t, ((Exit.panic c = .normal) /\ Q .normal t) /\ Rel X.b X.n O t a w) -> ∃ t, ((Exit.panic c = .normal) /\ Q .normal t) /\ Rel X.b X.n O t a' w := fun c a a' w ⟨t, ⟨e, _⟩, _⟩ => by cases e
 intro a w hr
 cases draw with
 | false =>
  simp only [Bool.not_false, Bool.true_or, cond_true] at hh
  exact wpIn_region (by rw [List.range_eq_range']; exact runM_ops hE hH hF ho' _ s K a w hh (fun t ht a w hr => hK' t ht a w hr) hr)
 | true =>
  simp only [Bool.not_true, Bool.false_or] at hh
  cases hc : h.calls with
  | true =>
   rw [hc] at hh
   simp only [cond_true, callsB] at hh
   cases hB : chainB (!X.rd) (comm0 E ops h.ownB) (fun k => h.noCall (ops.size - k) k) (fun k => swB h ops k (k + 1)) .any ops ops.size 0 (Array.replicate ops.size false) with
   | false =>
    rw [hB, Bool.false_or] at hh
    generalize hp : h.pre ops.size 0 = p at hh
    generalize hm0 : (bif X.rd then 0 else Nat.min (takesN .any ops ops.size 0 (Array.replicate ops.size false)) p) = m at hh
    have hmp : m <= p := by
     rw [<- hm0]
     cases X.rd with
     | true => exact Nat.zero_le _
     | false => exact Nat.min_le_right _ _
    have hmr : m ≠ 0 -> r = none := fun h => by
     cases hrd : X.rd with
     | true => rw [hrd] at hm0; exact absurd hm0.symm h
     | false => exact round_none hF hrd
    cases hB2 : (Nat.ble p ops.size && takesB .any ops m 0 (Array.replicate ops.size false) && lexP (commR E X.b ops h.ownB (s.tm X.b)) .any ops p (p - m) m (setsL m 0 (Array.replicate ops.size false)) &&
      chainB (!X.rd) (comm0 E ops h.ownB) (fun k => h.noCall (ops.size - k) k) (fun k => swB h ops k (k + 1)) .any ops (ops.size - p) p (setsL p 0 (Array.replicate ops.size false))) with
    | false => rw [hB2] at hh; cases hh
    | true =>
     rw [hB2] at hh
     simp only [cond_true] at hh
     simp only [Bool.and_eq_true] at hB2
     obtain ⟨⟨⟨b1, b4⟩, b2⟩, b3⟩ := hB2
     have b1 := Nat.le_of_ble_eq_true b1
     have e1 : List.range' 0 ops.size = List.range' 0 m ++ (List.range' m (p - m) ++ List.range' p (ops.size - p)) := by
      have h1 := List.range'_append (s := m) (m := p - m) (n := ops.size - p) (step := 1)
      have h2 := List.range'_append (s := 0) (m := m) (n := p - m + (ops.size - p)) (step := 1)
      rw [show m + 1 * (p - m) = p by omega] at h1
      rw [show 0 + 1 * m = m by omega] at h2
      rw [h1, h2, show m + (p - m + (ops.size - p)) = ops.size by omega]
     rw [e1] at hh
     have hpl : ∀ i, i < p -> h.op i = .plain (h.ownB i) := fun i hi => Hint.pre_plain ops.size 0 i (Nat.zero_le _) (by rw [hp]; exact hi)
     obtain ⟨t1, h1, hh⟩ := runM_plainL _ s K (fun i hi => hpl i (by rw [List.mem_range'_1] at hi; omega)) hh
     obtain ⟨t2, h2, hh⟩ := runM_plainL _ t1 K (fun i hi => hpl i (by rw [List.mem_range'_1] at hi; omega)) hh
     have hv : InvK E X.b ops s s := invK_self (by obtain ⟨ρ, hr⟩ := hr; exact hr.bds)
     have hv1 := runL_keeps (keepsK hE) _ s t1 h1 hv
     refine wpIn_region_any hm ?_
     have hsets : setsL (p - m) m (setsL m 0 (Array.replicate ops.size false)) = setsL p 0 (Array.replicate ops.size false) := by
      have := setsL_add (m := p - m) m 0 (Array.replicate ops.size false)
      rw [Nat.zero_add, show m + (p - m) = p by omega] at this
      exact this
     have hfin := runL_takes (Qx := fun e a w => ∃ t, (e = .normal /\ Q .normal t) /\ Rel X.b X.n O t a w) (fuel := ops.size - m) (stepR_sound hE hF.g) hQ m 0 _ s t1 a _ hmr b4 h1 (closed_none _) hr.drew (fun a0 w0 hcl0 hr0 => by
      have hclP := lexP_closed (p - m) m _ hcl0 b2
      have hA := anyP_lex (md := .any) (keepsK hE) (fun i j hij => commR_ok hij) (p - m) m _ t1 t2 hv1 hcl0 b2 h2
      have := wpAny_of_anyP (stepR_sound hE hF.g) (Q := fun e a w => ∃ t, (e = .normal /\ Q .normal t) /\ Rel X.b X.n O t a w) (q := ops.size - p) (fun l x a w hx hr => by
       obtain ⟨⟨hl, hxt⟩, hall⟩ := hx
       subst hl; subst hxt
       rw [hsets]
       exact runM_chain hE hm hH hF ho' hQ _ p _ _ K a w (by omega) (hsets ▸ hclP) b3 hh hK' hr) (p - m) _ t1 a0 w0 hA hr0
      rw [show ops.size - p + (p - m) = ops.size - m by omega] at this
      exact this)
     rw [show ops.size - m + m = ops.size by omega] at hfin
     exact hfin
   | true =>
    rw [hB, Bool.true_or] at hh
    exact wpIn_region_any hm (runM_chain hE hm hH hF ho' hQ _ 0 _ s K a _ (by omega) (closed_none _) hB hh hK' hr.drew)
  | false =>
   rw [hc] at hh
   simp only [cond_false] at hh
   cases hB : lexC (commR E X.b ops h.ownB (s.tm X.b)) .any ops ops.size 0 (Array.replicate ops.size false) with
   | false => rw [hB] at hh; cases hh
   | true =>
    rw [hB] at hh
    obtain ⟨t, h1, h2⟩ := runM_plain hc _ s K hh
    have hv : InvK E X.b ops s s := invK_self (by obtain ⟨ρ, hr⟩ := hr; exact hr.bds)
    exact wp_region_abs hm (stepR_sound hE hF.g) (keepsK hE) hv (fun i j hij => commR_ok hij) hB hr.drew h1 (fun a w hr => hK' t h2 a w hr)
theorem Awp.rot (hE : E.OK P) (hm : P.follows .mixedOrders = true) (hH : HOK P E y H) (hF : Fits E X O r) {h : Hint} (ho' : HintOK P E h) {id : Nat} {K : St -> Option R} {Q : Exit -> St -> Prop}
  (hB : rotB E X h ops = true) (hh : runM E H X h ops (rotL ops.size) s K = some y) (hK : ∀ t, K t = some y -> Q .normal t) : Awp P X O r (.region id ops true) Q s := by
 refine Awp.imp (Q := fun e t => e = .normal /\ Q .normal t) ?_ (fun e t ht => by obtain ⟨rfl, h⟩ := ht; exact h)
 intro a w hr
 exact wpIn_region_any hm (rot_any hE hm hH hF ho' (fun c (a a' : Act) (w : World) ⟨t, ⟨e, _⟩, _⟩ => by cases e) hB hh (fun t ht a w hr => ⟨t, ⟨rfl, hK t ht⟩, hr⟩) hr.drew)
theorem Awp.regionR (hE : E.OK P) (hm : P.follows .mixedOrders = true) (hH : HOK P E y H) (hF : Fits E X O r) {h : Hint} (ho' : HintOK P E h) {id : Nat} {draw : Bool} {K : St -> Option R} {Q : Exit -> St -> Prop}
  (hh : (bif draw && rotB E X h ops then runM E H X h ops (rotL ops.size) s K else (bif !draw || (bif h.calls then callsB E X h ops (s.tm X.b) else lexC (commR E X.b ops h.ownB (s.tm X.b)) .any ops ops.size 0 (Array.replicate ops.size false)) then
     runM E H X h ops (List.range' 0 ops.size) s K else none)) = some y) (hK : ∀ t, K t = some y -> Q .normal t) : Awp P X O r (.region id ops draw) Q s := by
 cases hb : draw && rotB E X h ops with
 | false => rw [hb] at hh; exact Awp.region hE hm hH hF ho' hh hK
 | true =>
  rw [hb] at hh
  rw [Bool.and_eq_true] at hb
  obtain ⟨rfl, hb⟩ := hb
  exact Awp.rot hE hm hH hF ho' hb hh hK
theorem evC_use {f : FuncId} {p : List Dir} {c : Code} {S : Seg} {K : Exit -> St -> Option R} {Q : Exit -> St -> Prop} (hc : c = atR (codeOf E f) p) (ho : HintOK P E (.use S)) (h1 : evC E H X f p c (.use S) s K = some y)
  (hK : ∀ e t, K e t = some y -> Q e t) (hF : Fits E X O r) : Awp P X O r c Q s := by
 have h2 : (bif S.X.same X && Nat.beq S.f f && pathB S.p p then useK S s K else none) = some y := by
  cases c <;> exact h1
 cases hb : (S.X.same X && Nat.beq S.f f && pathB S.p p) with
 | false => rw [hb] at h2; cases h2
 | true =>
  rw [hb] at h2
  simp only [Bool.and_eq_true] at hb
  have e1 := Ctx.same_eq hb.1.1; have e2 := beq_of hb.1.2; have e3 := pathB_eq hb.2
  subst e1; subst e2; subst e3
  rw [hc]
  exact useK_sound ho hF h2 hK
theorem evC_range (hE : E.OK P) (hH : HOK P E y H) {f : FuncId} {p : List Dir} {g : Operand} {ps : Array Tmp} {assign body : Code} {h : Hint} {K : Exit -> St -> Option R} {Q : Exit -> St -> Prop} (hc : .rangeFunc g ps assign body = atR (codeOf E f) p) (ho : HintOK P E h)
  (hu : ∀ S, h ≠ .use S) (h1 : evC E H X f p (.rangeFunc g ps assign body) h s K = some y) (hK : ∀ e t, K e t = some y -> Q e t) (hF : Fits E X O r) : Awp P X O r (.rangeFunc g ps assign body) Q s := by
 cases h with
 | use S => exact absurd rfl (hu S)
 | rf k b hh =>
  simp only [evC] at h1
  split at h1
  ·rename_i f' caps hg
   split at h1
   ·rename_i fn cl hfn hcl
    cases hb : (!X.rd && Nat.ble s.nl k && (X.ys.all fun y => !(Nat.beq y.k k)) && X.free b && Nat.ble (1 + cl.length) fn.ntmps) with
    | false => rw [hb] at h1; cases h1
    | true =>
     rw [hb] at h1
     simp only [Bool.and_eq_true, Bool.not_eq_true'] at hb
     obtain ⟨⟨⟨⟨g1, g2⟩, g3⟩, g4⟩, g5⟩ := hb
     simp only [cond_true] at h1
     refine Awp.rangeFunc hE hF g1 hc.symm hg hfn hcl (Nat.le_of_ble_eq_true g5) g4 (Nat.le_of_ble_eq_true g2) g3 fun O' hF' => ?_
     refine hH (X.range b fn.ntmps k f p) f' [] (codeOf E f') hh _ _ _ O' none rfl ho h1 (fun e t he => ?_) hF'
     have key : (bif (retA E t b fn.results.toList).isSome then (match t.jp k with | none => K .normal t | some .ret => K .ret t | some (.exit id) => K (.exit id) t | some .busy => none) else none) = some y -> ∃ c, retA E t b fn.results.toList = some c /\ rangeQ k Q t (resA c) := fun he => by
      cases hret : retA E t b fn.results.toList with
      | none => rw [hret] at he; cases he
      | some c =>
       rw [hret] at he
       simp only [Option.isSome_some, cond_true] at he
       refine ⟨c, rfl, ?_⟩
       unfold rangeQ
       split at he
       ·rename_i hj; first | exact hK _ _ he | (rw [hj]; exact hK _ _ he)
       ·rename_i hj; first | exact hK _ _ he | (rw [hj]; exact hK _ _ he)
       ·rename_i id hj; first | exact hK _ _ he | (rw [hj]; exact hK _ _ he)
       ·cases he
     cases e with
     | normal => exact ⟨.inr rfl, key (by simpa only [Bool.true_and] using he)⟩
     | ret => exact ⟨.inl rfl, key (by simpa only [Bool.true_and] using he)⟩
     | _ => cases he
   ·cases h1
  ·cases h1
 | _ => cases h1
theorem evC_sound (hE : E.OK P) (hm : P.follows .mixedOrders = true) (hH : HOK P E y H) : HOK P E y (fun X f p c h s K => evC E H X f p c h s K) := by
 intro X f p c
 induction c generalizing p with
 | skip =>
  intro h s K Q O r hc ho h1 hK hF
  cases h with
  | use S => exact evC_use hc ho h1 hK hF
  | _ => exact Awp.skip (hK _ _ h1)
 | ret =>
  intro h s K Q O r hc ho h1 hK hF
  cases h with
  | use S => exact evC_use hc ho h1 hK hF
  | _ => exact Awp.ret (hK _ _ h1)
 | exit id =>
  intro h s K Q O r hc ho h1 hK hF
  cases h with
  | use S => exact evC_use hc ho h1 hK hF
  | _ => exact Awp.exit (hK _ _ h1)
 | label l =>
  intro h s K Q O r hc ho h1 hK hF
  cases h with
  | use S => exact evC_use hc ho h1 hK hF
  | _ => exact Awp.label (hK _ _ h1)
 | goto l =>
  intro h s K Q O r hc ho h1 hK hF
  cases h with
  | use S => exact evC_use hc ho h1 hK hF
  | _ => exact Awp.goto (hK _ _ h1)
 | region id ops draw =>
  intro h s K Q O r hc ho h1 hK hF
  cases h with
  | use S => exact evC_use hc ho h1 hK hF
  | _ => exact Awp.regionR hE hm hH hF ho h1 fun t ht => hK _ _ ht
 | seq x z ihx ihz =>
  intro h s K Q O r hc ho h1 hK hF
  have fin : ∀ h : Hint, HintOK P E h.a -> HintOK P E h.b -> (evC E H X f (.s1 :: p) x h.a s fun e t => match e with | .normal => evC E H X f (.s2 :: p) z h.b t K | e => K e t) = some y -> Awp P X O r (.seq x z) Q s := fun h ha hb h1 => by
   refine Awp.seq (ihx (.s1 :: p) h.a s _ _ O r (by rw [atR, <- hc]; rfl) ha h1 (fun e t he => ?_) hF)
   cases e with
   | normal => exact ihz (.s2 :: p) h.b t K Q O r (by rw [atR, <- hc]; rfl) hb he hK hF
   | _ => exact hK _ _ he
  cases h with
  | use S => exact evC_use hc ho h1 hK hF
  | _ => exact fin _ ho.a ho.b h1
 | cond c x z ihx ihz =>
  intro h s K Q O r hc ho h1 hK hF
  have fin : ∀ h : Hint, HintOK P E h.a -> HintOK P E h.b -> (match (s.ev X.b c).bind (asT .bool) with | some v => bif v then evC E H X f (.c1 :: p) x h.a s K else evC E H X f (.c2 :: p) z h.b s K | none => none) = some y -> Awp P X O r (.cond c x z) Q s := fun h ha hb h1 => by
   split at h1
   ·rename_i v hv
    refine Awp.cond hv (fun e => ?_) (fun e => ?_)
    ·subst e; exact ihx (.c1 :: p) h.a s K Q O r (by rw [atR, <- hc]; rfl) ha h1 hK hF
    ·subst e; exact ihz (.c2 :: p) h.b s K Q O r (by rw [atR, <- hc]; rfl) hb h1 hK hF
   ·cases h1
  cases h with
  | use S => exact evC_use hc ho h1 hK hF
  | _ => exact fin _ ho.a ho.b h1
 | block id c ih =>
  intro h s K Q O r hc ho h1 hK hF
  have fin : ∀ h : Hint, HintOK P E h.a -> (evC E H X f (.b :: p) c h.a s fun e t => match e with | .exit id' => bif Nat.beq id' id then K .normal t else K (.exit id') t | e => K e t) = some y -> Awp P X O r (.block id c) Q s := fun h ha h1 => by
   refine Awp.block (ih (.b :: p) h.a s _ _ O r (by rw [atR, <- hc]; rfl) ha h1 (fun e t he => ?_) hF)
   cases e with
   | exit id' =>
    simp only [bif_beq, inBlockA] at he ⊢
    split at he
    ·rw [if_pos (by assumption)]; exact hK _ _ he
    ·rw [if_neg (by assumption)]; exact hK _ _ he
   | _ => exact hK _ _ he
  cases h with
  | use S => exact evC_use hc ho h1 hK hF
  | _ => exact fin _ ho.a h1
 | rangeFunc g ps assign body iha ihb =>
  intro h s K Q O r hc ho h1 hK hF
  cases h with
  | use S => exact evC_use hc ho h1 hK hF
  | _ => exact evC_range hE hH hc ho (fun _ e => by cases e) h1 hK hF
 | _ =>
  intro h s K Q O r hc ho h1 hK hF
  cases h with
  | use S => exact evC_use hc ho h1 hK hF
  | _ => simp [evC] at h1
theorem evN_sound (hE : E.OK P) (hm : P.follows .mixedOrders = true) : ∀ d, HOK P E y (evN E d)
 | 0 => fun X f p c h s K Q O r _ _ h1 _ _ => by cases h1
 | d + 1 => evC_sound hE hm (evN_sound hE hm d)
end
end Go.Proofs.YtliiapjinminlaaGreat.Rf
