/- A function's code run upon plain values, in the operations' own order, and that it is what the machine does: whatever the program (part 2). No condition. -/
import Derived.Test.YtliiapjinminlaaGreatE1
namespace Go.Proofs.YtliiapjinminlaaGreat.Rf
open Go Go.RowKit Go.Proofs
set_option linter.unusedVariables false
set_option linter.unusedSimpArgs false
section
variable {P : Program} {E : Env} {b n : Nat} {us : Nat -> Nat} {nl : Nat} {bx bx' : Nat -> Option Box} {hw : How} {dst : Option Nat} {ev ev' : Operand -> Option AV} {s s' t : St} {ops : Array Oper} {own : Nat -> Bool}
def Quiet (e : Eff) : Prop := (∀ bx us, e.bx bx us = bx) /\ (∀ us, e.us us = us) /\ (∃ av, ∀ us, e.av us = av) /\ ∀ bx, e.can bx = true
def Keyed (e : Eff) (id : Nat) : Prop := ∃ (F : Nat -> Box) (G : Nat -> Nat) (A : Nat -> AV) (C : Option Box -> Bool), (∀ bx us, e.bx bx us = updB bx id (some (F (us id)))) /\ (∀ us, e.us us = updU us id (G (us id))) /\ (∀ us, e.av us = A (us id)) /\ ∀ bx, e.can bx = C (bx id)
theorem Quiet.put (av : AV) : Quiet (.put av) := ⟨fun _ _ => rfl, fun _ => rfl, ⟨av, fun _ => rfl⟩, fun _ => rfl⟩
theorem Quiet.del (av : AV) : Quiet (.del [] av) := ⟨fun _ _ => rfl, fun _ => rfl, ⟨av, fun _ => rfl⟩, fun _ => rfl⟩
theorem updU_self (us : Nat -> Nat) (id : Nat) : updU us id (us id) = us := by
 funext i; simp only [updU, bif_beq]; split
 ·rename_i e; rw [e]
 ·rfl
theorem Keyed.new (id : Nat) (av : AV) : Keyed (.new id av) id := ⟨fun v => .cells v av, fun v => v + 1, fun v => .ptr id v 0, fun o => o.isNone, fun _ _ => rfl, fun _ => rfl, fun _ => rfl, fun _ => rfl⟩
theorem Keyed.sto (id ver : Nat) (av : AV) : Keyed (.sto id ver av) id := ⟨fun _ => .cells ver av, fun v => v, fun _ => .cst undef, fun _ => true, fun _ _ => rfl, fun us => (updU_self us id).symm, fun _ => rfl, fun _ => rfl⟩
theorem Keyed.stoE (id ver : Nat) (e : TypeId) (T : Ty) (l : List T.den) : Keyed (.stoE id ver e T l) id := ⟨fun _ => .arr ver e T l, fun v => v, fun _ => .cst undef, fun _ => true, fun _ _ => rfl, fun us => (updU_self us id).symm, fun _ => rfl, fun _ => rfl⟩
theorem Keyed.arr (id : Nat) (fr : Bool) (e : TypeId) (T : Ty) (l : List T.den) : Keyed (.arr id fr e T l) id := ⟨fun v => .arr v e T l, fun v => v + 1, fun v => .arr id v, fun o => !fr || o.isNone, fun _ _ => rfl, fun _ => rfl, fun _ => rfl, fun _ => rfl⟩
theorem updB_ne {id i : Nat} {B : Option Box} (h : i ≠ id) : updB bx id B i = bx i := by simp only [updB, bif_beq]; rw [if_neg h]
theorem updU_ne {id i : Nat} {v : Nat} (h : i ≠ id) : updU us id v i = us i := by simp only [updU, bif_beq]; rw [if_neg h]
theorem updB_at {id : Nat} {B : Option Box} : updB bx id B id = B := by simp [updB]
def Dis (ex ey : Eff) : Prop := Quiet ex \/ Quiet ey \/ ∃ i j, Keyed ex i /\ Keyed ey j /\ i ≠ j
theorem Dis.eqs {ex ey : Eff} (h : Dis ex ey) (bx : Nat -> Option Box) (us : Nat -> Nat) :
  ey.bx (ex.bx bx us) (ex.us us) = ex.bx (ey.bx bx us) (ey.us us) /\ ey.us (ex.us us) = ex.us (ey.us us) /\ ey.av (ex.us us) = ey.av us /\ ex.av (ey.us us) = ex.av us /\ ey.can (ex.bx bx us) = ey.can bx /\ (ex.can bx = true -> ex.can (ey.bx bx us) = true) := by
 rcases h with ⟨q1, q2, ⟨av, q3⟩, q4⟩ | ⟨q1, q2, ⟨av, q3⟩, q4⟩ | ⟨i, j, ⟨F, G, A, C, k1, k2, k3, k4⟩, ⟨F', G', A', C', l1, l2, l3, l4⟩, hij⟩
 ·simp [q1, q2, q3, q4]
 ·simp [q1, q2, q3, q4]
 ·refine ⟨?_, ?_, ?_, ?_, ?_, ?_⟩
  ·rw [k1, k2, l1, l1, l2, k1, updU_ne (Ne.symm hij), updU_ne hij]
   funext t
   simp only [updB, bif_beq]
   split <;> split <;> simp_all
  ·rw [k2, l2, l2, k2, updU_ne (Ne.symm hij), updU_ne hij]
   funext t
   simp only [updU, bif_beq]
   split <;> split <;> simp_all
  ·rw [l3, l3, k2, updU_ne (Ne.symm hij)]
  ·rw [k3, k3, l2, updU_ne hij]
  ·rw [l4, l4, k1, updB_ne (Ne.symm hij)]
  ·rw [k4, k4, l1, updB_ne hij]; exact id
theorem updT_comm {tm : Nat -> Nat -> Option AV} {d d' : Option Nat} {v v' : AV} (h : ∀ k, d = some k -> d' ≠ some k) : updT (updT tm b d v) b d' v' = updT (updT tm b d' v') b d v := by
 cases d with
 | none => rfl
 | some k =>
  cases d' with
  | none => rfl
  | some k' =>
   have hk : k ≠ k' := fun e => h k rfl (by rw [e])
   funext f t
   simp only [updT]
   cases h1 : Nat.beq t k <;> cases h2 : Nat.beq t k' <;> cases h3 : Nat.beq f b <;> first | rfl | skip
   exact absurd ((Nat.eq_of_beq_eq_true h1).symm.trans (Nat.eq_of_beq_eq_true h2)) hk
structure InvR (b : Nat) (ops : Array Oper) (s0 s : St) : Prop where
 bd : BD (s.ev b) s.bx s.us s.nl
 same : ∀ t, (ops.any fun o => o.dst == some t) = false -> s.tm b t = s0.tm b t
theorem stepR_spec {i : Nat} (h : stepR E own b n ops i s = some t) : ∃ o c e, ops[i]? = some o /\ wantA b ops s o = some c /\ (bif c then evalOp E ⟨b, own i⟩ o.dst (s.ev b) s.bx o.op else some (.put (.cst undef))) = some e /\ s.app b n o.dst e = some t := by
 simp only [stepR, Option.bind_eq_some_iff] at h
 obtain ⟨o, ho, c, hc, e, he, h⟩ := h
 exact ⟨o, c, e, ho, hc, he, h⟩
theorem app_of {d : Option Nat} {e : Eff} (h1 : (d.all fun d => Nat.blt d n) = true) (h2 : e.can s.bx = true) : s.app b n d e = some ⟨updT s.tm b d (e.av s.us), e.bx s.bx s.us, e.us s.us, s.nl, s.jp⟩ := by
 unfold St.app
 rw [h1, h2]; rfl
theorem ev_updT {x : Operand} {d : Option Nat} {v : AV} {tm : Nat -> Nat -> Option AV} (h : ∀ k, d = some k -> x ≠ .tmp k) (bx : Nat -> Option Box) (us : Nat -> Nat) (nl : Nat) (jp : Nat -> Option Jmp) (s : St) (hs : s.tm = tm) :
  St.ev ⟨updT tm b d v, bx, us, nl, jp⟩ b x = s.ev b x := by
 cases x with
 | tmp t =>
  simp only [St.ev, hs]
  cases d with
  | none => rfl
  | some k =>
   have hne : t ≠ k := fun e => h k rfl (by rw [e])
   have : Nat.beq t k = false := Bool.eq_false_iff.2 fun e => hne (Nat.eq_of_beq_eq_true e)
   simp [updT, this]
 | _ => rfl
theorem want_updT {o : Oper} {d : Option Nat} {v : AV} (h : ∀ k, d = some k -> k ∉ o.looksAt ops) (bx : Nat -> Option Box) (us : Nat -> Nat) (nl : Nat) (jp : Nat -> Option Jmp) :
  wantA b ops ⟨updT s.tm b d v, bx, us, nl, jp⟩ o = wantA b ops s o := by
 unfold wantA
 cases hg : o.guard with
 | none => rfl
 | some q =>
  obtain ⟨j, want⟩ := q
  simp only
  cases hd : (ops[j]?).bind (·.dst) with
  | none => rfl
  | some g =>
   simp only [Option.bind_some]
   have : updT s.tm b d v b g = s.tm b g := by
    cases d with
    | none => rfl
    | some k =>
     have hne : g ≠ k := fun e => h k rfl (by simp [Oper.looksAt, hg, hd, e])
     have : Nat.beq g k = false := Bool.eq_false_iff.2 fun e => hne (Nat.eq_of_beq_eq_true e)
     simp [updT, this]
   rw [this]
theorem comm_core {i j : Nat} {x y : Oper} {cx cy : Bool} {ex ey : Eff} (hx : ops[i]? = some x) (hy : ops[j]? = some y) (hap : x.apart ops y = true)
  (wx : wantA b ops s x = some cx) (h1 : (bif cx then evalOp E ⟨b, own i⟩ x.dst (s.ev b) s.bx x.op else some (.put (.cst undef))) = some ex) (a1 : (x.dst.all fun d => Nat.blt d n) = true) (a2 : ex.can s.bx = true)
  (wy : wantA b ops ⟨updT s.tm b x.dst (ex.av s.us), ex.bx s.bx s.us, ex.us s.us, s.nl, s.jp⟩ y = some cy) (c1 : (y.dst.all fun d => Nat.blt d n) = true) (c2 : ey.can (ex.bx s.bx s.us) = true)
  (hA : (bif cy then evalOp E ⟨b, own j⟩ y.dst (s.ev b) s.bx y.op else some (.put (.cst undef))) = some ey)
  (hB : (bif cx then evalOp E ⟨b, own i⟩ x.dst (s.ev b) (ey.bx s.bx s.us) x.op else some (.put (.cst undef))) = some ex) (hd : Dis ex ey) :
  ∃ t, stepR E own b n ops j s = some t /\ stepR E own b n ops i t = some ⟨updT (updT s.tm b x.dst (ex.av s.us)) b y.dst (ey.av (ex.us s.us)), ey.bx (ex.bx s.bx s.us) (ex.us s.us), ey.us (ex.us s.us), s.nl, s.jp⟩ := by
 obtain ⟨p1, p2, p3⟩ := Oper.apart_spec hap
 obtain ⟨e1, e2, e3, e4, e5, e6⟩ := hd.eqs s.bx s.us
 rw [want_updT p1] at wy
 refine ⟨⟨updT s.tm b y.dst (ey.av s.us), ey.bx s.bx s.us, ey.us s.us, s.nl, s.jp⟩, ?_, ?_⟩
 ·simp only [stepR, hy, Option.bind_some, wy, hA]
  exact app_of c1 (by rw [<- e5]; exact c2)
 ·have hev : ∀ z ∈ x.op.operands, St.ev ⟨updT s.tm b y.dst (ey.av s.us), ey.bx s.bx s.us, ey.us s.us, s.nl, s.jp⟩ b z = s.ev b z := fun z hz => ev_updT (fun k hk hzk => p3 k hk (by
   subst hzk
   exact List.mem_append_left _ (List.mem_filterMap.2 ⟨.tmp k, by simpa using hz, rfl⟩))) _ _ _ _ s rfl
  simp only [stepR, hx, Option.bind_some, want_updT p3, wx]
  rw [evalOp_congr (ev' := s.ev b) hev, hB]
  simp only [Option.bind_some]
  rw [app_of a1 (e6 a2)]
  simp only [e4, e3, e1, e2]
  rw [updT_comm (d := x.dst) (d' := y.dst) fun k hk => p2 k hk]
def isNilC : List Operand -> Bool
 | .const (.slice none 0 0) :: _ => true
 | _ => false
def opc (E : Env) (own : Bool) : Op -> Nat
 | .move _ | .assign _ | .pick _ _ _ | .build _ _ | .field _ _ _ | .extract _ _ | .unOp _ _ _ | .convert _ _ _ | .makeFunc _ _ _ | .index _ _ _ | .slice _ _ _ _ _ => 0
 | .makeSlice _ _ _ => 4
 | .binOp _ t _ _ _ => bif E.pt t then 1 else 0
 | .buildSlice _ _ _ => bif own then 4 else 0
 | .fieldAddr _ _ _ | .nilCheck _ | .indexAddr _ _ _ => 1
 | .load _ _ => 2
 | .alloc _ | .box _ _ => 4
 | .store _ _ _ => 7
 | .call ⟨.value (.tmp _), _, _⟩ => 3
 | .call ⟨.builtin .len, _, _⟩ => 3
 | .call ⟨.builtin .append, as, _⟩ => bif isNilC as.toList then 5 else 6
 | .call ⟨.value (.func f), _, _⟩ => match E.tab f with
  | some S => bif freeL S.res || freeL S.args || !own then 3 else 8
  | none => match E.cln f with
   | some _ => 5
   | none => 3
 | _ => 8
def KeyedN (e : Eff) (id : Nat) : Prop := Keyed e id /\ ∀ bx us, ∃ B, B.ver = us id /\ e.bx bx us = updB bx id (some B)
theorem KeyedN.new (id : Nat) (av : AV) : KeyedN (.new id av) id := ⟨Keyed.new id av, fun _ us => ⟨.cells (us id) av, rfl, rfl⟩⟩
theorem KeyedN.arr (id : Nat) (fr : Bool) (e : TypeId) (T : Ty) (l : List T.den) : KeyedN (.arr id fr e T l) id := ⟨Keyed.arr id fr e T l, fun _ us => ⟨.arr (us id) e T l, rfl, rfl⟩⟩
theorem opc_eff {own : Bool} {b : Nat} {op : Op} {e : Eff} (hcst : ∀ c, ev (.const c) = some (.cst c)) (h : evalOp E ⟨b, own⟩ dst ev bx op = some e) :
  (opc E own op <= 3 -> Quiet e) /\ (opc E own op = 4 \/ opc E own op = 5 -> KeyedN e (newId ⟨b, own⟩ dst) /\ (e.can bx = true -> bx (newId ⟨b, own⟩ dst) = none)) /\ (opc E own op = 6 -> ∃ id, KeyedN e id) /\
  (opc E own op = 7 -> ∃ id, Keyed e id /\ (bx id).isSome = true) := by
 have q : ∀ {k : Nat}, k <= 3 -> Quiet e -> (k <= 3 -> Quiet e) /\ (k = 4 \/ k = 5 -> KeyedN e (newId ⟨b, own⟩ dst) /\ (e.can bx = true -> bx (newId ⟨b, own⟩ dst) = none)) /\ (k = 6 -> ∃ id, KeyedN e id) /\ (k = 7 -> ∃ id, Keyed e id /\ (bx id).isSome = true) :=
  fun hl hq => ⟨fun _ => hq, fun h => (by omega), fun h => (by omega), fun h => (by omega)⟩
 have p : ∀ {k : Nat} {av : AV}, k <= 3 -> e = .put av -> (k <= 3 -> Quiet e) /\ (k = 4 \/ k = 5 -> KeyedN e (newId ⟨b, own⟩ dst) /\ (e.can bx = true -> bx (newId ⟨b, own⟩ dst) = none)) /\ (k = 6 -> ∃ id, KeyedN e id) /\ (k = 7 -> ∃ id, Keyed e id /\ (bx id).isSome = true) :=
  fun hl he => q hl (he ▸ Quiet.put _)
 have new : ∀ {k : Nat} {av : AV}, k = 4 -> e = .new (newId ⟨b, own⟩ dst) av -> (k <= 3 -> Quiet e) /\ (k = 4 \/ k = 5 -> KeyedN e (newId ⟨b, own⟩ dst) /\ (e.can bx = true -> bx (newId ⟨b, own⟩ dst) = none)) /\ (k = 6 -> ∃ id, KeyedN e id) /\ (k = 7 -> ∃ id, Keyed e id /\ (bx id).isSome = true) :=
  fun hl he => ⟨fun h => (by omega), fun _ => ⟨he ▸ KeyedN.new _ _, fun hc => by rw [he] at hc; simpa [Eff.can] using hc⟩, fun h => (by omega), fun h => (by omega)⟩
 have arr : ∀ {k : Nat} {f : TypeId} {T : Ty} {l : List T.den}, k = 4 \/ k = 5 -> e = .arr (newId ⟨b, own⟩ dst) true f T l -> (k <= 3 -> Quiet e) /\ (k = 4 \/ k = 5 -> KeyedN e (newId ⟨b, own⟩ dst) /\ (e.can bx = true -> bx (newId ⟨b, own⟩ dst) = none)) /\ (k = 6 -> ∃ id, KeyedN e id) /\ (k = 7 -> ∃ id, Keyed e id /\ (bx id).isSome = true) :=
  fun hl he => ⟨fun h => (by omega), fun _ => ⟨he ▸ KeyedN.arr _ _ _ _ _, fun hc => by rw [he] at hc; simpa [Eff.can] using hc⟩, fun h => (by omega), fun h => (by omega)⟩
 cases op <;> simp only [evalOp] at h
 case move x => rw [Option.map_eq_some_iff] at h; obtain ⟨av, _, e1⟩ := h; exact p (by simp [opc]) e1.symm
 case assign x => rw [Option.map_eq_some_iff] at h; obtain ⟨av, _, e1⟩ := h; exact p (by simp [opc]) e1.symm
 case load t x =>
  simp only [Option.bind_eq_some_iff, Option.map_eq_some_iff] at h
  obtain ⟨_, _, _, _, _, _, e1⟩ := h
  exact p (by simp [opc]) e1.symm
 case store t x y =>
  simp only [Option.bind_eq_some_iff] at h
  obtain ⟨q, hq, z, hz, av, hav, h⟩ := h
  refine ⟨fun h => absurd h (by simp [opc]), fun h => absurd h (by simp [opc]), fun h => absurd h (by simp [opc]), fun _ => ?_⟩
  unfold storeA at h
  split at h
  ·rename_i id ver off
   split at h
   ·rename_i ver' c hB
    cases hv : (Nat.beq ver ver' && z.fit && Nat.beq z.size q.1) with
    | false => rw [hv] at h; cases h
    | true =>
     rw [hv] at h
     simp only [cond_true] at h
     split at h
     ·cases h; exact ⟨id, Keyed.sto _ _ _, by rw [hB]; rfl⟩
     ·cases h
   ·cases h
  ·rename_i id ver sz i off
   split at h
   ·rename_i ver' f T l U hB hU
    cases hv : (Nat.beq ver ver' && Nat.beq sz T.size) with
    | false => rw [hv] at h; cases h
    | true =>
     rw [hv] at h
     simp only [cond_true] at h
     split at h
     ·rw [Option.bind_eq_some_iff] at h
      obtain ⟨y0, hy0, h⟩ := h
      split at h
      ·cases h; exact ⟨id, Keyed.stoE _ _ _ _ _, by rw [hB]; rfl⟩
      ·cases h
     ·cases h
   ·cases h
  ·cases h
 case alloc t =>
  rw [Option.map_eq_some_iff] at h
  obtain ⟨q, hq, e1⟩ := h
  exact new (by simp [opc]) e1.symm
 case box t x =>
  rw [Option.bind_eq_some_iff] at h
  obtain ⟨av, hav, h⟩ := h
  exact beq_box h fun e1 _ => new (by simp [opc]) e1.symm
 case pick c x y =>
  simp only [Option.bind_eq_some_iff (x := (ev c).bind _), Option.map_eq_some_iff] at h
  obtain ⟨_, _, _, _, e1⟩ := h
  exact p (by simp [opc]) e1.symm
 case build t ps =>
  rw [Option.bind_eq_some_iff] at h
  obtain ⟨q, hq, h⟩ := h
  split at h
  ·rw [Option.bind_eq_some_iff] at h
   obtain ⟨x, hx, h⟩ := h
   exact beq_box h fun e1 _ => p (by simp [opc]) e1.symm
  ·cases h
 case buildSlice t len ps =>
  rw [Option.bind_eq_some_iff] at h
  obtain ⟨U, hU, h⟩ := h
  split at h
  ·split at h
   ·rw [Option.bind_eq_some_iff] at h
    obtain ⟨l, hl, h⟩ := h
    cases ho : own with
    | false => rw [ho] at h; cases h; exact p (by simp [opc]) rfl
    | true =>
     rw [ho] at h
     simp only [cond_true, Option.map_eq_some_iff] at h
     obtain ⟨q, hq, e1⟩ := h
     rw [ho] at arr
     exact arr (.inl (by simp [opc])) e1.symm
   ·cases h
  ·cases h
 case makeSlice t x y =>
  rw [Option.bind_eq_some_iff] at h
  obtain ⟨U, hU, h⟩ := h
  split at h
  ·simp only [Option.bind_eq_some_iff (x := E.el t), Option.bind_eq_some_iff (x := (ev x).bind asI), Option.bind_eq_some_iff (x := (ev y).bind asI)] at h
   obtain ⟨q, hq, m, hm, m', hm', h⟩ := h
   split at h
   ·cases h; exact arr (.inl (by simp [opc])) rfl
   ·cases h
  ·cases h
 case slice t x lo hi mx =>
  rw [Option.bind_eq_some_iff] at h
  obtain ⟨U, hU, h⟩ := h
  split at h
  ·cases mx with
   | some m =>
    cases lo with
    | some o' => simp at h
    | none =>
     simp only [Option.isNone_some, cond_false, Option.isNone_none, cond_true, Option.bind_eq_some_iff (x := (ev x).bind _), Option.bind_eq_some_iff (x := boundA _ _ _)] at h
     obtain ⟨l, hl, j, hj1, m', hm1, h⟩ := h
     split at h
     ·cases h; exact p (by simp [opc]) rfl
     ·cases h
   | none =>
    simp only [Option.isNone_none, cond_true, Option.bind_eq_some_iff (x := (ev x).bind _), Option.bind_eq_some_iff (x := boundA _ _ _)] at h
    obtain ⟨l, hl, i, hi1, j, hj1, h⟩ := h
    split at h
    ·cases h; exact p (by simp [opc]) rfl
    ·cases h
  ·cases h
 case field t x f =>
  simp only [Option.bind_eq_some_iff (x := ev x), Option.bind_eq_some_iff (x := E.fld t f), Option.bind_eq_some_iff (x := E.lay _)] at h
  obtain ⟨av, hav, q, hq, y, hy, h⟩ := h
  cases hc : (av.agg && av.fit) with
  | false => rw [hc] at h; cases h
  | true =>
   rw [hc] at h
   simp only [cond_true, Option.bind_eq_some_iff] at h
   obtain ⟨_, _, h⟩ := h
   exact beq_box h fun e1 _ => p (by simp [opc]) e1.symm
 case fieldAddr t x f =>
  rw [Option.bind_eq_some_iff] at h
  obtain ⟨q, hq, h⟩ := h
  cases hc : (E.lay q.2).isSome with
  | false => rw [hc] at h; cases h
  | true =>
   rw [hc] at h
   simp only [cond_true, Option.bind_eq_some_iff] at h
   obtain ⟨av, hav, h⟩ := h
   split at h
   ·exact beq_box h fun e1 _ => p (by simp [opc]) e1.symm
   ·split at h
    ·exact beq_box h fun e1 _ => p (by simp [opc]) e1.symm
    ·cases h
   ·cases h; exact p (by simp [opc]) rfl
   ·cases h
 case nilCheck x =>
  rw [Option.bind_eq_some_iff] at h
  obtain ⟨av, hav, h⟩ := h
  split at h
  ·exact beq_box h fun e1 _ => p (by simp [opc]) e1.symm
  ·split at h
   ·exact beq_box h fun e1 _ => p (by simp [opc]) e1.symm
   ·cases h
  ·cases h; exact p (by simp [opc]) rfl
  ·cases h
 case indexAddr t x i =>
  simp only [Option.bind_eq_some_iff, Option.map_eq_some_iff] at h
  obtain ⟨_, _, _, _, _, _, e1⟩ := h
  exact p (by simp [opc]) e1.symm
 case index t x i =>
  split at h
  ·rw [Option.bind_eq_some_iff] at h
   obtain ⟨av, hav, h⟩ := h
   split at h
   ·rw [Option.bind_eq_some_iff] at h
    obtain ⟨m, hm, h⟩ := h
    split at h
    ·rw [Option.map_eq_some_iff] at h
     obtain ⟨y, _, e1⟩ := h
     exact p (by simp [opc]) e1.symm
    ·cases h
   ·cases h
  ·cases h
 case extract x k =>
  rw [Option.bind_eq_some_iff] at h
  obtain ⟨av, hav, h⟩ := h
  split at h
  ·rw [Option.map_eq_some_iff] at h
   obtain ⟨_, _, e1⟩ := h
   exact p (by simp [opc]) e1.symm
  ·cases h
 case binOp op t x y t' =>
  have hl : opc E own (.binOp op t x y t') <= 3 := by simp only [opc]; cases E.pt t <;> simp
  cases hpt : E.pt t with
  | true =>
   rw [hpt] at h
   simp only [cond_true] at h
   split at h
   ·exact beq_box h fun e1 _ => p hl e1.symm
   ·exact beq_box h fun e1 _ => p hl e1.symm
   ·cases h
  | false =>
   rw [hpt] at h
   simp only [cond_false, Option.bind_eq_some_iff (x := E.ty t)] at h
   obtain ⟨U, hU, h⟩ := h
   cases U with
   | int k =>
    simp only [Option.bind_eq_some_iff (x := (ev x).bind _)] at h
    obtain ⟨_, _, h⟩ := h
    split at h <;> (simp only [Option.bind_eq_some_iff, Option.map_eq_some_iff] at h; obtain ⟨_, _, _, _, e1⟩ := h; exact p hl e1.symm)
   | bool =>
    simp only [Option.bind_eq_some_iff (x := (ev x).bind _), Option.bind_eq_some_iff (x := (ev y).bind _)] at h
    obtain ⟨_, _, _, _, h⟩ := h
    split at h <;> cases h <;> exact p hl rfl
   | pair A B =>
    simp only [Option.bind_eq_some_iff (x := (ev x).bind _), Option.bind_eq_some_iff (x := (ev y).bind _)] at h
    obtain ⟨_, _, _, _, h⟩ := h
    split at h
    ·split at h <;> cases h <;> exact p hl rfl
    ·cases h
   | list T => cases h
 case unOp op t x =>
  rw [Option.bind_eq_some_iff] at h
  obtain ⟨U, hU, h⟩ := h
  split at h
  ·rw [Option.map_eq_some_iff] at h; obtain ⟨y, _, e1⟩ := h; exact p (by simp [opc]) e1.symm
  ·rw [Option.map_eq_some_iff] at h; obtain ⟨y, _, e1⟩ := h; exact p (by simp [opc]) e1.symm
  ·rw [Option.map_eq_some_iff] at h; obtain ⟨y, _, e1⟩ := h; exact p (by simp [opc]) e1.symm
  ·cases h
 case convert t t' x =>
  simp only [Option.bind_eq_some_iff (x := E.ty t), Option.bind_eq_some_iff (x := E.ty t')] at h
  obtain ⟨U, hU, V, hV, h⟩ := h
  split at h
  ·rw [Option.map_eq_some_iff] at h; obtain ⟨y, _, e1⟩ := h; exact p (by simp [opc]) e1.symm
  ·cases h
 case makeFunc f first caps =>
  cases f with
  | func f =>
   simp only at h
   cases hc : first.isEmpty with
   | false => rw [hc] at h; cases h
   | true =>
    rw [hc] at h
    simp only [cond_true, Option.map_eq_some_iff] at h
    obtain ⟨c, hc, e1⟩ := h
    exact p (by simp [opc]) e1.symm
  | _ => cases h
 case call c =>
  obtain ⟨callee, args, ats⟩ := c
  split at h
  ·rename_i f hdf
   obtain ⟨t, rfl, _⟩ := dynF_some hdf
   simp only [dynCall] at h
   split at h
   ·exact beq_none h fun h => by
     simp only [Option.bind_eq_some_iff, Option.map_eq_some_iff] at h
     obtain ⟨xs, hxs, r, hr, e1⟩ := h
     exact p (by simp [opc]) e1.symm
   ·cases h
  simp only [evalCall] at h
  split at h
  ·rename_i f
   split at h
   ·rename_i S hS
    simp only [Option.bind_eq_some_iff] at h
    obtain ⟨xs, hxs, r, hr, e1⟩ := h
    simp only [opc, hS]
    unfold specE at e1
    cases hf : freeL S.res with
    | true =>
     rw [hf] at e1
     cases e1
     exact p (by simp) rfl
    | false =>
     rw [hf] at e1
     cases ho : own with
     | true =>
      rw [ho] at e1
      simp only [cond_false, cond_true, Option.some.injEq] at e1
      cases hf2 : freeL S.args with
      | true =>
       rw [asBL_free _ _ _ hf2 hxs] at e1
       have := @q 3 (by decide) (e1 ▸ Quiet.del _)
       rw [ho] at this
       simpa using this
      | false => exact ⟨fun h => absurd h (by simp), fun h => absurd h (by simp), fun h => absurd h (by simp), fun h => absurd h (by simp)⟩
     | false =>
      rw [ho] at e1
      have hp : ∃ av, e = .put av := by
       revert e1
       cases (idsL (args.toList.map ev)).isEmpty with
       | true => intro e1; cases e1; exact ⟨_, rfl⟩
       | false => intro e1; cases e1
      obtain ⟨av, hav⟩ := hp
      have := @p 3 av (by decide) hav
      rw [ho] at this
      simpa using this
   ·rename_i hS
    simp only [opc, hS]
    split at h
    ·rename_i t hc
     simp only [hc]
     split at h
     ·rw [Option.bind_eq_some_iff] at h
      obtain ⟨l, hl, h⟩ := h
      split at h
      ·cases h; simpa using arr (k := 5) (.inr rfl) rfl
      ·cases h
     ·cases h
    ·split at h
     ·exact beq_none h fun h => by
       simp only [Option.bind_eq_some_iff, Option.map_eq_some_iff] at h
       obtain ⟨xs, hxs, r, hr, e1⟩ := h
       exact p (by first | simp | simp [*]) e1.symm
     ·cases h
  ·rw [Option.bind_eq_some_iff] at h
   obtain ⟨U, hU, h⟩ := h
   split at h
   ·rw [Option.map_eq_some_iff] at h; obtain ⟨y, _, e1⟩ := h; exact p (by simp [opc]) e1.symm
   ·cases h
  ·split at h
   ·split at h
    ·split at h
     ·rename_i T e0 by_ x y ht hel hxy
      rw [Option.bind_eq_some_iff] at h
      obtain ⟨m, hm, h⟩ := h
      obtain ⟨x1, y1, hargs, hx1, hy1⟩ := map_two hxy
      simp only [opc, hargs]
      split at h
      ·
       have hn : isNilC [x1, y1] = false := by
        cases hc : isNilC [x1, y1] with
        | false => rfl
        | true =>
         exfalso
         unfold isNilC at hc
         split at hc
         ·rename_i l heq
          cases heq
          rw [hcst] at hx1
          cases hx1
         ·cases hc
       rw [hn]
       split at h
       ·split at h
        ·split at h
         ·cases h
          exact ⟨fun h => absurd h (by simp), fun h => absurd h (by simp), fun _ => ⟨_, KeyedN.arr _ _ _ _ _⟩, fun h => absurd h (by simp)⟩
         ·cases h
        ·cases h
       ·cases h
      ·split at h
       ·cases h
        cases hn : isNilC [x1, y1] with
        | true => simpa using arr (k := 5) (.inr rfl) rfl
        | false => exact ⟨fun h => absurd h (by simp), fun h => absurd h (by simp), fun _ => ⟨_, KeyedN.arr _ _ _ _ _⟩, fun h => absurd h (by simp)⟩
       ·cases h
      ·cases h
     ·cases h
    ·cases h
   ·cases h
  ·cases h
 all_goals cases h
end
section
variable {P : Program} {E : Env} {b n : Nat} {us : Nat -> Nat} {nl : Nat} {bx bx' : Nat -> Option Box} {hw : How} {dst : Option Nat} {ev ev' : Operand -> Option AV} {s s' s0 t : St} {ops : Array Oper} {own : Nat -> Bool}
theorem opc_call (own : Bool) (c : Call) : opc E own (.call c) = 3 \/ opc E own (.call c) = 5 \/ opc E own (.call c) = 6 \/ opc E own (.call c) = 8 := by
 obtain ⟨callee, args, ats⟩ := c
 cases callee with
 | value f =>
  cases f with
  | func f =>
   simp only [opc]
   cases E.tab f with
   | none => simp only; cases E.cln f <;> simp
   | some S => simp only; cases (freeL S.res || freeL S.args || !own) <;> simp
  | tmp t => simp [opc]
  | _ => simp [opc]
 | invoke r m => simp [opc]
 | builtin bi => cases bi <;> first | (simp [opc]; done) | (simp only [opc]; cases isNilC args.toList <;> simp)
theorem pure_same {own : Bool} {b : Nat} {op : Op} (h : opc E own op = 0 \/ opc E own op = 4) : evalOp E ⟨b, own⟩ dst ev bx op = evalOp E ⟨b, own⟩ dst ev bx' op := by
 cases op <;> first | rfl | skip
 case load t x => simp [opc] at h
 case store t x y => simp [opc] at h
 case fieldAddr t x f => simp [opc] at h
 case nilCheck x => simp [opc] at h
 case indexAddr t x i => simp [opc] at h
 case binOp op t x y t' =>
  simp only [opc] at h
  simp only [evalOp]
  cases hp : E.pt t with
  | true => rw [hp] at h; simp at h
  | false => rfl
 case makeFunc f first caps => cases f <;> rfl
 case call c => have := opc_call (E := E) own c; omega
def Skel (bx bx' : Nat -> Option Box) : Prop := ∀ id, match bx id, bx' id with
 | some (.cells v _), some (.cells v' _) => v = v'
 | some (.arr v e T l), some (.arr v' e' T' l') => v = v' /\ e = e' /\ T = T' /\ l.length = l'.length
 | none, none => True
 | _, _ => False
theorem Skel.symm (h : Skel bx bx') : Skel bx' bx := fun id => by
 have := h id
 revert this
 cases bx id with
 | none => cases bx' id with
  | none => exact fun h => h
  | some B => exact fun h => by cases B <;> exact h
 | some B =>
  cases B with
  | cells v av => cases bx' id with
   | none => exact fun h => h
   | some B' => cases B' with
    | cells v' av' => exact fun h => h.symm
    | arr _ _ _ _ => exact fun h => h
  | arr v e T l => cases bx' id with
   | none => exact fun h => h
   | some B' => cases B' with
    | cells v' av' => exact fun h => h
    | arr v' e' T' l' => exact fun h => ⟨h.1.symm, h.2.1.symm, h.2.2.1.symm, h.2.2.2.symm⟩
theorem Skel.ver (h : Skel bx bx') {id : Nat} {B : Box} (hB : bx id = some B) : ∃ B', bx' id = some B' /\ B'.ver = B.ver := by
 have := h id
 rw [hB] at this
 cases B with
 | cells v av =>
  cases hb : bx' id with
  | none => rw [hb] at this; exact this.elim
  | some B' => cases B' with
   | cells v' av' => rw [hb] at this; exact ⟨_, rfl, Eq.symm this⟩
   | arr _ _ _ _ => rw [hb] at this; exact this.elim
 | arr v e T l =>
  cases hb : bx' id with
  | none => rw [hb] at this; exact this.elim
  | some B' => cases B' with
   | cells v' av' => rw [hb] at this; exact this.elim
   | arr v' e' T' l' => rw [hb] at this; exact ⟨_, rfl, this.1.symm⟩
theorem Skel.arr (h : Skel bx bx') {id ver : Nat} {e : TypeId} {T : Ty} {l : List T.den} (hB : bx id = some (.arr ver e T l)) : ∃ l' : List T.den, bx' id = some (.arr ver e T l') /\ l'.length = l.length := by
 have := h id
 rw [hB] at this
 cases hb : bx' id with
 | none => rw [hb] at this; exact this.elim
 | some B' => cases B' with
  | cells v' av' => rw [hb] at this; exact this.elim
  | arr v' e' T' l' =>
   rw [hb] at this
   obtain ⟨rfl, rfl, rfl, h4⟩ := this
   exact ⟨l', rfl, h4.symm⟩
theorem isPtr_skel (h : Skel bx bx') {av : AV} (hp : isPtr bx av = true) : isPtr bx' av = true := by
 obtain ⟨id, ver, off, B, rfl, hB, hv⟩ := isPtr_box hp
 obtain ⟨B', hB', hv'⟩ := h.ver hB
 simp [isPtr, hB', hv', hv]
theorem skel_same {own : Bool} {b : Nat} {op : Op} {e : Eff} (hs : Skel bx bx') (hc : opc E own op = 1) (h : evalOp E ⟨b, own⟩ dst ev bx op = some e) : evalOp E ⟨b, own⟩ dst ev bx' op = some e := by
 cases op
 case fieldAddr t x f =>
  simp only [evalOp] at h ⊢
  rw [Option.bind_eq_some_iff] at h ⊢
  obtain ⟨q, hq, h⟩ := h
  refine ⟨q, hq, ?_⟩
  cases hc : (E.lay q.2).isSome with
  | false => rw [hc] at h; cases h
  | true =>
   rw [hc] at h
   simp only [cond_true, Option.bind_eq_some_iff] at h ⊢
   obtain ⟨av, hav, h⟩ := h
   refine ⟨av, hav, ?_⟩
   split at h
   ·rename_i id ver off
    cases hp : isPtr bx (.ptr id ver off) with
    | false => rw [hp] at h; cases h
    | true => rw [hp] at h; rw [isPtr_skel hs hp]; exact h
   ·rename_i id ver sz i off
    split at h
    ·rename_i ver' f T l hB
     obtain ⟨l', hB', _⟩ := hs.arr hB
     rw [hB']
     exact h
    ·cases h
   ·exact h
   ·cases h
 case nilCheck x =>
  simp only [evalOp] at h ⊢
  rw [Option.bind_eq_some_iff] at h ⊢
  obtain ⟨av, hav, h⟩ := h
  refine ⟨av, hav, ?_⟩
  split at h
  ·rename_i id ver off
   cases hp : isPtr bx (.ptr id ver off) with
   | false => rw [hp] at h; cases h
   | true => rw [hp] at h; rw [isPtr_skel hs hp]; exact h
  ·rename_i id ver sz i off
   split at h
   ·rename_i ver' f T l hB
    obtain ⟨l', hB', _⟩ := hs.arr hB
    rw [hB']
    exact h
   ·cases h
  ·exact h
  ·cases h
 case indexAddr t x i =>
  simp only [evalOp] at h ⊢
  simp only [Option.bind_eq_some_iff, Option.map_eq_some_iff] at h ⊢
  obtain ⟨av, hav, j, hj, p, hp, e⟩ := h
  refine ⟨av, hav, j, hj, p, ?_, e⟩
  unfold idxA at hp ⊢
  split at hp
  ·split at hp
   ·split at hp
    ·rename_i id ver off k _ q _ m
     cases hc : (Nat.blt m _ && isPtr bx (.ptr id ver off)) with
     | false => rw [hc] at hp; cases hp
     | true =>
      rw [hc] at hp
      rw [Bool.and_eq_true] at hc
      rw [hc.1, isPtr_skel hs hc.2]
      exact hp
    ·cases hp
   ·cases hp
  ·split at hp
   ·rename_i T hT
    split at hp
    ·rename_i id ver
     split at hp
     ·rename_i ver' e T' l hB
      obtain ⟨l', hB', hl⟩ := hs.arr hB
      rw [hB']
      cases hv : (Nat.beq ver ver' && decide (T' = T)) with
      | false => rw [hv] at hp; cases hp
      | true =>
       rw [hv] at hp
       simp only [cond_true, hv, Option.bind_eq_some_iff] at hp ⊢
       obtain ⟨m, hm, hp⟩ := hp
       refine ⟨m, hm, ?_⟩
       split at hp
       ·rename_i h0
        rw [if_pos h0]
        rw [Option.bind_eq_some_iff] at hp ⊢
        obtain ⟨y, hy, hp⟩ := hp
        have : m.toNat < l.length := (List.getElem?_eq_some_iff.1 hy).1
        exact ⟨l'[m.toNat], List.getElem?_eq_getElem (by omega), hp⟩
       ·cases hp
     ·cases hp
    ·exact hp
   ·cases hp
 case binOp op t x y t' =>
  simp only [evalOp] at h ⊢
  cases hpt : E.pt t with
  | true =>
   rw [hpt] at h
   simp only [cond_true] at h ⊢
   split at h
   ·rename_i p q hp hq
    cases hc : (isPtr bx p && isNilP q) with
    | false => rw [hc] at h; cases h
    | true =>
     rw [hc] at h
     rw [Bool.and_eq_true] at hc
     rw [isPtr_skel hs hc.1, hc.2]
     exact h
   ·rename_i p q hp hq
    cases hc : (isPtr bx p && isNilP q) with
    | false => rw [hc] at h; cases h
    | true =>
     rw [hc] at h
     rw [Bool.and_eq_true] at hc
     rw [isPtr_skel hs hc.1, hc.2]
     exact h
   ·cases h
  | false => rw [hpt] at h; simp only [cond_false] at h ⊢; exact h
 case buildSlice t len ps => simp only [opc] at hc; cases own <;> simp at hc
 case call c => have := opc_call (E := E) own c; omega
 all_goals (simp [opc] at hc)
def SameArr (bx bx' : Nat -> Option Box) : Prop := ∀ id ver e T l, bx id = some (.arr ver e T l) -> bx' id = some (.arr ver e T l)
theorem asB_arr (hs : SameArr bx bx') : ∀ (av : AV) (U : Ty) (x : U.den), asB bx U av = some x -> asB bx' U av = some x
 | .v T y, U, x, h => h
 | .cst c, U, x, h => h
 | .pr p q, U, x, h => by
  cases U with
  | pair A B =>
   simp only [asB, Option.bind_eq_some_iff] at h ⊢
   obtain ⟨y, hy, z, hz, e⟩ := h
   exact ⟨y, asB_arr hs p A y hy, z, asB_arr hs q B z hz, e⟩
  | _ => simp [asB] at h
 | .arr id ver, U, x, h => by
  simp only [asB] at h ⊢
  split at h
  ·rename_i ver' e T l hB
   rw [hs _ _ _ _ _ hB]
   exact h
  ·cases h
 | .ptr _ _ _, _, _, h => by cases h
 | .elt _ _ _ _ _, _, _, h => by cases h
 | .ro _ _ _, _, _, h => by cases h
 | .clo _ _, _, _, h => by cases h
 | .yld _, _, _, h => by cases h
 | .nl, _, _, h => by cases h
 | .tup _, _, _, h => by cases h
theorem asBL_arr (hs : SameArr bx bx') : ∀ (l : List Ty) (avs : List (Option AV)) (xs : HL l), asBL bx l avs = some xs -> asBL bx' l avs = some xs
 | [], [], _, h => h
 | [], _ :: _, _, h => by simp [asBL] at h
 | _ :: _, [], _, h => by simp [asBL] at h
 | T :: l, av :: r, xs, h => by
  simp only [asBL, Option.bind_eq_some_iff (x := av.bind _), Option.bind_eq_some_iff (x := asBL _ l r)] at h ⊢
  obtain ⟨y, hy, z, hz, e⟩ := h
  refine ⟨y, ?_, z, asBL_arr hs l r z hz, e⟩
  rw [Option.bind_eq_some_iff] at hy ⊢
  obtain ⟨v, hv, hy⟩ := hy
  exact ⟨v, hv, asB_arr hs v T y hy⟩
theorem arrays_same {own : Bool} {b : Nat} {op : Op} {e : Eff} (hs : SameArr bx bx') (hc : opc E own op = 3 \/ opc E own op = 5) (h : evalOp E ⟨b, own⟩ dst ev bx op = some e) : evalOp E ⟨b, own⟩ dst ev bx' op = some e := by
 cases op
 case call c =>
  obtain ⟨callee, args, ats⟩ := c
  simp only [evalOp] at h ⊢
  split at h
  ·simp only [dynCall] at h ⊢
   split at h
   ·rename_i S _
    cases hf : freeL S.args && freeL S.res with
    | false => rw [hf] at h; cases h
    | true =>
     rw [hf] at h
     simp only [cond_true, Option.bind_eq_some_iff] at h ⊢
     obtain ⟨xs, hxs, h⟩ := h
     exact ⟨xs, asBL_arr hs _ _ _ hxs, h⟩
   ·cases h
  simp only [evalCall] at h ⊢
  split at h
  ·split at h
   ·rw [Option.bind_eq_some_iff] at h ⊢
    obtain ⟨xs, hxs, h⟩ := h
    exact ⟨xs, asBL_arr hs _ _ _ hxs, h⟩
   ·split at h
    ·split at h
     ·rename_i T e0 by_ x _ _ _
      rw [Option.bind_eq_some_iff] at h ⊢
      obtain ⟨l, hl, h⟩ := h
      exact ⟨l, asB_arr hs x (.list T) l hl, h⟩
     ·cases h
    ·split at h
     ·rename_i S _
      cases hf : freeL S.args && freeL S.res with
      | false => rw [hf] at h; cases h
      | true =>
       rw [hf] at h
       simp only [cond_true, Option.bind_eq_some_iff] at h ⊢
       obtain ⟨xs, hxs, h⟩ := h
       exact ⟨xs, asBL_arr hs _ _ _ hxs, h⟩
     ·cases h
  ·rw [Option.bind_eq_some_iff] at h ⊢
   obtain ⟨U, hU, h⟩ := h
   refine ⟨U, hU, ?_⟩
   split at h
   ·rename_i T x _
    rw [Option.map_eq_some_iff] at h ⊢
    obtain ⟨l, hl, h⟩ := h
    refine ⟨l, ?_, h⟩
    rw [Option.bind_eq_some_iff] at hl ⊢
    obtain ⟨v, hv, hl⟩ := hl
    exact ⟨v, hv, asB_arr hs v (.list T) l hl⟩
   ·cases h
  ·split at h
   ·split at h
    ·rename_i htt
     rw [if_pos htt]
     split at h
     ·rename_i T e0 by_ x y _ _ _
      rw [Option.bind_eq_some_iff] at h ⊢
      obtain ⟨m, hm, h⟩ := h
      refine ⟨m, asB_arr hs y (.list T) m hm, ?_⟩
      split at h
      ·rename_i id ver
       split at h
       ·rename_i ver' e' T' l hB
        rw [hs _ _ _ _ _ hB]
        exact h
       ·cases h
      ·exact h
      ·cases h
     ·cases h
    ·cases h
   ·cases h
  ·cases h
 case binOp op t x y t' => exfalso; simp only [opc] at hc; revert hc; cases E.pt t <;> simp
 case buildSlice t len ps => exfalso; simp only [opc] at hc; cases own <;> simp at hc
 all_goals (simp [opc] at hc)
end
section
variable {P : Program} {E : Env} {b n : Nat} {us : Nat -> Nat} {nl : Nat} {bx bx' : Nat -> Option Box} {hw : How} {dst : Option Nat} {ev ev' : Operand -> Option AV} {s s' s0 t : St} {ops : Array Oper} {own : Nat -> Bool}
def isK : Nat -> AV -> Bool
 | 1, .ptr _ _ _ => true
 | 2, .elt _ _ _ _ _ => true
 | 2, .ro _ _ _ => true
 | 1, .cst _ => true
 | 2, .cst _ => true
 | _, _ => false
def kOp (E : Env) (kt : Nat -> Nat) : Op -> Nat
 | .fieldAddr _ (.tmp p) _ => kt p
 | .nilCheck (.tmp p) => kt p
 | .move (.tmp p) => kt p
 | .assign (.tmp p) => kt p
 | .alloc _ => 1
 | .box _ _ => 1
 | .indexAddr t x _ => bif (E.arr t).isNone then 2 else (match x with | .tmp p => kt p | _ => 0)
 | _ => 0
def kindT (E : Env) (ops : Array Oper) (tm0 : Nat -> Option AV) : Nat -> Nat -> Nat
 | 0, _ => 0
 | k + 1, t =>
  bif ops.any fun o => o.dst == some t then
   (bif (ops.all fun o => o.dst != some t || Nat.beq (kOp E (kindT E ops tm0 k) o.op) 1) && (match tm0 t with | some av => isK 1 av | none => true) then 1
    else bif (ops.all fun o => o.dst != some t || Nat.beq (kOp E (kindT E ops tm0 k) o.op) 2) && (match tm0 t with | some av => isK 2 av | none => true) then 2 else 0)
  else match tm0 t with
   | some (.ptr _ _ _) => 1
   | some (.elt _ _ _ _ _) => 2
   | some (.ro _ _ _) => 2
   | _ => 0
def siteOf : AV -> Option Nat
 | .ptr id _ _ => some id
 | .elt id _ _ _ _ => some id
 | _ => none
def isR (i : Nat) : AV -> Bool
 | .ptr id _ _ => Nat.beq id i
 | .elt id _ _ _ _ => Nat.beq id i
 | .cst _ => true
 | _ => false
theorem isR_site {i j : Nat} {av : AV} (h : isR i av = true) (hj : siteOf av = some j) : j = i := by
 cases av <;> simp only [siteOf, Option.some.injEq, reduceCtorEq] at hj
 case ptr id ver off => subst hj; exact Nat.eq_of_beq_eq_true h
 case elt id ver sz m off => subst hj; exact Nat.eq_of_beq_eq_true h
theorem isR_of {i : Nat} {av : AV} (h : siteOf av = some i) : isR i av = true := by
 cases av <;> simp only [siteOf, Option.some.injEq, reduceCtorEq] at h
 case ptr id ver off => subst h; simp [isR]
 case elt id ver sz m off => subst h; simp [isR]
def rootOp (E : Env) (new : Nat) (rt : Nat -> Option Nat) : Op -> Option Nat
 | .fieldAddr _ (.tmp p) _ => rt p
 | .nilCheck (.tmp p) => rt p
 | .move (.tmp p) => rt p
 | .assign (.tmp p) => rt p
 | .indexAddr t (.tmp p) _ => bif (E.arr t).isSome then rt p else none
 | .alloc _ => some new
 | .box _ _ => some new
 | _ => none
def rootT (E : Env) (b : Nat) (ops : Array Oper) (tm0 : Nat -> Option AV) : Nat -> Nat -> Option Nat
 | 0, _ => none
 | k + 1, t =>
  bif ops.any fun o => o.dst == some t then
   match ops.toList.find? fun o => o.dst == some t with
   | some o => match rootOp E (b * 4096 + t) (rootT E b ops tm0 k) o.op with
    | some i => bif (ops.all fun o => o.dst != some t || (rootOp E (b * 4096 + t) (rootT E b ops tm0 k) o.op == some i)) && (match tm0 t with | some av => isR i av | none => true) then some i else none
    | none => none
   | none => none
  else (tm0 t).bind siteOf
theorem rootT_cases {ops : Array Oper} {tm0 : Nat -> Option AV} {k t i : Nat} (h : rootT E b ops tm0 k t = some i) : ∃ k', k = k' + 1 /\
  (((ops.any fun o => o.dst == some t) = true /\ (∀ (j : Nat) (o : Oper), ops[j]? = some o -> o.dst = some t -> rootOp E (b * 4096 + t) (rootT E b ops tm0 k') o.op = some i) /\ ∀ av, tm0 t = some av -> isR i av = true) \/
   ((ops.any fun o => o.dst == some t) = false /\ ∀ av, tm0 t = some av -> isR i av = true)) := by
 cases k with
 | zero => cases h
 | succ k =>
  refine ⟨k, rfl, ?_⟩
  simp only [rootT] at h
  cases ha : (ops.any fun o => o.dst == some t) with
  | true =>
   left
   rw [ha] at h
   simp only [cond_true] at h
   split at h
   ·split at h
    ·rename_i i' _
     revert h
     cases hc : ((ops.all fun o => o.dst != some t || (rootOp E (b * 4096 + t) (rootT E b ops tm0 k) o.op == some i')) && (match tm0 t with | some av => isR i' av | none => true)) with
     | false => intro h; cases h
     | true =>
      intro h
      cases h
      rw [Bool.and_eq_true] at hc
      refine ⟨rfl, fun j o ho hod => ?_, fun av hav => ?_⟩
      ·have := (Array.all_eq_true'.1 hc.1) o (Array.mem_of_getElem? ho)
       simp only [hod, bne_self_eq_false, Bool.false_or] at this
       exact eq_of_beq this
      ·have := hc.2; rw [hav] at this; exact this
    ·cases h
   ·cases h
  | false =>
   right
   rw [ha] at h
   simp only [cond_false, Option.bind_eq_some_iff] at h
   obtain ⟨av, hav, hs⟩ := h
   exact ⟨rfl, fun av' hav' => by rw [hav] at hav'; cases hav'; exact isR_of hs⟩
structure InvK (E : Env) (b : Nat) (ops : Array Oper) (s0 s : St) : Prop extends InvR b ops s0 s where
 kind : ∀ k t c, c ≠ 0 -> kindT E ops (s0.tm b) k t = c -> ∀ av, s.tm b t = some av -> isK c av = true
 root : ∀ k t i, rootT E b ops (s0.tm b) k t = some i -> ∀ av, s.tm b t = some av -> isR i av = true
theorem kindT_cases {tm0 : Nat -> Option AV} {k t c : Nat} (hc : c ≠ 0) (h : kindT E ops tm0 k t = c) : (c = 1 \/ c = 2) /\ ∃ k', k = k' + 1 /\
  (((ops.any fun o => o.dst == some t) = true /\ (∀ (i : Nat) (o : Oper), ops[i]? = some o -> o.dst = some t -> kOp E (kindT E ops tm0 k') o.op = c) /\ ∀ av, tm0 t = some av -> isK c av = true) \/
   ((ops.any fun o => o.dst == some t) = false /\ ∀ av, tm0 t = some av -> isK c av = true)) := by
 cases k with
 | zero => exact absurd h.symm hc
 | succ k =>
  simp only [kindT] at h
  cases ha : (ops.any fun o => o.dst == some t) with
  | true =>
   rw [ha] at h
   simp only [cond_true] at h
   have key : ∀ d, ((ops.all fun o => o.dst != some t || Nat.beq (kOp E (kindT E ops tm0 k) o.op) d) && (match tm0 t with | some av => isK d av | none => true)) = true ->
     (∀ (i : Nat) (o : Oper), ops[i]? = some o -> o.dst = some t -> kOp E (kindT E ops tm0 k) o.op = d) /\ ∀ av, tm0 t = some av -> isK d av = true := fun d hd => by
    rw [Bool.and_eq_true] at hd
    refine ⟨fun i o ho hod => ?_, fun av hav => ?_⟩
    ·have := (Array.all_eq_true'.1 hd.1) o (Array.mem_of_getElem? ho)
     simp only [hod, bne_self_eq_false, Bool.false_or] at this
     exact Nat.eq_of_beq_eq_true this
    ·have := hd.2; rw [hav] at this; exact this
   cases h1 : ((ops.all fun o => o.dst != some t || Nat.beq (kOp E (kindT E ops tm0 k) o.op) 1) && (match tm0 t with | some av => isK 1 av | none => true)) with
   | true =>
    rw [h1] at h
    simp only [cond_true] at h
    subst h
    exact ⟨.inl rfl, k, rfl, .inl ⟨rfl, key 1 h1⟩⟩
   | false =>
    rw [h1] at h
    simp only [cond_false] at h
    cases h2 : ((ops.all fun o => o.dst != some t || Nat.beq (kOp E (kindT E ops tm0 k) o.op) 2) && (match tm0 t with | some av => isK 2 av | none => true)) with
    | true =>
     rw [h2] at h
     simp only [cond_true] at h
     subst h
     exact ⟨.inr rfl, k, rfl, .inl ⟨rfl, key 2 h2⟩⟩
    | false => rw [h2] at h; exact absurd h.symm hc
  | false =>
   rw [ha] at h
   simp only [cond_false] at h
   split at h
   ·rename_i hav; subst h; exact ⟨.inl rfl, k, rfl, .inr ⟨rfl, fun av h => by rw [hav] at h; cases h; rfl⟩⟩
   ·rename_i hav; subst h; exact ⟨.inr rfl, k, rfl, .inr ⟨rfl, fun av h => by rw [hav] at h; cases h; rfl⟩⟩
   ·rename_i hav; subst h; exact ⟨.inr rfl, k, rfl, .inr ⟨rfl, fun av h => by rw [hav] at h; cases h; rfl⟩⟩
   ·exact absurd h.symm hc
theorem invK_self (h : BD (s0.ev b) s0.bx s0.us s0.nl) : InvK E b ops s0 s0 := ⟨⟨h, fun _ _ => rfl⟩, fun k t c hc hk av hav => by
 obtain ⟨_, k', _, ⟨_, _, h3⟩ | ⟨_, h3⟩⟩ := kindT_cases hc hk
 ·exact h3 av hav
 ·exact h3 av hav, fun k t i hk av hav => by
 obtain ⟨k', _, ⟨_, _, h3⟩ | ⟨_, h3⟩⟩ := rootT_cases hk
 ·exact h3 av hav
 ·exact h3 av hav⟩
theorem idxA_arr {t : TypeId} {q : Nat × TypeId} {x i r : AV} (ha : E.arr t = some q) (h : idxA E bx t x i = some r) : ∃ id ver off off', x = .ptr id ver off /\ r = .ptr id ver off' := by
 unfold idxA at h
 rw [ha] at h
 dsimp only at h
 split at h
 ·split at h
  ·revert h
   cases (Nat.blt _ _ && isPtr bx _) with
   | false => intro h; cases h
   | true => intro h; cases h; exact ⟨_, _, _, _, rfl, rfl⟩
  ·cases h
 ·cases h
theorem rootOp_eff {rt : Nat -> Option Nat} {op : Op} {e : Eff} {i new : Nat} (hn : newId hw dst = new) (hk : rootOp E new rt op = some i) (hkt : ∀ p av, rt p = some i -> ev (.tmp p) = some av -> isR i av = true) (h : evalOp E hw dst ev bx op = some e) (us : Nat -> Nat) : isR i (e.av us) = true := by
 cases op <;> simp only [rootOp, reduceCtorEq, Option.some.injEq] at hk
 case move x =>
  cases x <;> simp only [rootOp, reduceCtorEq] at hk
  simp only [evalOp, Option.map_eq_some_iff] at h
  obtain ⟨av, hav, e1⟩ := h
  subst e1
  exact hkt _ _ hk hav
 case assign x =>
  cases x <;> simp only [rootOp, reduceCtorEq] at hk
  simp only [evalOp, Option.map_eq_some_iff] at h
  obtain ⟨av, hav, e1⟩ := h
  subst e1
  exact hkt _ _ hk hav
 case alloc t =>
  simp only [evalOp, Option.map_eq_some_iff] at h
  obtain ⟨av, hav, e1⟩ := h
  subst e1
  show Nat.beq (newId hw dst) i = true
  rw [hn, hk]
  exact Nat.beq_refl _
 case box t x =>
  simp only [evalOp, Option.bind_eq_some_iff] at h
  obtain ⟨av, hav, h⟩ := h
  refine beq_box h fun e1 _ => ?_
  subst e1
  show Nat.beq (newId hw dst) i = true
  rw [hn, hk]
  exact Nat.beq_refl _
 case indexAddr t x j =>
  cases x <;> simp only [rootOp, reduceCtorEq] at hk
  cases ha : E.arr t with
  | none => rw [ha] at hk; cases hk
  | some q =>
   rw [ha] at hk
   simp only [Option.isSome_some, cond_true] at hk
   simp only [evalOp, Option.bind_eq_some_iff, Option.map_eq_some_iff] at h
   obtain ⟨av, hav, j, hj, p, hp, e1⟩ := h
   subst e1
   obtain ⟨id, ver, off, off', rfl, rfl⟩ := idxA_arr ha hp
   have := hkt _ _ hk hav
   exact this
 case nilCheck x =>
  cases x <;> simp only [rootOp, reduceCtorEq] at hk
  simp only [evalOp, Option.bind_eq_some_iff] at h
  obtain ⟨av, hav, h⟩ := h
  have := hkt _ _ hk hav
  split at h
  ·exact beq_box h fun e1 _ => by subst e1; exact this
  ·split at h
   ·exact beq_box h fun e1 _ => by subst e1; exact this
   ·cases h
  ·cases h; exact this
  ·cases h
 case fieldAddr t x f =>
  cases x <;> simp only [rootOp, reduceCtorEq] at hk
  simp only [evalOp, Option.bind_eq_some_iff] at h
  obtain ⟨q, hq, h⟩ := h
  cases hc : (E.lay q.2).isSome with
  | false => rw [hc] at h; cases h
  | true =>
   rw [hc] at h
   simp only [cond_true, Option.bind_eq_some_iff] at h
   obtain ⟨av, hav, h⟩ := h
   have := hkt _ _ hk hav
   split at h
   ·exact beq_box h fun e1 _ => by subst e1; exact this
   ·split at h
    ·exact beq_box h fun e1 _ => by subst e1; exact this
    ·cases h
   ·cases this
   ·cases h
theorem kOp_eff {kt : Nat -> Nat} {op : Op} {e : Eff} {c : Nat} (hc : c = 1 \/ c = 2) (hk : kOp E kt op = c) (hkt : ∀ p av, kt p = c -> ev (.tmp p) = some av -> isK c av = true) (h : evalOp E hw dst ev bx op = some e) (us : Nat -> Nat) : isK c (e.av us) = true := by
 have h0 : c ≠ 0 := by omega
 cases op <;> simp only [kOp] at hk <;> try exact absurd hk.symm h0
 case move x =>
  cases x <;> simp only [kOp] at hk <;> try exact absurd hk.symm h0
  simp only [evalOp, Option.map_eq_some_iff] at h
  obtain ⟨av, hav, e1⟩ := h
  subst e1
  exact hkt _ _ hk hav
 case assign x =>
  cases x <;> simp only [kOp] at hk <;> try exact absurd hk.symm h0
  simp only [evalOp, Option.map_eq_some_iff] at h
  obtain ⟨av, hav, e1⟩ := h
  subst e1
  exact hkt _ _ hk hav
 case nilCheck x =>
  cases x <;> simp only [kOp] at hk <;> try exact absurd hk.symm h0
  simp only [evalOp, Option.bind_eq_some_iff] at h
  obtain ⟨av, hav, h⟩ := h
  have := hkt _ _ hk hav
  split at h
  ·exact beq_box h fun e1 _ => by subst e1; exact this
  ·split at h
   ·exact beq_box h fun e1 _ => by subst e1; exact this
   ·cases h
  ·cases h; exact this
  ·cases h
 case fieldAddr t x f =>
  cases x <;> simp only [kOp] at hk <;> try exact absurd hk.symm h0
  simp only [evalOp, Option.bind_eq_some_iff] at h
  obtain ⟨q, hq, h⟩ := h
  cases hl : (E.lay q.2).isSome with
  | false => rw [hl] at h; cases h
  | true =>
   rw [hl] at h
   simp only [cond_true, Option.bind_eq_some_iff] at h
   obtain ⟨av, hav, h⟩ := h
   have := hkt _ _ hk hav
   split at h
   ·rename_i id ver off
    exact beq_box h fun e1 _ => by subst e1; rcases hc with rfl | rfl <;> exact this
   ·split at h
    ·rename_i id ver sz i off _ _ _ _ _ _
     exact beq_box h fun e1 _ => by subst e1; rcases hc with rfl | rfl <;> exact this
    ·cases h
   ·rename_i T y off
    cases h
    rcases hc with rfl | rfl <;> exact this
   ·cases h
 case alloc t =>
  subst hk
  simp only [evalOp, Option.map_eq_some_iff] at h
  obtain ⟨av, hav, e1⟩ := h
  subst e1
  rfl
 case box t x =>
  subst hk
  simp only [evalOp, Option.bind_eq_some_iff] at h
  obtain ⟨av, hav, h⟩ := h
  exact beq_box h fun e1 _ => by subst e1; rfl
 case indexAddr t x i =>
  cases ha : E.arr t with
  | some q =>
   rw [ha] at hk
   simp only [Option.isNone_some, cond_false] at hk
   cases x <;> simp only at hk <;> try exact absurd hk.symm h0
   simp only [evalOp, Option.bind_eq_some_iff, Option.map_eq_some_iff] at h
   obtain ⟨av, hav, j, hj, p, hp, e1⟩ := h
   subst e1
   obtain ⟨id, ver, off, off', rfl, rfl⟩ := idxA_arr ha hp
   have := hkt _ _ hk hav
   rcases hc with rfl | rfl
   ·rfl
   ·cases this
  | none =>
   rw [ha] at hk
   simp only [Option.isNone_none, cond_true] at hk
   subst hk
   simp only [evalOp, Option.bind_eq_some_iff, Option.map_eq_some_iff] at h
   obtain ⟨av, hav, j, hj, p, hp, e1⟩ := h
   subst e1
   show isK 2 p = true
   unfold idxA at hp
   rw [ha] at hp
   simp only at hp
   split at hp
   ·split at hp
    ·split at hp
     ·rename_i id ver _ ver' f T' l hB
      revert hp
      cases (Nat.beq ver ver' && decide (T' = _)) with
      | false => intro hp; cases hp
      | true =>
       intro hp
       simp only [cond_true, Option.bind_eq_some_iff] at hp
       obtain ⟨m, hm, hp⟩ := hp
       split at hp
       ·rw [Option.bind_eq_some_iff] at hp
        obtain ⟨_, _, hp⟩ := hp
        cases hp
        rfl
       ·cases hp
     ·cases hp
    ·simp only [Option.bind_eq_some_iff] at hp
     obtain ⟨l, hl, m, hm, hp⟩ := hp
     split at hp
     ·rw [Option.bind_eq_some_iff] at hp
      obtain ⟨_, _, hp⟩ := hp
      cases hp
      rfl
     ·cases hp
   ·cases hp
theorem isK_cst {c : Nat} (hc : c = 1 \/ c = 2) (v : Value) : isK c (.cst v) = true := by rcases hc with rfl | rfl <;> rfl
theorem Quiet.skip : Quiet (.put (.cst undef)) := Quiet.put _
theorem BD.step (hE : E.OK P) {i : Nat} (h : BD (s.ev b) s.bx s.us s.nl) (hs : stepR E own b n ops i s = some t) : BD (t.ev b) t.bx t.us t.nl := by
 obtain ⟨o, c, e, ho, hw, he, happ⟩ := stepR_spec hs
 obtain ⟨h1, h2, rfl⟩ := app_spec happ
 have hbd : (e.av s.us).bd (e.us s.us) s.nl = true /\ (∀ id av, e = .new id av -> av.bd s.us s.nl = true) /\ (∀ id ver av, e = .sto id ver av -> av.bd s.us s.nl = true) /\ (∀ id ver f T l, e = .stoE id ver f T l -> ver < s.us id) /\ (∀ id ver av, e = .sto id ver av -> ver < s.us id) := by
  cases c with
  | true => exact evalOp_bd hE h he
  | false => cases he; exact ⟨rfl, fun _ _ h => (by cases h), fun _ _ _ h => (by cases h), fun _ _ _ _ _ h => (by cases h), fun _ _ _ h => (by cases h)⟩
 obtain ⟨b1, b2, b3, b4, b5⟩ := hbd
 have hus : ∀ id, s.us id <= e.us s.us id := fun id => by
  cases e <;> first | exact Nat.le_refl _ | skip
  all_goals (simp only [Eff.us, updU, bif_beq]; split <;> first | (rename_i h; subst h; omega) | exact Nat.le_refl _)
 refine ⟨fun x av hx => ?_, fun id B hB => ?_⟩
 ·cases x with
  | tmp k =>
   simp only [St.ev] at hx
   cases hd : o.dst with
   | none => rw [hd] at hx; exact AV.bd_mono hus av (h.ev (.tmp k) av hx)
   | some d =>
    rw [hd] at hx
    simp only [updT] at hx
    cases hc : (Nat.beq k d && Nat.beq b b) with
    | true => rw [hc] at hx; cases hx; exact b1
    | false => rw [hc] at hx; exact AV.bd_mono hus av (h.ev (.tmp k) av hx)
  | const v => cases hx; rfl
  | global g => cases hx
  | func f => cases hx; rfl
 ·have old : ∀ B, s.bx id = some B -> B.ver < e.us s.us id /\ B.bd (e.us s.us) s.nl = true := fun B hB => by
   obtain ⟨h3, h4⟩ := h.bx id B hB
   refine ⟨Nat.lt_of_lt_of_le h3 (hus id), ?_⟩
   cases B with
   | cells ver av => exact AV.bd_mono hus av h4
   | arr _ _ _ _ => rfl
  cases e with
  | put av => exact old B hB
  | new k av =>
   simp only [Eff.bx, updB, bif_beq] at hB
   split at hB
   ·rename_i hk; subst hk; cases hB
    exact ⟨by simp [Box.ver, Eff.us, updU], AV.bd_mono hus av (b2 _ _ rfl)⟩
   ·exact old B hB
  | sto k ver av =>
   simp only [Eff.bx, updB, bif_beq] at hB
   split at hB
   ·rename_i hk; subst hk; cases hB
    exact ⟨b5 _ _ _ rfl, b3 _ _ _ rfl⟩
   ·exact old B hB
  | stoE k ver f T l =>
   simp only [Eff.bx, updB, bif_beq] at hB
   split at hB
   ·rename_i hk; subst hk; cases hB
    exact ⟨b4 _ _ _ _ _ rfl, rfl⟩
   ·exact old B hB
  | arr k fr f T l =>
   simp only [Eff.bx, updB, bif_beq] at hB
   split at hB
   ·rename_i hk; subst hk; cases hB
    exact ⟨by simp [Box.ver, Eff.us, updU], rfl⟩
   ·exact old B hB
  | del ids av => exact old B (delB_some ids s.bx id B hB).1
theorem keepsK (hE : E.OK P) : KeepsG (stepR E own b n ops) (InvK E b ops s0) := by
 intro i s t hv hs
 have hbd := hv.bd.step hE hs
 obtain ⟨o, c, e, ho, hw, he, happ⟩ := stepR_spec hs
 obtain ⟨h1, h2, rfl⟩ := app_spec happ
 have other : ∀ k, o.dst ≠ some k -> updT s.tm b o.dst (e.av s.us) b k = s.tm b k := fun k hk => by
  cases hd : o.dst with
  | none => rfl
  | some d =>
   have hne : k ≠ d := fun e => hk (by rw [hd, e])
   have : Nat.beq k d = false := Bool.eq_false_iff.2 fun e => hne (Nat.eq_of_beq_eq_true e)
   simp [updT, this]
 refine ⟨⟨hbd, fun k hk => ?_⟩, fun k u c0 hc0 hkind av hav => ?_, fun k u i0 hroot av hav => ?_⟩
 ·refine (other k fun hd => ?_).trans (hv.same k hk)
  have : (ops.any fun o => o.dst == some k) = true := Array.any_eq_true'.2 ⟨o, Array.mem_of_getElem? ho, by simp [hd]⟩
  rw [hk] at this; cases this
 ·by_cases hd : o.dst = some u
  ·obtain ⟨hc12, k', rfl, ⟨_, h3, _⟩ | ⟨h3, _⟩⟩ := kindT_cases hc0 hkind
   ·have hko := h3 i o ho hd
    have hav' : av = e.av s.us := by
     simp only [hd, updT, Nat.beq_refl, Bool.and_self, cond_true, Option.some.injEq] at hav
     exact hav.symm
    cases c with
    | false => cases he; rw [hav']; exact isK_cst hc12 _
    | true =>
     rw [hav']
     exact kOp_eff hc12 hko (fun p av hp hpv => hv.kind k' p c0 hc0 hp av hpv) he s.us
   ·have : (ops.any fun o => o.dst == some u) = true := Array.any_eq_true'.2 ⟨o, Array.mem_of_getElem? ho, by simp [hd]⟩
    rw [h3] at this; cases this
  ·have hav' : updT s.tm b o.dst (e.av s.us) b u = some av := hav
   rw [other u hd] at hav'
   exact hv.kind k u c0 hc0 hkind av hav'
 ·by_cases hd : o.dst = some u
  ·obtain ⟨k', rfl, ⟨_, h3, _⟩ | ⟨h3, _⟩⟩ := rootT_cases hroot
   ·have hko := h3 i o ho hd
    have hav' : av = e.av s.us := by
     simp only [hd, updT, Nat.beq_refl, Bool.and_self, cond_true, Option.some.injEq] at hav
     exact hav.symm
    cases c with
    | false => cases he; rw [hav']; rfl
    | true =>
     rw [hav']
     exact rootOp_eff (by rw [hd]; rfl) hko (fun p av hp hpv => hv.root k' p i0 hp av hpv) he s.us
   ·have : (ops.any fun o => o.dst == some u) = true := Array.any_eq_true'.2 ⟨o, Array.mem_of_getElem? ho, by simp [hd]⟩
    rw [h3] at this; cases this
  ·have hav' : updT s.tm b o.dst (e.av s.us) b u = some av := hav
   rw [other u hd] at hav'
   exact hv.root k u i0 hroot av hav'
end
section
variable {P : Program} {E : Env} {b n : Nat} {us : Nat -> Nat} {nl : Nat} {bx bx' : Nat -> Option Box} {hw : How} {dst : Option Nat} {ev ev' : Operand -> Option AV} {s s' s0 t : St} {ops : Array Oper} {own : Nat -> Bool}
theorem Quiet.eqb {e : Eff} (h : Quiet e) (bx : Nat -> Option Box) (us : Nat -> Nat) : e.bx bx us = bx := h.1 bx us
theorem KeyedN.back {e : Eff} {id : Nat} (h : KeyedN e id) : Le us (e.bx bx us) bx := fun i B hv hB => by
 obtain ⟨B', h1, h2⟩ := h.2 bx us
 rw [h2] at hB
 simp only [updB, bif_beq] at hB
 split at hB
 ·rename_i hi; subst hi; cases hB; omega
 ·exact hB
theorem KeyedN.at {e : Eff} {id : Nat} (h : KeyedN e id) : (e.bx bx us id).isSome = true := by
 obtain ⟨B', h1, h2⟩ := h.2 bx us
 rw [h2, updB_at]; rfl
theorem Keyed.ne {e : Eff} {id i : Nat} (h : Keyed e id) (hi : i ≠ id) : e.bx bx us i = bx i := by
 obtain ⟨F, _, _, _, k1, _⟩ := h
 rw [k1, updB_ne hi]
theorem Keyed.on {e : Eff} {id : Nat} (h : Keyed e id) (hn : bx id = none) : Le us bx (e.bx bx us) := fun i B _ hB => by
 rw [h.ne (fun hi => by rw [hi, hn] at hB; cases hB)]; exact hB
theorem loadA_at {k : Nat} {ag : Bool} {av : AV} (h : ∀ id, siteOf av = some id -> bx' id = bx id) : loadA bx' k ag av = loadA bx k ag av := by
 cases av <;> first | rfl | skip
 case ptr id ver off => simp only [loadA, h id rfl]
 case elt id ver sz i off => simp only [loadA, h id rfl]
theorem storeA_at {U : Option Ty} {k : Nat} {z av : AV} (h : ∀ id, siteOf av = some id -> bx' id = bx id) : storeA bx' U k z av = storeA bx U k z av := by
 cases av <;> first | rfl | skip
 case ptr id ver off => simp only [storeA, h id rfl]
 case elt id ver sz i off => simp only [storeA, h id rfl]
def adr : Op -> Option Operand
 | .load _ x => some x
 | .store _ x _ => some x
 | _ => none
theorem acc_at {op : Op} {z : Operand} {av : AV} (hz : adr op = some z) (hav : ev z = some av) (h : ∀ id, siteOf av = some id -> bx' id = bx id) : evalOp E hw dst ev bx' op = evalOp E hw dst ev bx op := by
 cases op <;> simp only [adr, Option.some.injEq, reduceCtorEq] at hz
 case load t x =>
  subst hz
  simp only [evalOp, hav, Option.bind_some, loadA_at h]
 case store t x y =>
  subst hz
  simp only [evalOp, hav, Option.bind_some, storeA_at h]
def cellsAt (bx : Nat -> Option Box) (id : Nat) : Prop := ∃ v c, bx id = some (.cells v c)
def arrAt (bx : Nat -> Option Box) (id : Nat) : Prop := ∃ v f T l, bx id = some (.arr v f T l)
theorem acc_site {op : Op} {e : Eff} (hc : (adr op).isSome = true) (h : evalOp E hw dst ev bx op = some e) : ∃ z av, adr op = some z /\ ev z = some av /\
  (∀ id, siteOf av = some id -> (isK 1 av = true -> cellsAt bx id) /\ (isK 2 av = true -> arrAt bx id)) := by
 cases op <;> simp only [adr, Option.isSome_none, Bool.false_eq_true] at hc
 case load t x =>
  simp only [evalOp, Option.bind_eq_some_iff, Option.map_eq_some_iff] at h
  obtain ⟨q, _, av, hav, p, hp, _⟩ := h
  refine ⟨x, av, rfl, hav, fun id hid => ?_⟩
  cases av <;> simp only [siteOf, Option.some.injEq, reduceCtorEq] at hid
  case ptr i ver off =>
   subst hid
   refine ⟨fun _ => ?_, fun h => (by cases h)⟩
   simp only [loadA] at hp
   split at hp
   ·exact ⟨_, _, by assumption⟩
   ·cases hp
  case elt i ver sz m off =>
   subst hid
   refine ⟨fun h => (by cases h), fun _ => ?_⟩
   simp only [loadA] at hp
   split at hp
   ·exact ⟨_, _, _, _, by assumption⟩
   ·cases hp
 case store t x y =>
  simp only [evalOp, Option.bind_eq_some_iff] at h
  obtain ⟨q, _, z, _, av, hav, hp⟩ := h
  refine ⟨x, av, rfl, hav, fun id hid => ?_⟩
  cases av <;> simp only [siteOf, Option.some.injEq, reduceCtorEq] at hid
  case ptr i ver off =>
   subst hid
   refine ⟨fun _ => ?_, fun h => (by cases h)⟩
   simp only [storeA] at hp
   split at hp
   ·exact ⟨_, _, by assumption⟩
   ·cases hp
  case elt i ver sz m off =>
   subst hid
   refine ⟨fun h => (by cases h), fun _ => ?_⟩
   simp only [storeA] at hp
   split at hp
   ·exact ⟨_, _, _, _, by assumption⟩
   ·cases hp
theorem store_eff {t : TypeId} {x y : Operand} {e : Eff} (h : evalOp E hw dst ev bx (.store t x y) = some e) : ∃ av, ev x = some av /\
  ((∃ id ver off c c', av = .ptr id ver off /\ bx id = some (.cells ver c) /\ e = .sto id ver c') \/
   (∃ id ver sz i off f, ∃ T : Ty, ∃ l l' : List T.den, av = .elt id ver sz i off /\ bx id = some (.arr ver f T l) /\ e = .stoE id ver f T l' /\ l.length = l'.length)) := by
 simp only [evalOp, Option.bind_eq_some_iff] at h
 obtain ⟨q, _, z, _, av, hav, h⟩ := h
 refine ⟨av, hav, ?_⟩
 unfold storeA at h
 split at h
 ·rename_i id ver off
  split at h
  ·rename_i ver' c hB
   cases hv : (Nat.beq ver ver' && z.fit && Nat.beq z.size q.1) with
   | false => rw [hv] at h; cases h
   | true =>
    rw [hv] at h
    simp only [Bool.and_eq_true] at hv
    have hvv := Nat.eq_of_beq_eq_true hv.1.1
    subst hvv
    simp only [cond_true] at h
    split at h
    ·cases h; exact .inl ⟨id, ver, off, c, _, rfl, hB, rfl⟩
    ·cases h
  ·cases h
 ·rename_i id ver sz i off
  split at h
  ·rename_i ver' f T l U hB hU
   cases hv : (Nat.beq ver ver' && Nat.beq sz T.size) with
   | false => rw [hv] at h; cases h
   | true =>
    rw [hv] at h
    simp only [Bool.and_eq_true] at hv
    have hvv := Nat.eq_of_beq_eq_true hv.1
    subst hvv
    simp only [cond_true] at h
    split at h
    ·rw [Option.bind_eq_some_iff] at h
     obtain ⟨y0, hy0, h⟩ := h
     split at h
     ·cases h; exact .inr ⟨id, ver, sz, i, off, f, T, l, _, rfl, hB, rfl, by simp⟩
     ·cases h
    ·cases h
  ·cases h
 ·cases h
theorem skel_refl (bx : Nat -> Option Box) : Skel bx bx := fun id => by
 cases bx id with
 | none => trivial
 | some B => cases B <;> simp
theorem store_skel {t : TypeId} {x y : Operand} {e : Eff} (h : evalOp E hw dst ev bx (.store t x y) = some e) : Skel bx (e.bx bx us) := fun i => by
 obtain ⟨av, hav, ⟨id, ver, off, c, c', rfl, hB, rfl⟩ | ⟨id, ver, sz, i', off, f, T, l, l', rfl, hB, rfl, hl⟩⟩ := store_eff h
 ·by_cases hi : i = id
  ·subst hi
   have e1 : (Eff.sto i ver c').bx bx us i = some (.cells ver c') := updB_at
   rw [hB, e1]
  ·have e1 : (Eff.sto id ver c').bx bx us i = bx i := updB_ne hi
   rw [e1]; exact skel_refl bx i
 ·by_cases hi : i = id
  ·subst hi
   have e1 : (Eff.stoE i ver f T l').bx bx us i = some (.arr ver f T l') := updB_at
   rw [hB, e1]; exact ⟨rfl, rfl, rfl, hl⟩
  ·have e1 : (Eff.stoE id ver f T l').bx bx us i = bx i := updB_ne hi
   rw [e1]; exact skel_refl bx i
theorem store_arrs {t : TypeId} {x y : Operand} {e : Eff} {av : AV} (h : evalOp E hw dst ev bx (.store t x y) = some e) (hx : ev x = some av) (hk : isK 1 av = true) : SameArr bx (e.bx bx us) /\ SameArr (e.bx bx us) bx := by
 obtain ⟨av', hav, ⟨id, ver, off, c, c', rfl, hB, rfl⟩ | ⟨id, ver, sz, i', off, f, T, l, l', rfl, hB, rfl, hl⟩⟩ := store_eff h
 ·refine ⟨fun i v f T l hi => ?_, fun i v f T l hi => ?_⟩
  ·simp only [Eff.bx, updB, bif_beq]
   split
   ·rename_i e; subst e; rw [hB] at hi; cases hi
   ·exact hi
  ·simp only [Eff.bx, updB, bif_beq] at hi
   split at hi
   ·cases hi
   ·exact hi
 ·rw [hav] at hx; cases hx; cases hk
theorem store_keyed {t : TypeId} {x y : Operand} {e : Eff} {av : AV} (h : evalOp E hw dst ev bx (.store t x y) = some e) (hx : ev x = some av) : ∃ id, siteOf av = some id /\ Keyed e id /\ (bx id).isSome = true := by
 obtain ⟨av', hav, ⟨id, ver, off, c, c', rfl, hB, rfl⟩ | ⟨id, ver, sz, i', off, f, T, l, l', rfl, hB, rfl, hl⟩⟩ := store_eff h
 ·rw [hav] at hx; cases hx; exact ⟨id, rfl, Keyed.sto _ _ _, by rw [hB]; rfl⟩
 ·rw [hav] at hx; cases hx; exact ⟨id, rfl, Keyed.stoE _ _ _ _ _, by rw [hB]; rfl⟩
def kdO (E : Env) (ops : Array Oper) (tm0 : Nat -> Option AV) : Option Operand -> Nat
 | some (.tmp t) => kindT E ops tm0 ops.size t
 | _ => 0
def fixO (E : Env) (b : Nat) (ops : Array Oper) (tm0 : Nat -> Option AV) : Option Operand -> Option Nat
 | some (.tmp t) => rootT E b ops tm0 (ops.size + 1) t
 | _ => none
def sepO (E : Env) (b : Nat) (ops : Array Oper) (tm0 : Nat -> Option AV) (x y : Option Operand) : Bool :=
 (Nat.beq (kdO E ops tm0 x) 1 && Nat.beq (kdO E ops tm0 y) 2) || (Nat.beq (kdO E ops tm0 x) 2 && Nat.beq (kdO E ops tm0 y) 1) ||
 match fixO E b ops tm0 x, fixO E b ops tm0 y with
 | some i, some j => !(Nat.beq i j)
 | _, _ => false
def pairC (E : Env) (b : Nat) (ops : Array Oper) (tm0 : Nat -> Option AV) (ox oy : Bool) (x y : Op) : Bool :=
 let cx := opc E ox x
 let cy := opc E oy y
 (cx == 0) || (cy == 0) || (decide (cx <= 3) && decide (cy <= 3)) || ((cx == 4 || cx == 5 || cx == 6) && decide (cy <= 3)) || (decide (cx <= 3) && (cy == 4 || cy == 5)) ||
 ((cx == 4 || cx == 5) && (cy == 4 || cy == 5)) || (cx == 7 && cy == 4) || (cx == 4 && cy == 7) || (cx == 7 && cy == 1) || (cx == 1 && cy == 7) ||
 (cx == 7 && (cy == 3 || cy == 5) && Nat.beq (kdO E ops tm0 (adr x)) 1) || ((cx == 3 || cx == 5) && cy == 7 && Nat.beq (kdO E ops tm0 (adr y)) 1) ||
 ((cx == 2 || cx == 7) && (cy == 2 || cy == 7) && sepO E b ops tm0 (adr x) (adr y)) ||
 (cx == 2 && cy == 6 && Nat.beq (kdO E ops tm0 (adr x)) 1)
theorem opc_store {own : Bool} {op : Op} (h : opc E own op = 7) : ∃ t x y, op = .store t x y := by
 cases op
 case store t x y => exact ⟨t, x, y, rfl⟩
 case binOp op t x y t' => simp only [opc] at h; revert h; cases E.pt t <;> simp
 case buildSlice t l ps => simp only [opc] at h; cases own <;> simp at h
 case call c => have := opc_call (E := E) own c; omega
 all_goals (simp [opc] at h)
theorem opc_load {own : Bool} {op : Op} (h : opc E own op = 2) : ∃ t x, op = .load t x := by
 cases op
 case load t x => exact ⟨t, x, rfl⟩
 case binOp op t x y t' => simp only [opc] at h; revert h; cases E.pt t <;> simp
 case buildSlice t l ps => simp only [opc] at h; cases own <;> simp at h
 case call c => have := opc_call (E := E) own c; omega
 all_goals (simp [opc] at h)
theorem opc_adr {own : Bool} {op : Op} (h : opc E own op = 2 \/ opc E own op = 7) : (adr op).isSome = true := by
 rcases h with h | h
 ·obtain ⟨t, x, rfl⟩ := opc_load h; rfl
 ·obtain ⟨t, x, y, rfl⟩ := opc_store h; rfl
theorem kdO_is (hv : InvK E b ops s0 s) {z : Option Operand} {x : Operand} {c : Nat} {av : AV} (hz : z = some x) (hc : c ≠ 0) (hk : kdO E ops (s0.tm b) z = c) (hav : s.ev b x = some av) : isK c av = true := by
 subst hz
 cases x with
 | tmp t => exact hv.kind _ t c hc hk av hav
 | _ => exact absurd hk.symm hc
theorem fixO_is (hv : InvK E b ops s0 s) {z : Option Operand} {x : Operand} {i : Nat} {av : AV} (hz : z = some x) (hf : fixO E b ops (s0.tm b) z = some i) (hav : s.ev b x = some av) : isR i av = true := by
 subst hz
 cases x with
 | tmp t => exact hv.root _ t i hf av hav
 | _ => cases hf
theorem sep_ne (hv : InvK E b ops s0 s) {X Y : Op} {x y : Operand} {ax ay : AV} (hx : adr X = some x) (hy : adr Y = some y) (hax : s.ev b x = some ax) (hay : s.ev b y = some ay) (hs : sepO E b ops (s0.tm b) (adr X) (adr Y) = true)
  (h1 : ∀ id, siteOf ax = some id -> (isK 1 ax = true -> cellsAt bx id) /\ (isK 2 ax = true -> arrAt bx id)) (h2 : ∀ id, siteOf ay = some id -> (isK 1 ay = true -> cellsAt bx' id) /\ (isK 2 ay = true -> arrAt bx' id)) (hk : Skel bx bx') :
  ∀ i j, siteOf ax = some i -> siteOf ay = some j -> i ≠ j := by
 intro i j hi hj hij
 subst hij
 have clash : cellsAt bx i -> arrAt bx' i -> False := fun ⟨v, c, e1⟩ ⟨v', f, T, l, e2⟩ => by
  have := hk i; rw [e1, e2] at this; exact this
 have clash' : arrAt bx i -> cellsAt bx' i -> False := fun ⟨v', f, T, l, e2⟩ ⟨v, c, e1⟩ => by
  have := hk i; rw [e1, e2] at this; exact this
 simp only [sepO, Bool.or_eq_true, Bool.and_eq_true] at hs
 rcases hs with (⟨ha, hb⟩ | ⟨ha, hb⟩) | hs
 ·exact clash ((h1 i hi).1 (kdO_is hv hx (by decide) (Nat.eq_of_beq_eq_true ha) hax)) ((h2 i hj).2 (kdO_is hv hy (by decide) (Nat.eq_of_beq_eq_true hb) hay))
 ·exact clash' ((h1 i hi).2 (kdO_is hv hx (by decide) (Nat.eq_of_beq_eq_true ha) hax)) ((h2 i hj).1 (kdO_is hv hy (by decide) (Nat.eq_of_beq_eq_true hb) hay))
 ·split at hs
  ·rename_i p q hp hq
   have e1 := fixO_is hv hx hp hax
   have e2 := fixO_is hv hy hq hay
   have g1 := isR_site e1 hi
   have g2 := isR_site e2 hj
   subst g1; subst g2
   simp at hs
  ·cases hs
theorem app6 {own : Bool} {Y : Op} {e : Eff} (h : evalOp E ⟨b, own⟩ dst ev bx Y = some e) (h6 : opc E own Y = 6) (hcan : e.can bx = true) :
  ∃ id, (∀ us, ∃ B, e.bx bx us = updB bx id (some B)) /\ ∀ ver c, bx id ≠ some (.cells ver c) := by
 cases Y
 case store t x y => simp [opc] at h6
 case binOp op t x y t' => simp only [opc] at h6; revert h6; cases E.pt t <;> simp
 case buildSlice t l ps => simp only [opc] at h6; cases own <;> simp at h6
 case call c =>
  obtain ⟨callee, args, ats⟩ := c
  cases callee with
  | value f =>
   exfalso
   cases f with
   | func f =>
    simp only [opc] at h6
    cases hT : E.tab f with
    | none => rw [hT] at h6; revert h6; simp only; cases E.cln f <;> simp
    | some S => rw [hT] at h6; revert h6; simp only; cases (freeL S.res || freeL S.args || !own) <;> simp
   | tmp t => simp [opc] at h6
   | _ => simp [opc] at h6
  | invoke r m => simp [opc] at h6
  | builtin bi =>
   cases bi <;> first | (simp [opc] at h6; done) | skip
   simp only [evalOp, dynF, evalCall] at h
   split at h
   ·split at h
    ·split at h
     ·rw [Option.bind_eq_some_iff] at h
      obtain ⟨m, hm, h⟩ := h
      split at h
      ·split at h
       ·rename_i hB
        split at h
        ·split at h
         ·cases h
          exact ⟨_, fun us => ⟨_, rfl⟩, fun ver c e => by rw [hB] at e; cases e⟩
         ·cases h
        ·cases h
       ·cases h
      ·split at h
       ·cases h
        refine ⟨_, fun us => ⟨_, rfl⟩, fun ver c e => ?_⟩
        simp [Eff.can, e] at hcan
       ·cases h
      ·cases h
     ·cases h
    ·cases h
   ·cases h
 all_goals (simp [opc] at h6)
theorem pair_core (hv : InvK E b ops s0 s) {ox oy : Bool} {X Y : Op} {dx dy : Option Nat} {ex ey : Eff} (h1 : evalOp E ⟨b, ox⟩ dx (s.ev b) s.bx X = some ex) (a1 : ex.can s.bx = true)
  (h2 : evalOp E ⟨b, oy⟩ dy (s.ev b) (ex.bx s.bx s.us) Y = some ey) (a2 : ey.can (ex.bx s.bx s.us) = true) (hc : pairC E b ops (s0.tm b) ox oy X Y = true) :
  evalOp E ⟨b, oy⟩ dy (s.ev b) s.bx Y = some ey /\ evalOp E ⟨b, ox⟩ dx (s.ev b) (ey.bx s.bx s.us) X = some ex /\ Dis ex ey := by
 have hcst : ∀ c, s.ev b (.const c) = some (.cst c) := fun _ => rfl
 have hbd : ∀ (op : Op), ∀ x ∈ op.operands, ∀ av, s.ev b x = some av -> av.bd s.us s.nl = true := fun op x _ av h => hv.bd.ev x av h
 obtain ⟨x3, x45, x6, x7⟩ := opc_eff hcst h1
 obtain ⟨y3, y45, y6, y7⟩ := opc_eff hcst h2
 have cQQ : Quiet ex -> Quiet ey -> _ := fun hx hy => (⟨by rw [hx.eqb] at h2; exact h2, by rw [hy.eqb]; exact h1, .inl hx⟩ : evalOp E ⟨b, oy⟩ dy (s.ev b) s.bx Y = some ey /\ evalOp E ⟨b, ox⟩ dx (s.ev b) (ey.bx s.bx s.us) X = some ex /\ Dis ex ey)
 have xq : Quiet ex -> evalOp E ⟨b, oy⟩ dy (s.ev b) s.bx Y = some ey := fun hx => by rw [hx.eqb] at h2; exact h2
 have yq : Quiet ey -> evalOp E ⟨b, ox⟩ dx (s.ev b) (ey.bx s.bx s.us) X = some ex := fun hy => by rw [hy.eqb]; exact h1
 have xn : ∀ id, KeyedN ex id -> evalOp E ⟨b, oy⟩ dy (s.ev b) s.bx Y = some ey := fun id hk => evalOp_mono hk.back (hbd Y) h2
 simp only [pairC, Bool.or_eq_true, Bool.and_eq_true, beq_iff_eq, decide_eq_true_eq] at hc
 have ynew : ∀ id, KeyedN ey id -> (ex.bx s.bx s.us) id = none -> Quiet ex \/ (∃ i, Keyed ex i /\ (ex.bx s.bx s.us i).isSome = true) -> s.bx id = none /\ ∀ i, Keyed ex i -> (ex.bx s.bx s.us i).isSome = true -> i ≠ id := fun id hk hn hq => by
  have hne : ∀ i, Keyed ex i -> (ex.bx s.bx s.us i).isSome = true -> i ≠ id := fun i hki hi e => by rw [e, hn] at hi; cases hi
  refine ⟨?_, hne⟩
  rcases hq with hq | ⟨i, hki, hi⟩
  ·rw [hq.eqb] at hn; exact hn
  ·rw [hki.ne (Ne.symm (hne i hki hi))] at hn; exact hn
 rcases hc with (((((((((((((hc | hc) | hc) | hc) | hc) | hc) | hc) | hc) | hc) | hc) | hc) | hc) | hc) | hc)
 ·exact ⟨xq (x3 (by omega)), by rw [pure_same (bx' := s.bx) (.inl hc)]; exact h1, .inl (x3 (by omega))⟩
 ·exact ⟨by rw [pure_same (bx' := ex.bx s.bx s.us) (.inl hc)]; exact h2, yq (y3 (by omega)), .inr (.inl (y3 (by omega)))⟩
 ·exact cQQ (x3 hc.1) (y3 hc.2)
 ·obtain ⟨id, hk⟩ : ∃ id, KeyedN ex id := by
   rcases hc.1 with (h | h) | h
   ·exact ⟨_, (x45 (.inl h)).1⟩
   ·exact ⟨_, (x45 (.inr h)).1⟩
   ·exact x6 h
  exact ⟨xn id hk, yq (y3 hc.2), .inr (.inl (y3 hc.2))⟩
 ·obtain ⟨hk, hn⟩ := y45 hc.2
  have hq := x3 hc.1
  obtain ⟨hn', _⟩ := ynew _ hk (hn a2) (.inl hq)
  exact ⟨xq hq, evalOp_mono (hk.1.on hn') (hbd X) h1, .inl hq⟩
 ·obtain ⟨hkx, hnx⟩ := x45 hc.1
  obtain ⟨hk, hn⟩ := y45 hc.2
  obtain ⟨hn', hne⟩ := ynew _ hk (hn a2) (.inr ⟨_, hkx.1, hkx.at⟩)
  exact ⟨xn _ hkx, evalOp_mono (hk.1.on hn') (hbd X) h1, .inr (.inr ⟨_, _, hkx.1, hk.1, hne _ hkx.1 hkx.at⟩)⟩
 ·obtain ⟨i, hki, hi⟩ := x7 hc.1
  obtain ⟨hk, hn⟩ := y45 (.inl hc.2)
  have hi' : (ex.bx s.bx s.us i).isSome = true := by
   obtain ⟨F, _, _, _, k1, _⟩ := hki; rw [k1, updB_at]; rfl
  obtain ⟨hn', hne⟩ := ynew _ hk (hn a2) (.inr ⟨i, hki, hi'⟩)
  exact ⟨by rw [pure_same (bx' := ex.bx s.bx s.us) (.inr hc.2)]; exact h2, evalOp_mono (hk.1.on hn') (hbd X) h1, .inr (.inr ⟨_, _, hki, hk.1, hne _ hki hi'⟩)⟩
 ·obtain ⟨hkx, hnx⟩ := x45 (.inl hc.1)
  have hA := xn _ hkx
  obtain ⟨_, _, _, y7'⟩ := opc_eff hcst hA
  obtain ⟨j, hkj, hj⟩ := y7' hc.2
  have hne : newId ⟨b, ox⟩ dx ≠ j := fun e => by rw [<- e, hnx a1] at hj; cases hj
  exact ⟨hA, by rw [pure_same (bx' := s.bx) (.inr hc.1)]; exact h1, .inr (.inr ⟨_, _, hkx.1, hkj, hne⟩)⟩
 ·obtain ⟨t, x, y, rfl⟩ := opc_store hc.1
  exact ⟨skel_same (store_skel h1).symm hc.2 h2, yq (y3 (by omega)), .inr (.inl (y3 (by omega)))⟩
 ·obtain ⟨t, x, y, rfl⟩ := opc_store hc.2
  have hq := x3 (by omega)
  exact ⟨xq hq, skel_same (store_skel (xq hq)) hc.1 h1, .inl hq⟩
 ·obtain ⟨⟨hc1, hc2⟩, hc3⟩ := hc
  obtain ⟨t, x, y, rfl⟩ := opc_store hc1
  obtain ⟨av, hav, _⟩ := store_eff h1
  obtain ⟨i, _, hki, hi⟩ := store_keyed h1 hav
  obtain ⟨_, s2⟩ := store_arrs (us := s.us) h1 hav (kdO_is hv (x := x) rfl (by decide) (Nat.eq_of_beq_eq_true hc3) hav)
  have hA := arrays_same s2 hc2 h2
  rcases hc2 with hc2 | hc2
  ·exact ⟨hA, yq (y3 (by omega)), .inr (.inl (y3 (by omega)))⟩
  ·obtain ⟨hk, hn⟩ := y45 (.inr hc2)
   have hi' : (ex.bx s.bx s.us i).isSome = true := by
    obtain ⟨F, _, _, _, k1, _⟩ := hki; rw [k1, updB_at]; rfl
   obtain ⟨hn', hne⟩ := ynew _ hk (hn a2) (.inr ⟨i, hki, hi'⟩)
   exact ⟨hA, evalOp_mono (hk.1.on hn') (hbd _) h1, .inr (.inr ⟨_, _, hki, hk.1, hne _ hki hi'⟩)⟩
 ·obtain ⟨⟨hc1, hc2⟩, hc3⟩ := hc
  obtain ⟨t, x, y, rfl⟩ := opc_store hc2
  have fin : evalOp E ⟨b, oy⟩ dy (s.ev b) s.bx (.store t x y) = some ey -> evalOp E ⟨b, ox⟩ dx (s.ev b) (ey.bx s.bx s.us) X = some ex := fun hA => by
   obtain ⟨av, hav, _⟩ := store_eff hA
   obtain ⟨s1, _⟩ := store_arrs (us := s.us) hA hav (kdO_is hv (x := x) rfl (by decide) (Nat.eq_of_beq_eq_true hc3) hav)
   exact arrays_same s1 hc1 h1
  rcases hc1 with hc1 | hc1
  ·have hq := x3 (by omega)
   exact ⟨xq hq, fin (xq hq), .inl hq⟩
  ·obtain ⟨hkx, hnx⟩ := x45 (.inr hc1)
   have hA := xn _ hkx
   obtain ⟨av, hav, _⟩ := store_eff hA
   obtain ⟨j, _, hkj, hj⟩ := store_keyed hA hav
   have hne : newId ⟨b, ox⟩ dx ≠ j := fun e => by rw [<- e, hnx a1] at hj; cases hj
   exact ⟨hA, fin hA, .inr (.inr ⟨_, _, hkx.1, hkj, hne⟩)⟩
 ·obtain ⟨⟨hcx, hcy⟩, hs⟩ := hc
  obtain ⟨x, ax, hzx, hax, sx⟩ := acc_site (opc_adr hcx) h1
  obtain ⟨y, ay, hzy, hay, sy⟩ := acc_site (opc_adr hcy) h2
  have hsk : Skel s.bx (ex.bx s.bx s.us) := by
   rcases hcx with hcx | hcx
   ·rw [(x3 (by omega)).eqb]; exact skel_refl _
   ·obtain ⟨t, p, q, rfl⟩ := opc_store hcx
    exact store_skel h1
  have hne := sep_ne hv hzx hzy hax hay hs sx sy hsk
  have hA : evalOp E ⟨b, oy⟩ dy (s.ev b) s.bx Y = some ey := by
   rw [<- h2]
   refine (acc_at hzy hay fun id hid => ?_).symm
   rcases hcx with hcx | hcx
   ·rw [(x3 (by omega)).eqb]
   ·obtain ⟨t, p, q, rfl⟩ := opc_store hcx
    cases hzx
    obtain ⟨i, hi, hki, _⟩ := store_keyed h1 hax
    exact hki.ne (Ne.symm (hne i id hi hid))
  have hB : evalOp E ⟨b, ox⟩ dx (s.ev b) (ey.bx s.bx s.us) X = some ex := by
   rw [<- h1]
   refine acc_at hzx hax fun id hid => ?_
   rcases hcy with hcy | hcy
   ·rw [(y3 (by omega)).eqb]
   ·obtain ⟨t, p, q, rfl⟩ := opc_store hcy
    cases hzy
    obtain ⟨j, hj, hkj, _⟩ := store_keyed hA hay
    exact hkj.ne (hne id j hid hj)
  refine ⟨hA, hB, ?_⟩
  rcases hcx with hcx | hcx
  ·exact .inl (x3 (by omega))
  ·rcases hcy with hcy | hcy
   ·exact .inr (.inl (y3 (by omega)))
   ·obtain ⟨t, p, q, rfl⟩ := opc_store hcx
    obtain ⟨t', p', q', rfl⟩ := opc_store hcy
    cases hzx; cases hzy
    obtain ⟨i, hi, hki, _⟩ := store_keyed h1 hax
    obtain ⟨j, hj, hkj, _⟩ := store_keyed hA hay
    exact .inr (.inr ⟨i, j, hki, hkj, hne i j hi hj⟩)
 ·obtain ⟨⟨hc1, hc2⟩, hc3⟩ := hc
  have hq := x3 (by omega)
  have hA := xq hq
  rw [hq.eqb] at a2
  obtain ⟨id, k1, k2⟩ := app6 hA hc2 a2
  obtain ⟨z, ax, hzx, hax, sx⟩ := acc_site (opc_adr (.inl hc1)) h1
  refine ⟨hA, ?_, .inl hq⟩
  rw [<- h1]
  refine acc_at hzx hax fun i hi => ?_
  obtain ⟨v, c, hcell⟩ := (sx i hi).1 (kdO_is hv hzx (by decide) (Nat.eq_of_beq_eq_true hc3) hax)
  have hne : i ≠ id := fun e => k2 v c (by rw [<- e]; exact hcell)
  obtain ⟨B, hB⟩ := k1 s.us
  rw [hB]
  show (bif Nat.beq i id then some B else s.bx i) = s.bx i
  rw [bif_beq, if_neg hne]
def commR (E : Env) (b : Nat) (ops : Array Oper) (own : Nat -> Bool) (tm0 : Nat -> Option AV) (i j : Nat) : Bool :=
 match ops[i]?, ops[j]? with
 | some x, some y => x.apart ops y && pairC E b ops tm0 (own i) (own j) x.op y.op
 | _, _ => false
theorem commR_ok {i j : Nat} (h : commR E b ops own (s0.tm b) i j = true) : CommG (stepR E own b n ops) (InvK E b ops s0) i j := by
 intro s s1 s2 hv h1 h2
 unfold commR at h
 split at h
 ·rename_i x y hx hy
  rw [Bool.and_eq_true] at h
  obtain ⟨hap, hpc⟩ := h
  obtain ⟨x', cx, ex, hx', wx, e1, p1⟩ := stepR_spec h1
  rw [hx] at hx'; cases hx'
  obtain ⟨a1, a2, rfl⟩ := app_spec p1
  obtain ⟨y', cy, ey, hy', wy, e2, p2⟩ := stepR_spec h2
  rw [hy] at hy'; cases hy'
  obtain ⟨c1, c2, rfl⟩ := app_spec p2
  obtain ⟨q1, q2, q3⟩ := Oper.apart_spec hap
  have hev : ∀ z ∈ y.op.operands, St.ev ⟨updT s.tm b x.dst (ex.av s.us), ex.bx s.bx s.us, ex.us s.us, s.nl, s.jp⟩ b z = s.ev b z := fun z hz => ev_updT (fun k hk hzk => q1 k hk (by
   subst hzk
   exact List.mem_append_left _ (List.mem_filterMap.2 ⟨.tmp k, by simpa using hz, rfl⟩))) _ _ _ _ s rfl
  have e2' : (bif cy then evalOp E ⟨b, own j⟩ y.dst (s.ev b) (ex.bx s.bx s.us) y.op else some (.put (.cst undef))) = some ey := by
   cases cy with
   | false => exact e2
   | true =>
    simp only [cond_true] at e2 ⊢
    rw [evalOp_congr (ev' := s.ev b) hev] at e2
    exact e2
  have goal : (bif cy then evalOp E ⟨b, own j⟩ y.dst (s.ev b) s.bx y.op else some (.put (.cst undef))) = some ey /\ (bif cx then evalOp E ⟨b, own i⟩ x.dst (s.ev b) (ey.bx s.bx s.us) x.op else some (.put (.cst undef))) = some ex /\ Dis ex ey := by
   cases cx with
   | false =>
    cases e1
    exact ⟨e2', rfl, .inl (Quiet.put _)⟩
   | true =>
    cases cy with
    | false =>
     cases e2'
     exact ⟨rfl, e1, .inr (.inl (Quiet.put _))⟩
    | true => exact pair_core hv e1 a2 e2' c2 hpc
  obtain ⟨gA, gB, gD⟩ := goal
  exact comm_core hx hy hap wx e1 a1 a2 wy c1 c2 gA gB gD
 ·cases h
end
section
variable {P : Program} {E : Env} {b n : Nat} {O : Octx} {ρ ρ' : Nat -> Value} {s t : St} {a : Act} {w w' : World}
theorem mem_obj {bx : Nat -> Option Box} {us : Nat -> Nat} {nl D : Nat} {o o' : Obj} (hD : w.heap[D]? = some o) (ho : o.isCells = false) : (mem O ρ bx w).Ext (mem O ρ bx (w.putObj D o')) us nl :=
 ⟨fun k c e z hk hh => ⟨hk, by
  have : k ≠ D := fun e => by
   subst e
   have hh' : w.heap[k]? = some (.cells c _ z) := hh
   rw [hD] at hh'; cases hh'; cases ho
  exact (World.putObj_heap_other this).trans hh⟩, fun _ _ _ h => ⟨h, rfl⟩, fun _ _ _ h => h, fun _ h => h⟩
theorem below_putObj {D B : Nat} {o : Obj} (h : B <= D) : Below B w (w.putObj D o) :=
 ⟨rfl, rfl, rfl, by simp, fun k hk => World.putObj_heap_other (by omega)⟩
theorem RelO.obj (h : RelO O ρ s w) {D : Nat} {o o' : Obj} (hD : w.heap[D]? = some o) (ho : o.isCells = false) (hlt : O.w0.heap.size <= D) {jp' : Nat -> Option Jmp}
  (hl : ∀ q ∈ O.lps, (w.putObj D o').heap[q.2.1]? = some (loopAt q.2.2 (jp' q.1))) (hk : ∀ q ∈ O.keep, q.1 ≠ D) : RelO O ρ { s with jp := jp' } (w.putObj D o') where
 up := fun p hp t av ht => by
  obtain ⟨h1, h2⟩ := h.up p hp t av ht
  exact ⟨h1, RepA.map (mem_obj hD ho) h1 h2⟩
 bx := fun id B hB => (h.bx id B hB).keep (mem_obj hD ho) (fun _ => Nat.le_refl _) rfl fun k hkk => World.putObj_heap_other fun e => by
  subst e
  obtain ⟨_, cs, e, h1⟩ := (h.bx id B hB).block hkk
  rw [hD] at h1; cases h1; cases ho
 inj := h.inj
 below := h.below.trans (below_putObj hlt)
 lps := fun q hq => ⟨hl q hq, (h.lps q hq).2⟩
 keep := fun q hq => ⟨(World.putObj_heap_other (hk q hq)).trans (h.keep q hq).1, (h.keep q hq).2⟩
 brd := h.brd
 rdf := fun k hk => h.rdf k (by simpa using hk)
 fz := fun q hq => by
  obtain ⟨h1, h2, h3⟩ := h.fz q hq
  refine ⟨(World.putObj_heap_other fun e => ?_).trans h1, h2, h3⟩
  rw [e, hD] at h1
  cases h1
  rw [ho] at h2; cases h2
def Octx.push (O : Octx) (b : Nat) (tmps : Array Value) (Ds : List Nat) : Octx := { O with ups := (b, tmps) :: O.ups, keep := Ds.map (fun D => (D, .deferred (some []))) ++ O.keep }
structure Waits (b n : Nat) (O : Octx) (a : Act) (Ds : List Nat) : Prop where
 defers : a.defers = Ds.map mark
 nodup : Ds.Nodup
 fresh : ∀ p ∈ O.ups, p.1 ≠ b
 size : a.tmps.size = n
 ds : ∀ D ∈ Ds, O.w0.heap.size <= D /\ (∀ q ∈ O.lps, q.2.1 ≠ D) /\ ∀ q ∈ O.keep, q.1 ≠ D
theorem RelC.push (h : RelC b n O ρ s a w) : ∃ Ds, Waits b n O a Ds /\ RelO (O.push b a.tmps Ds) ρ s w := by
 obtain ⟨Ds, h1, h2, h3⟩ := h.defers
 refine ⟨Ds, ⟨h1, h2, h.fresh, h.size, fun D hD => (h3 D hD).2⟩, ?_, h.bx, h.inj, h.below, h.lps, ?_, h.brd, h.rdf, h.fz⟩
 ·intro p hp t av ht
  rcases List.mem_cons.1 hp with e | hp
  ·subst e; exact h.tm t av ht
  ·exact h.up p hp t av ht
 ·intro q hq
  rcases List.mem_append.1 hq with hq | hq
  ·obtain ⟨D, hD, e⟩ := List.mem_map.1 hq
   subst e
   exact ⟨(h3 D hD).1, rfl, (h3 D hD).2.1⟩
  ·exact h.keep q hq
theorem RelO.pop {Ds : List Nat} (hw : Waits b n O a Ds) (h : RelO (O.push b a.tmps Ds) ρ s w) : RelC b n O ρ s a w where
 up := fun p hp => h.up p (List.mem_cons_of_mem _ hp)
 bx := h.bx
 inj := h.inj
 below := h.below
 lps := h.lps
 keep := fun q hq => h.keep q (List.mem_append_right _ hq)
 brd := h.brd
 rdf := h.rdf
 fz := h.fz
 fresh := hw.fresh
 size := hw.size
 tm := fun t av ht => h.up (b, a.tmps) List.mem_cons_self t av ht
 defers := ⟨Ds, hw.defers, hw.nodup, fun D hD => ⟨(h.keep (D, .deferred (some [])) (List.mem_append_left _ (List.mem_map.2 ⟨D, hD, rfl⟩))).1, hw.ds D hD⟩⟩
def St.enter (s : St) (b : Nat) (tm : Nat -> Option AV) : St := { s with tm := fun f t => bif Nat.beq f b then tm t else s.tm f t, bx := fun id => bif Nat.beq (id / 4096) b then none else s.bx id }
theorem RelO.enter (h : RelO O ρ s w) (hb : ∀ p ∈ O.ups, p.1 ≠ b) {tm : Nat -> Option AV} {tmps : Array Value} (hs : tmps.size = n)
  (hr : ∀ t av, tm t = some av -> av.bd s.us s.nl = true /\ RepA (mem O ρ s.bx w) av (tmps.getD t undef)) : RelC b n O ρ (s.enter b tm) { tmps := tmps, defers := [] } w := by
 have hst := h.del (bx' := (s.enter b tm).bx) fun i B hB => by
  simp only [St.enter] at hB
  cases hc : Nat.beq (i / 4096) b with
  | true => rw [hc] at hB; cases hB
  | false => rw [hc] at hB; exact hB
 have h1 := h.move hst
 refine ⟨⟨fun p hp t av ht => ?_, h1.bx, h1.inj, h1.below, h1.lps, h1.keep, h1.brd, h1.rdf, h1.fz⟩, hb, hs, fun t av ht => ?_, [], rfl, List.nodup_nil, fun D hD => (by cases hD)⟩
 ·have hne : Nat.beq p.1 b = false := Bool.eq_false_iff.2 fun e => hb p hp (Nat.eq_of_beq_eq_true e)
  have ht' : (bif Nat.beq p.1 b then tm t else s.tm p.1 t) = some av := ht
  rw [hne] at ht'
  exact h1.up p hp t av ht'
 ·have ht' : (bif Nat.beq b b then tm t else s.tm b t) = some av := ht
  rw [Nat.beq_refl] at ht'
  obtain ⟨h2, h3⟩ := hr t av ht'
  exact ⟨h2, RepA.map hst.ext h2 h3⟩
theorem RelC.obj {Ds Ds' : List Nat} {tmps : Array Value} (h : RelC b n O ρ s ⟨tmps, Ds.map mark⟩ w) {D : Nat} {o o' : Obj} (hD : w.heap[D]? = some o) (ho : o.isCells = false) (hlt : O.w0.heap.size <= D) {jp' : Nat -> Option Jmp}
  (hl : ∀ q ∈ O.lps, (w.putObj D o').heap[q.2.1]? = some (loopAt q.2.2 (jp' q.1))) (hk : ∀ q ∈ O.keep, q.1 ≠ D)
  (hn : Ds'.Nodup) (hds : ∀ D' ∈ Ds', D' ≠ D /\ w.heap[D']? = some (.deferred (some [])) /\ O.w0.heap.size <= D' /\ (∀ q ∈ O.lps, q.2.1 ≠ D') /\ ∀ q ∈ O.keep, q.1 ≠ D') : RelC b n O ρ { s with jp := jp' } ⟨tmps, Ds'.map mark⟩ (w.putObj D o') where
 toRelO := h.toRelO.obj hD ho hlt hl hk
 fresh := h.fresh
 size := h.size
 tm := fun t av ht => ⟨(h.tm t av ht).1, RepA.map (mem_obj hD ho) (h.tm t av ht).1 (h.tm t av ht).2⟩
 defers := ⟨Ds', rfl, hn, fun D' hD' => by
  obtain ⟨g1, g2, g3⟩ := hds D' hD'
  exact ⟨(World.putObj_heap_other g1).trans g2, g3⟩⟩
theorem leave_marks {F : Fence} {m : Nat} {fn : Func} {tmps : Array Value} {R : Ending -> World -> Prop} (hR : ∀ w', RelC b n O ρ s ⟨tmps, []⟩ w' -> ∃ v, (results fn tmps).run P w' = .ok v w' /\ R (.returned v) w') : ∀ (Ds : List Nat) (w1 : World),
  RelC b n O ρ s ⟨tmps, Ds.map mark⟩ w1 -> LeavesInM F m P fn tmps R (Ds.map mark) .returning w1
 | [], w1, h => hR w1 h
 | D :: Ds, w1, h => by
  obtain ⟨Ds0, e0, hn, hD⟩ := h.defers
  have hinj : ∀ (l l' : List Nat), l.map mark = l'.map mark -> l = l' := by
   intro l
   induction l with
   | nil => intro l' e; cases l' with
    | nil => rfl
    | cons x l' => simp at e
   | cons x l ih => intro l' e; cases l' with
    | nil => simp at e
    | cons x' l' =>
     simp only [List.map_cons, List.cons.injEq, mark, Deferred.mk.injEq, Target.collected.injEq] at e
     rw [e.1.1, ih l' e.2]
  have e1 := hinj _ _ e0
  subst e1
  obtain ⟨h1, h2, h3, h4⟩ := hD D List.mem_cons_self
  refine ⟨by simp, .inl ⟨D, w1.putObj D (.deferred none), rfl, run_takeDeferred h1, ?_⟩⟩
  have hne : ∀ D' ∈ Ds, D' ≠ D := fun D' hD' e => (List.nodup_cons.1 hn).1 (e ▸ hD')
  refine leave_marks hR Ds _ ?_
  exact h.obj (jp' := s.jp) h1 rfl h2 (fun q hq => (World.putObj_heap_other (h3 q hq)).trans (h.lps q hq).1) h4 (List.nodup_cons.1 hn).2 fun D' hD' => ⟨hne D' hD', hD D' (List.mem_cons_of_mem _ hD')⟩
end
section
variable {P : Program} {E : Env} {b n : Nat} {O : Octx} {ρ ρ' : Nat -> Value} {s t : St} {a : Act} {w w' : World}
theorem loadA_run (hE : E.OK P) (h : RelO O ρ s w) {t : TypeId} {q : Nat × Bool × AV} (hq : E.lay t = some q) {av p : AV} {v : Value} (hrep : RepA (mem O ρ s.bx w) av v) (hp : loadA s.bx q.1 q.2.1 av = some p) :
  ∃ ad u, v = .pointer (some ad) /\ (loadVar t ad).run P w = .ok u w /\ RepB (mem O ρ s.bx w) p u := by
 obtain ⟨ti, d, hL⟩ := hE.lay t q hq
 have fin : ∀ (g off : Nat) (ds : List Value) (p' : AV), v = .pointer (some ⟨g, off, none⟩) -> At w g off ds -> ds.length = q.1 -> HoldsA (mem O ρ s.bx w) p' ds -> (bif p'.fit && (p'.agg == q.2.1) then some p' else none) = some p ->
   ∃ ad u, v = .pointer (some ad) /\ (loadVar t ad).run P w = .ok u w /\ RepB (mem O ρ s.bx w) p u :=
  fun g off ds p' hx ha hl hd hc => by
   obtain ⟨rfl, hf, hag⟩ := pick_of (R := Unit) hc
   refine ⟨_, mkA p ds, hx, ?_, hd.rep⟩
   have h1 : q.2.1 = false -> q.1 = 1 := fun hb => by rw [<- hl, HoldsA.len _ _ hd]; exact agg_one _ hf (hag.trans hb)
   rw [run_loadVar_at hL ha hl h1, hd.mk hf, hag]
 unfold loadA at hp
 split at hp
 ·rename_i id ver off
  split at hp
  ·rename_i ver' c hB
   cases hv : Nat.beq ver ver' with
   | false => rw [hv] at hp; cases hp
   | true =>
    rw [hv] at hp
    have hv' := Nat.eq_of_beq_eq_true hv
    subst hv'
    simp only [cond_true] at hp
    split at hp
    ·rename_i p' hp'
     obtain ⟨g, cs, e, hx, _, hh, hc⟩ := ptr_at h hB hrep
     obtain ⟨h1, h2⟩ := subA_holds _ _ _ _ _ hp' hc
     have hat : At w g 0 cs.toList := ⟨cs, e, _, hh, fun j v hj => by simpa using hj⟩
     have hat' := At.part (k := off) (m := q.1) hat
     rw [Nat.zero_add] at hat'
     exact fin g off _ p' hx hat' (by simp at h2 ⊢; omega) h1 hp
    ·cases hp
  ·cases hp
 ·rename_i id ver sz i off
  split at hp
  ·rename_i ver' e T l hB
   cases hv : (Nat.beq ver ver' && Nat.beq sz T.size) with
   | false => rw [hv] at hp; cases hp
   | true =>
    rw [hv] at hp
    rw [Bool.and_eq_true] at hv
    have hv1 := Nat.eq_of_beq_eq_true hv.1
    have hv2 := Nat.eq_of_beq_eq_true hv.2
    subst hv1; subst hv2
    simp only [cond_true, Option.bind_eq_some_iff] at hp
    obtain ⟨y, hy, hp⟩ := hp
    split at hp
    ·rename_i p' hp'
     obtain ⟨g, m, cap, cur, c, hx, _, _, hat, hc, _, _⟩ := elt_at h hB hrep hy
     obtain ⟨h1, h2⟩ := subS_holds (M := mem O ρ s.bx w) _ _ _ _ _ _ hp' hc
     exact fin g _ _ p' hx (At.part hat) (by simp; omega) h1 hp
    ·cases hp
  ·cases hp
 ·rename_i T y off
  split at hp
  ·rename_i p' hp'
   obtain ⟨cs, ⟨g, o', ds, e, hk, ha, hc⟩, hx⟩ := hrep
   have hx' : v = .pointer (some ⟨g, o' + off, none⟩) := by rw [hx, e]; rfl
   obtain ⟨h1, h2⟩ := subS_holds (M := mem O ρ s.bx w) _ _ _ _ _ _ hp' hc
   exact fin g _ _ p' hx' (At.part ha) (by simp; omega) h1 hp
  ·cases hp
 ·cases hp
def isTup : AV -> Bool
 | .tup _ => true
 | _ => false
def retA (E : Env) (s : St) (b : Nat) : List ResultVar -> Option AV
 | [] => some .nl
 | .tmp p :: r => match s.tm b p with
  | some av => bif isTup av then none else (retA E s b r).map (.pr av)
  | none => none
 | .cell p ty :: r => match s.tm b p, E.lay ty with
  | some av, some q => match loadA s.bx q.1 q.2.1 av with
   | some y => (retA E s b r).map (.pr y)
   | none => none
  | _, _ => none
def resA : AV -> AV
 | .pr a .nl => a
 | c => .tup c
theorem asAddr_ptr (x : Addr) : asAddr (.pointer (some x)) = pure x := rfl
theorem retA_sound (hE : E.OK P) (h : RelC b n O ρ s a w) : ∀ (rs : List ResultVar) (c : AV), retA E s b rs = some c ->
  ∃ vs, (rs.mapM (fun | .tmp t => pure (a.tmps.getD t undef) | .cell p t => do loadVar t (<- asAddr (a.tmps.getD p undef)) : ResultVar -> Sem Value)).run P w = .ok vs w /\ TupA (mem O ρ s.bx w) c vs /\ c.bd s.us s.nl = true
 | [], c, he => by cases he; exact ⟨[], rfl, rfl, rfl⟩
 | .tmp p :: rs, c, he => by
  simp only [retA] at he
  split at he
  ·rename_i av hav
   cases ht : isTup av with
   | true => rw [ht] at he; cases he
   | false =>
    rw [ht] at he
    simp only [cond_false, Option.map_eq_some_iff] at he
    obtain ⟨c', hc', e⟩ := he
    subst e
    obtain ⟨vs, h1, h2, h3⟩ := retA_sound hE h rs c' hc'
    obtain ⟨g1, g2⟩ := h.tm p av hav
    refine ⟨_ :: vs, ?_, ⟨_, _, rfl, g2.toB (fun c e => by rw [e] at ht; cases ht), h2⟩, by simp [AV.bd, g1, h3]⟩
    simp only [List.mapM_cons, Sem.run_bind, Sem.run_pure, Result.andThen_ok, h1]
  ·cases he
 | .cell p ty :: rs, c, he => by
  simp only [retA] at he
  split at he
  ·rename_i av q hav hq
   split at he
   ·rename_i y hy
    rw [Option.map_eq_some_iff] at he
    obtain ⟨c', hc', e⟩ := he
    subst e
    obtain ⟨vs, h1, h2, h3⟩ := retA_sound hE h rs c' hc'
    obtain ⟨g1, g2⟩ := h.tm p av hav
    obtain ⟨ad, u, e1, e2, e3⟩ := loadA_run hE h.toRelO hq g2 hy
    refine ⟨u :: vs, ?_, ⟨_, _, rfl, e3, h2⟩, ?_⟩
    ·simp only [List.mapM_cons, e1, asAddr_ptr, Sem.run_bind, Sem.run_pure, Result.andThen_ok, e2, h1]
    ·have : y.bd s.us s.nl = true := loadA_bd h.bds.bx hy
     simp [AV.bd, this, h3]
   ·cases he
  ·cases he
theorem resA_rep {M : Mm} {c : AV} {vs : List Value} (h : TupA M c vs) : RepA M (resA c) (if h : vs.toArray.size = 1 then vs.toArray[0] else .tuple vs.toArray) := by
 have two : ∀ (c : AV) (vs : List Value), TupA M c vs -> (∀ x, c ≠ .pr x .nl) -> vs.length ≠ 1 := fun c vs h hc => by
  cases c <;> try exact h.elim
  ·rename_i x y
   obtain ⟨u, r, e, h1, h2⟩ := h
   subst e
   cases y <;> try exact h2.elim
   ·obtain ⟨u', r', e', _⟩ := h2; subst e'; simp
   ·exact absurd rfl (hc x)
  ·rw [show vs = [] from h]; simp
 unfold resA
 split
 ·obtain ⟨u, r, e, h1, h2⟩ := h
  rw [show r = [] from h2] at e
  subst e
  exact RepB.toA h1
 ·rename_i hc
  have hl := two _ vs h (fun x e => hc x e)
  rw [dif_neg (by simpa using hl)]
  exact ⟨vs, rfl, h⟩
theorem resA_bd {us : Nat -> Nat} {nl : Nat} {c : AV} (h : c.bd us nl = true) : (resA c).bd us nl = true := by
 unfold resA
 split
 ·simp only [AV.bd, Bool.and_eq_true] at h; exact h.1
 ·exact h
def retQ (E : Env) (b : Nat) (fn : Func) (Q : St -> AV -> Prop) (e : Exit) (t : St) : Prop := (e = .ret \/ e = .normal) /\ ∃ c, retA E t b fn.results.toList = some c /\ Q t (resA c)
def LeftBy (O : Octx) (Q : St -> AV -> Prop) (e : Ending) (w : World) : Prop := ∃ v t av ρ, e = .returned v /\ RelO O ρ t w /\ RepA (mem O ρ t.bx w) av v /\ av.bd t.us t.nl = true /\ Q t av
theorem call_place (hE : E.OK P) {r : Option Nat} {m : Nat} {f : FuncId} {fn : Func} {c : Code} {args : Array Value} {Q : St -> AV -> Prop} (hf : P.funcs[f]? = some fn) (hb : fn.body = some c)
  (h : c.wpIn (FW none) 0 P (fun e a' w' => ∃ t, retQ E b fn Q e t /\ Rel b fn.ntmps O t a' w') { tmps := args ++ Array.replicate (fn.ntmps - args.size) undef, defers := [] } w) :
  CallsIn (FW r) m P f args w (LeftBy O Q) := by
 have h0 : CallsIn (FW none) 0 P f args w (LeftBy O Q) := by
  refine callsIn_of_wp_marks hf hb trivial (wpIn_mono h fun e a' w' ⟨t, ⟨he, c, hc, hq⟩, ρ, hrel⟩ => ?_)
  have key : LeavesInM (FW none) 0 P fn a'.tmps (LeftBy O Q) a'.defers .returning w' := by
   obtain ⟨Ds, hDs, hD⟩ := hrel.defers
   rw [hDs]
   refine leave_marks (b := b) (n := fn.ntmps) (O := O) (ρ := ρ) (s := t) (fun w2 h2 => ?_) Ds w' ?_
   ·obtain ⟨vs, h3, h4, h5⟩ := retA_sound hE h2 _ _ hc
    refine ⟨_, ?_, _, t, _, ρ, rfl, h2.toRelO, resA_rep h4, resA_bd h5, hq⟩
    unfold results
    rw [show fn.results = fn.results.toList.toArray by simp, List.mapM_toArray]
    simp only [Sem.run_bind, Sem.run_map]
    exact (congrArg (fun r : Result (List Value) => (r.andThen fun x w' => Result.ok x.toArray w').andThen fun vs w' => (pure (if h : vs.size = 1 then vs[0] else Value.tuple vs) : Sem Value).run P w') h3).trans rfl
   ·rw [<- hDs]; exact hrel
  rcases he with rfl | rfl
  ·exact key
  ·exact key
 exact callsFW.2 (callsFW.1 h0)
end

inductive Dir where
 | s1 | s2 | c1 | c2 | b | l | ra | rb
def Code.down : Code -> Dir -> Code
 | .seq x _, .s1 => x
 | .seq _ y, .s2 => y
 | .cond _ x _, .c1 => x
 | .cond _ _ y, .c2 => y
 | .block _ c, .b => c
 | .loop c, .l => c
 | .scope c, .l => c
 | .rangeFunc _ _ c _, .ra => c
 | .rangeFunc _ _ _ c, .rb => c
 | _, _ => .skip
def atR (c : Code) : List Dir -> Code
 | [] => c
 | d :: p => Code.down (atR c p) d
def codeOf (E : Env) (f : FuncId) : Code :=
 match E.fn f with
 | some fn => fn.body.getD .skip
 | none => .skip
structure LoopI where
 k : Nat
 b : Nat
 n : Nat
 f : FuncId
 p : List Dir
structure Ctx where
 b : Nat
 n : Nat
 rd : Bool
 act : List Nat
 ys : List LoopI
structure Fits (E : Env) (X : Ctx) (O : Octx) (r : Option Nat) : Prop where
 g : GOK E O
 rd : r.isSome = X.rd
 act : ∀ p ∈ O.ups, p.1 ∈ X.act
 ys : ∀ q ∈ O.lps, ∃ y ∈ X.ys, y.k = q.1
 at_ : ∀ y ∈ X.ys, ∃ l r', O.lm y.k = some l /\ (y.k, l, r') ∈ O.lps /\ (y.b, r'.tmps) ∈ O.ups /\ r'.tmps.size = y.n /\ ∃ g, atR (codeOf E y.f) y.p = .rangeFunc g r'.params r'.assign r'.body
 key : ∀ q ∈ O.lps, ∀ q' ∈ O.lps, q.1 = q'.1 -> q = q'
 blk : ∀ q ∈ O.lps, ∀ q' ∈ O.lps, q.2.1 = q'.2.1 -> q = q'
 keep : ∀ q ∈ O.keep, q.2 = .deferred (some [])
def Awp (P : Program) (X : Ctx) (O : Octx) (r : Option Nat) (c : Code) (Q : Exit -> St -> Prop) (s : St) : Prop :=
 ∀ a w, Rel X.b X.n O s a w -> c.wpIn (FW r) 0 P (fun e a' w' => ∃ t, Q e t /\ Rel X.b X.n O t a' w') a w
def St.putT (s : St) (b : Nat) (dst : Option Nat) (av : AV) : St := { s with tm := updT s.tm b dst av }
def Ctx.call (X : Ctx) (b n : Nat) : Ctx := ⟨b, n, false, X.b :: X.act, X.ys⟩
def Ctx.round (X : Ctx) (b n : Nat) : Ctx := ⟨b, n, true, X.b :: X.act, X.ys⟩
def Ctx.range (X : Ctx) (b n k : Nat) (f : FuncId) (p : List Dir) : Ctx := ⟨b, n, false, X.b :: X.act, ⟨k, X.b, X.n, f, p⟩ :: X.ys⟩
def Ctx.free (X : Ctx) (b : Nat) : Bool := !(Nat.beq X.b b) && X.act.all fun c => !(Nat.beq c b)
section
variable {P : Program} {E : Env} {X : Ctx} {O : Octx} {r : Option Nat} {ρ ρ' : Nat -> Value} {s t : St} {a : Act} {w w' : World} {o : Oper} {b n : Nat}
theorem Fits.push (h : Fits E X O r) (tmps : Array Value) (Ds : List Nat) (m : Nat) : Fits E (X.call b m) (O.push X.b tmps Ds) none where
 g := h.g
 rd := rfl
 act := fun p hp => by
  rcases List.mem_cons.1 hp with e | hp
  ·subst e; exact List.mem_cons_self
  ·exact List.mem_cons_of_mem _ (h.act p hp)
 ys := h.ys
 at_ := fun y hy => by
  obtain ⟨l, r', h1, h2, h3, h4⟩ := h.at_ y hy
  exact ⟨l, r', h1, h2, List.mem_cons_of_mem _ h3, h4⟩
 key := h.key
 blk := h.blk
 keep := fun q hq => by
  rcases List.mem_append.1 hq with hq | hq
  ·obtain ⟨D, _, e⟩ := List.mem_map.1 hq; subst e; rfl
  ·exact h.keep q hq
theorem Fits.round (h : Fits E X O r) (tmps : Array Value) (Ds : List Nat) (m l : Nat) : Fits E (X.round b m) (O.push X.b tmps Ds) (some l) where
 g := h.g
 rd := rfl
 act := (h.push (b := b) tmps Ds m).act
 ys := h.ys
 at_ := (h.push (b := b) tmps Ds m).at_
 key := h.key
 blk := h.blk
 keep := (h.push (b := b) tmps Ds m).keep
theorem Ctx.free_spec (h : Fits E X O r) (hf : X.free b = true) (tmps : Array Value) (Ds : List Nat) : ∀ p ∈ (O.push X.b tmps Ds).ups, p.1 ≠ b := fun p hp e => by
 simp only [Ctx.free, Bool.and_eq_true, Bool.not_eq_true', List.all_eq_true] at hf
 rcases List.mem_cons.1 hp with e1 | hp
 ·subst e1; have e' : X.b = b := e; rw [e', Nat.beq_refl] at hf; cases hf.1
 ·have := hf.2 _ (h.act p hp)
  rw [e, Nat.beq_refl] at this; cases this
def seqA : List (Option AV) -> Option (List AV)
 | [] => some []
 | some av :: l => match seqA l with | some r => some (av :: r) | none => none
 | none :: _ => none
def capsL : AV -> Option (List AV)
 | .nl => some []
 | .pr a c => bif a.fit && Nat.beq a.size 1 && !a.agg then (match capsL c with | some l => some (a :: l) | none => none) else none
 | _ => none
theorem seqA_spec : ∀ (l : List (Option AV)) (avs : List AV), seqA l = some avs -> l = avs.map some
 | [], avs, h => by cases h; rfl
 | some av :: l, avs, h => by
  simp only [seqA] at h
  split at h
  ·rename_i q hq; cases h; rw [seqA_spec l q hq]; rfl
  ·cases h
 | none :: _, _, h => by cases h
theorem holds_one {M : Mm} {av : AV} {u : Value} (h1 : av.fit = true) (h2 : av.size = 1) (h3 : av.agg = false) (h : HoldsA M av [u]) : RepA M av u := by
 have := h.rep
 rw [h.mk h1, h3] at this
 exact RepB.toA this
theorem capsL_rep {M : Mm} : ∀ (c : AV) (l : List AV) (vs : List Value), capsL c = some l -> HoldsA M c vs -> vs.length = l.length /\ ∀ t av, l[t]? = some av -> RepA M av (vs.getD t undef)
 | .nl, l, vs, h, hh => by cases h; rw [show vs = [] from hh]; exact ⟨rfl, fun _ _ e => by cases e⟩
 | .pr a c, l, vs, h, hh => by
  obtain ⟨c1, c2, e, h1, h2⟩ := hh
  simp only [capsL] at h
  cases hc : (a.fit && Nat.beq a.size 1 && !a.agg) with
  | false => rw [hc] at h; cases h
  | true =>
   rw [hc] at h
   simp only [cond_true] at h
   simp only [Bool.and_eq_true, Bool.not_eq_true'] at hc
   obtain ⟨⟨g1, g2⟩, g3⟩ := hc
   have g2 := Nat.eq_of_beq_eq_true g2
   split at h
   ·rename_i q hq
    cases h
    obtain ⟨h3, h4⟩ := capsL_rep c q c2 hq h2
    have hl := HoldsA.len _ _ h1
    rw [g2] at hl
    match c1, hl, h1 with
    | [u], _, h1 =>
     subst e
     refine ⟨by simp [h3], fun t av ht => ?_⟩
     cases t with
     | zero => cases ht; exact holds_one g1 g2 g3 h1
     | succ t => simpa using h4 t av ht
   ·cases h
 | .cst _, _, _, h, _ => by cases h
 | .v _ _, _, _, h, _ => by cases h
 | .ptr _ _ _, _, _, h, _ => by cases h
 | .elt _ _ _ _ _, _, _, h, _ => by cases h
 | .ro _ _ _, _, _, h, _ => by cases h
 | .arr _ _, _, _, h, _ => by cases h
 | .clo _ _, _, _, h, _ => by cases h
 | .yld _, _, _, h, _ => by cases h
 | .tup _, _, _, h, _ => by cases h
theorem capsL_bd {us : Nat -> Nat} {nl : Nat} : ∀ (c : AV) (l : List AV), capsL c = some l -> c.bd us nl = true -> ∀ av ∈ l, av.bd us nl = true
 | .nl, l, h, _ => by cases h; exact fun _ h => by cases h
 | .pr a c, l, h, hb => by
  simp only [capsL] at h
  simp only [AV.bd, Bool.and_eq_true] at hb
  cases hc : (a.fit && Nat.beq a.size 1 && !a.agg) with
  | false => rw [hc] at h; cases h
  | true =>
   rw [hc] at h
   simp only [cond_true] at h
   split at h
   ·rename_i q hq
    cases h
    intro av hav
    rcases List.mem_cons.1 hav with e | hav
    ·subst e; exact hb.1
    ·exact capsL_bd c q hq hb.2 av hav
   ·cases h
 | .cst _, _, h, _ => by cases h
 | .v _ _, _, h, _ => by cases h
 | .ptr _ _ _, _, h, _ => by cases h
 | .elt _ _ _ _ _, _, h, _ => by cases h
 | .ro _ _ _, _, h, _ => by cases h
 | .arr _ _, _, h, _ => by cases h
 | .clo _ _, _, h, _ => by cases h
 | .yld _, _, h, _ => by cases h
 | .tup _, _, h, _ => by cases h
def inTm (avs : List AV) (t : Nat) : Option AV := avs[t]?
theorem in_rep {M : Mm} {us : Nat -> Nat} {nl : Nat} {avs : List AV} {vs : List Value} (hl : vs.length = avs.length) (hr : ∀ t av, avs[t]? = some av -> av.bd us nl = true /\ RepA M av (vs.getD t undef)) (m : Nat) :
  ∀ t av, inTm avs t = some av -> av.bd us nl = true /\ RepA M av ((vs.toArray ++ Array.replicate (m - vs.toArray.size) undef).getD t undef) := fun t av ht => by
 obtain ⟨h1, h2⟩ := hr t av ht
 have hlt : t < vs.length := by rw [hl]; exact (List.getElem?_eq_some_iff.1 ht).1
 refine ⟨h1, ?_⟩
 have : (vs.toArray ++ Array.replicate (m - vs.toArray.size) undef).getD t undef = vs.getD t undef := by
  simp [Array.getElem?_append, hlt]
 rw [this]; exact h2
theorem args_rep (h : RelC b n O ρ s a w) : ∀ (l : List Operand) (avs : List AV), seqA (l.map (s.ev b)) = some avs -> (l.map a.eval).length = avs.length /\ ∀ t av, avs[t]? = some av -> av.bd s.us s.nl = true /\ RepA (mem O ρ s.bx w) av ((l.map a.eval).getD t undef) := fun l avs hs => by
 have he := seqA_spec _ _ hs
 have hlen : l.length = avs.length := by simpa using congrArg List.length he
 refine ⟨by simpa using hlen, fun t av ht => ?_⟩
 have hlt : t < l.length := by rw [hlen]; exact (List.getElem?_eq_some_iff.1 ht).1
 have h1 : (l.map (s.ev b))[t]? = (avs.map some)[t]? := by rw [he]
 simp only [List.getElem?_map, ht, List.getElem?_eq_getElem hlt, Option.map_some, Option.some.injEq] at h1
 have : (l.map a.eval).getD t undef = a.eval l[t] := by simp [hlt]
 rw [this]
 exact ⟨h.bds.ev _ _ h1, h.ev h1⟩
theorem putT_rel (h : RelC b n O ρ s a w) {dst : Option Nat} {av : AV} {v : Value} (hd : (dst.all fun d => Nat.blt d n) = true) (hb : av.bd s.us s.nl = true) (hr : RepA (mem O ρ s.bx w) av v) : Rel b n O (s.putT b dst av) (a.put dst v) w :=
 ⟨ρ, h.putO hd hb hr⟩
theorem wpOp_place (hE : E.OK P) (hF : Fits E X O r) (h : RelC X.b X.n O ρ s a w) {x : Operand} {args : Array Operand} {ats : Array TypeId} (ho : o.op = .call ⟨.value x, args, ats⟩) {f : FuncId} {caps : AV} (hx : s.ev X.b x = some (.clo f caps))
  {fn : Func} (hfn : E.fn f = some fn) {avs cl : List AV} (hav : seqA (args.toList.map (s.ev X.b)) = some avs) (hcl : capsL caps = some cl) (hsz : avs.length + cl.length <= fn.ntmps) (hb : X.free b = true) (hd : (o.dst.all fun d => Nat.blt d X.n) = true)
  {Q : St -> AV -> Prop} (hrun : ∀ O', Fits E (X.call b fn.ntmps) O' none -> Awp P (X.call b fn.ntmps) O' none (codeOf E f) (retQ E b fn Q) (s.enter b (inTm (avs ++ cl))))
  {K : Act -> World -> Prop} {Qx : Exit -> Act -> World -> Prop} (hK : ∀ t av, Q t av -> ∀ a' w', Rel X.b X.n O (t.putT X.b o.dst av) a' w' -> K a' w') : o.wpIn (FW r) 0 P a w K Qx := by
 obtain ⟨hf, hn, hbody⟩ := hE.fn f fn hfn
 obtain ⟨c, hc⟩ := Option.isSome_iff_exists.1 hbody
 have hcode : codeOf E f = c := by simp [codeOf, hfn, hc]
 have hxr := h.ev hx
 obtain ⟨cs, ⟨l, e1, h1⟩, h2⟩ := hxr
 have hxv : a.eval x = .func (.func f) #[] l.toArray := by rw [h2, e1]; rfl
 have hrunop : (execOp a.eval o).run P w = .ok (.enter f (args.map a.eval ++ l.toArray)) w := by
  simp only [execOp, ho, resolve, hxv, Deferred.ofValue, Sem.run_bind, Sem.run_pure, Result.andThen_ok, invoke]
  simpa using run_callFunc (w := w) hf hn hc (args.map a.eval ++ l.toArray)
 refine ⟨fun _ _ => trivial, ?_⟩
 rw [Oper.semAt_eq _ _ _ (fun c hc => by rw [ho] at hc; cases hc), hrunop]
 refine ⟨fun hd => (by cases hd), ?_⟩
 obtain ⟨Ds, hw, hO⟩ := h.push
 have hF' := hF.push (b := b) a.tmps Ds fn.ntmps
 obtain ⟨ha1, ha2⟩ := args_rep h args.toList avs hav
 obtain ⟨hc1, hc2⟩ := capsL_rep caps cl l hcl h1
 have hxb : (AV.clo f caps).bd s.us s.nl = true := h.bds.ev _ _ hx
 have hcb := capsL_bd (us := s.us) (nl := s.nl) caps cl hcl hxb
 have hvals : args.map a.eval ++ l.toArray = (args.toList.map a.eval ++ l).toArray := by
  rw [<- List.append_toArray, <- Array.toList_map, Array.toArray_toList]
 have hlen : (args.toList.map a.eval ++ l).length = (avs ++ cl).length := by simp only [List.length_append, ha1, hc1]
 have hrep : ∀ t av, (avs ++ cl)[t]? = some av -> av.bd s.us s.nl = true /\ RepA (mem (O.push X.b a.tmps Ds) ρ s.bx w) av ((args.toList.map a.eval ++ l).getD t undef) := fun t av ht => by
  rw [List.getElem?_append] at ht
  split at ht
  ·rename_i hlt
   have := ha2 t av ht
   have e : (args.toList.map a.eval ++ l).getD t undef = (args.toList.map a.eval).getD t undef := by
    rw [<- ha1] at hlt
    simp only [List.getD_eq_getElem?_getD, List.getElem?_append_left hlt]
   rw [e]; exact this
  ·rename_i hlt
   have e : (args.toList.map a.eval ++ l).getD t undef = l.getD (t - avs.length) undef := by
    have hge : (args.toList.map a.eval).length <= t := by rw [ha1]; omega
    simp only [List.getD_eq_getElem?_getD, List.getElem?_append_right hge, ha1]
   rw [e]
   exact ⟨hcb av (List.mem_of_getElem? ht), hc2 _ av ht⟩
 have hrel := hO.enter (n := fn.ntmps) (Ctx.free_spec hF hb a.tmps Ds) (tm := inTm (avs ++ cl)) (tmps := (args.toList.map a.eval ++ l).toArray ++ Array.replicate (fn.ntmps - (args.toList.map a.eval ++ l).toArray.size) undef) (by
  have : (args.toList.map a.eval ++ l).length <= fn.ntmps := by rw [hlen, List.length_append]; exact hsz
  simp at this ⊢; omega) (in_rep hlen hrep fn.ntmps)
 rw [hvals]
 have hwp := hrun _ hF' _ _ ⟨ρ, hrel⟩
 rw [hcode] at hwp
 refine (call_place (m := 0 - 1) hE hf hc hwp).mono fun e w' ⟨v, t, av, ρ', e1, h3, h4, h5, h6⟩ => ?_
 subst e1
 exact hK t av h6 _ _ (putT_rel (h3.pop hw) hd h5 h4)
theorem wpOp_spec (hE : E.OK P) (hF : Fits E X O r) (h : RelC X.b X.n O ρ s a w) {x : Operand} {args : Array Operand} {ats : Array TypeId} (ho : o.op = .call ⟨.value x, args, ats⟩) {f : FuncId} (hx : s.ev X.b x = some (.clo f .nl))
  {S : Spec} (hS : E.tab f = some S) {xs : HL S.args} {y : HL S.res} (hxs : asBL s.bx S.args (args.toList.map (s.ev X.b)) = some xs) (hy : S.F xs = some y)
  (happ : s.app X.b X.n o.dst (if freeL S.res = true then .put (resAV S.res y) else .del (idsL (args.toList.map (s.ev X.b))) (resAV S.res y)) = some t)
  {K : Act -> World -> Prop} {Qx : Exit -> Act -> World -> Prop} (hK : ∀ a' w', Rel X.b X.n O t a' w' -> K a' w') : o.wpIn (FW r) 0 P a w K Qx := by
 have hfs := (hE.tab f S hS).1
 obtain ⟨fn, c, hf, hn, hc⟩ := hfs
 have hxr := h.ev hx
 obtain ⟨cs, ⟨l, e1, h1⟩, h2⟩ := hxr
 have hl : l = [] := h1
 subst hl
 have hxv : a.eval x = .func (.func f) #[] #[] := by rw [h2, e1]; rfl
 have hrunop : (execOp a.eval o).run P w = .ok (.enter f (args.map a.eval)) w := by
  simp only [execOp, ho, resolve, hxv, Deferred.ofValue, Sem.run_bind, Sem.run_pure, Result.andThen_ok, invoke]
  simpa using run_callFunc (w := w) hf hn hc (args.map a.eval)
 have hok := evalOp_spec hE hF.g h hrunop hS hxs hy
 have hb : ∀ (e : Eff), e = (if freeL S.res = true then .put (resAV S.res y) else .del (idsL (args.toList.map (s.ev X.b))) (resAV S.res y)) -> (e.av s.us).bd (e.us s.us) s.nl = true := fun e he => by
  subst he
  split <;> exact resAV_bd _ _
 have hb := hb _ rfl
 refine ⟨fun _ _ => trivial, ?_⟩
 rw [Oper.semAt_eq _ _ _ (fun c hc => by rw [ho] at hc; cases hc)]
 rcases hok with ⟨v, w', hrun, ha⟩ | ⟨w', hrun, ha⟩ | ⟨f', args', hrun, hc'⟩
 ·rw [hrun]; exact hK _ _ (h.after ha hb happ)
 ·rw [hrun]; exact hK _ _ (h.after ha hb happ)
 ·rw [hrun]
  refine ⟨fun hd => (by cases hd), callsFW.2 (hc'.mono fun en w' he => ?_)⟩
  obtain ⟨v, e1, ha⟩ := he
  subst e1
  exact hK _ _ (h.after ha hb happ)
end
section
variable {P : Program} {E : Env} {X : Ctx} {O : Octx} {r : Option Nat} {ρ ρ' : Nat -> Value} {s t : St} {a : Act} {w w' : World} {o : Oper} {b n : Nat}
def setJ (jp : Nat -> Option Jmp) (k : Nat) (j : Option Jmp) : Nat -> Option Jmp := fun i => bif Nat.beq i k then j else jp i
theorem setJ_at {jp : Nat -> Option Jmp} {k : Nat} {j : Option Jmp} : setJ jp k j k = j := by simp [setJ]
theorem setJ_ne {jp : Nat -> Option Jmp} {k i : Nat} {j : Option Jmp} (h : i ≠ k) : setJ jp k j i = jp i := by simp only [setJ, bif_beq]; rw [if_neg h]
def St.setJ (s : St) (k : Nat) (j : Option Jmp) : St := { s with jp := Rf.setJ s.jp k j }
theorem RelC.loopTo (h : RelC b n O ρ s a w) (hF : Fits E X O r) {k l : Nat} {r' : Loop} (hq : (k, l, r') ∈ O.lps) (j : Option Jmp) : RelC b n O ρ (s.setJ k j) a (w.putObj l (loopAt r' j)) := by
 obtain ⟨Ds, hDs, hn, hD⟩ := h.defers
 obtain ⟨tmps, defers⟩ := a
 simp only at hDs
 subst hDs
 have hl := h.lps _ hq
 refine RelC.obj h hl.1 (loopAt_notCells _ _) hl.2 (fun q hq' => ?_) (fun q hq' e => ?_) hn fun D' hD' => ⟨fun e => ?_, hD D' hD'⟩
 ·by_cases e : q.2.1 = l
  ·have := hF.blk q hq' (k, l, r') hq e
   subst this
   show _ = some (loopAt r' (Rf.setJ s.jp k j k))
   rw [setJ_at]
   exact World.putObj_heap_same (Array.getElem?_eq_some_iff.1 hl.1).1
  ·have hne : q.1 ≠ k := fun e' => e (by rw [hF.key q hq' (k, l, r') hq e'])
   rw [World.putObj_heap_other e, setJ_ne hne]
   exact (h.lps q hq').1
 ·have h1 := (h.keep q hq').1
  rw [e, hF.keep q hq'] at h1
  have h2 : w.heap[l]? = some (loopAt r' (s.jp k)) := hl.1
  rw [h2] at h1
  cases hj : s.jp k with
  | none => rw [hj] at h1; cases h1
  | some x => rw [hj] at h1; cases x <;> cases h1
 ·exact (hD D' hD').2.2.1 _ hq e.symm
def roundTm (tm : Nat -> Option AV) : List (Nat × AV) -> Nat -> Option AV
 | [] => tm
 | q :: l => roundTm (fun t => bif Nat.beq t q.1 then some q.2 else tm t) l
theorem roundTm_rep {M : Mm} {us : Nat -> Nat} {nl m : Nat} : ∀ (ps : List Nat) (avs : List AV) (vs : List Value) (tm : Nat -> Option AV) (tmps : Array Value), (∀ p ∈ ps, p < m) -> avs.length = ps.length -> vs.length = ps.length -> tmps.size = m ->
  (∀ t av, avs[t]? = some av -> av.bd us nl = true /\ RepA M av (vs.getD t undef)) -> (∀ t av, tm t = some av -> av.bd us nl = true /\ RepA M av (tmps.getD t undef)) ->
  ((ps.zip vs).foldl (fun tmps (q : Nat × Value) => tmps.setIfInBounds q.1 q.2) tmps).size = m /\
  ∀ t av, roundTm tm (ps.zip avs) t = some av -> av.bd us nl = true /\ RepA M av (((ps.zip vs).foldl (fun tmps (q : Nat × Value) => tmps.setIfInBounds q.1 q.2) tmps).getD t undef)
 | [], [], [], tm, tmps, _, _, _, hs, _, h => ⟨hs, h⟩
 | p :: ps, av :: avs, v :: vs, tm, tmps, hp, h1, h2, hs, ha, h => by
  simp only [List.zip_cons_cons, List.foldl_cons, roundTm]
  refine roundTm_rep ps avs vs _ _ (fun p hp' => hp p (List.mem_cons_of_mem _ hp')) (by simpa using h1) (by simpa using h2) (by simpa using hs) (fun t x hx => by simpa using ha (t + 1) x (by simpa using hx)) fun t x hx => ?_
  rw [bif_beq] at hx
  split at hx
  ·rename_i e; subst e; cases hx
   rw [getD_set_self (by rw [hs]; exact hp t List.mem_cons_self)]
   exact ha 0 av rfl
  ·rename_i e
   rw [getD_set_other (fun e' => e e'.symm)]
   exact h t x hx
 | [], _ :: _, _, _, _, _, h1, _, _, _, _ => by simp at h1
 | _ :: _, [], _, _, _, _, h1, _, _, _, _ => by simp at h1
 | [], [], _ :: _, _, _, _, _, h2, _, _, _ => by simp at h2
 | _ :: _, _ :: _, [], _, _, _, _, h2, _, _, _ => by simp at h2
def roundQ (k : Nat) (Q : St -> Bool -> Prop) (e : Exit) (t : St) : Prop := (t.jp k matches some .busy) /\
 match e with
 | .normal => Q (t.setJ k none) true
 | .ret => Q (t.setJ k (some .ret)) false
 | .exit id => Q (t.setJ k (some (.exit id))) false
 | _ => False
theorem wpOp_round (hF : Fits E X O r) (h : RelC X.b X.n O ρ s a w) {x : Operand} {args : Array Operand} {ats : Array TypeId} (ho : o.op = .call ⟨.value x, args, ats⟩) {y : LoopI} (hy : y ∈ X.ys) (hx : s.ev X.b x = some (.yld y.k))
  {g : Operand} {ps : Array Tmp} {assign body : Code} (hcode : atR (codeOf E y.f) y.p = .rangeFunc g ps assign body) {avs : List AV} (hav : seqA (args.toList.map (s.ev X.b)) = some avs) (hlen : avs.length = ps.toList.length) (hps : ∀ p ∈ ps.toList, p < y.n)
  (hjp : s.jp y.k = none) (hb : X.free b = true) (hd : (o.dst.all fun d => Nat.blt d X.n) = true) {Q : St -> Bool -> Prop}
  (hrun : ∀ O' l, Fits E (X.round b y.n) O' (some l) -> Awp P (X.round b y.n) O' (some l) assign (fun e t1 => e = .normal /\ t1.jp y.k = none /\ Awp P (X.round b y.n) O' (some l) body (roundQ y.k Q) (t1.setJ y.k (some .busy))) (s.enter b (roundTm (s.tm y.b) (ps.toList.zip avs))))
  {K : Act -> World -> Prop} {Qx : Exit -> Act -> World -> Prop} (hK : ∀ t c, Q t c -> ∀ a' w', Rel X.b X.n O (t.putT X.b o.dst (.cst (.bool c))) a' w' -> K a' w') : o.wpIn (FW r) 0 P a w K Qx := by
 obtain ⟨l, r', hlm, hq, hup, hsz, g', hcode'⟩ := hF.at_ y hy
 rw [hcode] at hcode'
 simp only [Code.rangeFunc.injEq] at hcode'
 obtain ⟨_, e1, e2, e3⟩ := hcode'
 subst e1; subst e2; subst e3
 obtain ⟨cs, ⟨u, e4, _, h1⟩, h2⟩ := h.ev hx
 have hxv : a.eval x = .func (.yield l) #[] #[] := by rw [h2, e4]; exact h1 l hlm
 obtain ⟨ha1, ha2⟩ := args_rep h args.toList avs hav
 have hrec : w.heap[l]? = some (.loop { r' with state := .ready, pending := none }) := by
  have := (h.lps _ hq).1
  simp only [hjp] at this
  exact this
 have hargs : (args.map a.eval).toList = args.toList.map a.eval := Array.toList_map
 have hasz : (args.map a.eval).size = r'.params.size := by
  rw [<- Array.length_toList, hargs, ha1, hlen, Array.length_toList]
 have hrunop : (execOp a.eval o).run P w = .ok (.round l r'.fn ((r'.params.zip (args.map a.eval)).foldl (fun tmps (t, a) => tmps.setIfInBounds t a) r'.tmps) r'.assign r'.body) w := by
  simp only [execOp, ho, resolve, hxv, Deferred.ofValue, Sem.run_bind, Sem.run_pure, Result.andThen_ok, invoke]
  simpa using run_yield (P := P) hrec (args := args.map a.eval) hasz
 refine ⟨fun _ _ => trivial, ?_⟩
 rw [Oper.semAt_eq _ _ _ (fun c hc => by rw [ho] at hc; cases hc), hrunop]
 refine ⟨fun hd => (by cases hd), ?_⟩
 obtain ⟨Ds, hw, hO⟩ := h.push
 have hF' := hF.round (b := b) a.tmps Ds y.n l
 have hq' : (y.k, l, r') ∈ (O.push X.b a.tmps Ds).lps := hq
 have hfold : (r'.params.zip (args.map a.eval)).foldl (fun tmps (t, a) => tmps.setIfInBounds t a) r'.tmps = (r'.params.toList.zip (args.toList.map a.eval)).foldl (fun tmps (q : Nat × Value) => tmps.setIfInBounds q.1 q.2) r'.tmps := by
  rw [<- Array.foldl_toList, Array.toList_zip, hargs]
 obtain ⟨f1, f2⟩ := roundTm_rep (M := mem (O.push X.b a.tmps Ds) ρ s.bx w) (us := s.us) (nl := s.nl) r'.params.toList avs (args.toList.map a.eval) (s.tm y.b) r'.tmps hps hlen (by rw [ha1, hlen]) hsz ha2 (fun t av ht => hO.up (y.b, r'.tmps) (List.mem_cons_of_mem _ hup) t av ht)
 have hrel := hO.enter (n := y.n) (Ctx.free_spec hF hb a.tmps Ds) f1 f2
 rw [hfold]
 refine roundIn_of_wpIn (F := FW r) trivial ?_
 have hwp := hrun _ l hF' _ _ ⟨ρ, hrel⟩
 refine wpIn_mono (F := FW (some l)) hwp fun e a1 w1 ⟨t1, ⟨he, hj1, hbody⟩, ρ1, hr1⟩ => ?_
 subst he
 have hrec1 : w1.heap[l]? = some (.loop { r' with state := .ready, pending := none }) := by
  have := (hr1.lps _ hq').1
  simp only [hj1] at this
  exact this
 refine ⟨_, run_beginRound hrec1 rfl, ?_⟩
 have hr2 : RelC b y.n (O.push X.b a.tmps Ds) ρ1 (t1.setJ y.k (some .busy)) a1 (w1.putObj l (loopAt r' (some .busy))) := hr1.loopTo hF' hq' (some .busy)
 refine wpIn_mono (F := FW (some l)) (hbody _ _ ⟨ρ1, hr2⟩) fun e a2 w2 ⟨t2, ⟨hj2, hq2⟩, ρ2, hr3⟩ => ?_
 have hjj : t2.jp y.k = some .busy := by
  revert hj2
  cases t2.jp y.k with
  | none => intro h; cases h
  | some j => cases j <;> first | (intro h; cases h; done) | exact fun _ => rfl
 have hrec2 : w2.heap[l]? = some (.loop { r' with state := .busy, pending := none }) := by
  have := (hr3.lps _ hq').1
  simp only [hjj] at this
  exact this
 cases e with
 | normal => exact ⟨_, _, run_endRound none hrec2, hK _ _ hq2 _ _ (putT_rel (RelO.pop hw (hr3.loopTo hF' hq' none).toRelO) hd rfl rfl)⟩
 | ret => exact ⟨_, _, run_endRound (some .ret) hrec2, hK _ _ hq2 _ _ (putT_rel (RelO.pop hw (hr3.loopTo hF' hq' (some .ret)).toRelO) hd rfl rfl)⟩
 | exit id => exact ⟨_, _, run_endRound (some (.exit id)) hrec2, hK _ _ hq2 _ _ (putT_rel (RelO.pop hw (hr3.loopTo hF' hq' (some (.exit id))).toRelO) hd rfl rfl)⟩
 | _ => exact hq2.elim
end
section
variable {P : Program} {E : Env} {X : Ctx} {O O' : Octx} {r : Option Nat} {ρ ρ' : Nat -> Value} {s t : St} {a : Act} {w w' : World} {o : Oper} {b n : Nat}
theorem AV.bd_nl {us : Nat -> Nat} {nl nl' : Nat} (h : nl <= nl') : ∀ (av : AV), av.bd us nl = true -> av.bd us nl' = true
 | .ptr _ _ _, hb => hb
 | .elt _ _ _ _ _, hb => hb
 | .arr _ _, hb => hb
 | .yld k, hb => by simp only [AV.bd, Nat.blt_eq] at *; exact Nat.lt_of_lt_of_le hb h
 | .clo f c, hb => AV.bd_nl h c hb
 | .tup c, hb => AV.bd_nl h c hb
 | .pr x y, hb => by simp only [AV.bd, Bool.and_eq_true] at *; exact ⟨AV.bd_nl h x hb.1, AV.bd_nl h y hb.2⟩
 | .cst _, _ => rfl
 | .v _ _, _ => rfl
 | .ro _ _ _, _ => rfl
 | .nl, _ => rfl
theorem mem_lps {bx : Nat -> Option Box} {us : Nat -> Nat} {nl : Nat} (h1 : O'.w0 = O.w0) (h2 : O'.ok0 = O.ok0) (h4 : O'.rd = O.rd) (h3 : ∀ k l, k < nl -> O'.lm k = some l -> O.lm k = some l) : (mem O ρ bx w).Ext (mem O' ρ bx w) us nl :=
 ⟨fun k c e z hk hh => ⟨⟨by rw [h1, h2]; exact hk.1, hk.2⟩, hh⟩, fun _ _ _ h => ⟨h, rfl⟩, fun k l hk h => h3 k l hk h, fun k h => by show O'.rd k; rw [h4]; exact h⟩
theorem frS_ctx {bx : Nat -> Option Box} (h1 : O'.w0 = O.w0) (h2 : O'.ok0 = O.ok0) {k : Nat} (h : frS O ρ bx k) : frS O' ρ bx k := ⟨by rw [h1, h2]; exact h.1, h.2⟩
theorem BoxOK.ctx {bx : Nat -> Option Box} {us : Nat -> Nat} {nl nl' id : Nat} {B : Box} (h : BoxOK O ρ bx w us nl id B) (h1 : O'.w0 = O.w0) (he : (mem O ρ bx w).Ext (mem O' ρ bx w) us nl) (hn : nl <= nl') : BoxOK O' ρ bx w us nl' id B := by
 cases B with
 | cells ver av =>
  obtain ⟨g1, g2, g, cs, e, g3, g4, g5, g6⟩ := h
  exact ⟨g1, AV.bd_nl hn av g2, g, cs, e, g3, by rw [h1]; exact g4, g5, HoldsA.map he _ _ g2 g6⟩
 | arr ver e T l =>
  obtain ⟨g1, css, g2, g3⟩ := h
  refine ⟨g1, css, All2.imp (fun x c hc => Holds.map he.heapv _ _ _ hc) g2, ?_⟩
  rw [h1]; exact g3
def rangeQ (k : Nat) (Q : Exit -> St -> Prop) (t : St) (_ : AV) : Prop :=
 match t.jp k with
 | none => Q .normal t
 | some .ret => Q .ret t
 | some (.exit id) => Q (.exit id) t
 | some .busy => False
theorem lm_cons {q : Nat × Nat × Loop} {k : Nat} : ({ O with lps := q :: O.lps } : Octx).lm k = if q.1 = k then some q.2.1 else O.lm k := by
 unfold Octx.lm
 simp only [List.find?_cons]
 by_cases h : q.1 = k
 ·simp [h]
 ·have : (q.1 == k) = false := by simpa using h
  simp [h, this]
theorem Awp.rangeFunc (hE : E.OK P) (hF : Fits E X O r) (hrd : X.rd = false) {g : Operand} {ps : Array Tmp} {assign body : Code} {f0 : FuncId} {p : List Dir} (hcode : atR (codeOf E f0) p = .rangeFunc g ps assign body)
  {f : FuncId} {caps : AV} (hx : s.ev X.b g = some (.clo f caps)) {fn : Func} (hfn : E.fn f = some fn) {cl : List AV} (hcl : capsL caps = some cl) (hsz : 1 + cl.length <= fn.ntmps) (hb : X.free b = true)
  {k : Nat} (hk : s.nl <= k) (hk' : (X.ys.all fun y => !(Nat.beq y.k k)) = true) {Q : Exit -> St -> Prop}
  (hrun : ∀ O', Fits E (X.range b fn.ntmps k f0 p) O' none -> Awp P (X.range b fn.ntmps k f0 p) O' none (codeOf E f) (retQ E b fn (rangeQ k Q)) (({ s with nl := k + 1, jp := setJ s.jp k none } : St).enter b (inTm (.yld k :: cl)))) :
  Awp P X O r (.rangeFunc g ps assign body) Q s := by
 intro a w ⟨ρ, h⟩
 have hrn : r = none := by have := hF.rd; rw [hrd] at this; cases r with | none => rfl | some _ => cases this
 subst hrn
 obtain ⟨hf, hn, hbody⟩ := hE.fn f fn hfn
 obtain ⟨c, hc⟩ := Option.isSome_iff_exists.1 hbody
 have hcodef : codeOf E f = c := by simp [codeOf, hfn, hc]
 obtain ⟨cs, ⟨lc, e1, h1⟩, h2⟩ := h.ev hx
 have hxv : a.eval g = .func (.func f) #[] lc.toArray := by rw [h2, e1]; rfl
 have hknew : ∀ q ∈ O.lps, q.1 ≠ k := fun q hq e => by
  obtain ⟨y, hy, hyk⟩ := hF.ys q hq
  have := List.all_eq_true.1 hk' y hy
  rw [hyk, e, Nat.beq_refl] at this; cases this
 have hlmk : O.lm k = none := by
  unfold Octx.lm
  rw [List.find?_eq_none.2 (fun q hq => by simpa using hknew q hq)]; rfl
 refine wpIn_rangeFunc fun fn0 _ => ?_
 obtain ⟨D, hD⟩ : ∃ D, D = w.heap.size := ⟨_, rfl⟩
 obtain ⟨rec, hrec⟩ : ∃ rec : Loop, rec = { state := .ready, pending := none, fn := fn0, tmps := a.tmps, params := ps, assign := assign, body := body, defers := D } := ⟨_, rfl⟩
 obtain ⟨w1, hw1⟩ : ∃ w1, w1 = (w.alloc (.deferred (some []))).alloc (.loop rec) := ⟨_, rfl⟩
 have hd1 : w1.heap[D]? = some (.deferred (some [])) := by
  rw [hw1, Below.heap_alloc _ _ _ (by simp [hD]), hD]
  exact World.alloc_heap_new w _
 have hl1 : w1.heap[D + 1]? = some (loopAt rec none) := by
  have : loopAt rec none = .loop rec := by rw [hrec]; rfl
  rw [this, hw1, hD]
  have h3 := World.alloc_heap_new (w.alloc (.deferred (some []))) (.loop rec)
  rw [World.size_alloc] at h3
  exact h3
 have hbel : Below w.heap.size w w1 := by
  rw [hw1]; exact ((Below.refl _ w).alloc (Nat.le_refl _) _).alloc (by simp) _
 refine ⟨D + 1, [mark D], w1, { target := .fn (.func f) lc.toArray, args := #[.func (.yield (D + 1)) #[] #[]] }, w1, f, #[.func (.yield (D + 1)) #[] #[]] ++ lc.toArray, w1, ?_, ?_, fun _ _ => trivial, ?_, fun hd => (by cases hd), ?_⟩
 ·rw [hw1, hrec, hD]; exact run_enterLoop_outer fn0 a.tmps ps assign body
 ·simp only [resolve, rangeCall, hxv, Deferred.ofValue, Sem.run_pure]
  simp [Act.eval]
 ·simp only [invoke]
  exact run_callFunc hf hn hc _
 obtain ⟨Ds, hw, hO⟩ := h.push
 have hO1 := hO.move (hO.same hbel)
 obtain ⟨O1, hO1d⟩ : ∃ O1, O1 = O.push X.b a.tmps (D :: Ds) := ⟨_, rfl⟩
 obtain ⟨O2, hO2d⟩ : ∃ O2 : Octx, O2 = { O1 with lps := (k, D + 1, rec) :: O1.lps } := ⟨_, rfl⟩
 have ho1 : O1.w0 = O.w0 := by rw [hO1d]; rfl
 have ho2 : O2.w0 = O.w0 := by rw [hO2d]; exact ho1
 have hlm2 : ∀ i, O2.lm i = if k = i then some (D + 1) else O.lm i := fun i => by
  rw [hO2d, lm_cons, hO1d]; rfl
 have hge : O.w0.heap.size <= D := by rw [hD]; exact h.below.size
 have hext : (mem (O.push X.b a.tmps Ds) ρ s.bx w1).Ext (mem O2 ρ s.bx w1) s.us s.nl := mem_lps (by rw [ho2]; rfl) (by rw [hO2d, hO1d]; rfl) (by rw [hO2d, hO1d]; rfl) fun i l hi hl => by
  rw [hlm2] at hl
  split at hl
  ·omega
  ·exact hl
 have hups2 : O2.ups = (X.b, a.tmps) :: O.ups := by rw [hO2d, hO1d]; rfl
 have hlps2 : O2.lps = (k, D + 1, rec) :: O.lps := by rw [hO2d, hO1d]; rfl
 have hkeep2 : O2.keep = (D, .deferred (some [])) :: (O.push X.b a.tmps Ds).keep := by rw [hO2d, hO1d]; rfl
 have hrelO : RelO O2 ρ { s with nl := k + 1, jp := setJ s.jp k none } w1 := by
  have hrd2 : O2.rd = (O.push X.b a.tmps Ds).rd := by rw [hO2d, hO1d]; rfl
  refine ⟨fun q hq t av ht => ?_, fun id B hB => ?_, hO1.inj, ?_, fun q hq => ?_, fun q hq => ?_, by rw [hrd2]; exact hO1.brd, by rw [hrd2]; exact hO1.rdf, fun q hq => ?_⟩
  rotate_left 5
  ·have := hO1.fz q (by rw [hO2d, hO1d] at hq; exact hq)
   exact ⟨this.1, this.2.1, frS_ctx (by rw [ho2]; rfl) (by rw [hO2d, hO1d]; rfl) this.2.2⟩
  ·rw [hups2] at hq
   obtain ⟨g1, g2⟩ := hO1.up q hq t av ht
   exact ⟨AV.bd_nl (show s.nl <= k + 1 by omega) av g1, RepA.map hext g1 g2⟩
  ·exact (hO1.bx id B hB).ctx (by rw [ho2]; rfl) hext (by show s.nl <= k + 1; omega)
  ·rw [ho2]; exact hO1.below
  ·rw [hlps2] at hq
   rw [ho2]
   rcases List.mem_cons.1 hq with e | hq
   ·subst e
    refine ⟨?_, by show O.w0.heap.size <= D + 1; omega⟩
    show w1.heap[D + 1]? = some (loopAt rec (setJ s.jp k none k))
    rw [setJ_at]; exact hl1
   ·refine ⟨?_, (hO1.lps q hq).2⟩
    show w1.heap[q.2.1]? = some (loopAt q.2.2 (setJ s.jp k none q.1))
    rw [setJ_ne (hknew q hq)]
    exact (hO1.lps q hq).1
  ·rw [hkeep2] at hq
   rw [ho2]
   rcases List.mem_cons.1 hq with e | hq
   ·subst e; exact ⟨hd1, rfl, hge⟩
   ·exact hO1.keep q hq
 have hlt : ∀ q ∈ O.lps, q.2.1 < w.heap.size := fun q hq => (Array.getElem?_eq_some_iff.1 (h.lps q hq).1).1
 have hkeeplt : ∀ q ∈ O.keep, q.1 < w.heap.size := fun q hq => (Array.getElem?_eq_some_iff.1 (h.keep q hq).1).1
 have hDlt : ∀ D' ∈ Ds, D' < w.heap.size := fun D' hD' => by
  have := (hO.keep (D', .deferred (some [])) (List.mem_append_left _ (List.mem_map.2 ⟨D', hD', rfl⟩))).1
  exact (Array.getElem?_eq_some_iff.1 this).1
 have hFit : Fits E (X.range b fn.ntmps k f0 p) O2 none := by
  refine ⟨fun w' hb' => hF.g w' (by rw [<- ho2]; exact hb'), rfl, fun q hq => ?_, fun q hq => ?_, fun y hy => ?_, fun q hq q' hq' e => ?_, fun q hq q' hq' e => ?_, fun q hq => ?_⟩
  ·rw [hups2] at hq
   rcases List.mem_cons.1 hq with e | hq
   ·subst e; exact List.mem_cons_self
   ·exact List.mem_cons_of_mem _ (hF.act q hq)
  ·rw [hlps2] at hq
   rcases List.mem_cons.1 hq with e | hq
   ·subst e; exact ⟨_, List.mem_cons_self, rfl⟩
   ·obtain ⟨y, hy, e⟩ := hF.ys q hq
    exact ⟨y, List.mem_cons_of_mem _ hy, e⟩
  ·rcases List.mem_cons.1 hy with e | hy
   ·subst e
    refine ⟨D + 1, rec, ?_, ?_, ?_, ?_, g, ?_⟩
    ·rw [hlm2]; simp
    ·rw [hlps2]; exact List.mem_cons_self
    ·rw [hups2, hrec]; exact List.mem_cons_self
    ·rw [hrec]; exact h.size
    ·rw [hrec]; exact hcode
   ·obtain ⟨l, r', g1, g2, g3, g4⟩ := hF.at_ y hy
    refine ⟨l, r', ?_, by rw [hlps2]; exact List.mem_cons_of_mem _ g2, by rw [hups2]; exact List.mem_cons_of_mem _ g3, g4⟩
    rw [hlm2, if_neg (fun e => hknew _ g2 e.symm)]; exact g1
  ·rw [hlps2] at hq hq'
   rcases List.mem_cons.1 hq with e1 | hq <;> rcases List.mem_cons.1 hq' with e2 | hq'
   ·rw [e1, e2]
   ·subst e1; exact absurd e.symm (hknew q' hq')
   ·subst e2; exact absurd e (hknew q hq)
   ·exact hF.key q hq q' hq' e
  ·rw [hlps2] at hq hq'
   rcases List.mem_cons.1 hq with e1 | hq <;> rcases List.mem_cons.1 hq' with e2 | hq'
   ·rw [e1, e2]
   ·subst e1; have := hlt q' hq'; have e' : D + 1 = q'.2.1 := e; omega
   ·subst e2; have := hlt q hq; have e' : q.2.1 = D + 1 := e; omega
   ·exact hF.blk q hq q' hq' e
  ·rw [hkeep2] at hq
   rcases List.mem_cons.1 hq with e | hq
   ·subst e; rfl
   ·exact (hF.push (b := b) a.tmps Ds fn.ntmps).keep q hq
 have hcapb : caps.bd s.us s.nl = true := h.bds.ev g (.clo f caps) hx
 obtain ⟨hc1, hc2⟩ := capsL_rep (M := mem O2 ρ s.bx w1) caps cl lc hcl (HoldsA.map hext _ _ hcapb (HoldsA.map (hO.same hbel).ext _ _ hcapb h1))
 have hcb := capsL_bd (us := s.us) (nl := k + 1) caps cl hcl (AV.bd_nl (show s.nl <= k + 1 by omega) _ hcapb)
 have hyb : (AV.yld k).bd s.us (k + 1) = true := by simp [AV.bd]
 have hyr : RepA (mem O2 ρ s.bx w1) (.yld k) (.func (.yield (D + 1)) #[] #[]) := by
  refine ⟨[_], ⟨_, rfl, rfl, fun l hl => ?_⟩, rfl⟩
  have hl' : O2.lm k = some l := hl
  rw [hlm2, if_pos rfl] at hl'
  cases hl'; rfl
 have hrep : ∀ t av, (AV.yld k :: cl)[t]? = some av -> av.bd s.us (k + 1) = true /\ RepA (mem O2 ρ s.bx w1) av ((.func (.yield (D + 1)) #[] #[] :: lc).getD t undef) := fun t av ht => by
  cases t with
  | zero => cases ht; exact ⟨hyb, hyr⟩
  | succ t => exact ⟨hcb av (List.mem_of_getElem? (by simpa using ht)), by simpa using hc2 t av (by simpa using ht)⟩
 have hvals : #[.func (.yield (D + 1)) #[] #[]] ++ lc.toArray = (Value.func (.yield (D + 1)) #[] #[] :: lc).toArray := by
  rw [show (Value.func (.yield (D + 1)) #[] #[] :: lc) = [Value.func (.yield (D + 1)) #[] #[]] ++ lc from rfl, <- List.append_toArray]
 have hrel := hrelO.enter (n := fn.ntmps) (b := b) (by rw [hups2]; exact Ctx.free_spec hF hb a.tmps Ds) (tm := inTm (.yld k :: cl)) (tmps := (Value.func (.yield (D + 1)) #[] #[] :: lc).toArray ++ Array.replicate (fn.ntmps - (Value.func (.yield (D + 1)) #[] #[] :: lc).toArray.size) undef) (by
  simp [hc1]; omega) (in_rep (by simp [hc1]) hrep fn.ntmps)
 rw [hvals]
 have hwp := hrun _ hFit _ _ ⟨ρ, hrel⟩
 rw [hcodef] at hwp
 refine (call_place (m := 0 - 1) hE hf hc hwp).mono fun e w3 ⟨v, t, av, ρ3, e1, h3, h4, h5, h6⟩ => ?_
 subst e1
 have hl3 : w3.heap[D + 1]? = some (loopAt rec (t.jp k)) := (h3.lps (k, D + 1, rec) (by rw [hlps2]; exact List.mem_cons_self)).1
 have hO3 : RelO O1 ρ3 t w3 := by
  have hext3 : (mem O2 ρ3 t.bx w3).Ext (mem O1 ρ3 t.bx w3) t.us t.nl := mem_lps (by rw [hO2d]) (by rw [hO2d]) (by rw [hO2d]) fun i l hi hl => by
   rw [hlm2]
   have hl' : O.lm i = some l := by rw [hO1d] at hl; exact hl
   split
   ·rename_i e; rw [<- e, hlmk] at hl'; cases hl'
   ·exact hl'
  have e01 : O1.w0 = O2.w0 := by rw [ho1, ho2]
  refine ⟨fun q hq t' av ht => ?_, fun id B hB => (h3.bx id B hB).ctx e01 hext3 (Nat.le_refl _), h3.inj, by rw [e01]; exact h3.below, fun q hq => ?_, fun q hq => ?_, by rw [show O1.rd = O2.rd by rw [hO2d]]; exact h3.brd, by rw [show O1.rd = O2.rd by rw [hO2d]]; exact h3.rdf, fun q hq => by
   have := h3.fz q (by rw [hO2d]; exact hq)
   exact ⟨this.1, this.2.1, frS_ctx e01 (by rw [hO2d]) this.2.2⟩⟩
  ·obtain ⟨g1, g2⟩ := h3.up q (by rw [hO2d]; exact hq) t' av ht
   exact ⟨g1, RepA.map hext3 g1 g2⟩
  ·rw [e01]; exact h3.lps q (by rw [hO2d]; exact List.mem_cons_of_mem _ hq)
  ·rw [e01]; exact h3.keep q (by rw [hO2d]; exact hq)
 have hO4 : RelO O1 ρ3 t (w3.putObj (D + 1) (.loop { rec with state := .exhausted, pending := (match t.jp k with | none => none | some .busy => none | some j => some j.code) })) :=
  hO3.obj (jp' := t.jp) hl3 (loopAt_notCells _ _) (by rw [ho1]; omega) (fun q hq => by
   have hq' : q ∈ O.lps := by rw [hO1d] at hq; exact hq
   have := hlt q hq'
   rw [World.putObj_heap_other (by omega)]; exact (hO3.lps q hq).1) (fun q hq => by
   rw [hO1d] at hq
   rcases List.mem_append.1 hq with hq | hq
   ·obtain ⟨D', hD', e⟩ := List.mem_map.1 hq
    subst e
    rcases List.mem_cons.1 hD' with e | hD'
    ·subst e; show D' ≠ D' + 1; omega
    ·have := hDlt D' hD'; show D' ≠ D + 1; omega
   ·have := hkeeplt q hq; omega)
 have hW : Waits X.b X.n O { a with defers := [mark D] ++ a.defers } (D :: Ds) := by
  refine ⟨by rw [hw.defers]; rfl, List.nodup_cons.2 ⟨fun hm => ?_, hw.nodup⟩, hw.fresh, hw.size, fun D' hD' => ?_⟩
  ·have := hDlt D hm; omega
  ·rcases List.mem_cons.1 hD' with e | hD'
   ·subst e
    exact ⟨hge, fun q hq e => by have := hlt q hq; omega, fun q hq e => by have := hkeeplt q hq; omega⟩
   ·exact hw.ds D' hD'
 have hfin : Rel X.b X.n O t { a with defers := [mark D] ++ a.defers } (w3.putObj (D + 1) (.loop { rec with state := .exhausted, pending := (match t.jp k with | none => none | some .busy => none | some j => some j.code) })) :=
  ⟨ρ3, RelO.pop hW (by rw [hO1d] at hO4; exact hO4)⟩
 unfold rangeQ at h6
 split at h6
 ·rename_i hj
  rw [hj] at hl3 hfin
  exact ⟨none, _, run_endLoop hl3 (by simp), ⟨t, h6, hfin⟩⟩
 ·rename_i hj
  rw [hj] at hl3 hfin
  exact ⟨some .ret, _, run_endLoop hl3 (by simp), wpIn_ret ⟨t, h6, hfin⟩⟩
 ·rename_i id hj
  rw [hj] at hl3 hfin
  exact ⟨some (.exit id), _, run_endLoop hl3 (by simp), wpIn_exit ⟨t, h6, hfin⟩⟩
 ·exact h6.elim
end
section
variable {P : Program} {E : Env} {b n : Nat} {O : Octx} {ρ : Nat -> Value} {s : St} {a : Act} {w : World}
def subArr (id ver id' ver' : Nat) : AV -> AV
 | .arr i v => bif Nat.beq i id && Nat.beq v ver then .arr id' ver' else .arr i v
 | .pr x y => .pr (subArr id ver id' ver' x) (subArr id ver id' ver' y)
 | .tup c => .tup (subArr id ver id' ver' c)
 | av => av
def idsR : AV -> List Nat
 | .tup c => arrIds c
 | av => arrIds av
def renAt (b d id : Nat) (av : AV) (s : St) : St :=
 match s.bx id with
 | some (.arr ver e T l) => bif (s.bx (b * 4096 + d)).isNone then
   { s with tm := updT s.tm b (some d) (subArr id ver (b * 4096 + d) (s.us (b * 4096 + d)) av), bx := updB (updB s.bx id none) (b * 4096 + d) (some (.arr (s.us (b * 4096 + d)) e T l)), us := updU s.us (b * 4096 + d) (s.us (b * 4096 + d) + 1) }
   else s
 | _ => s
def renS (f : Bool) (b : Nat) (dst : Option Nat) (s : St) : St :=
 bif f then (match dst with
  | some d => match s.tm b d with
   | some av => match idsR av with
    | [id] => renAt b d id av s
    | _ => s
   | none => s
  | none => s) else s
theorem subArr_bd {us us' : Nat -> Nat} {nl id ver id' ver' : Nat} (hu : ∀ i, us i <= us' i) (hv : ver' < us' id') : ∀ av : AV, av.bd us nl = true -> (subArr id ver id' ver' av).bd us' nl = true
 | .arr i v, h => by
  simp only [subArr]
  cases Nat.beq i id && Nat.beq v ver with
  | true => simp [AV.bd, hv]
  | false => exact AV.bd_mono hu _ h
 | .pr x y, h => by
  simp only [AV.bd, Bool.and_eq_true] at h
  simp [subArr, AV.bd, subArr_bd hu hv x h.1, subArr_bd hu hv y h.2]
 | .tup c, h => by
  have h' : c.bd us nl = true := h
  exact subArr_bd hu hv c h'
 | .cst _, h => AV.bd_mono hu _ h
 | .v _ _, h => AV.bd_mono hu _ h
 | .ptr _ _ _, h => AV.bd_mono hu _ h
 | .elt _ _ _ _ _, h => AV.bd_mono hu _ h
 | .ro _ _ _, h => AV.bd_mono hu _ h
 | .clo _ _, h => AV.bd_mono hu _ h
 | .yld _, h => AV.bd_mono hu _ h
 | .nl, h => AV.bd_mono hu _ h
theorem subArr_holds {M M' : Mm} {us : Nat -> Nat} {nl id ver id' ver' : Nat} (hx : M.Ext M' us nl) (hc : M.cur id = some ver) (hρ : M'.ρ id' = M.ρ id) : ∀ (av : AV) (cs : List Value), av.bd us nl = true -> HoldsA M av cs -> HoldsA M' (subArr id ver id' ver' av) cs
 | .arr i v, cs, h, H => by
  simp only [subArr]
  cases hb : Nat.beq i id && Nat.beq v ver with
  | true =>
   rw [Bool.and_eq_true] at hb
   have e1 := Nat.eq_of_beq_eq_true hb.1
   have e2 := Nat.eq_of_beq_eq_true hb.2
   subst e1; subst e2
   obtain ⟨u, e, h1, h2⟩ := H
   exact ⟨u, e, h1, fun _ => by rw [hρ]; exact h2 hc⟩
  | false => exact HoldsA.map hx _ _ h H
 | .pr x y, cs, h, ⟨c1, c2, e, h1, h2⟩ => by
  simp only [AV.bd, Bool.and_eq_true] at h
  exact ⟨c1, c2, e, subArr_holds hx hc hρ x c1 h.1 h1, subArr_holds hx hc hρ y c2 h.2 h2⟩
 | .tup _, _, _, H => H.elim
 | .cst _, _, h, H => HoldsA.map hx _ _ h H
 | .v _ _, _, h, H => HoldsA.map hx _ _ h H
 | .ptr _ _ _, _, h, H => HoldsA.map hx _ _ h H
 | .elt _ _ _ _ _, _, h, H => HoldsA.map hx _ _ h H
 | .ro _ _ _, _, h, H => HoldsA.map hx _ _ h H
 | .clo _ _, _, h, H => HoldsA.map hx _ _ h H
 | .yld _, _, h, H => HoldsA.map hx _ _ h H
 | .nl, _, h, H => HoldsA.map hx _ _ h H
theorem subArr_repB {M M' : Mm} {us : Nat -> Nat} {nl id ver id' ver' : Nat} (hx : M.Ext M' us nl) (hc : M.cur id = some ver) (hρ : M'.ρ id' = M.ρ id) (av : AV) (u : Value) (hb : av.bd us nl = true) (H : RepB M av u) : RepB M' (subArr id ver id' ver' av) u := by
 cases av with
 | cst v => exact H
 | arr i v =>
  obtain ⟨cs, h1, h2⟩ := H
  have h3 := subArr_holds (ver' := ver') hx hc hρ (.arr i v) cs hb h1
  simp only [subArr] at h3 ⊢
  cases hq : Nat.beq i id && Nat.beq v ver with
  | true => rw [hq] at h3; exact ⟨cs, h3, h2⟩
  | false => rw [hq] at h3; exact ⟨cs, h3, h2⟩
 | pr x y =>
  obtain ⟨cs, h1, h2⟩ := H
  exact ⟨cs, subArr_holds hx hc hρ (.pr x y) cs hb h1, h2⟩
 | tup c => obtain ⟨cs, h1, h2⟩ := H; exact h1.elim
 | v T x => exact RepB.map hx hb H
 | ptr _ _ _ => exact RepB.map hx hb H
 | elt _ _ _ _ _ => exact RepB.map hx hb H
 | ro _ _ _ => exact RepB.map hx hb H
 | clo _ _ => exact RepB.map hx hb H
 | yld _ => exact RepB.map hx hb H
 | nl => exact RepB.map hx hb H
theorem subArr_tup {M M' : Mm} {us : Nat -> Nat} {nl id ver id' ver' : Nat} (hx : M.Ext M' us nl) (hc : M.cur id = some ver) (hρ : M'.ρ id' = M.ρ id) : ∀ (c : AV) (l : List Value), c.bd us nl = true -> TupA M c l -> TupA M' (subArr id ver id' ver' c) l
 | .nl, _, _, H => H
 | .pr x y, l, hb, ⟨u, r, e, h1, h2⟩ => by
  simp only [AV.bd, Bool.and_eq_true] at hb
  exact ⟨u, r, e, subArr_repB hx hc hρ x u hb.1 h1, subArr_tup hx hc hρ y r hb.2 h2⟩
 | .arr _ _, _, _, H => H.elim
 | .tup _, _, _, H => H.elim
 | .cst _, _, _, H => H.elim
 | .v _ _, _, _, H => H.elim
 | .ptr _ _ _, _, _, H => H.elim
 | .elt _ _ _ _ _, _, _, H => H.elim
 | .ro _ _ _, _, _, H => H.elim
 | .clo _ _, _, _, H => H.elim
 | .yld _, _, _, H => H.elim
theorem subArr_rep {M M' : Mm} {us : Nat -> Nat} {nl id ver id' ver' : Nat} (hx : M.Ext M' us nl) (hc : M.cur id = some ver) (hρ : M'.ρ id' = M.ρ id) (av : AV) (u : Value) (hb : av.bd us nl = true) (H : RepA M av u) : RepA M' (subArr id ver id' ver' av) u := by
 cases av with
 | tup c =>
  obtain ⟨l, e, h1⟩ := H
  exact ⟨l, e, subArr_tup hx hc hρ c l hb h1⟩
 | arr i v =>
  have := subArr_repB (ver' := ver') hx hc hρ (.arr i v) u hb H
  simp only [subArr] at this ⊢
  cases hq : Nat.beq i id && Nat.beq v ver with
  | true => rw [hq] at this; exact this
  | false => rw [hq] at this; exact this
 | cst v => exact subArr_repB (ver' := ver') hx hc hρ (.cst v) u hb H
 | pr x y => exact subArr_repB (ver' := ver') hx hc hρ (.pr x y) u hb H
 | v T x => exact subArr_repB (ver' := ver') hx hc hρ (.v T x) u hb H
 | ptr i v o => exact subArr_repB (ver' := ver') hx hc hρ (.ptr i v o) u hb H
 | elt i v z j o => exact subArr_repB (ver' := ver') hx hc hρ (.elt i v z j o) u hb H
 | ro T x o => exact subArr_repB (ver' := ver') hx hc hρ (.ro T x o) u hb H
 | clo f c => exact subArr_repB (ver' := ver') hx hc hρ (.clo f c) u hb H
 | yld k => exact subArr_repB (ver' := ver') hx hc hρ (.yld k) u hb H
 | nl => exact subArr_repB (ver' := ver') hx hc hρ .nl u hb H
theorem renAt_rel (h : RelC b n O ρ s a w) {d id : Nat} {av : AV} (hav : s.tm b d = some av) : ∃ ρ', RelC b n O ρ' (renAt b d id av s) a w := by
 unfold renAt
 split
 ·rename_i ver e T l hB
  cases hN : (s.bx (b * 4096 + d)).isNone with
  | false => exact ⟨ρ, h⟩
  | true =>
   have hN' : s.bx (b * 4096 + d) = none := by simpa using hN
   have hne : id ≠ b * 4096 + d := fun e => by rw [e, hN'] at hB; cases hB
   simp only [cond_true]
   generalize hid : b * 4096 + d = id' at *
   have hbx : ∀ i, updB (updB s.bx id none) id' (some (.arr (s.us id') e T l)) i = if i = id' then some (.arr (s.us id') e T l) else if i = id then none else s.bx i := fun i => by simp only [updB, bif_beq]
   have hus : ∀ i, s.us i <= updU s.us id' (s.us id' + 1) i := fun i => by
    simp only [updU, bif_beq]; split
    ·rename_i e; subst e; omega
    ·exact Nat.le_refl _
   have hext : (mem O ρ s.bx w).Ext (mem O (fun i => if i = id' then ρ id else ρ i) (updB (updB s.bx id none) id' (some (.arr (s.us id') e T l))) w) s.us s.nl := by
    refine ⟨fun k c e' z hk hh => ⟨⟨hk.1, fun i hi => ?_⟩, hh⟩, fun i v hv hc => ?_, fun _ _ _ h => h, fun _ h => h⟩
    ·rw [hbx] at hi
     show refB (if i = id' then ρ id else ρ i) ≠ some k
     by_cases h1 : i = id'
     ·rw [if_pos h1]; exact hk.2 id (by rw [hB]; rfl)
     ·rw [if_neg h1] at hi ⊢
      by_cases h2 : i = id
      ·rw [if_pos h2] at hi; cases hi
      ·rw [if_neg h2] at hi; exact hk.2 i hi
    ·have hc' : (updB (updB s.bx id none) id' (some (.arr (s.us id') e T l)) i).map Box.ver = some v := hc
     rw [hbx] at hc'
     by_cases h1 : i = id'
     ·rw [if_pos h1] at hc'
      simp only [Option.map_some, Box.ver, Option.some.injEq] at hc'
      rw [h1] at hv; omega
     ·rw [if_neg h1] at hc'
      by_cases h2 : i = id
      ·rw [if_pos h2] at hc'; cases hc'
      ·rw [if_neg h2] at hc'
       exact ⟨hc', by show (if i = id' then ρ id else ρ i) = ρ i; rw [if_neg h1]⟩
   have hcur : (mem O ρ s.bx w).cur id = some ver := by simp [mem, hB, Box.ver]
   have hver : s.us id' < updU s.us id' (s.us id' + 1) id' := by simp [updU]
   refine ⟨fun i => if i = id' then ρ id else ρ i, ?_⟩
   exact {
    up := fun p hp t av' ht => by
     have ht' : s.tm p.1 t = some av' := by
      have hb : Nat.beq p.1 b = false := Bool.eq_false_iff.2 fun e => h.fresh p hp (Nat.eq_of_beq_eq_true e)
      simpa [updT, hb] using ht
     obtain ⟨h1, h2⟩ := h.up p hp t av' ht'
     exact ⟨AV.bd_mono hus _ h1, RepA.map hext h1 h2⟩
    bx := fun i B hBi => by
     have hBi : updB (updB s.bx id none) id' (some (.arr (s.us id') e T l)) i = some B := hBi
     rw [hbx] at hBi
     by_cases h1 : i = id'
     ·rw [if_pos h1] at hBi
      cases hBi
      subst h1
      obtain ⟨_, css, h2, h3⟩ := h.bx id _ hB
      exact ⟨hver, css, All2.imp (fun x c hc => Holds.map hext.heapv _ _ _ hc) h2, by simpa using h3⟩
     ·rw [if_neg h1] at hBi
      by_cases h2 : i = id
      ·rw [if_pos h2] at hBi; cases hBi
      ·rw [if_neg h2] at hBi
       exact (h.bx i B hBi).keep hext hus (by simp [h1]) (fun _ _ => rfl)
    inj := fun i j k hi hj h1 h2 => by
     have hi : (updB (updB s.bx id none) id' (some (.arr (s.us id') e T l)) i).isSome = true := hi
     have hj : (updB (updB s.bx id none) id' (some (.arr (s.us id') e T l)) j).isSome = true := hj
     rw [hbx] at hi hj
     have old : ∀ i, (if i = id' then some (Box.arr (s.us id') e T l) else if i = id then none else s.bx i).isSome = true -> refB ((fun i => if i = id' then ρ id else ρ i) i) = some k ->
       ∃ i0, (s.bx i0).isSome = true /\ refB (ρ i0) = some k /\ (if i = id' then i0 = id else i0 = i /\ i ≠ id) := fun i hi h1 => by
      by_cases e1 : i = id'
      ·simp only [e1, if_true] at h1
       exact ⟨id, by rw [hB]; rfl, h1, by rw [if_pos e1]⟩
      ·simp only [e1, if_false] at h1 hi
       by_cases e2 : i = id
       ·rw [if_pos e2] at hi; cases hi
       ·rw [if_neg e2] at hi
        exact ⟨i, hi, h1, by rw [if_neg e1]; exact ⟨rfl, e2⟩⟩
     obtain ⟨i0, a1, a2, a3⟩ := old i hi h1
     obtain ⟨j0, c1, c2, c3⟩ := old j hj h2
     have := h.inj i0 j0 k a1 c1 a2 c2
     subst this
     by_cases e1 : i = id' <;> by_cases e2 : j = id' <;> simp only [e1, e2, if_true, if_false] at a3 c3 ⊢
     ·exact absurd a3 (by rw [c3.1]; exact c3.2)
     ·exact absurd c3 (by rw [a3.1]; exact a3.2)
     ·rw [<- a3.1, <- c3.1]
    below := h.below
    lps := h.lps
    keep := h.keep
    brd := fun i k hi h1 => by
     have hi : (updB (updB s.bx id none) id' (some (.arr (s.us id') e T l)) i).isSome = true := hi
     rw [hbx] at hi
     by_cases e1 : i = id'
     ·have h1' : refB (if i = id' then ρ id else ρ i) = some k := h1
      rw [if_pos e1] at h1'
      exact h.brd id k (by rw [hB]; rfl) h1'
     ·have h1' : refB (if i = id' then ρ id else ρ i) = some k := h1
      rw [if_neg e1] at h1' hi
      by_cases e2 : i = id
      ·rw [if_pos e2] at hi; cases hi
      ·rw [if_neg e2] at hi
       exact h.brd i k hi h1'
    rdf := h.rdf
    fz := fun q hq => by
     obtain ⟨h1, h2, h3⟩ := h.fz q hq
     refine ⟨h1, h2, ?_⟩
     obtain ⟨k, ob⟩ := q
     cases ob <;> first | (cases h2; done) | skip
     exact (hext.heap k _ _ _ h3 h1).1
    fresh := h.fresh
    size := h.size
    defers := h.defers
    tm := fun t av' ht => by
     have ht2 : (if t = d then some (subArr id ver id' (s.us id') av) else s.tm b t) = some av' := by
      have : updT s.tm b (some d) (subArr id ver id' (s.us id') av) b t = some av' := ht
      simpa [updT, bif_beq] using this
     by_cases h1 : t = d
     ·rw [if_pos h1] at ht2
      cases ht2
      subst h1
      obtain ⟨h2, h3⟩ := h.tm t av hav
      exact ⟨subArr_bd hus hver av h2, subArr_rep hext hcur (by simp [mem]) av _ h2 h3⟩
     ·rw [if_neg h1] at ht2
      obtain ⟨h2, h3⟩ := h.tm t av' ht2
      exact ⟨AV.bd_mono hus _ h2, RepA.map hext h2 h3⟩ }
 ·exact ⟨ρ, h⟩
theorem renS_rel {f : Bool} {dst : Option Nat} (h : Rel b n O s a w) : Rel b n O (renS f b dst s) a w := by
 obtain ⟨ρ, h⟩ := h
 unfold renS
 cases f with
 | false => exact ⟨ρ, h⟩
 | true =>
  simp only [cond_true]
  split
  ·split
   ·rename_i d av hav
    split
    ·exact renAt_rel h hav
    ·exact ⟨ρ, h⟩
   ·exact ⟨ρ, h⟩
  ·exact ⟨ρ, h⟩
end

def Weaker (E : Env) (X : Ctx) (s' s : St) : Prop := ∀ O r ρ a w, Fits E X O r -> RelC X.b X.n O ρ s a w -> Rel X.b X.n O s' a w
section
variable {P : Program} {E : Env} {X : Ctx} {O : Octx} {r : Option Nat} {ρ ρ' : Nat -> Value} {s s' t : St} {a : Act} {w w' : World} {Q Q' : Exit -> St -> Prop} {x y c : Code}
theorem Weaker.refl (s : St) : Weaker E X s s := fun _ _ ρ _ _ _ h => ⟨ρ, h⟩
theorem Awp.weaker (hF : Fits E X O r) (h : Awp P X O r c Q s') (hl : Weaker E X s' s) : Awp P X O r c Q s := fun a w ⟨ρ, hr⟩ => h a w (hl O r ρ a w hF hr)
theorem Awp.mono (hF : Fits E X O r) (h : Awp P X O r c Q s) (hq : ∀ e t, Q e t -> ∃ t', Q' e t' /\ Weaker E X t' t) : Awp P X O r c Q' s := fun a w hr =>
 wpIn_mono (h a w hr) fun e a' w' ⟨t, h1, ρ, h2⟩ => by
  obtain ⟨t', h3, h4⟩ := hq e t h1
  exact ⟨t', h3, h4 O r ρ a' w' hF h2⟩
theorem Awp.imp (h : Awp P X O r c Q s) (hq : ∀ e t, Q e t -> Q' e t) : Awp P X O r c Q' s := fun a w hr =>
 wpIn_mono (h a w hr) fun e _ _ ⟨t, h1, h2⟩ => ⟨t, hq e t h1, h2⟩
def thenA (next : St -> Prop) (Q : Exit -> St -> Prop) : Exit -> St -> Prop
 | .normal, t => next t
 | e, t => Q e t
theorem Awp.seq (h : Awp P X O r x (thenA (Awp P X O r y Q) Q) s) : Awp P X O r (.seq x y) Q s := fun a w hr =>
 wpIn_seq (wpIn_mono (h a w hr) fun e a' w' ⟨t, h1, h2⟩ => by
  cases e with
  | normal => exact h1 a' w' h2
  | _ => exact ⟨t, h1, h2⟩)
theorem Awp.skip (h : Q .normal s) : Awp P X O r .skip Q s := fun _ _ hr => wpIn_skip ⟨s, h, hr⟩
theorem Awp.ret (h : Q .ret s) : Awp P X O r .ret Q s := fun _ _ hr => wpIn_ret ⟨s, h, hr⟩
theorem Awp.exit {id : Nat} (h : Q (.exit id) s) : Awp P X O r (.exit id) Q s := fun _ _ hr => wpIn_exit ⟨s, h, hr⟩
def inBlockA (id : Nat) (Q : Exit -> St -> Prop) : Exit -> St -> Prop
 | .exit id', t => if id' = id then Q .normal t else Q (.exit id') t
 | e, t => Q e t
theorem Awp.block {id : Nat} (h : Awp P X O r c (inBlockA id Q) s) : Awp P X O r (.block id c) Q s := fun a w hr =>
 wpIn_block (wpIn_mono (h a w hr) fun e a' w' ⟨t, h1, h2⟩ => by
  cases e with
  | exit id' =>
   simp only [Exit.inBlock, inBlockA] at h1 ⊢
   split at h1
   ·rw [if_pos (by assumption)]; exact ⟨t, h1, h2⟩
   ·rw [if_neg (by assumption)]; exact ⟨t, h1, h2⟩
  | _ => exact ⟨t, h1, h2⟩)
theorem Awp.cond {c : Operand} {v : Bool} (hb : (s.ev X.b c).bind (asT .bool) = some v) (h1 : v = true -> Awp P X O r x Q s) (h2 : v = false -> Awp P X O r y Q s) :
  Awp P X O r (.cond c x y) Q s := fun a w hr => by
 obtain ⟨ρ, h⟩ := hr
 exact wpIn_cond_split (h.evT hb).bool (fun e => h1 e a w ⟨ρ, h⟩) (fun e => h2 e a w ⟨ρ, h⟩)
theorem Awp.loop (I : Nat -> St -> Prop) {k : Nat} (h0 : I k s) (round : ∀ k s, I k s -> Awp P X O r c (thenA (fun t => ∃ j, j < k /\ I j t) Q) s) : Awp P X O r (.loop c) Q s := by
 intro a w hr b kk cs hro hb hroom
 have key : ∀ k s a w, I k s -> Rel X.b X.n O s a w ->
   ∃ e a' w', (∃ t, Q e t /\ Rel X.b X.n O t a' w') /\ ArrivesIn (Machine.fenced P (FW r)) P (lone (b.atR a (.code c :: .inLoop c :: kk)) cs w) b kk cs e a' w' := by
  intro k
  induction k using Nat.strongRecOn with
  | _ k ih =>
   intro s a w hI hr
   obtain ⟨e, a₁, w₁, ⟨t, hq, hrt⟩, harr⟩ := round k s hI a w hr b (.inLoop c :: kk) cs hro hb hroom
   cases e with
   | normal =>
    obtain ⟨j, hj, hI'⟩ := hq
    obtain ⟨e₂, a₂, w₂, hq₂, harr₂⟩ := ih j hj t a₁ w₁ hI' hrt
    exact ⟨e₂, a₂, w₂, hq₂, .of_steps (StepsIn.trans harr (.one (fenced_calm hb hroom rfl) stepR_inLoop)) harr₂⟩
   | exit id => exact ⟨_, a₁, w₁, ⟨t, hq, hrt⟩, .pass (x := .inLoop c) rfl (fun _ _ => .inl (by simp)) harr⟩
   | goto l => exact ⟨_, a₁, w₁, ⟨t, hq, hrt⟩, .pass (x := .inLoop c) rfl (fun _ _ => .inl (by simp)) harr⟩
   | ret => exact ⟨_, a₁, w₁, ⟨t, hq, hrt⟩, .pass (x := .inLoop c) rfl (fun _ _ => .inl (by simp)) harr⟩
   | panic ch => exact ⟨_, a₁, w₁, ⟨t, hq, hrt⟩, .pass (x := .inLoop c) rfl (fun _ _ => .inl (by simp)) harr⟩
   | outgrown => exact ⟨_, a₁, w₁, ⟨t, hq, hrt⟩, .pass (x := .inLoop c) rfl (fun _ _ => .inl (by simp)) harr⟩
 obtain ⟨e, a', w', hq, harr⟩ := key k s a w h0 hr
 exact ⟨e, a', w', hq, .of_steps (.one (fenced_calm hb hroom rfl) stepR_loop) harr⟩
theorem Awp.label {l : Nat} (h : Q .normal s) : Awp P X O r (.label l) Q s := fun _ _ hr => wpIn_label ⟨s, h, hr⟩
theorem Awp.goto {l : Nat} (h : Q (.goto l) s) : Awp P X O r (.goto l) Q s := fun _ _ hr => wpIn_goto ⟨s, h, hr⟩
theorem stepR_scope {b : Frame} {cs : List Frame} {kk : List Item} {c : Code} : step P (lone (b.atR a (.code (.scope c) :: kk)) cs w) = .next (lone (b.atR a (.code c :: .inScope c :: kk)) cs w) :=
 step_lone_go (by simp [stepG, stepG.exec, Frame.atR])
theorem stepR_inScope {b : Frame} {cs : List Frame} {kk : List Item} {c : Code} : step P (lone (b.atR a (.inScope c :: kk)) cs w) = .next (lone (b.atR a kk) cs w) :=
 step_lone_go (by simp [stepG, stepG.exec, Frame.atR])
def jumpA (l : Nat) (next : St -> Prop) (Q : Exit -> St -> Prop) : Exit -> St -> Prop
 | .goto l', t => l' = l /\ next t
 | e, t => Q e t
theorem Awp.scope {l : Nat} (hf : findLabel c l = some (.seq .skip x)) (I : Nat -> St -> Prop) (first : Awp P X O r c (jumpA l (fun t => ∃ j, I j t) Q) s) (round : ∀ k s, I k s -> Awp P X O r x (jumpA l (fun t => ∃ j, j < k /\ I j t) Q) s) : Awp P X O r (.scope c) Q s := by
 intro a w hr b kk cs hro hb hroom
 have hg : gotoIn l (.inScope c :: kk) = some (.code (.seq .skip x) :: .inScope c :: kk) := by simp [gotoIn, hf]
 have two : ∀ (a : Act) (w : World), StepsIn (Machine.fenced P (FW r)) P (lone (b.atR a (.code (.seq .skip x) :: .inScope c :: kk)) cs w) (lone (b.atR a (.code x :: .inScope c :: kk)) cs w) := fun a w =>
  .trans (.one (fenced_calm hb hroom rfl) stepR_seq) (.one (fenced_calm hb hroom rfl) stepR_skip)
 have key : ∀ k s a w, I k s -> Rel X.b X.n O s a w ->
   ∃ e a' w', (∃ t, Q e t /\ Rel X.b X.n O t a' w') /\ ArrivesIn (Machine.fenced P (FW r)) P (lone (b.atR a (.code x :: .inScope c :: kk)) cs w) b kk cs e a' w' := by
  intro k
  induction k using Nat.strongRecOn with
  | _ k ih =>
   intro s a w hI hr
   obtain ⟨e, a₁, w₁, ⟨t, hq, hrt⟩, harr⟩ := round k s hI a w hr b (.inScope c :: kk) cs hro hb hroom
   cases e with
   | normal => exact ⟨.normal, a₁, w₁, ⟨t, hq, hrt⟩, StepsIn.trans harr (.one (fenced_calm hb hroom rfl) stepR_inScope)⟩
   | exit id => exact ⟨.exit id, a₁, w₁, ⟨t, hq, hrt⟩, fun k' hk => harr.1 k' (by simp [exitTo, hk]), fun hr hk => harr.2 hr (by simp [exitTo, hk])⟩
   | goto l' =>
    obtain ⟨rfl, j, hj, hI'⟩ := hq
    obtain ⟨e₂, a₂, w₂, hq₂, harr₂⟩ := ih j hj t a₁ w₁ hI' hrt
    exact ⟨e₂, a₂, w₂, hq₂, .of_steps (StepsIn.trans (harr.1 _ hg) (two a₁ w₁)) harr₂⟩
   | ret => exact ⟨.ret, a₁, w₁, ⟨t, hq, hrt⟩, harr⟩
   | panic ch => exact ⟨.panic ch, a₁, w₁, ⟨t, hq, hrt⟩, harr⟩
   | outgrown => exact ⟨.outgrown, a₁, w₁, ⟨t, hq, hrt⟩, harr⟩
 obtain ⟨e, a₁, w₁, ⟨t, hq, hrt⟩, harr⟩ := first a w hr b (.inScope c :: kk) cs hro hb hroom
 have h0 : StepsIn (Machine.fenced P (FW r)) P (lone (b.atR a (.code (.scope c) :: kk)) cs w) (lone (b.atR a (.code c :: .inScope c :: kk)) cs w) := .one (fenced_calm hb hroom rfl) stepR_scope
 cases e with
 | normal => exact ⟨.normal, a₁, w₁, ⟨t, hq, hrt⟩, StepsIn.trans h0 (StepsIn.trans harr (.one (fenced_calm hb hroom rfl) stepR_inScope))⟩
 | exit id => exact ⟨.exit id, a₁, w₁, ⟨t, hq, hrt⟩, fun k' hk => StepsIn.trans h0 (harr.1 k' (by simp [exitTo, hk])), fun hr hk => (harr.2 hr (by simp [exitTo, hk])).elim fun k₁ h => ⟨k₁, h.1, StepsIn.trans h0 h.2⟩⟩
 | goto l' =>
  obtain ⟨rfl, j, hI'⟩ := hq
  obtain ⟨e₂, a₂, w₂, hq₂, harr₂⟩ := key j t a₁ w₁ hI' hrt
  exact ⟨e₂, a₂, w₂, hq₂, .of_steps (StepsIn.trans h0 (StepsIn.trans (harr.1 _ hg) (two a₁ w₁))) harr₂⟩
 | ret => exact ⟨.ret, a₁, w₁, ⟨t, hq, hrt⟩, .of_steps h0 harr⟩
 | panic ch => exact ⟨.panic ch, a₁, w₁, ⟨t, hq, hrt⟩, .of_steps h0 harr⟩
 | outgrown => exact ⟨.outgrown, a₁, w₁, ⟨t, hq, hrt⟩, .of_steps h0 harr⟩
theorem Rel.drew {b n : Nat} (h : Rel b n O s a w) : Rel b n O s a { w with drawn := w.drawn + 1 } := by
 obtain ⟨ρ, h⟩ := h
 exact ⟨ρ, h.move (h.toRelO.same (Below.refl _ _).drew)⟩
end
inductive Sh where
 | v (T : Ty)
 | k (a : AV)
 | pr (a b : Sh)
abbrev Sh.den : Sh -> Type
 | .v T => T.den
 | .k _ => Unit
 | .pr a b => a.den × b.den
def Sh.mk : (h : Sh) -> h.den -> AV
 | .v T, x => .v T x
 | .k a, _ => a
 | .pr a b, x => .pr (a.mk x.1) (b.mk x.2)
def fitA (bx : Nat -> Option Box) : AV -> AV -> Bool
 | .ptr i _ o, .ptr i' ver o' => Nat.beq i i' && Nat.beq o o' && (match bx i with | some B => Nat.beq B.ver ver | none => false)
 | .arr i _, .arr i' ver => Nat.beq i i' && (match bx i with | some B => Nat.beq B.ver ver | none => false)
 | .arr i _, .cst (.slice none 0 0) => (bx i).isNone
 | .clo f c, .clo f' c' => Nat.beq f f' && fitA bx c c'
 | .yld k, .yld k' => Nat.beq k k'
 | .pr a b, .pr a' b' => fitA bx a a' && fitA bx b b'
 | .nl, .nl => true
 | _, _ => false
def unPr : AV -> Option (AV × AV)
 | .pr x y => some (x, y)
 | _ => none
theorem unPr_eq {av : AV} {q : AV × AV} (h : unPr av = some q) : av = .pr q.1 q.2 := by
 cases av <;> first | (cases h; rfl) | cases h
def inB (bs : List Nat) (i : Nat) : Bool := bs.any fun j => Nat.beq j i
def takeSh (bs : List Nat) (bx : Nat -> Option Box) : (h : Sh) -> AV -> Option h.den
 | .v T => fun av => bif (arrIds av).all (fun i => !inB bs i) then asB bx T av else none
 | .k p => fun av => bif fitA bx p av then some () else none
 | .pr a b => fun av => match unPr av with
  | some q => match takeSh bs bx a q.1, takeSh bs bx b q.2 with
   | some x, some y => some (x, y)
   | _, _ => none
  | none => none
def Sh.bd (nl : Nat) : Sh -> Bool
 | .v _ => true
 | .k a => a.bd (fun _ => 1) nl
 | .pr a b => a.bd nl && b.bd nl
inductive BSh where
 | cells (h : Sh)
 | arr (e : TypeId) (T : Ty)
abbrev BSh.den : BSh -> Type
 | .cells h => h.den
 | .arr _ T => List T.den
def BSh.mk : (h : BSh) -> h.den -> Box
 | .cells h, x => .cells 0 (h.mk x)
 | .arr e T, l => .arr 0 e T l
def takeBx (bs : List Nat) (bx : Nat -> Option Box) : (h : BSh) -> Option Box -> Option h.den
 | .cells h => fun B => match B with
  | some (.cells _ av) => takeSh bs bx h av
  | _ => none
 | .arr e T => fun B => match B with
  | some (.arr _ e' T' l) => if e = e' then (if h : T' = T then some (h ▸ l) else none) else none
  | none => some []
  | _ => none
theorem BSh.ver : ∀ (h : BSh) (z : h.den), (h.mk z).ver = 0
 | .cells _, _ => rfl
 | .arr _ _, _ => rfl
def BSh.bd (nl : Nat) : BSh -> Bool
 | .cells h => h.bd nl
 | .arr _ _ => true
structure Mask where
 tms : List (Nat × Nat × Sh)
 bxs : List (Nat × BSh)
 jps : List (Nat × Jmp)
 nl : Nat
abbrev denT : List (Nat × Nat × Sh) -> Type
 | [] => Unit
 | q :: l => q.2.2.den × denT l
abbrev denB : List (Nat × BSh) -> Type
 | [] => Unit
 | q :: l => q.2.den × denB l
abbrev Mask.den (M : Mask) : Type := denT M.tms × denB M.bxs
def lookT : (l : List (Nat × Nat × Sh)) -> denT l -> Nat -> Nat -> Option AV
 | [], _, _, _ => none
 | q :: l, x, f, t => bif Nat.beq f q.1 && Nat.beq t q.2.1 then some (q.2.2.mk x.1) else lookT l x.2 f t
def lookB : (l : List (Nat × BSh)) -> denB l -> Nat -> Option Box
 | [], _, _ => none
 | q :: l, x, id => bif Nat.beq id q.1 then some (q.2.mk x.1) else lookB l x.2 id
def lookJ : List (Nat × Jmp) -> Nat -> Option Jmp
 | [], _ => none
 | q :: l, k => bif Nat.beq k q.1 then some q.2 else lookJ l k
def Mask.mk' (M : Mask) (x : M.den) : St := ⟨lookT M.tms x.1, lookB M.bxs x.2, fun _ => 1, M.nl, lookJ M.jps⟩
def sameJ : Option Jmp -> Option Jmp -> Bool
 | none, none => true
 | some .ret, some .ret => true
 | some .busy, some .busy => true
 | some (.exit i), some (.exit j) => Nat.beq i j
 | _, _ => false
def takeT {R : Type} (bs : List Nat) (s : St) : (l : List (Nat × Nat × Sh)) -> (denT l -> Option R) -> Option R
 | [], K => K ()
 | q :: l, K => match s.tm q.1 q.2.1 with
  | some av => match takeSh bs s.bx q.2.2 av with
   | some x => takeT bs s l fun y => K (x, y)
   | none => none
  | none => none
def takeB {R : Type} (bs : List Nat) (s : St) : (l : List (Nat × BSh)) -> (denB l -> Option R) -> Option R
 | [], K => K ()
 | q :: l, K => match takeBx bs s.bx q.2 (s.bx q.1) with
  | some x => takeB bs s l fun y => K (x, y)
  | none => none
def Mask.bd (M : Mask) : Bool := (M.tms.all fun q => q.2.2.bd M.nl) && M.bxs.all fun q => q.2.bd M.nl
def Mask.jpOK (M : Mask) (X : Ctx) (s : St) : Bool := X.ys.all fun y => sameJ (s.jp y.k) (lookJ M.jps y.k)
def Mask.take {R : Type} (M : Mask) (X : Ctx) (s : St) (K : M.den -> Option R) : Option R :=
 bif M.bd && M.jpOK X s then takeT (M.bxs.map fun q => q.1) s M.tms fun x => takeB (M.bxs.map fun q => q.1) s M.bxs fun y => K (x, y) else none
section
variable {P : Program} {E : Env} {X : Ctx} {O : Octx} {r : Option Nat} {ρ ρ' : Nat -> Value} {s s' t : St} {a : Act} {w w' : World} {R : Type}
theorem takeT_spec {bs : List Nat} {y : R} : ∀ (l : List (Nat × Nat × Sh)) (K : denT l -> Option R), takeT bs s l K = some y -> ∃ x, K x = some y /\
  ∀ f t av, lookT l x f t = some av -> ∃ q ∈ l, ∃ z bv, av = q.2.2.mk z /\ s.tm f t = some bv /\ takeSh bs s.bx q.2.2 bv = some z
 | [], K, h => ⟨(), h, fun _ _ _ e => by cases e⟩
 | q :: l, K, h => by
  unfold takeT at h
  split at h
  ·rename_i bv hbv
   split at h
   ·rename_i z hz
    obtain ⟨x, h1, h2⟩ := takeT_spec l _ h
    refine ⟨(z, x), h1, fun f t av e => ?_⟩
    simp only [lookT] at e
    cases hc : (Nat.beq f q.1 && Nat.beq t q.2.1) with
    | true =>
     rw [hc] at e
     simp only [cond_true, Option.some.injEq] at e
     rw [Bool.and_eq_true] at hc
     rw [Nat.eq_of_beq_eq_true hc.1, Nat.eq_of_beq_eq_true hc.2]
     exact ⟨q, List.mem_cons_self, z, bv, e.symm, hbv, hz⟩
    | false =>
     rw [hc] at e
     obtain ⟨q', hq', rest⟩ := h2 f t av e
     exact ⟨q', List.mem_cons_of_mem _ hq', rest⟩
   ·cases h
  ·cases h
theorem takeB_spec {bs : List Nat} {y : R} : ∀ (l : List (Nat × BSh)) (K : denB l -> Option R), takeB bs s l K = some y -> ∃ x, K x = some y /\
  ∀ id B, lookB l x id = some B -> ∃ q ∈ l, ∃ z, B = q.2.mk z /\ takeBx bs s.bx q.2 (s.bx id) = some z
 | [], K, h => ⟨(), h, fun _ _ e => by cases e⟩
 | q :: l, K, h => by
  unfold takeB at h
  split at h
  ·rename_i z hz
   obtain ⟨x, h1, h2⟩ := takeB_spec l _ h
   refine ⟨(z, x), h1, fun id B e => ?_⟩
   simp only [lookB, bif_beq] at e
   split at e
   ·rename_i hi
    subst hi
    exact ⟨q, List.mem_cons_self, z, (Option.some.inj e).symm, hz⟩
   ·obtain ⟨q', hq', rest⟩ := h2 id B e
    exact ⟨q', List.mem_cons_of_mem _ hq', rest⟩
  ·cases h
theorem lookB_mem : ∀ {l : List (Nat × BSh)} {x : denB l} {id : Nat} {B : Box}, lookB l x id = some B -> ∃ q ∈ l, q.1 = id
 | [], _, _, _, h => by cases h
 | q :: l, x, id, B, h => by
  simp only [lookB] at h
  cases hc : Nat.beq id q.1 with
  | true => exact ⟨q, List.mem_cons_self, (Nat.eq_of_beq_eq_true hc).symm⟩
  | false =>
   rw [hc] at h
   obtain ⟨q', h1, h2⟩ := lookB_mem (l := l) h
   exact ⟨q', List.mem_cons_of_mem _ h1, h2⟩
structure Mm.Cut (M M' : Mm) (bs : List Nat) (bx : Nat -> Option Box) : Prop where
 asb : ∀ (T : Ty) (av : AV) (x : T.den) (v : Value), (arrIds av).all (fun i => !inB bs i) = true -> asB bx T av = some x -> RepA M av v -> Rep M'.w M'.okv T x v
 asc : ∀ (T : Ty) (av : AV) (x : T.den) (cs : List Value), (arrIds av).all (fun i => !inB bs i) = true -> asB bx T av = some x -> HoldsA M av cs -> Holds M'.w M'.okv T x cs
 w : M'.w = M.w
 ok : ∀ k, M.okv k -> M'.okv k
 lm : M'.lm = M.lm
 old : M.cur = fun id => (bx id).map Box.ver
 cur : ∀ id v, M'.cur id = some v -> v = 0
 rho : ∀ id, (bx id).isSome = true -> M'.ρ id = M.ρ id
 nil : ∀ id, bx id = none -> M'.ρ id = .slice none 0 0
theorem fitA_holds {M M' : Mm} {bs : List Nat} {bx : Nat -> Option Box} (h : M.Cut M' bs bx) : ∀ (p av : AV) (cs : List Value), fitA bx p av = true -> HoldsA M av cs -> HoldsA M' p cs
 | .ptr i v o, .ptr i' ver o', cs, hf, hh => by
  simp only [fitA, Bool.and_eq_true] at hf
  obtain ⟨⟨h1, h2⟩, h3⟩ := hf
  have e1 := Nat.eq_of_beq_eq_true h1
  have e2 := Nat.eq_of_beq_eq_true h2
  subst e1; subst e2
  split at h3
  ·rename_i B hB
   have e3 := Nat.eq_of_beq_eq_true h3
   obtain ⟨u, eu, h4, h5⟩ := hh
   refine ⟨u, eu, h4, fun _ => ?_⟩
   rw [h.rho i (by rw [hB]; rfl)]
   exact h5 (by rw [h.old]; simp [hB, e3])
  ·cases h3
 | .arr i v, .arr i' ver, cs, hf, hh => by
  simp only [fitA, Bool.and_eq_true] at hf
  obtain ⟨h1, h3⟩ := hf
  have e1 := Nat.eq_of_beq_eq_true h1
  subst e1
  split at h3
  ·rename_i B hB
   have e3 := Nat.eq_of_beq_eq_true h3
   obtain ⟨u, eu, h4, h5⟩ := hh
   refine ⟨u, eu, h4, fun _ => ?_⟩
   rw [h.rho i (by rw [hB]; rfl)]
   exact h5 (by rw [h.old]; simp [hB, e3])
  ·cases h3
 | .arr i v, .cst c, cs, hf, hh => by
  have hc : c = .slice none 0 0 /\ (bx i).isNone = true := by
   unfold fitA at hf
   split at hf <;> first | (rename_i e1 e2; cases e2; cases e1; exact ⟨rfl, hf⟩) | (simp at hf; done) | (simp_all; done)
  obtain ⟨rfl, hb⟩ := hc
  obtain ⟨e, _⟩ := hh
  refine ⟨.slice none 0 0, e, rfl, fun _ => (h.nil i (by simpa using hb)).symm⟩
 | .clo f c, .clo f' c', cs, hf, hh => by
  simp only [fitA, Bool.and_eq_true] at hf
  have e1 := Nat.eq_of_beq_eq_true hf.1
  subst e1
  obtain ⟨l, e, h1⟩ := hh
  exact ⟨l, e, fitA_holds h c c' l hf.2 h1⟩
 | .yld k, .yld k', cs, hf, hh => by
  simp only [fitA] at hf
  have e1 := Nat.eq_of_beq_eq_true hf
  subst e1
  obtain ⟨u, e, h1, h2⟩ := hh
  exact ⟨u, e, h1, fun l hl => h2 l (by rw [<- h.lm]; exact hl)⟩
 | .pr a b, .pr a' b', cs, hf, hh => by
  simp only [fitA, Bool.and_eq_true] at hf
  obtain ⟨c1, c2, e, h1, h2⟩ := hh
  exact ⟨c1, c2, e, fitA_holds h a a' c1 hf.1 h1, fitA_holds h b b' c2 hf.2 h2⟩
 | .nl, .nl, cs, _, hh => hh
theorem takeSh_holds {M M' : Mm} {bs : List Nat} {bx : Nat -> Option Box} (h : M.Cut M' bs bx) : ∀ (p : Sh) (av : AV) (x : p.den) (cs : List Value), takeSh bs bx p av = some x -> HoldsA M av cs -> HoldsA M' (p.mk x) cs
 | .v T, av, x, cs, ht, hh => by
  simp only [takeSh] at ht
  cases hc : (arrIds av).all (fun i => !inB bs i) with
  | true => rw [hc] at ht; exact h.asc T av x cs hc ht hh
  | false => rw [hc] at ht; cases ht
 | .k p, av, x, cs, ht, hh => by
  simp only [takeSh] at ht
  cases hc : fitA bx p av with
  | true => exact fitA_holds h p av cs hc hh
  | false => rw [hc] at ht; cases ht
 | .pr a b, av, x, cs, ht, hh => by
  simp only [takeSh] at ht
  split at ht
  ·rename_i q0 hq0
   have := unPr_eq hq0
   subst this
   split at ht
   ·rename_i p q hp hq
    cases ht
    obtain ⟨c1, c2, e, h1, h2⟩ := hh
    exact ⟨c1, c2, e, takeSh_holds h a _ p c1 hp h1, takeSh_holds h b _ q c2 hq h2⟩
   ·cases ht
  ·cases ht
theorem takeSh_rep {M M' : Mm} {bs : List Nat} {bx : Nat -> Option Box} (h : M.Cut M' bs bx) : ∀ (p : Sh) (av : AV) (x : p.den) (v : Value), takeSh bs bx p av = some x -> RepA M av v -> RepA M' (p.mk x) v
 | .v T, av, x, v, ht, hh => by
  simp only [takeSh] at ht
  cases hc : (arrIds av).all (fun i => !inB bs i) with
  | true => rw [hc] at ht; exact h.asb T av x v hc ht hh
  | false => rw [hc] at ht; cases ht
 | .k p, av, x, v, ht, hh => by
  simp only [takeSh] at ht
  cases hc : fitA bx p av with
  | false => rw [hc] at ht; cases ht
  | true =>
   show RepA M' p v
   have key : ∀ cs, HoldsA M av cs -> mkA p cs = v -> (∀ c, p ≠ .tup c) -> (∀ c, p ≠ .cst c) -> RepA M' p v := fun cs h1 h2 h3 h4 => by
    have := fitA_holds h p av cs hc h1
    cases p <;> first | exact absurd rfl (h3 _) | exact absurd rfl (h4 _) | exact ⟨cs, this, h2.symm⟩
   cases p <;> cases av <;> first | (simp [fitA] at hc; done) | skip
   case arr.cst i ver c =>
    have hv : v = c := hh
    have : c = .slice none 0 0 := by
     unfold fitA at hc
     split at hc <;> first | (rename_i e1 e2; cases e2; rfl) | (simp at hc; done) | (simp_all; done)
    subst this
    exact key [.slice none 0 0] ⟨rfl, fun u hu => by simp at hu; subst hu; rfl⟩ (by rw [hv]; rfl) (fun c e => by cases e) (fun c e => by cases e)
   all_goals
    obtain ⟨cs, h1, h2⟩ := hh
    exact key cs h1 h2.symm (fun c e => by cases e) (fun c e => by cases e)
 | .pr a b, av, x, v, ht, hh => by
  have ht' := ht
  simp only [takeSh] at ht'
  split at ht'
  ·rename_i q0 hq0
   have := unPr_eq hq0
   subst this
   obtain ⟨cs, h1, h2⟩ := hh
   exact ⟨cs, takeSh_holds h (.pr a b) (.pr q0.1 q0.2) x cs ht h1, h2⟩
  ·cases ht'
theorem Sh.bd_mk {nl : Nat} : ∀ (p : Sh) (x : p.den), p.bd nl = true -> (p.mk x).bd (fun _ => 1) nl = true
 | .v _, _, _ => rfl
 | .k _, _, h => h
 | .pr a b, x, h => by
  simp only [Sh.bd, Bool.and_eq_true] at h
  simp only [Sh.mk, AV.bd, Sh.bd_mk a x.1 h.1, Sh.bd_mk b x.2 h.2, Bool.and_self]
theorem sameJ_eq {x y : Option Jmp} (h : sameJ x y = true) : x = y := by
 unfold sameJ at h
 split at h
 ·rfl
 ·rfl
 ·rfl
 ·rw [Nat.eq_of_beq_eq_true h]
 ·cases h
theorem Mask.take_spec {M : Mask} {K : M.den -> Option R} {y : R} (h : M.take X s K = some y) : ∃ x, K x = some y /\ Weaker E X (M.mk' x) s := by
 unfold Mask.take at h
 cases hc : (M.bd && M.jpOK X s) with
 | false => rw [hc] at h; cases h
 | true =>
  rw [hc] at h
  simp only [cond_true] at h
  simp only [Mask.bd, Mask.jpOK, Bool.and_eq_true, List.all_eq_true] at hc
  obtain ⟨⟨hbT, hbB⟩, hj⟩ := hc
  obtain ⟨x1, h1, h2⟩ := takeT_spec _ _ h
  obtain ⟨x2, h3, h4⟩ := takeB_spec _ _ h1
  refine ⟨(x1, x2), h3, fun O r ρ a w hF hr => ?_⟩
  obtain ⟨ρ', hρ'⟩ : ∃ ρ' : Nat -> Value, ρ' = fun id => if (s.bx id).isSome = true then ρ id else .slice none 0 0 := ⟨_, rfl⟩
  have r1 : ∀ id, (s.bx id).isSome = true -> ρ' id = ρ id := fun id hid => by rw [hρ']; simp only [hid, if_true]
  have r2 : ∀ id, s.bx id = none -> ρ' id = .slice none 0 0 := fun id hid => by rw [hρ']; simp [hid]
  obtain ⟨bx', hbx'⟩ : ∃ bx', bx' = (M.mk' (x1, x2)).bx := ⟨_, rfl⟩
  have hfr : ∀ k, frS O ρ s.bx k -> frS O ρ' bx' k := fun k hk => ⟨hk.1, fun id hid => by
   cases hs : s.bx id with
   | none => rw [r2 id hs]; exact fun e => by cases e
   | some B => rw [r1 id (by rw [hs]; rfl)]; exact hk.2 id (by rw [hs]; rfl)⟩
  have hok : ∀ k, okS O ρ s.bx k -> okS O ρ' bx' k := fun k hk => ⟨hfr k hk.1, hk.2⟩
  have hdel : ∀ av : AV, (arrIds av).all (fun i => !inB (M.bxs.map fun q => q.1) i) = true -> ∀ id ∈ arrIds av, ∀ k, (s.bx id).isSome = true -> refB (ρ id) = some k -> okS O ρ' bx' k := fun av hav id hid k hs hk => by
   obtain ⟨B, hB⟩ := Option.isSome_iff_exists.1 hs
   refine ⟨⟨.inr ((hr.bx id B hB).block hk).1, fun id' hid' e => ?_⟩, hr.brd id k hs hk⟩
   cases hs' : s.bx id' with
   | none => rw [r2 id' hs'] at e; cases e
   | some B' =>
    rw [r1 id' (by rw [hs']; rfl)] at e
    have := hr.inj id' id k (by rw [hs']; rfl) hs e hk
    subst this
    obtain ⟨B2, hB2⟩ := Option.isSome_iff_exists.1 hid'
    rw [hbx'] at hB2
    obtain ⟨q, hq, _⟩ := lookB_mem hB2
    have h7 := List.all_eq_true.1 hav id' hid
    have h8 : inB (M.bxs.map fun q => q.1) id' = true := List.any_eq_true.2 ⟨id', List.mem_map.2 ⟨q, hq, by assumption⟩, Nat.beq_refl id'⟩
    rw [h8] at h7; cases h7
  have hcut : (mem O ρ s.bx w).Cut (mem O ρ' bx' w) (M.bxs.map fun q => q.1) s.bx := by
   refine ⟨fun T av x v hc hx hv => asB_rep hr.bx hok hx (hdel av hc) hv, fun T av x cs hc hx hv => asB_holds hr.bx hok av T x cs hx (hdel av hc) hv, rfl, hok, rfl, rfl, fun id v hv => ?_, r1, r2⟩
   simp only [mem, Option.map_eq_some_iff] at hv
   obtain ⟨B, hB, e⟩ := hv
   rw [hbx'] at hB
   obtain ⟨q, _, z, eB, _⟩ := h4 id B hB
   subst e; subst eB
   exact BSh.ver _ _
  have conv : ∀ f t av v, (M.mk' (x1, x2)).tm f t = some av -> (∀ bv, s.tm f t = some bv -> RepA (mem O ρ s.bx w) bv v) -> av.bd (fun _ => 1) M.nl = true /\ RepA (mem O ρ' bx' w) av v := fun f t av v ht hv => by
   obtain ⟨q, hq, z, bv, e, hb, htk⟩ := h2 f t av ht
   subst e
   exact ⟨Sh.bd_mk _ _ (hbT q hq), takeSh_rep hcut _ _ _ _ htk (hv bv hb)⟩
  have someS : ∀ id k, refB (ρ' id) = some k -> (s.bx id).isSome = true := fun id k hk => by
   cases hs : s.bx id with
   | none => rw [r2 id hs] at hk; cases hk
   | some B => rfl
  refine ⟨ρ', ⟨fun p hp t av ht => ?_, fun id B hB => ?_, fun i j k hi hj h5 h6 => ?_, hr.below, fun q hq => ?_, hr.keep, fun i k hi hk => hr.brd i k (someS i k hk) (by rw [<- r1 i (someS i k hk)]; exact hk), hr.rdf, fun q hq => ⟨(hr.fz q hq).1, (hr.fz q hq).2.1, by rw [<- hbx']; exact hfr _ (hr.fz q hq).2.2⟩⟩, hr.fresh, hr.size, fun t av ht => ?_, hr.defers⟩
  ·rw [<- hbx']
   exact conv p.1 t av _ ht fun bv hb => (hr.up p hp t bv hb).2
  ·rw [<- hbx']
   obtain ⟨q, hq, z, eB, htk⟩ := h4 id B hB
   have hbq := hbB q hq
   obtain ⟨qi, qh⟩ := q
   cases qh with
   | cells h =>
    subst eB
    simp only [BSh.bd] at hbq
    cases hs : s.bx id with
    | none => rw [hs] at htk; cases htk
    | some B0 =>
     rw [hs] at htk
     cases B0 with
     | arr _ _ _ _ => cases htk
     | cells ver av =>
      have htk' : takeSh (M.bxs.map fun q => q.1) s.bx h av = some z := htk
      obtain ⟨g1, g2, g, cs, e, g3, g4, g5, g6⟩ := hr.bx id _ hs
      exact ⟨Nat.one_pos, Sh.bd_mk _ _ hbq, g, cs, e, by rw [r1 id (by rw [hs]; rfl)]; exact g3, g4, g5, takeSh_holds hcut _ _ _ _ htk' g6⟩
   | arr e T =>
    subst eB
    simp only [takeBx] at htk
    split at htk
    ·rename_i ver e' T' l hs
     split at htk
     ·rename_i ee
      subst ee
      split at htk
      ·rename_i eT
       subst eT
       cases htk
       obtain ⟨g1, css, g2, g3⟩ := hr.bx id _ hs
       exact ⟨Nat.one_pos, css, All2.imp (fun x c hc => Holds.map (fun k c e z hk hh => ⟨hok k hk, hh⟩) _ _ _ hc) g2, by rw [r1 id (by rw [hs]; rfl)]; exact g3⟩
      ·cases htk
     ·cases htk
    ·rename_i hs
     cases htk
     refine ⟨Nat.one_pos, [], trivial, ?_⟩
     rw [r2 id hs]
     exact World.ownsRow_nil w _ e T.size
    ·cases htk
  ·exact hr.inj i j k (someS i k h5) (someS j k h6) (by rw [<- r1 i (someS i k h5)]; exact h5) (by rw [<- r1 j (someS j k h6)]; exact h6)
  ·obtain ⟨y', hy', hk'⟩ := hF.ys q hq
   have hjj := sameJ_eq (hj y' hy')
   refine ⟨?_, (hr.lps q hq).2⟩
   show w.heap[q.2.1]? = some (loopAt q.2.2 (lookJ M.jps q.1))
   rw [<- hk', <- hjj, hk']
   exact (hr.lps q hq).1
  ·rw [<- hbx']
   exact conv X.b t av _ ht fun bv hb => (hr.tm t bv hb).2
end

inductive Way where
 | nor
 | ret
 | exit (id : Nat)
def Way.out : Way -> Exit
 | .nor => .normal
 | .ret => .ret
 | .exit id => .exit id
def Way.is : Way -> Exit -> Bool
 | .nor, .normal => true
 | .ret, .ret => true
 | .exit i, .exit j => Nat.beq j i
 | _, _ => false
structure Out where
 way : Way
 M : Mask
abbrev denS : List Out -> Type
 | [] => Empty
 | o :: l => o.M.den ⊕ denS l
structure Seg where
 X : Ctx
 f : FuncId
 p : List Dir
 ins : Mask
 outs : List Out
 G : ins.den -> Option (denS outs)
def fanK {R : Type} : (l : List Out) -> denS l -> (Exit -> St -> Option R) -> Option R
 | [], _, _ => none
 | o :: l, x, K => Sum.elim (fun y => K o.way.out (o.M.mk' y)) (fun z => fanK l z K) x
def FinS (Q : Exit -> St -> Prop) : (l : List Out) -> denS l -> Prop
 | [], _ => False
 | o :: l, x => Sum.elim (fun y => Q o.way.out (o.M.mk' y)) (fun z => FinS Q l z) x
def outK (X : Ctx) : (l : List Out) -> Exit -> St -> Option (denS l)
 | [], _, _ => none
 | o :: l, e, t => bif o.way.is e && o.M.jpOK X t then o.M.take X t fun x => some (Sum.inl x) else match outK X l e t with
  | some z => some (Sum.inr z)
  | none => none
def SegOK (P : Program) (E : Env) (S : Seg) : Prop :=
 ∀ x r, S.G x = some r -> ∀ O rr, Fits E S.X O rr -> Awp P S.X O rr (atR (codeOf E S.f) S.p) (fun e t => FinS (fun e' t' => e = e' /\ Weaker E S.X t' t) S.outs r) (S.ins.mk' x)
def dirB : Dir -> Dir -> Bool
 | .s1, .s1 => true | .s2, .s2 => true | .c1, .c1 => true | .c2, .c2 => true | .b, .b => true | .l, .l => true | .ra, .ra => true | .rb, .rb => true
 | _, _ => false
def pathB : List Dir -> List Dir -> Bool
 | [], [] => true
 | d :: l, d' :: l' => dirB d d' && pathB l l'
 | _, _ => false
def natsB : List Nat -> List Nat -> Bool
 | [], [] => true
 | d :: l, d' :: l' => Nat.beq d d' && natsB l l'
 | _, _ => false
def LoopI.same (x y : LoopI) : Bool := Nat.beq x.k y.k && Nat.beq x.b y.b && Nat.beq x.n y.n && Nat.beq x.f y.f && pathB x.p y.p
def loopsB : List LoopI -> List LoopI -> Bool
 | [], [] => true
 | d :: l, d' :: l' => d.same d' && loopsB l l'
 | _, _ => false
def Ctx.same (X Y : Ctx) : Bool := Nat.beq X.b Y.b && Nat.beq X.n Y.n && (X.rd == Y.rd) && natsB X.act Y.act && loopsB X.ys Y.ys
theorem dirB_eq {x y : Dir} (h : dirB x y = true) : x = y := by cases x <;> cases y <;> first | rfl | cases h
theorem pathB_eq : ∀ {x y : List Dir}, pathB x y = true -> x = y
 | [], [], _ => rfl
 | d :: l, d' :: l', h => by simp only [pathB, Bool.and_eq_true] at h; rw [dirB_eq h.1, pathB_eq h.2]
 | [], _ :: _, h => by cases h
 | _ :: _, [], h => by cases h
theorem natsB_eq : ∀ {x y : List Nat}, natsB x y = true -> x = y
 | [], [], _ => rfl
 | d :: l, d' :: l', h => by simp only [natsB, Bool.and_eq_true] at h; rw [Nat.eq_of_beq_eq_true h.1, natsB_eq h.2]
 | [], _ :: _, h => by cases h
 | _ :: _, [], h => by cases h
theorem LoopI.same_eq {x y : LoopI} (h : x.same y = true) : x = y := by
 simp only [LoopI.same, Bool.and_eq_true] at h
 obtain ⟨⟨⟨⟨h1, h2⟩, h3⟩, h4⟩, h5⟩ := h
 cases x; cases y
 simp only at h1 h2 h3 h4 h5
 rw [Nat.eq_of_beq_eq_true h1, Nat.eq_of_beq_eq_true h2, Nat.eq_of_beq_eq_true h3, Nat.eq_of_beq_eq_true h4, pathB_eq h5]
theorem loopsB_eq : ∀ {x y : List LoopI}, loopsB x y = true -> x = y
 | [], [], _ => rfl
 | d :: l, d' :: l', h => by simp only [loopsB, Bool.and_eq_true] at h; rw [LoopI.same_eq h.1, loopsB_eq h.2]
 | [], _ :: _, h => by cases h
 | _ :: _, [], h => by cases h
theorem Ctx.same_eq {X Y : Ctx} (h : X.same Y = true) : X = Y := by
 simp only [Ctx.same, Bool.and_eq_true, beq_iff_eq] at h
 obtain ⟨⟨⟨⟨h1, h2⟩, h3⟩, h4⟩, h5⟩ := h
 cases X; cases Y
 simp only at h1 h2 h3 h4 h5
 rw [Nat.eq_of_beq_eq_true h1, Nat.eq_of_beq_eq_true h2, h3, natsB_eq h4, loopsB_eq h5]
inductive Hint where
 | n
 | two (a b : Hint)
 | use (S : Seg)
 | own (i : Nat) (r : Hint)
 | spec (i : Nat) (r : Hint)
 | call (i b : Nat) (h r : Hint)
 | rf (k b : Nat) (h : Hint)
 | seg (i : Nat) (S : Seg) (l : List (Nat × Nat)) (ks : List (TypeId × Nat)) (r : Hint)
 | sp (i : Nat) (r : Hint)
def Hint.a : Hint -> Hint
 | .two a _ => a
 | _ => .n
def Hint.b : Hint -> Hint
 | .two _ b => b
 | _ => .n
inductive OpH where
 | plain (own : Bool)
 | spec
 | call (b : Nat) (h : Hint)
 | seg (S : Seg) (l : List (Nat × Nat)) (ks : List (TypeId × Nat))
 | sp
def Hint.op : Hint -> Nat -> OpH
 | .own i r, j => bif Nat.beq j i then .plain true else r.op j
 | .spec i r, j => bif Nat.beq j i then .spec else r.op j
 | .call i b h r, j => bif Nat.beq j i then .call b h else r.op j
 | .seg i S l ks r, j => bif Nat.beq j i then .seg S l ks else r.op j
 | .sp i r, j => bif Nat.beq j i then .sp else r.op j
 | _, _ => .plain false
def Hint.ownB (h : Hint) (j : Nat) : Bool := match h.op j with
 | .plain o => o
 | _ => false
def Hint.calls : Hint -> Bool
 | .own _ r => r.calls
 | .spec _ _ => true
 | .call _ _ _ _ => true
 | .seg _ _ _ _ _ => true
 | .sp _ _ => true
 | _ => false
def HintOK (P : Program) (E : Env) : Hint -> Prop
 | .use S => SegOK P E S
 | .two a b => HintOK P E a /\ HintOK P E b
 | .own _ r => HintOK P E r
 | .spec _ r => HintOK P E r
 | .call _ _ h r => HintOK P E h /\ HintOK P E r
 | .rf _ _ h => HintOK P E h
 | .seg _ S _ _ r => SegOK P E S /\ HintOK P E r
 | .sp _ r => HintOK P E r
 | .n => True
theorem HintOK.a {P : Program} {E : Env} {h : Hint} (hh : HintOK P E h) : HintOK P E h.a := by cases h <;> first | exact hh.1 | exact trivial
theorem HintOK.b {P : Program} {E : Env} {h : Hint} (hh : HintOK P E h) : HintOK P E h.b := by cases h <;> first | exact hh.2 | exact trivial
theorem HintOK.op {P : Program} {E : Env} : ∀ {h : Hint} (_ : HintOK P E h) {j b : Nat} {q : Hint}, h.op j = .call b q -> HintOK P E q
 | .n, _, j, b, q, h => by cases h
 | .two _ _, _, j, b, q, h => by cases h
 | .use _, _, j, b, q, h => by cases h
 | .rf _ _ _, _, j, b, q, h => by cases h
 | .own i r, hh, j, b, q, h => by
  simp only [Hint.op, bif_beq] at h
  split at h
  ·cases h
  ·exact HintOK.op (h := r) hh h
 | .spec i r, hh, j, b, q, h => by
  simp only [Hint.op, bif_beq] at h
  split at h
  ·cases h
  ·exact HintOK.op (h := r) hh h
 | .sp i r, hh, j, b, q, h => by
  simp only [Hint.op, bif_beq] at h
  split at h
  ·cases h
  ·exact HintOK.op (h := r) hh h
 | .call i b' q' r, hh, j, b, q, h => by
  simp only [Hint.op, bif_beq] at h
  split at h
  ·cases h; exact hh.1
  ·exact HintOK.op (h := r) hh.2 h
 | .seg i S l ks r, hh, j, b, q, h => by
  simp only [Hint.op, bif_beq] at h
  split at h
  ·cases h
  ·exact HintOK.op (h := r) hh.2 h
theorem HintOK.seg {P : Program} {E : Env} : ∀ {h : Hint} (_ : HintOK P E h) {j : Nat} {S : Seg} {l : List (Nat × Nat)} {ks : List (TypeId × Nat)}, h.op j = .seg S l ks -> SegOK P E S
 | .n, _, j, S, l, ks, h => by cases h
 | .two _ _, _, j, S, l, ks, h => by cases h
 | .use _, _, j, S, l, ks, h => by cases h
 | .rf _ _ _, _, j, S, l, ks, h => by cases h
 | .own i r, hh, j, S, l, ks, h => by
  simp only [Hint.op, bif_beq] at h
  split at h
  ·cases h
  ·exact HintOK.seg (h := r) hh h
 | .sp i r, hh, j, S, l, ks, h => by
  simp only [Hint.op, bif_beq] at h
  split at h
  ·cases h
  ·exact HintOK.seg (h := r) hh h
 | .spec i r, hh, j, S, l, ks, h => by
  simp only [Hint.op, bif_beq] at h
  split at h
  ·cases h
  ·exact HintOK.seg (h := r) hh h
 | .call i b' q' r, hh, j, S, l, ks, h => by
  simp only [Hint.op, bif_beq] at h
  split at h
  ·cases h
  ·exact HintOK.seg (h := r) hh.2 h
 | .seg i S' l' ks' r, hh, j, S, l, ks, h => by
  simp only [Hint.op, bif_beq] at h
  split at h
  ·cases h; exact hh.1
  ·exact HintOK.seg (h := r) hh.2 h
theorem HintOK.plain : ∀ {h : Hint}, h.calls = false -> ∀ j, h.op j = .plain (h.ownB j)
 | .n, _, j => rfl
 | .two _ _, _, j => rfl
 | .use _, _, j => rfl
 | .rf _ _ _, _, j => rfl
 | .own i r, hc, j => by
  have := HintOK.plain (h := r) hc j
  simp only [Hint.ownB, Hint.op, bif_beq]
  split
  ·rfl
  ·rw [this]
 | .spec i r, hc, j => by cases hc
 | .call i b' q' r, hc, j => by cases hc
 | .seg i S l ks r, hc, j => by cases hc
 | .sp i r, hc, j => by cases hc
section
variable {P : Program} {E : Env} {X : Ctx} {O : Octx} {r : Option Nat} {s t : St} {R : Type} {Q Q' : Exit -> St -> Prop}
theorem FinS.imp (h : ∀ e t, Q e t -> Q' e t) : ∀ (l : List Out) (x : denS l), FinS Q l x -> FinS Q' l x
 | [], _, hh => hh
 | o :: l, .inl y, hh => h _ _ hh
 | o :: l, .inr z, hh => FinS.imp h l z hh
theorem Way.is_eq {w : Way} {e : Exit} (h : w.is e = true) : e = w.out := by
 cases w <;> cases e <;> first | rfl | (cases h; done) | skip
 simp only [Way.is] at h
 rw [Nat.eq_of_beq_eq_true h]; rfl
theorem outK_spec {e : Exit} : ∀ (l : List Out) (z : denS l), outK X l e t = some z -> FinS (fun e' t' => e = e' /\ Weaker E X t' t) l z
 | [], _, h => by cases h
 | o :: l, z, h => by
  simp only [outK] at h
  cases hc : (o.way.is e && o.M.jpOK X t) with
  | true =>
   rw [hc] at h
   simp only [cond_true] at h
   obtain ⟨x, h1, h2⟩ := Mask.take_spec (E := E) h
   cases h1
   rw [Bool.and_eq_true] at hc
   exact ⟨Way.is_eq hc.1, h2⟩
  | false =>
   rw [hc] at h
   simp only [cond_false] at h
   split at h
   ·rename_i z' hz
    cases h
    exact outK_spec l z' hz
   ·cases h
theorem fanK_spec {y : R} {K : Exit -> St -> Option R} (hK : ∀ e t, K e t = some y -> Q e t) : ∀ (l : List Out) (x : denS l), fanK l x K = some y -> FinS Q l x
 | [], _, h => by cases h
 | o :: l, .inl z, h => hK _ _ h
 | o :: l, .inr z, h => fanK_spec hK l z h
theorem FinS.get {e : Exit} : ∀ (l : List Out) (x : denS l), FinS (fun e' t' => e = e' /\ Weaker E X t' t) l x -> FinS Q l x -> ∃ t', Q e t' /\ Weaker E X t' t
 | [], _, h, _ => h.elim
 | o :: l, .inl z, h, hq => by obtain ⟨h1, h2⟩ := h; exact ⟨_, h1 ▸ hq, h2⟩
 | o :: l, .inr z, h, hq => FinS.get l z h hq
def useK (S : Seg) (s : St) (K : Exit -> St -> Option R) : Option R :=
 S.ins.take S.X s fun x => (S.G x).bind fun r => fanK S.outs r K
theorem useK_sound {S : Seg} {y : R} {K : Exit -> St -> Option R} (hS : SegOK P E S) (hF : Fits E S.X O r) (h : useK S s K = some y) (hK : ∀ e t, K e t = some y -> Q e t) :
  Awp P S.X O r (atR (codeOf E S.f) S.p) Q s := by
 obtain ⟨x, h1, h2⟩ := Mask.take_spec (E := E) h
 rw [Option.bind_eq_some_iff] at h1
 obtain ⟨q, h3, h4⟩ := h1
 exact Awp.weaker hF (Awp.mono hF (hS x q h3 O r hF) fun e t he => FinS.get S.outs q he (fanK_spec hK S.outs q h4)) h2
end

def isDiv : BinOp -> Bool
 | .shl | .shr | .quo | .rem => true
 | _ => false
def someK {α R : Type} (x : Option α) (k : α -> Option R) : Option R :=
 match x with
 | some y => k y
 | none => none
theorem someK_eq {α R : Type} {x : Option α} {k : α -> Option R} : someK x k = x.bind k := by cases x <;> rfl
def callK {R : Type} (E : Env) (h : How) (bx : Nat -> Option Box) (dst : Option Nat) (ats : Array TypeId) (callee : Callee) (avs : List (Option AV)) (k : Eff -> Option R) : Option R :=
 match callee with
 | .value (.func f) =>
  match E.tab f with
  | some S => someK (asBL bx S.args avs) fun xs => (S.F xs).bind fun r => someK (specE h.own S avs r) k
  | none => match E.cln f with
   | some t => match E.ty t, E.el t, avs with
    | some (.list T), some (e, by_), [some x] => someK (elemsA bx T x) fun l => if l.length * by_ <= 140737488355328 then k (.arr (newId h dst) true e T l) else none
    | _, _, _ => none
   | none => match E.xt f with
    | some S => bif freeL S.args && freeL S.res then someK (asBL bx S.args avs) fun xs => (S.F xs).bind fun r => k (.put (resAV S.res r)) else none
    | none => none
 | .builtin .append =>
  match ats[0]?, ats[1]? with
  | some t, some t' => bif Nat.beq t t' && Nat.beq ats.size 2 then
    match E.ty t, E.el t, avs with
    | some (.list T), some (e, by_), [some x, some y] => someK (elemsA bx T y) fun m =>
     match x with
     | .arr id ver => match bx id with
      | some (.arr ver' e' T' l) => if h' : T' = T then (bif Nat.beq ver ver' && Nat.beq e e' then (if (l.length + m.length) * by_ <= 140737488355328 then k (.arr id false e T ((h' ▸ l) ++ m)) else none) else none) else none
      | _ => none
     | .cst (.slice none 0 0) => if m.length * by_ <= 140737488355328 then k (.arr (newId h dst) true e T m) else none
     | _ => none
    | _, _, _ => none
   else none
  | _, _ => none
 | c => someK (evalCall E h bx dst ats c avs) k
def loadK {R : Type} (E : Env) (ev : Operand -> Option AV) (bx : Nat -> Option Box) (t : TypeId) (x : Operand) (k : Eff -> Option R) : Option R :=
 match E.lay t with
 | some q => match ev x with
  | some (.elt id ver sz i off) => match bx id with
   | some (.arr ver' _ T l) => bif Nat.beq ver ver' && Nat.beq sz T.size then (l[i]?).bind fun y => (match subS T y off q.1 with | some p => bif p.fit && (p.agg == q.2.1) then k (.put p) else none | none => none) else none
   | _ => none
  | some av => match loadA bx q.1 q.2.1 av with
   | some p => k (.put p)
   | none => none
  | none => none
 | none => none
def storeK {R : Type} (E : Env) (ev : Operand -> Option AV) (bx : Nat -> Option Box) (t : TypeId) (x y : Operand) (k : Eff -> Option R) : Option R :=
 match E.lay t with
 | some q => match ev y with
  | some z => match ev x with
   | some (.elt id ver sz i off) => match bx id, E.ty t with
    | some (.arr ver' e T l), some U => bif Nat.beq ver ver' && Nat.beq sz T.size then (match asT U z with
      | some x => (l[i]?).bind fun y => (match upd T y off U x with | some y' => k (.stoE id ver e T (l.set i y')) | none => none)
      | none => none) else none
    | _, _ => none
   | some av => match storeA bx (E.ty t) q.1 z av with
    | some e => k e
    | none => none
   | none => none
  | none => none
 | none => none
def idxK {R : Type} (E : Env) (ev : Operand -> Option AV) (bx : Nat -> Option Box) (t : TypeId) (x i : Operand) (k : Eff -> Option R) : Option R :=
 match ev x, ev i with
 | some x, some i => match E.arr t with
  | some _ => match idxA E bx t x i with
   | some p => k (.put p)
   | none => none
  | none => match E.ty t with
   | some (.list T) => match x with
    | .arr id ver => match bx id with
     | some (.arr ver' _ T' l) => bif Nat.beq ver ver' && decide (T' = T) then someK (asI i) fun m => if 0 <= m then (l[m.toNat]?).bind fun _ => k (.put (.elt id ver T'.size m.toNat 0)) else none else none
     | _ => none
    | x => someK (asT (.list T) x) fun l => someK (asI i) fun m => if 0 <= m then (l[m.toNat]?).bind fun y => k (.put (.ro T y 0)) else none
   | _ => none
 | _, _ => none
def divK {R : Type} (E : Env) (ev : Operand -> Option AV) (op : BinOp) (t : TypeId) (x y : Operand) (k : Eff -> Option R) : Option R :=
 match E.ty t with
 | some (.int j) => someK ((ev x).bind (asT (.int j))) fun a =>
   match op with
   | .shl => someK ((ev y).bind asI) fun b => if b < 0 then none else k (.put (.v (.int j) (j.wrap (a * 2 ^ min b.toNat j.bits))))
   | .shr => someK ((ev y).bind asI) fun b => if b < 0 then none else k (.put (.v (.int j) (a.fdiv (2 ^ min b.toNat j.bits))))
   | .quo => someK ((ev y).bind (asT (.int j))) fun b => if b = 0 then none else k (.put (.v (.int j) (j.wrap (a.tdiv b))))
   | .rem => someK ((ev y).bind (asT (.int j))) fun b => if b = 0 then none else k (.put (.v (.int j) (a.tmod b)))
   | _ => none
 | _ => none
def plainK {R : Type} (E : Env) (h : How) (dst : Option Nat) (ev : Operand -> Option AV) (bx : Nat -> Option Box) (op : Op) (k : Eff -> Option R) : Option R :=
 match op with
 | .call c => match dynF ev c.callee with
  | some f => match E.tab f with
   | some S => bif freeL S.args && freeL S.res then someK (asBL bx S.args (c.args.toList.map ev)) fun xs => (S.F xs).bind fun r => k (.put (resAV S.res r)) else none
   | none => none
  | none => callK E h bx dst c.argTypes c.callee (c.args.toList.map ev) k
 | .load t x => loadK E ev bx t x k
 | .store t x y => storeK E ev bx t x y k
 | .indexAddr t x i => idxK E ev bx t x i k
 | .index t x i =>
  bif E.str t then
   match ev x with
   | some (.cst (.string b)) => someK ((ev i).bind asI) fun m => if 0 <= m then (b[m.toNat]?).bind fun y => k (.put (.v (.int .u8) (y.toNat : Int))) else none
   | _ => none
  else none
 | .binOp op t x y t' =>
  bif isDiv op && !(E.pt t) then divK E ev op t x y k
  else someK (evalOp E h dst ev bx (.binOp op t x y t')) k
 | .pick c a b =>
  match (ev c).bind (asT .bool) with
  | some x => bif x then someK (ev a) (fun av => k (.put av)) else someK (ev b) (fun av => k (.put av))
  | none => none
 | .makeSlice t x y =>
  match E.ty t, E.el t with
  | some (.list T), some q => someK ((ev x).bind asI) fun n => someK ((ev y).bind asI) fun m => if n = m /\ 0 <= n /\ n.toNat * q.2 <= 140737488355328 then k (.arr (newId h dst) true q.1 T (List.replicate n.toNat (zeroT T))) else none
  | _, _ => none
 | .slice t x lo hi mx =>
  match E.ty t with
  | some (.list T) => bif mx.isNone then someK ((ev x).bind (asT (.list T))) fun l => someK (boundA ev lo 0) fun i => someK (boundA ev hi (l.length : Int)) fun j => if 0 <= i /\ i <= j /\ j <= (l.length : Int) then k (.put (.v (.list T) ((l.take j.toNat).drop i.toNat))) else none
    else bif lo.isNone then someK ((ev x).bind (asT (.list T))) fun l => someK (boundA ev hi (-1)) fun j => someK (boundA ev mx (-1)) fun m => if 0 <= j /\ j <= m /\ m <= (l.length : Int) then k (.put (.v (.list T) (l.take j.toNat))) else none else none
  | _ => none
 | op => someK (evalOp E h dst ev bx op) k
section
variable {P : Program} {E : Env} {R : Type} {hw : How} {dst : Option Nat} {ev : Operand -> Option AV} {bx : Nat -> Option Box}
theorem beq_and {α : Type} {a b c d : Nat} {x y : α} : (bif Nat.beq a b && Nat.beq c d then x else y) = if a = b /\ c = d then x else y := by
 by_cases h1 : a = b
 ·by_cases h2 : c = d
  ·subst h1; subst h2; simp
  ·have : Nat.beq c d = false := Bool.eq_false_iff.2 fun e => h2 (Nat.eq_of_beq_eq_true e)
   simp [h2, this]
 ·have : Nat.beq a b = false := Bool.eq_false_iff.2 fun e => h1 (Nat.eq_of_beq_eq_true e)
  simp [h1, this]
theorem callK_eq {ats : Array TypeId} {c : Callee} {avs : List (Option AV)} {k : Eff -> Option R} : callK E hw bx dst ats c avs k = (evalCall E hw bx dst ats c avs).bind k := by
 unfold callK
 split
 ·rename_i f
  simp only [evalCall]
  cases E.tab f with
  | some S =>
   simp only [someK_eq]
   cases asBL bx S.args avs with
   | none => rfl
   | some xs =>
    simp only [Option.bind_some]
    cases S.F xs <;> rfl
  | none =>
   simp only
   cases E.cln f with
   | none =>
    simp only
    cases E.xt f with
    | none => rfl
    | some S =>
     simp only [someK_eq]
     cases freeL S.args && freeL S.res with
     | false => rfl
     | true =>
      simp only [cond_true]
      cases asBL bx S.args avs with
      | none => rfl
      | some xs =>
       simp only [Option.bind_some]
       cases S.F xs <;> rfl
   | some t =>
    simp only
    cases E.ty t with
    | none => rfl
    | some U =>
     cases U with
     | list T =>
      cases E.el t with
      | none => rfl
      | some q =>
       obtain ⟨e, by_⟩ := q
       match avs with
       | [] => rfl
       | [none] => rfl
       | [some x] =>
        simp only [someK_eq]
        cases elemsA bx T x with
        | none => rfl
        | some l => simp only [Option.bind_some]; split <;> rfl
       | none :: _ :: _ => rfl
       | some _ :: _ :: _ => rfl
     | _ => rfl
 ·simp only [evalCall]
  cases ats[0]? with
  | none => rfl
  | some t =>
   cases ats[1]? with
   | none => rfl
   | some t' =>
    simp only [beq_and]
    by_cases hc : t = t' /\ ats.size = 2
    ·simp only [if_pos hc]
     cases E.ty t with
     | none => rfl
     | some U =>
      cases U with
      | list T =>
       cases E.el t with
       | none => rfl
       | some q =>
        obtain ⟨e, by_⟩ := q
        match avs with
        | [] => rfl
        | [none] => rfl
        | [some x] => rfl
        | [none, _] => rfl
        | [some x, none] => rfl
        | none :: _ :: _ :: _ => rfl
        | some _ :: none :: _ :: _ => rfl
        | some _ :: some _ :: _ :: _ => rfl
        | [some x, some y] =>
         simp only [someK_eq]
         cases elemsA bx T y with
         | none => rfl
         | some m =>
          simp only [Option.bind_some]
          have gen : ∀ (x : AV), (∀ i v, x ≠ .arr i v) -> (match x with
            | .arr id ver => match bx id with
             | some (.arr ver' e' T' l) => if h' : T' = T then (if ver = ver' /\ e = e' then (if (l.length + m.length) * by_ <= 140737488355328 then k (.arr id false e T ((h' ▸ l) ++ m)) else none) else none) else none
             | _ => none
            | .cst (.slice none 0 0) => if m.length * by_ <= 140737488355328 then k (.arr (newId hw dst) true e T m) else none
            | _ => none) = ((match x with
            | .arr id ver => match bx id with
             | some (.arr ver' e' T' l) => if h' : T' = T then (if ver = ver' /\ e = e' /\ (l.length + m.length) * by_ <= 140737488355328 then some (.arr id false e T ((h' ▸ l) ++ m)) else none) else none
             | _ => none
            | .cst (.slice none 0 0) => if m.length * by_ <= 140737488355328 then some (.arr (newId hw dst) true e T m) else none
            | _ => none) : Option Eff).bind k := fun x hx => by
           split
           ·exact absurd rfl (hx _ _)
           ·split <;> rfl
           ·rfl
          cases x
          case arr id ver =>
           simp only
           cases bx id with
           | none => rfl
           | some B =>
            cases B with
            | cells _ _ => rfl
            | arr ver' e' T' l =>
             simp only
             split
             ·by_cases h3 : ver = ver' /\ e = e'
              ·rw [if_pos h3]
               split
               ·rename_i h4; rw [if_pos ⟨h3.1, h3.2, h4⟩]; rfl
               ·rename_i h4; rw [if_neg (fun h => h4 h.2.2)]; rfl
              ·rw [if_neg h3, if_neg (fun h => h3 ⟨h.1, h.2.1⟩)]; rfl
             ·rfl
          case cst c =>
           by_cases hcc : c = .slice none 0 0
           ·subst hcc
            simp only
            split <;> rfl
           ·have e1 : ∀ {α : Type} (p q : α), (match AV.cst c with | .cst (.slice none 0 0) => p | _ => q) = q := fun p q => by
             split
             ·rename_i h0; cases h0; exact absurd rfl hcc
             ·rfl
            simp_all
          all_goals rfl
      | _ => rfl
    ·simp only [if_neg hc]; rfl
 ·exact someK_eq
theorem loadK_eq {t : TypeId} {x : Operand} {k : Eff -> Option R} : loadK E ev bx t x k = (evalOp E hw dst ev bx (.load t x)).bind k := by
 simp only [evalOp, loadK]
 cases E.lay t with
 | none => rfl
 | some q =>
  simp only [Option.bind_some]
  cases ev x with
  | none => rfl
  | some av =>
   simp only [Option.bind_some]
   have gen : (match loadA bx q.1 q.2.1 av with | some p => k (.put p) | none => none) = (Option.map Eff.put (loadA bx q.1 q.2.1 av)).bind k := by cases loadA bx q.1 q.2.1 av <;> rfl
   cases av
   case elt id ver sz i off =>
    simp only [loadA]
    cases bx id with
    | none => rfl
    | some B =>
     cases B with
     | cells _ _ => rfl
     | arr ver' e T l =>
      simp only
      cases (Nat.beq ver ver' && Nat.beq sz T.size) with
      | false => rfl
      | true =>
       simp only [cond_true]
       cases l[i]? with
       | none => rfl
       | some y =>
        simp only [Option.bind_some]
        cases subS T y off q.1 with
        | none => rfl
        | some p => simp only; cases (p.fit && (p.agg == q.2.1)) <;> rfl
   all_goals exact gen
theorem storeK_eq {t : TypeId} {x y : Operand} {k : Eff -> Option R} : storeK E ev bx t x y k = (evalOp E hw dst ev bx (.store t x y)).bind k := by
 simp only [evalOp, storeK]
 cases E.lay t with
 | none => rfl
 | some q =>
  simp only [Option.bind_some]
  cases ev y with
  | none => rfl
  | some z =>
   simp only [Option.bind_some]
   cases ev x with
   | none => rfl
   | some av =>
    simp only [Option.bind_some]
    have gen : (match storeA bx (E.ty t) q.1 z av with | some e => k e | none => none) = (storeA bx (E.ty t) q.1 z av).bind k := by cases storeA bx (E.ty t) q.1 z av <;> rfl
    cases av
    case elt id ver sz i off =>
     simp only [storeA]
     cases bx id with
     | none => rfl
     | some B =>
      cases B with
      | cells _ _ => rfl
      | arr ver' e T l =>
       cases E.ty t with
       | none => rfl
       | some U =>
        simp only
        cases (Nat.beq ver ver' && Nat.beq sz T.size) with
        | false => rfl
        | true =>
         simp only [cond_true]
         cases asT U z with
         | none => rfl
         | some u =>
          simp only
          cases l[i]? with
          | none => rfl
          | some y =>
           simp only [Option.bind_some]
           cases upd T y off U u <;> rfl
    all_goals exact gen
theorem idxK_eq {t : TypeId} {x i : Operand} {k : Eff -> Option R} : idxK E ev bx t x i k = (evalOp E hw dst ev bx (.indexAddr t x i)).bind k := by
 simp only [evalOp, idxK]
 cases ev x with
 | none => rfl
 | some x =>
  simp only [Option.bind_some]
  cases ev i with
  | none => rfl
  | some j =>
   simp only [Option.bind_some]
   cases ha : E.arr t with
   | some q => simp only; cases idxA E bx t x j <;> rfl
   | none =>
    simp only [idxA, ha]
    cases E.ty t with
    | none => rfl
    | some U =>
     cases U with
     | list T =>
      simp only
      have gen : (someK (asT (.list T) x) fun l => someK (asI j) fun m => if 0 <= m then (l[m.toNat]?).bind fun y => k (.put (.ro T y 0)) else none) =
        (Option.map Eff.put ((asT (.list T) x).bind fun l => (asI j).bind fun m => if 0 <= m then (l[m.toNat]?).bind fun y => some (.ro T y 0) else none)).bind k := by
       simp only [someK_eq]
       cases asT (.list T) x with
       | none => rfl
       | some l =>
        simp only [Option.bind_some]
        cases asI j with
        | none => rfl
        | some m =>
         simp only [Option.bind_some]
         split
         ·cases l[m.toNat]? <;> rfl
         ·rfl
      cases x
      case arr id ver =>
       simp only
       cases bx id with
       | none => rfl
       | some B =>
        cases B with
        | cells _ _ => rfl
        | arr ver' e T' l =>
         simp only
         cases (Nat.beq ver ver' && decide (T' = T)) with
         | false => rfl
         | true =>
          simp only [cond_true, someK_eq]
          cases asI j with
          | none => rfl
          | some m =>
           simp only [Option.bind_some]
           split
           ·cases l[m.toNat]? <;> rfl
           ·rfl
      all_goals exact gen
     | _ => rfl
theorem divK_eq {op : BinOp} {t t' : TypeId} {x y : Operand} {k : Eff -> Option R} (hp : E.pt t = false) (h : isDiv op = true) : divK E ev op t x y k = (evalOp E hw dst ev bx (.binOp op t x y t')).bind k := by
 simp only [divK, evalOp, hp, cond_false]
 cases E.ty t with
 | none => rfl
 | some U =>
  simp only [Option.bind_some]
  cases U with
  | int j =>
   simp only [someK_eq]
   cases (ev x).bind (asT (.int j)) with
   | none => rfl
   | some a =>
    simp only [Option.bind_some]
    cases op <;> first | (cases h; done) | skip
    ·simp only
     cases (ev y).bind (asT (.int j)) with
     | none => rfl
     | some b => simp only [Option.bind_some, binI]; split <;> rfl
    ·simp only
     cases (ev y).bind (asT (.int j)) with
     | none => rfl
     | some b => simp only [Option.bind_some, binI]; split <;> rfl
    ·simp only
     cases (ev y).bind asI with
     | none => rfl
     | some b => simp only [Option.bind_some, shiftI]; split <;> rfl
    ·simp only
     cases (ev y).bind asI with
     | none => rfl
     | some b => simp only [Option.bind_some, shiftI]; split <;> rfl
  | bool =>
   simp only
   cases (ev x).bind (asT .bool) with
   | none => rfl
   | some a =>
    simp only [Option.bind_some]
    cases (ev y).bind (asT .bool) with
    | none => rfl
    | some b => cases op <;> first | (cases h; done) | rfl
  | pair p q =>
   simp only
   cases (ev x).bind (asT (.pair p q)) with
   | none => rfl
   | some a =>
    simp only [Option.bind_some]
    cases (ev y).bind (asT (.pair p q)) with
    | none => rfl
    | some b =>
     simp only [Option.bind_some]
     split
     ·cases op <;> first | (cases h; done) | rfl
     ·rfl
  | list T => rfl
theorem plainK_eq {op : Op} {k : Eff -> Option R} : plainK E hw dst ev bx op k = (evalOp E hw dst ev bx op).bind k := by
 unfold plainK
 split
 ·rename_i c
  simp only [evalOp]
  cases dynF ev c.callee with
  | none => exact callK_eq
  | some f =>
   simp only [dynCall]
   cases E.tab f with
   | none => rfl
   | some S =>
    simp only [someK_eq]
    cases freeL S.args && freeL S.res with
    | false => rfl
    | true =>
     simp only [cond_true]
     cases asBL bx S.args (c.args.toList.map ev) with
     | none => rfl
     | some xs =>
      simp only [Option.bind_some]
      cases S.F xs <;> rfl
 ·exact loadK_eq
 ·exact storeK_eq
 ·exact idxK_eq
 ·simp only [evalOp]
  cases E.str _ with
  | false => rfl
  | true =>
   simp only [cond_true, if_true]
   cases ev _ with
   | none => rfl
   | some av =>
    simp only [Option.bind_some]
    cases av with
    | cst c =>
     cases c with
     | string b =>
      simp only [someK_eq]
      cases (ev _).bind asI with
      | none => rfl
      | some m =>
       simp only [Option.bind_some]
       split
       ·cases b[m.toNat]? <;> rfl
       ·rfl
     | _ => rfl
    | _ => rfl
 ·rename_i op t x y t'
  cases hd : isDiv op with
  | true =>
   cases hp : E.pt t with
   | false => simp only [Bool.not_false, Bool.and_self, cond_true]; exact divK_eq hp hd
   | true => simp only [Bool.not_true, Bool.and_false, cond_false]; exact someK_eq
  | false => simp only [Bool.false_and, cond_false]; exact someK_eq
 ·simp only [evalOp]
  cases (ev _).bind (asT .bool) with
  | none => rfl
  | some x =>
   cases x with
   | true => simp only [Option.bind_some, cond_true, someK_eq]; cases ev _ <;> rfl
   | false => simp only [Option.bind_some, cond_false, someK_eq]; cases ev _ <;> rfl
 ·rename_i t x y
  simp only [evalOp]
  cases E.ty t with
  | none => rfl
  | some U =>
   cases U with
   | list T =>
    cases E.el t with
    | none => rfl
    | some q =>
     simp only [someK_eq, Option.bind_some]
     cases (ev x).bind asI with
     | none => rfl
     | some m =>
      simp only [Option.bind_some]
      cases (ev y).bind asI with
      | none => rfl
      | some m' => simp only [Option.bind_some]; split <;> rfl
   | _ => cases E.el t <;> rfl
 ·rename_i t x lo hi mx
  simp only [evalOp]
  cases E.ty t with
  | none => rfl
  | some U =>
   cases U with
   | list T =>
    cases mx with
    | some m =>
     cases lo with
     | some o' => rfl
     | none =>
      simp only [someK_eq, Option.bind_some, Option.isNone_some, cond_false, Option.isNone_none, cond_true]
      cases (ev x).bind (asT (.list T)) with
      | none => rfl
      | some l =>
       simp only [Option.bind_some]
       cases boundA ev hi (-1) with
       | none => rfl
       | some j =>
        simp only [Option.bind_some]
        cases boundA ev (some m) (-1) with
        | none => rfl
        | some m' => simp only [Option.bind_some]; split <;> rfl
    | none =>
     simp only [someK_eq, Option.bind_some, Option.isNone_none, cond_true]
     cases (ev x).bind (asT (.list T)) with
     | none => rfl
     | some l =>
      simp only [Option.bind_some]
      cases boundA ev lo 0 with
      | none => rfl
      | some i =>
       simp only [Option.bind_some]
       cases boundA ev hi l.length with
       | none => rfl
       | some j => simp only [Option.bind_some]; split <;> rfl
   | _ => rfl
 ·exact someK_eq
end

def memB (l : List Nat) (id : Nat) : Bool := l.any fun i => Nat.beq i id
def Mask.given (M : Mask) : List Nat := M.bxs.map fun q => q.1
def Mask.ptrs (M : Mask) (bx : Nat -> Option Box) : List (Nat × Nat) := M.bxs.filterMap fun q => match q.2, bx q.1 with
 | .cells _, some (.cells ver _) => some (q.1, ver)
 | .arr _ _, some (.arr ver _ _ _) => some (q.1, ver)
 | _, _ => none
def linkA (bx : Nat -> Option Box) (q : Nat × Nat) : AV := match bx q.1 with
 | some (.arr _ _ _ _) => .arr q.1 q.2
 | _ => .ptr q.1 q.2 0
def St.closeF (s : St) (M : Mask) (b c : Nat) (l : List AV) : St :=
 ⟨fun f t => bif Nat.beq f b then inTm l t else bif Nat.beq f c then ((M.ptrs s.bx)[t]?).map (linkA s.bx) else none,
  fun id => bif memB M.given id then s.bx id else none, s.us, s.nl, fun _ => none⟩
def isLinked (tm : Nat -> Nat -> Option AV) (c j id ver : Nat) : Bool := match tm c j with
 | some (.ptr id' ver' 0) => Nat.beq id' id && Nat.beq ver' ver
 | some (.arr id' ver') => Nat.beq id' id && Nat.beq ver' ver
 | _ => false
def Box.isC : Box -> Bool
 | .cells _ _ => true
 | .arr _ _ _ _ => false
def linkV (t : St) (c id : Nat) : Nat -> List (Nat × Nat) -> Option Nat
 | _, [] => none
 | j, q :: l => match t.bx id with
  | some B => bif Nat.beq q.1 id && isLinked t.tm c j id B.ver && (Nat.beq B.ver q.2 || B.isC && Nat.ble (t.us id) q.2) then some q.2 else linkV t c id (j + 1) l
  | _ => none
def Box.on (g : Nat -> Bool) : Box -> Bool
 | .cells _ av => av.on g
 | .arr _ _ _ _ => true
def goodS (s t : St) (M : Mask) (c id : Nat) : Bool := match t.bx id with
 | some _ => (linkV t c id 0 (M.ptrs s.bx)).isSome
 | none => true
def goodT (t : St) (id : Nat) : Bool := (t.bx id).isSome
def Box.reV (B : Box) : Option Nat -> Box
 | some v => match B with
  | .cells _ av => .cells v av
  | .arr _ e T l => .arr v e T l
 | none => B
def St.openF (s t : St) (M : Mask) (c : Nat) : St :=
 ⟨fun f p => match s.tm f p with
   | some av => bif av.on (goodS s t M c) then some av else none
   | none => none,
  fun id => match t.bx id with
   | some B => bif B.on (goodT t) then some (B.reV (linkV t c id 0 (M.ptrs s.bx))) else none
   | none => bif memB M.given id then none else match s.bx id with
    | some B => bif B.on (goodS s t M c) then some B else none
    | none => none,
  fun id => s.us id + t.us id + 1, s.nl, s.jp⟩
section
variable {P : Program} {E : Env} {X : Ctx} {O O' : Octx} {ρ ρ' : Nat -> Value} {s t : St} {a : Act} {w w' : World} {r : Option Nat} {R : Type}
theorem frozen_ex (w : World) (p : Nat -> Prop) : ∃ l : List (Nat × Obj), (∀ q ∈ l, w.heap[q.1]? = some q.2 /\ q.2.isCells = true /\ p q.1) /\ ∀ k c e z, p k -> w.heap[k]? = some (.cells c e z) -> (k, Obj.cells c e z) ∈ l := by
 have key : ∀ n : Nat, ∃ l : List (Nat × Obj), (∀ q ∈ l, w.heap[q.1]? = some q.2 /\ q.2.isCells = true /\ p q.1) /\ ∀ k c e z, k < n -> p k -> w.heap[k]? = some (.cells c e z) -> (k, Obj.cells c e z) ∈ l := by
  intro n
  induction n with
  | zero => exact ⟨[], fun q hq => (by cases hq), fun k c e z hk => absurd hk (Nat.not_lt_zero _)⟩
  | succ n ih =>
   obtain ⟨l, h1, h2⟩ := ih
   by_cases h : ∃ c e z, p n /\ w.heap[n]? = some (.cells c e z)
   ·obtain ⟨c, e, z, hp, hh⟩ := h
    refine ⟨(n, .cells c e z) :: l, fun q hq => ?_, fun k c' e' z' hk hp' hh' => ?_⟩
    ·rcases List.mem_cons.1 hq with rfl | hq
     ·exact ⟨hh, rfl, hp⟩
     ·exact h1 q hq
    ·by_cases e0 : k = n
     ·subst e0
      rw [hh] at hh'
      cases hh'
      exact List.mem_cons_self
     ·exact List.mem_cons_of_mem _ (h2 k c' e' z' (by omega) hp' hh')
   ·refine ⟨l, h1, fun k c' e' z' hk hp' hh' => ?_⟩
    by_cases e0 : k = n
    ·subst e0; exact absurd ⟨c', e', z', hp', hh'⟩ h
    ·exact h2 k c' e' z' (by omega) hp' hh'
 obtain ⟨l, h1, h2⟩ := key w.heap.size
 exact ⟨l, h1, fun k c e z hp hh => h2 k c e z (Array.getElem?_eq_some_iff.1 hh).1 hp hh⟩
def Octx.sealed (O : Octx) (ρ : Nat -> Value) (s : St) (M : Mask) (c : Nat) (fz : List (Nat × Obj)) : Octx where
 w0 := O.w0
 ok0 := O.ok0
 ups := [(c, ((M.ptrs s.bx).map fun q => ρ q.1).toArray)]
 lps := []
 keep := O.keep
 rd := fun k => O.rd k /\ ∀ id, (s.bx id).isSome = true -> memB M.given id = false -> refB (ρ id) ≠ some k
 fz := fz
theorem BoxOK.moveV {g : Nat -> Bool} {bx bx' : Nat -> Option Box} {us us' : Nat -> Nat} {nl nl' id : Nat} {B : Box} (h : BoxOK O ρ bx w us nl id B) (h0 : O'.w0 = O.w0) (he : (mem O ρ bx w).ExtV (mem O' ρ' bx' w') g us nl) (ho : B.on g = true)
  (hρ : ρ' id = ρ id) (hu : ∀ i, us i <= us' i) (hn : nl <= nl') (hk : ∀ k, refB (ρ id) = some k -> w'.heap[k]? = w.heap[k]?) : BoxOK O' ρ' bx' w' us' nl' id B := by
 cases B with
 | cells ver av =>
  obtain ⟨h1, h2, g', cs, e, h3, h4, h5, h6⟩ := h
  exact ⟨Nat.lt_of_lt_of_le h1 (hu id), AV.bd_nl hn av (AV.bd_mono hu av h2), g', cs, e, by rw [hρ, h3], by rw [h0]; exact h4, by rw [hk g' (by rw [h3]; rfl)]; exact h5, HoldsA.mapV he _ _ h2 ho h6⟩
 | arr ver e T l =>
  obtain ⟨h1, css, h2, h3⟩ := h
  exact ⟨Nat.lt_of_lt_of_le h1 (hu id), css, All2.imp (fun x c hc => Holds.map he.heap _ _ _ hc) h2, by rw [hρ, h0]; exact ownsRow_step h3 hk⟩
theorem ptrs_mem {M : Mask} {bx : Nat -> Option Box} {q : Nat × Nat} (h : q ∈ M.ptrs bx) : ∃ B, bx q.1 = some B /\ B.ver = q.2 := by
 unfold Mask.ptrs at h
 obtain ⟨⟨i, b⟩, _, hb⟩ := List.mem_filterMap.1 h
 cases b with
 | arr e T =>
  dsimp only at hb
  split at hb
  ·rename_i e1 e2
   cases e1
  ·rename_i ver _ _ _ e1 e2
   cases hb
   exact ⟨_, e2, rfl⟩
  ·cases hb
 | cells sh =>
  dsimp only at hb
  split at hb
  ·rename_i ver av e1 e2
   cases hb
   exact ⟨_, e2, rfl⟩
  ·rename_i e1 e2
   cases e1
  ·cases hb
theorem linkA_rep {q : Nat × Nat} {B : Box} (hq : s.bx q.1 = some B) (hv : B.ver = q.2) (hb : BoxOK O ρ s.bx w s.us s.nl q.1 B) : (linkA s.bx q).bd s.us s.nl = true /\ RepA (mem O ρ s.bx w) (linkA s.bx q) (ρ q.1) := by
 cases B with
 | cells ver av =>
  have e : linkA s.bx q = .ptr q.1 q.2 0 := by simp [linkA, hq]
  rw [e]
  have hv' : ver = q.2 := hv
  subst hv'
  obtain ⟨h1, _, g, cs, e', h3, _⟩ := hb
  refine ⟨by simp only [AV.bd, Nat.blt_eq]; exact h1, ?_⟩
  rw [h3]
  exact ⟨[_], ⟨_, rfl, rfl, fun _ => ⟨g, h3, rfl⟩⟩, rfl⟩
 | arr ver e0 T l =>
  have e : linkA s.bx q = .arr q.1 q.2 := by simp [linkA, hq]
  rw [e]
  have hv' : ver = q.2 := hv
  subst hv'
  obtain ⟨h1, css, h2, h3⟩ := hb
  refine ⟨by simp only [AV.bd, Nat.blt_eq]; exact h1, ?_⟩
  refine ⟨[_], ⟨_, rfl, ?_, fun _ => rfl⟩, rfl⟩
  show (ρ q.1).oneCell' = true
  rcases h3.2 with ⟨h4, _⟩ | ⟨g, cap, cur, h4, _⟩ <;> (rw [h4]; rfl)
theorem linkA_eq {ρt : Nat -> Value} {bx : Nat -> Option Box} {q : Nat × Nat} {B : Box} {v : Value} {id ver : Nat} {av : AV} (hB : bx id = some B) (hver : B.ver = ver) (hav : av = .ptr id ver 0 \/ av = .arr id ver) (h : RepA (mem O ρt bx w) av v) : ρt id = v := by
 rcases hav with e | e <;> subst e
 ·obtain ⟨cs, ⟨u, e5, _, h5⟩, e6⟩ := h
  obtain ⟨g, h6, h7⟩ := h5 (by simp [mem, hB, hver])
  have h6' : ρt id = .pointer (some ⟨g, 0, none⟩) := h6
  rw [h6', e6, e5, h7]
  rfl
 ·obtain ⟨cs, ⟨u, e5, _, h5⟩, e6⟩ := h
  have h6 : u = ρt id := h5 (by simp [mem, hB, hver])
  rw [e6, e5, h6]
  rfl
theorem seal_bx {M : Mask} {b fc : Nat} {l : List AV} {id : Nat} {B : Box} (h : (s.closeF M b fc l).bx id = some B) : memB M.given id = true /\ s.bx id = some B := by
 simp only [St.closeF] at h
 cases hc : memB M.given id with
 | true => rw [hc] at h; exact ⟨rfl, h⟩
 | false => rw [hc] at h; cases h
theorem RelO.closeF {n b fc : Nat} (hbc : Nat.beq fc b = false) (h : RelO O ρ s w) (M : Mask) {l : List AV} {fz : List (Nat × Obj)} (hfz : ∀ q ∈ fz, w.heap[q.1]? = some q.2 /\ q.2.isCells = true /\ frS O ρ (s.closeF M b fc l).bx q.1) {tmps : Array Value} (hs : tmps.size = n)
  (hr : ∀ t av, inTm l t = some av -> av.bd s.us s.nl = true /\ RepA (mem O ρ s.bx w) av (tmps.getD t undef)) : RelC b n (O.sealed ρ s M fc fz) ρ (s.closeF M b fc l) { tmps := tmps, defers := [] } w := by
 have hsome : ∀ id, ((s.closeF M b fc l).bx id).isSome = true -> memB M.given id = true /\ (s.bx id).isSome = true := fun id hid => by
  obtain ⟨B, hB⟩ := Option.isSome_iff_exists.1 hid
  obtain ⟨h1, h2⟩ := seal_bx hB
  exact ⟨h1, by rw [h2]; rfl⟩
 have hext : (mem O ρ s.bx w).ExtV (mem (O.sealed ρ s M fc fz) ρ (s.closeF M b fc l).bx w) (fun _ => true) s.us s.nl := by
  refine ⟨fun k c e z hk hh => ⟨⟨⟨hk.1.1, fun id hid => hk.1.2 id (hsome id hid).2⟩, hk.2, fun id hid _ => hk.1.2 id hid⟩, hh⟩, fun id ver _ _ hc => ⟨?_, rfl⟩, fun k l' _ hl => ?_⟩
  ·simp only [mem, Option.map_eq_some_iff] at hc ⊢
   obtain ⟨B, hB, e⟩ := hc
   exact ⟨B, (seal_bx hB).2, e⟩
  ·cases hl
 refine ⟨⟨fun p hp t av ht => ?_, fun id B hB => ?_, fun i j k hi hj => h.inj i j k (hsome i hi).2 (hsome j hj).2, h.below, fun q hq => (by cases hq), h.keep, fun i k hi hk => ⟨h.brd i k (hsome i hi).2 hk, fun id hid hg e => ?_⟩, fun k hk => ⟨h.rdf k hk, fun id hid _ e => ?_⟩, hfz⟩, fun p hp => ?_, hs, fun t av ht => ?_, [], rfl, List.nodup_nil, fun D hD => (by cases hD)⟩
 ·obtain rfl := List.mem_singleton.1 hp
  have ht0 : (bif Nat.beq fc b then inTm l t else bif Nat.beq fc fc then ((M.ptrs s.bx)[t]?).map (linkA s.bx) else none) = some av := ht
  have ht' : ((M.ptrs s.bx)[t]?).map (linkA s.bx) = some av := by rw [hbc, Nat.beq_refl] at ht0; exact ht0
  rw [Option.map_eq_some_iff] at ht'
  obtain ⟨q, hq, e⟩ := ht'
  subst e
  obtain ⟨B0, hq2, hq3⟩ := ptrs_mem (List.mem_of_getElem? hq)
  obtain ⟨hbd, hrp⟩ := linkA_rep hq2 hq3 (h.bx q.1 _ hq2)
  refine ⟨hbd, RepA.mapV hext hbd (AV.on_true _) ?_⟩
  have hv : ((M.ptrs s.bx).map fun q => ρ q.1).toArray.getD t undef = ρ q.1 := by
   simp [hq]
  rw [hv]
  exact hrp
 ·obtain ⟨h1, h2⟩ := seal_bx hB
  have hB' := h.bx id B h2
  exact hB'.moveV rfl hext (by cases B <;> first | exact AV.on_true _ | rfl) rfl (fun _ => Nat.le_refl _) (Nat.le_refl _) (fun _ _ => rfl)
 ·have := h.inj i id k (hsome i hi).2 hid hk e
  subst this
  rw [(hsome i hi).1] at hg; cases hg
 ·obtain ⟨B, hB⟩ := Option.isSome_iff_exists.1 hid
  have := h.lt hB e
  omega
 ·obtain rfl := List.mem_singleton.1 hp
  show fc ≠ b
  intro e
  rw [e, Nat.beq_refl] at hbc; cases hbc
 ·have ht0 : (bif Nat.beq b b then inTm l t else bif Nat.beq b fc then ((M.ptrs s.bx)[t]?).map (linkA s.bx) else none) = some av := ht
  have ht' : inTm l t = some av := by rw [Nat.beq_refl] at ht0; exact ht0
  obtain ⟨h1, h2⟩ := hr t av ht'
  exact ⟨h1, RepA.mapV hext h1 (AV.on_true av) h2⟩
theorem linkV_spec {M : Mask} {fc : Nat} {fz : List (Nat × Obj)} {ρt : Nat -> Value} (k : RelO (O.sealed ρ s M fc fz) ρt t w') {id : Nat} : ∀ (l : List (Nat × Nat)) (j : Nat) {v' : Nat}, (∀ i q, l[i]? = some q -> (M.ptrs s.bx)[j + i]? = some q) -> linkV t fc id j l = some v' ->
  ∃ B B', t.bx id = some B /\ s.bx id = some B' /\ B'.ver = v' /\ ρt id = ρ id /\ (B.ver = v' \/ t.us id <= v')
 | [], _, _, _, h => by cases h
 | q :: l, j, v', hl, h => by
  simp only [linkV] at h
  split at h
  ·rename_i B hB
   cases hc : (Nat.beq q.1 id && isLinked t.tm fc j id B.ver && (Nat.beq B.ver q.2 || B.isC && Nat.ble (t.us id) q.2)) with
   | false =>
    rw [hc] at h
    exact linkV_spec k l (j + 1) (fun i q' hq => by
     have := hl (i + 1) q' (by simpa using hq)
     rw [show j + (i + 1) = j + 1 + i by omega] at this
     exact this) h
   | true =>
    rw [hc] at h
    cases h
    simp only [Bool.and_eq_true, Bool.or_eq_true] at hc
    obtain ⟨⟨h1, h2⟩, h3⟩ := hc
    replace h3 : Nat.beq B.ver q.2 = true \/ Nat.ble (t.us id) q.2 = true := h3.imp (fun h => h) And.right
    have e1 := Nat.eq_of_beq_eq_true h1
    subst e1
    have hq := hl 0 q (by simp)
    rw [Nat.add_zero] at hq
    obtain ⟨B', hs, hs2⟩ := ptrs_mem (List.mem_of_getElem? hq)
    refine ⟨B, B', hB, hs, hs2, ?_, h3.imp Nat.eq_of_beq_eq_true Nat.le_of_ble_eq_true⟩
    have hv : ((M.ptrs s.bx).map fun q => ρ q.1).toArray.getD j undef = ρ q.1 := by simp [hq]
    have fin : ∀ av, t.tm fc j = some av -> (av = .ptr q.1 B.ver 0 \/ av = .arr q.1 B.ver) -> ρt q.1 = ρ q.1 := fun av htm hav => by
     obtain ⟨_, hr⟩ := k.up _ (List.mem_singleton.2 rfl) j _ htm
     have e6' := linkA_eq (q := q) hB rfl hav hr
     exact e6'.trans hv
    unfold isLinked at h2
    split at h2
    ·rename_i id' ver' htm
     rw [Bool.and_eq_true] at h2
     have e3 := Nat.eq_of_beq_eq_true h2.1
     have e4 := Nat.eq_of_beq_eq_true h2.2
     exact fin _ htm (.inl (by rw [e3, e4]))
    ·rename_i id' ver' htm
     rw [Bool.and_eq_true] at h2
     have e3 := Nat.eq_of_beq_eq_true h2.1
     have e4 := Nat.eq_of_beq_eq_true h2.2
     exact fin _ htm (.inr (by rw [e3, e4]))
    ·cases h2
  ·cases h
theorem unseal_t {M : Mask} {fc id : Nat} {B : Box} (ht : t.bx id = some B) {B' : Box} (h : (s.openF t M fc).bx id = some B') : B' = B.reV (linkV t fc id 0 (M.ptrs s.bx)) /\ B.on (goodT t) = true := by
 simp only [St.openF, ht] at h
 cases hc : B.on (goodT t) with
 | true => rw [hc] at h; cases h; exact ⟨rfl, rfl⟩
 | false => rw [hc] at h; cases h
theorem unseal_s {M : Mask} {fc id : Nat} (ht : t.bx id = none) {B' : Box} (h : (s.openF t M fc).bx id = some B') : memB M.given id = false /\ s.bx id = some B' /\ B'.on (goodS s t M fc) = true := by
 simp only [St.openF, ht] at h
 cases hc : memB M.given id with
 | true => rw [hc] at h; cases h
 | false =>
  rw [hc] at h
  simp only [cond_false] at h
  split at h
  ·rename_i B hB
   cases hc2 : B.on (goodS s t M fc) with
   | true => rw [hc2] at h; cases h; exact ⟨rfl, hB, hc2⟩
   | false => rw [hc2] at h; cases h
  ·cases h
theorem RelO.openF {b fc : Nat} (h : RelO O ρ s w) (hl : O.lps = []) (M : Mask) {l : List AV} {fz : List (Nat × Obj)} (hfz : ∀ k c e z, frS O ρ (s.closeF M b fc l).bx k -> w.heap[k]? = some (.cells c e z) -> (k, Obj.cells c e z) ∈ fz)
  {ρt : Nat -> Value} (k : RelO (O.sealed ρ s M fc fz) ρt t w') (hnl : t.nl <= s.nl) :
  ∃ ρ', RelO O ρ' (s.openF t M fc) w' /\ ∀ av v, av.bd t.us t.nl = true -> av.on (goodT t) = true -> RepA (mem (O.sealed ρ s M fc fz) ρt t.bx w') av v -> av.bd (s.openF t M fc).us (s.openF t M fc).nl = true /\ RepA (mem O ρ' (s.openF t M fc).bx w') av v := by
 obtain ⟨ρ', hρ⟩ : ∃ ρ' : Nat -> Value, ρ' = fun id => if (t.bx id).isSome = true then ρt id else ρ id := ⟨_, rfl⟩
 have r1 : ∀ id B, t.bx id = some B -> ρ' id = ρt id := fun id B hB => by rw [hρ]; simp [hB]
 have r2 : ∀ id, t.bx id = none -> ρ' id = ρ id := fun id hB => by rw [hρ]; simp [hB]
 have hlm : ∀ i, O.lm i = none := fun i => by simp [Octx.lm, hl]
 have hfr : ∀ i c e z, frS O ρ s.bx i -> w.heap[i]? = some (.cells c e z) -> frS O ρ' (s.openF t M fc).bx i /\ w'.heap[i]? = some (.cells c e z) := fun i c e z hi hh => by
  have hi1 : frS O ρ (s.closeF M b fc l).bx i := ⟨hi.1, fun id hid => by
   obtain ⟨B, hB⟩ := Option.isSome_iff_exists.1 hid
   exact hi.2 id (by rw [(seal_bx hB).2]; rfl)⟩
  obtain ⟨h1, _, h2⟩ := k.fz _ (hfz i c e z hi1 hh)
  refine ⟨⟨hi.1, fun id hid => ?_⟩, h1⟩
  obtain ⟨B', hB'⟩ := Option.isSome_iff_exists.1 hid
  cases ht : t.bx id with
  | some B => rw [r1 id B ht]; exact h2.2 id (by rw [ht]; rfl)
  | none => rw [r2 id ht]; exact hi.2 id (by rw [(unseal_s ht hB').2.1]; rfl)
 have us1 : ∀ i, s.us i <= (s.openF t M fc).us i := fun i => by show s.us i <= s.us i + t.us i + 1; omega
 have us2 : ∀ i, t.us i <= (s.openF t M fc).us i := fun i => by show t.us i <= s.us i + t.us i + 1; omega
 have eS : (mem O ρ s.bx w).ExtV (mem O ρ' (s.openF t M fc).bx w') (goodS s t M fc) s.us s.nl := by
  refine ⟨fun i c e z hi hh => ⟨⟨(hfr i c e z hi.1 hh).1, hi.2⟩, (hfr i c e z hi.1 hh).2⟩, fun id ver hg _ hc => ?_, fun i l' _ hl' => hl'⟩
  simp only [mem, Option.map_eq_some_iff] at hc
  obtain ⟨B', hB', e⟩ := hc
  cases ht : t.bx id with
  | none =>
   obtain ⟨_, h2, _⟩ := unseal_s ht hB'
   exact ⟨by simp [mem, h2, e], r2 id ht⟩
  | some B =>
   simp only [goodS, ht] at hg
   obtain ⟨v0, hv0⟩ := Option.isSome_iff_exists.1 hg
   obtain ⟨B1, B2, h1, h2, h2v, h3, _⟩ := linkV_spec k _ 0 (fun i q hq => by rw [Nat.zero_add]; exact hq) hv0
   obtain ⟨h4, _⟩ := unseal_t ht hB'
   rw [ht] at h1
   cases h1
   rw [hv0] at h4
   subst h4
   exact ⟨by simp only [mem, h2, Option.map_some]; rw [<- e, h2v]; cases B <;> rfl, (r1 id _ ht).trans h3⟩
 have eT : (mem (O.sealed ρ s M fc fz) ρt t.bx w').ExtV (mem O ρ' (s.openF t M fc).bx w') (goodT t) t.us t.nl := by
  refine ⟨fun i c e z hi hh => ⟨⟨⟨hi.1.1, fun id hid => ?_⟩, hi.2.1⟩, hh⟩, fun id ver hg hu hc => ?_, fun i l' _ hl' => ?_⟩
  ·obtain ⟨B', hB'⟩ := Option.isSome_iff_exists.1 hid
   cases ht : t.bx id with
   | some B => rw [r1 id B ht]; exact hi.1.2 id (by rw [ht]; rfl)
   | none =>
    rw [r2 id ht]
    obtain ⟨h1, h2, _⟩ := unseal_s ht hB'
    exact hi.2.2 id (by rw [h2]; rfl) h1
  ·obtain ⟨B, ht⟩ := Option.isSome_iff_exists.1 hg
   simp only [mem, Option.map_eq_some_iff] at hc
   obtain ⟨B', hB', e⟩ := hc
   obtain ⟨h4, _⟩ := unseal_t ht hB'
   refine ⟨?_, r1 id _ ht⟩
   cases hv : linkV t fc id 0 (M.ptrs s.bx) with
   | none =>
    rw [hv] at h4
    subst h4
    simp only [mem, ht, Option.map_some]
    exact congrArg some e
   | some v0 =>
    obtain ⟨B1, B2, h1, _, _, _, h5⟩ := linkV_spec k _ 0 (fun i q hq => by rw [Nat.zero_add]; exact hq) hv
    rw [ht] at h1
    cases h1
    rw [hv] at h4
    subst h4
    have e' : v0 = ver := by cases B <;> exact e
    subst e'
    rcases h5 with h5 | h5
    ·simp [mem, ht, h5]
    ·omega
  ·have : O.lm i = some l' := hl'
   rw [hlm] at this; cases this
 refine ⟨ρ', ⟨fun p hp q av ht => ?_, fun id B' hB' => ?_, fun i j kk hi hj h5 h6 => ?_, k.below, fun q hq => (by rw [hl] at hq; cases hq), k.keep, fun i kk hi hk => ?_, fun kk hk => (k.rdf kk hk).1, fun q hq => ?_⟩, fun av v hb ho hr => ⟨AV.bd_nl hnl av (AV.bd_mono us2 av hb), RepA.mapV eT hb ho hr⟩⟩
 ·simp only [St.openF] at ht
  split at ht
  ·rename_i av' hav
   cases hc : av'.on (goodS s t M fc) with
   | false => rw [hc] at ht; cases ht
   | true =>
    rw [hc] at ht
    cases ht
    obtain ⟨h1, h2⟩ := h.up p hp q _ hav
    exact ⟨AV.bd_mono us1 _ h1, RepA.mapV eS h1 hc h2⟩
  ·cases ht
 ·cases ht : t.bx id with
  | some B =>
   obtain ⟨h4, h5⟩ := unseal_t ht hB'
   have hm : BoxOK O ρ' (s.openF t M fc).bx w' (s.openF t M fc).us (s.openF t M fc).nl id B := (k.bx id _ ht).moveV rfl eT h5 (r1 id _ ht) us2 hnl (fun _ _ => rfl)
   cases hv : linkV t fc id 0 (M.ptrs s.bx) with
   | none => rw [hv] at h4; subst h4; exact hm
   | some v0 =>
    obtain ⟨B1, B2, h1, g2, g2v, _, _⟩ := linkV_spec k _ 0 (fun i q hq => by rw [Nat.zero_add]; exact hq) hv
    rw [ht] at h1
    cases h1
    rw [hv] at h4
    subst h4
    have hlt : v0 < (s.openF t M fc).us id := by
     have := (h.bx id _ g2)
     have h9 : B2.ver < s.us id := by cases B2 <;> exact this.1
     rw [g2v] at h9
     exact Nat.lt_of_lt_of_le h9 (us1 id)
    cases B with
    | cells => exact ⟨hlt, hm.2⟩
    | arr => exact ⟨hlt, hm.2⟩
  | none =>
   obtain ⟨h1, h2, h3⟩ := unseal_s ht hB'
   have hb := h.bx id B' h2
   refine hb.moveV rfl eS h3 (r2 id ht) us1 (Nat.le_refl _) (fun kk hk => ?_)
   obtain ⟨g1, cs, e, g2⟩ := hb.block hk
   have : frS O ρ (s.closeF M b fc l).bx kk := ⟨.inr g1, fun i hi hk' => by
    obtain ⟨Bi, hBi⟩ := Option.isSome_iff_exists.1 hi
    obtain ⟨g3, g4⟩ := seal_bx hBi
    have := h.inj i id kk (by rw [g4]; rfl) (by rw [h2]; rfl) hk' hk
    subst this
    rw [h1] at g3; cases g3⟩
   rw [(k.fz _ (hfz kk cs e _ this g2)).1]
   exact g2.symm
 ·obtain ⟨Bi, hBi⟩ := Option.isSome_iff_exists.1 hi
  obtain ⟨Bj, hBj⟩ := Option.isSome_iff_exists.1 hj
  cases ti : t.bx i with
  | some B =>
   rw [r1 i B ti] at h5
   cases tj : t.bx j with
   | some B2 =>
    rw [r1 j B2 tj] at h6
    exact k.inj i j kk (by rw [ti]; rfl) (by rw [tj]; rfl) h5 h6
   | none =>
    rw [r2 j tj] at h6
    obtain ⟨g1, g2, _⟩ := unseal_s tj hBj
    exact absurd h6 ((k.brd i kk (by rw [ti]; rfl) h5).2 j (by rw [g2]; rfl) g1)
  | none =>
   rw [r2 i ti] at h5
   obtain ⟨g1, g2, _⟩ := unseal_s ti hBi
   cases tj : t.bx j with
   | some B2 =>
    rw [r1 j B2 tj] at h6
    exact absurd h5 ((k.brd j kk (by rw [tj]; rfl) h6).2 i (by rw [g2]; rfl) g1)
   | none =>
    rw [r2 j tj] at h6
    obtain ⟨g3, g4, _⟩ := unseal_s tj hBj
    exact h.inj i j kk (by rw [g2]; rfl) (by rw [g4]; rfl) h5 h6
 ·obtain ⟨Bi, hBi⟩ := Option.isSome_iff_exists.1 hi
  cases ti : t.bx i with
  | some B => rw [r1 i B ti] at hk; exact (k.brd i kk (by rw [ti]; rfl) hk).1
  | none =>
   rw [r2 i ti] at hk
   exact h.brd i kk (by rw [(unseal_s ti hBi).2.1]; rfl) hk
 ·obtain ⟨h1, h2, h3⟩ := h.fz q hq
  obtain ⟨i, ob⟩ := q
  cases ob <;> first | (cases h2; done) | skip
  obtain ⟨h4, h5⟩ := hfr i _ _ _ h3 h1
  exact ⟨h5, h2, h4⟩
end
section
variable {P : Program} {E : Env} {X : Ctx} {O : Octx} {ρ : Nat -> Value} {s t : St} {a : Act} {w : World} {r : Option Nat} {o : Oper}
theorem wpOp_seg (hE : E.OK P) (hF : Fits E X O r) (hys : X.ys = []) (h : RelC X.b X.n O ρ s a w) {x : Operand} {args : Array Operand} {ats : Array TypeId} (ho : o.op = .call ⟨.value x, args, ats⟩) {f : FuncId} {caps : AV} (hx : s.ev X.b x = some (.clo f caps))
  {fn : Func} (hfn : E.fn f = some fn) {avs cl : List AV} (hav : seqA (args.toList.map (s.ev X.b)) = some avs) (hcl : capsL caps = some cl) (hsz : avs.length + cl.length <= fn.ntmps) (hd : (o.dst.all fun d => Nat.blt d X.n) = true) (M : Mask) {b fc : Nat} (hbc : Nat.beq fc b = false)
  {Q : St -> AV -> Prop} (hrun : ∀ O', Fits E ⟨b, fn.ntmps, false, [fc], []⟩ O' none -> Awp P ⟨b, fn.ntmps, false, [fc], []⟩ O' none (codeOf E f) (retQ E b fn Q) (s.closeF M b fc (avs ++ cl)))
  (hQ : ∀ t av, Q t av -> t.nl <= s.nl /\ av.on (goodT t) = true)
  {K : Act -> World -> Prop} {Qx : Exit -> Act -> World -> Prop} (hK : ∀ t av, Q t av -> ∀ v w', Rel X.b X.n O ((s.openF t M fc).putT X.b o.dst av) (a.put o.dst v) w' -> (∀ id B k, s.bx id = some B -> memB M.given id = false -> refB (ρ id) = some k -> w'.heap[k]? = w.heap[k]?) -> K (a.put o.dst v) w') : o.wpIn (FW r) 0 P a w K Qx := by
 obtain ⟨hf, hn, hbody⟩ := hE.fn f fn hfn
 obtain ⟨cd, hc⟩ := Option.isSome_iff_exists.1 hbody
 have hcode : codeOf E f = cd := by simp [codeOf, hfn, hc]
 have hxr := h.ev hx
 obtain ⟨cs, ⟨l, e1, h1⟩, h2⟩ := hxr
 have hxv : a.eval x = .func (.func f) #[] l.toArray := by rw [h2, e1]; rfl
 have hrunop : (execOp a.eval o).run P w = .ok (.enter f (args.map a.eval ++ l.toArray)) w := by
  simp only [execOp, ho, resolve, hxv, Deferred.ofValue, Sem.run_bind, Sem.run_pure, Result.andThen_ok, invoke]
  simpa using run_callFunc (w := w) hf hn hc (args.map a.eval ++ l.toArray)
 refine ⟨fun _ _ => trivial, ?_⟩
 rw [Oper.semAt_eq _ _ _ (fun c hc => by rw [ho] at hc; cases hc), hrunop]
 refine ⟨fun hd => (by cases hd), ?_⟩
 obtain ⟨Ds, hw, hO⟩ := h.push
 have hl : (O.push X.b a.tmps Ds).lps = [] := by
  show O.lps = []
  refine List.eq_nil_iff_forall_not_mem.2 fun q hq => ?_
  obtain ⟨y, hy, _⟩ := hF.ys q hq
  rw [hys] at hy; cases hy
 have hF' := hF.push (b := b) a.tmps Ds fn.ntmps
 obtain ⟨ha1, ha2⟩ := args_rep h args.toList avs hav
 obtain ⟨hc1, hc2⟩ := capsL_rep caps cl l hcl h1
 have hxb : (AV.clo f caps).bd s.us s.nl = true := h.bds.ev _ _ hx
 have hcb := capsL_bd (us := s.us) (nl := s.nl) caps cl hcl hxb
 have hvals : args.map a.eval ++ l.toArray = (args.toList.map a.eval ++ l).toArray := by
  rw [<- List.append_toArray, <- Array.toList_map, Array.toArray_toList]
 have hlen : (args.toList.map a.eval ++ l).length = (avs ++ cl).length := by simp only [List.length_append, ha1, hc1]
 have hrep : ∀ t av, (avs ++ cl)[t]? = some av -> av.bd s.us s.nl = true /\ RepA (mem (O.push X.b a.tmps Ds) ρ s.bx w) av ((args.toList.map a.eval ++ l).getD t undef) := fun t av ht => by
  rw [List.getElem?_append] at ht
  split at ht
  ·rename_i hlt
   have := ha2 t av ht
   have e : (args.toList.map a.eval ++ l).getD t undef = (args.toList.map a.eval).getD t undef := by
    rw [<- ha1] at hlt
    simp only [List.getD_eq_getElem?_getD, List.getElem?_append_left hlt]
   rw [e]; exact this
  ·rename_i hlt
   have e : (args.toList.map a.eval ++ l).getD t undef = l.getD (t - avs.length) undef := by
    have hge : (args.toList.map a.eval).length <= t := by rw [ha1]; omega
    simp only [List.getD_eq_getElem?_getD, List.getElem?_append_right hge, ha1]
   rw [e]
   exact ⟨hcb av (List.mem_of_getElem? ht), hc2 _ av ht⟩
 obtain ⟨fz, hfz1, hfz2⟩ := frozen_ex w (frS (O.push X.b a.tmps Ds) ρ (s.closeF M b fc (avs ++ cl)).bx)
 have hrel := hO.closeF (n := fn.ntmps) hbc M (l := avs ++ cl) hfz1 (tmps := (args.toList.map a.eval ++ l).toArray ++ Array.replicate (fn.ntmps - (args.toList.map a.eval ++ l).toArray.size) undef) (by
  have : (args.toList.map a.eval ++ l).length <= fn.ntmps := by rw [hlen, List.length_append]; exact hsz
  simp at this ⊢; omega) (in_rep hlen hrep fn.ntmps)
 have hFit : Fits E ⟨b, fn.ntmps, false, [fc], []⟩ ((O.push X.b a.tmps Ds).sealed ρ s M fc fz) none :=
  ⟨hF.g, rfl, fun p hp => by rw [List.mem_singleton.1 hp]; exact List.mem_singleton.2 rfl, fun q hq => (by cases hq), fun y hy => (by cases hy), fun q hq => (by cases hq), fun q hq => (by cases hq), hF'.keep⟩
 rw [hvals]
 have hwp := hrun _ hFit _ _ ⟨ρ, hrel⟩
 rw [hcode] at hwp
 refine (call_place (m := 0 - 1) hE hf hc hwp).mono fun e w' ⟨v, t, av, ρ', e1, h3, h4, h5, h6⟩ => ?_
 subst e1
 obtain ⟨g1, g2⟩ := hQ t av h6
 obtain ⟨ρ3, h7, h8⟩ := hO.openF hl M hfz2 h3 g1
 obtain ⟨h9, h10⟩ := h8 av v h5 g2 h4
 refine hK t av h6 _ _ (putT_rel (h7.pop hw) hd h9 h10) (fun id B kk hB hg hk => ?_)
 obtain ⟨g1, cs, e, g2⟩ := (hO.bx id B hB).block hk
 have : frS (O.push X.b a.tmps Ds) ρ (s.closeF M b fc (avs ++ cl)).bx kk := ⟨.inr g1, fun i hi hk' => by
  obtain ⟨Bi, hBi⟩ := Option.isSome_iff_exists.1 hi
  obtain ⟨g3, g4⟩ := seal_bx hBi
  have := hO.inj i id kk (by rw [g4]; rfl) (by rw [hB]; rfl) hk' hk
  subst this
  rw [hg] at g3; cases g3⟩
 exact ((h3.fz _ (hfz2 kk cs e _ this g2)).1).trans g2.symm
end
theorem Fits.env {E E' : Env} {X : Ctx} {O : Octx} {r : Option Nat} (hf : E'.fn = E.fn) (hg : E'.G = E.G) (h : Fits E' X O r) : Fits E X O r where
 g := fun w' hb => by rw [<- hg]; exact h.g w' hb
 rd := h.rd
 act := h.act
 ys := h.ys
 at_ := fun y hy => by
  have := h.at_ y hy
  have hc : codeOf E' y.f = codeOf E y.f := by unfold codeOf; rw [hf]
  rwa [hc] at this
 key := h.key
 blk := h.blk
 keep := h.keep
theorem Weaker.env {E E' : Env} {X : Ctx} {s t : St} (hf : E'.fn = E.fn) (hg : E'.G = E.G) (h : Weaker E X s t) : Weaker E' X s t := fun O r ρ a w hF => h O r ρ a w (Fits.env hf hg hF)
theorem SegOK.env {P : Program} {E E' : Env} {S : Seg} (h : SegOK P E S) (hf : E'.fn = E.fn) (hg : E'.G = E.G) : SegOK P E' S := fun x r hr O rr hF => by
 have hc : codeOf E' S.f = codeOf E S.f := by unfold codeOf; rw [hf]
 rw [hc]
 exact Awp.imp (h x r hr O rr (Fits.env hf hg hF)) fun e t he => FinS.imp (fun e' t' ⟨h1, h2⟩ => ⟨h1, h2.env hf hg⟩) _ _ he

def swp (a b x : Nat) : Nat := bif Nat.beq x a then b else bif Nat.beq x b then a else x
def prm : List (Nat × Nat) -> Nat -> Nat
 | [], x => x
 | q :: l, x => prm l (swp q.1 q.2 x)
def mrp : List (Nat × Nat) -> Nat -> Nat
 | [], x => x
 | q :: l, x => swp q.1 q.2 (mrp l x)
theorem swp_swp (a b x : Nat) : swp a b (swp a b x) = x := by
 simp only [swp, bif_beq]
 by_cases h1 : x = a
 ·subst h1
  by_cases h2 : b = x
  ·simp [h2]
  ·simp [h2]
 ·by_cases h2 : x = b
  ·subst h2
   simp [h1]
  ·simp [h1, h2]
theorem mrp_prm : ∀ (l : List (Nat × Nat)) (x : Nat), mrp l (prm l x) = x
 | [], _ => rfl
 | q :: l, x => by simp only [mrp, prm, mrp_prm l, swp_swp]
theorem prm_mrp : ∀ (l : List (Nat × Nat)) (x : Nat), prm l (mrp l x) = x
 | [], _ => rfl
 | q :: l, x => by simp only [mrp, prm, swp_swp, prm_mrp l]
def AV.ren (f : Nat -> Nat) : AV -> AV
 | .ptr id ver off => .ptr (f id) ver off
 | .elt id ver sz i off => .elt (f id) ver sz i off
 | .arr id ver => .arr (f id) ver
 | .clo g c => .clo g (c.ren f)
 | .pr a b => .pr (a.ren f) (b.ren f)
 | .tup c => .tup (c.ren f)
 | .cst u => .cst u
 | .v T x => .v T x
 | .ro T x off => .ro T x off
 | .yld k => .yld k
 | .nl => .nl
def Box.ren (f : Nat -> Nat) : Box -> Box
 | .cells ver av => .cells ver (av.ren f)
 | .arr ver e T l => .arr ver e T l
def St.ren (f g : Nat -> Nat) (s : St) : St := ⟨fun b t => match s.tm b t with
  | some av => some (av.ren f)
  | none => none, fun id => match s.bx (g id) with
  | some B => some (B.ren f)
  | none => none, fun id => s.us (g id), s.nl, s.jp⟩
section
variable {M M' : Mm} {f : Nat -> Nat} {us us' : Nat -> Nat} {nl : Nat}
structure Mm.Ren (M M' : Mm) (f : Nat -> Nat) : Prop where
 heap : ∀ k c e z, M.okv k -> M.w.heap[k]? = some (.cells c e z) -> M'.okv k /\ M'.w.heap[k]? = some (.cells c e z)
 cur : ∀ id ver, M'.cur (f id) = some ver -> M.cur id = some ver
 ρ : ∀ id, M'.ρ (f id) = M.ρ id
 lm : ∀ k l, M'.lm k = some l -> M.lm k = some l
theorem HoldsA.ren (h : M.Ren M' f) : ∀ (av : AV) (cs : List Value), HoldsA M av cs -> HoldsA M' (av.ren f) cs
 | .cst _, _, H => H
 | .v T x, cs, H => Holds.map h.heap T x cs H
 | .ptr id ver off, cs, ⟨u, e, h1, h2⟩ => ⟨u, e, h1, fun hc => by rw [h.ρ]; exact h2 (h.cur id ver hc)⟩
 | .elt id ver sz i off, cs, ⟨u, e, h1, h2⟩ => ⟨u, e, h1, fun hc => by rw [h.ρ]; exact h2 (h.cur id ver hc)⟩
 | .ro T x off, cs, ⟨g, o, ds, e, hok, ⟨c, el, z, hg, hv⟩, hh⟩ => by
   obtain ⟨h1, h2⟩ := h.heap _ _ _ _ hok hg
   exact ⟨g, o, ds, e, h1, ⟨c, el, z, h2, hv⟩, Holds.map h.heap _ _ _ hh⟩
 | .arr id ver, cs, ⟨u, e, h1, h2⟩ => ⟨u, e, h1, fun hc => by rw [h.ρ]; exact h2 (h.cur id ver hc)⟩
 | .clo g c, cs, ⟨l, e, hl⟩ => ⟨l, e, HoldsA.ren h c l hl⟩
 | .yld k, cs, ⟨u, e, h1, h2⟩ => ⟨u, e, h1, fun l hl => h2 l (h.lm k l hl)⟩
 | .pr a b, cs, ⟨c1, c2, e, h1, h2⟩ => ⟨c1, c2, e, HoldsA.ren h a c1 h1, HoldsA.ren h b c2 h2⟩
 | .nl, _, H => H
 | .tup _, _, H => H
theorem RepB.ren (h : M.Ren M' f) {av : AV} {u : Value} (H : RepB M av u) : RepB M' (av.ren f) u := by
 cases av with
 | cst v => exact H
 | _ => obtain ⟨cs, h1, h2⟩ := H; exact ⟨cs, HoldsA.ren h _ _ h1, h2⟩
theorem TupA.ren (h : M.Ren M' f) : ∀ (c : AV) (l : List Value), TupA M c l -> TupA M' (c.ren f) l
 | .nl, _, H => H
 | .pr a b, l, ⟨u, r, e, h1, h2⟩ => ⟨u, r, e, RepB.ren h h1, TupA.ren h b r h2⟩
 | .cst _, _, H => H.elim
 | .v _ _, _, H => H.elim
 | .ptr _ _ _, _, H => H.elim
 | .elt _ _ _ _ _, _, H => H.elim
 | .ro _ _ _, _, H => H.elim
 | .arr _ _, _, H => H.elim
 | .clo _ _, _, H => H.elim
 | .yld _, _, H => H.elim
 | .tup _, _, H => H.elim
theorem RepA.ren (h : M.Ren M' f) {av : AV} {u : Value} (H : RepA M av u) : RepA M' (av.ren f) u := by
 cases av with
 | tup c => obtain ⟨l, e, hl⟩ := H; exact ⟨l, e, TupA.ren h c l hl⟩
 | cst q => exact RepB.ren (av := .cst q) h H
 | v T x => exact RepB.ren (av := .v T x) h H
 | ptr i v o => exact RepB.ren (av := .ptr i v o) h H
 | elt i v z j o => exact RepB.ren (av := .elt i v z j o) h H
 | ro T x o => exact RepB.ren (av := .ro T x o) h H
 | arr i v => exact RepB.ren (av := .arr i v) h H
 | clo g c => exact RepB.ren (av := .clo g c) h H
 | yld k => exact RepB.ren (av := .yld k) h H
 | pr a b => exact RepB.ren (av := .pr a b) h H
 | nl => exact RepB.ren (av := .nl) h H
theorem AV.ren_bd (hu : ∀ id, us' (f id) = us id) : ∀ av : AV, av.bd us nl = true -> (av.ren f).bd us' nl = true
 | .ptr id ver off, h => by simp only [AV.ren, AV.bd, hu] at h ⊢; exact h
 | .elt id ver sz i off, h => by simp only [AV.ren, AV.bd, hu] at h ⊢; exact h
 | .arr id ver, h => by simp only [AV.ren, AV.bd, hu] at h ⊢; exact h
 | .clo g c, h => AV.ren_bd (av := c) hu h
 | .pr a b, h => by
  simp only [AV.ren, AV.bd, Bool.and_eq_true] at h ⊢
  exact ⟨AV.ren_bd hu a h.1, AV.ren_bd hu b h.2⟩
 | .tup c, h => AV.ren_bd (av := c) hu h
 | .cst _, h => h
 | .v _ _, h => h
 | .ro _ _ _, h => h
 | .yld _, h => h
 | .nl, h => h
end
section
variable {b n : Nat} {O : Octx} {ρ : Nat -> Value} {s : St} {a : Act} {w : World} {f g : Nat -> Nat}
theorem ren_some {id : Nat} {B : Box} (h : (s.ren f g).bx id = some B) : ∃ B0, s.bx (g id) = some B0 /\ B = B0.ren f := by
 simp only [St.ren] at h
 split at h
 ·rename_i B0 h0
  cases h
  exact ⟨B0, h0, rfl⟩
 ·cases h
theorem ren_isSome {id : Nat} (h : ((s.ren f g).bx id).isSome = true) : (s.bx (g id)).isSome = true := by
 obtain ⟨B, hB⟩ := Option.isSome_iff_exists.1 h
 obtain ⟨B0, h0, _⟩ := ren_some hB
 rw [h0]; rfl
theorem frS_ren {k : Nat} (h : frS O ρ s.bx k) : frS O (fun i => ρ (g i)) (s.ren f g).bx k := ⟨h.1, fun id hid => h.2 (g id) (ren_isSome hid)⟩
theorem mem_ren (hgf : ∀ i, g (f i) = i) : (mem O ρ s.bx w).Ren (mem O (fun i => ρ (g i)) (s.ren f g).bx w) f := by
 refine ⟨fun k c e z hk hh => ⟨⟨frS_ren hk.1, hk.2⟩, hh⟩, fun id ver hc => ?_, fun id => ?_, fun k l h => h⟩
 ·simp only [mem, Option.map_eq_some_iff] at hc ⊢
  obtain ⟨B, hB, e⟩ := hc
  obtain ⟨B0, h0, e0⟩ := ren_some hB
  rw [hgf] at h0
  refine ⟨B0, h0, ?_⟩
  subst e0
  rw [<- e]
  cases B0 <;> rfl
 ·show ρ (g (f id)) = ρ id
  rw [hgf]
theorem RelC.ren (hgf : ∀ i, g (f i) = i) (hfg : ∀ i, f (g i) = i) (h : RelC b n O ρ s a w) : RelC b n O (fun i => ρ (g i)) (s.ren f g) a w := by
 have hr := mem_ren (O := O) (ρ := ρ) (s := s) (w := w) hgf
 have hu : ∀ id, (s.ren f g).us (f id) = s.us id := fun id => by show s.us (g (f id)) = s.us id; rw [hgf]
 have htm : ∀ c t av, (s.ren f g).tm c t = some av -> ∃ av0, s.tm c t = some av0 /\ av = av0.ren f := fun c t av ht => by
  simp only [St.ren] at ht
  split at ht
  ·rename_i av0 h0
   cases ht
   exact ⟨av0, h0, rfl⟩
  ·cases ht
 exact {
  up := fun p hp t av ht => by
   obtain ⟨av0, h0, e⟩ := htm _ _ _ ht
   subst e
   obtain ⟨h1, h2⟩ := h.up p hp t av0 h0
   exact ⟨AV.ren_bd hu av0 h1, RepA.ren hr h2⟩
  bx := fun id B hB => by
   obtain ⟨B0, h0, e⟩ := ren_some hB
   subst e
   have hb := h.bx (g id) B0 h0
   cases B0 with
   | cells ver av =>
    obtain ⟨h1, h2, k, cs, e, h3, h4, h5, h6⟩ := hb
    exact ⟨h1, AV.ren_bd hu av h2, k, cs, e, h3, h4, h5, HoldsA.ren hr _ _ h6⟩
   | arr ver e T l =>
    obtain ⟨h1, css, h2, h3⟩ := hb
    exact ⟨h1, css, All2.imp (fun x c hc => Holds.map hr.heap _ _ _ hc) h2, h3⟩
  inj := fun i j k hi hj h1 h2 => by
   have := h.inj (g i) (g j) k (ren_isSome hi) (ren_isSome hj) h1 h2
   rw [<- hfg i, <- hfg j, this]
  below := h.below
  lps := h.lps
  keep := h.keep
  brd := fun i k hi h1 => h.brd (g i) k (ren_isSome hi) h1
  rdf := h.rdf
  fz := fun q hq => by
   obtain ⟨h1, h2, h3⟩ := h.fz q hq
   exact ⟨h1, h2, frS_ren h3⟩
  fresh := h.fresh
  size := h.size
  tm := fun t av ht => by
   obtain ⟨av0, h0, e⟩ := htm _ _ _ ht
   subst e
   obtain ⟨h1, h2⟩ := h.tm t av0 h0
   exact ⟨AV.ren_bd hu av0 h1, RepA.ren hr h2⟩
  defers := h.defers }
theorem Rel.ren (hgf : ∀ i, g (f i) = i) (hfg : ∀ i, f (g i) = i) (h : Rel b n O s a w) : Rel b n O (s.ren f g) a w := by
 obtain ⟨ρ, h⟩ := h
 exact ⟨_, h.ren hgf hfg⟩
end

def nestT (T : Ty) : Nat -> Ty
 | 0 => T
 | n + 1 => .pair T (nestT T n)
def nestV (T : Ty) : (n : Nat) -> List T.den -> Option (nestT T n).den
 | _, [] => none
 | 0, x :: _ => some x
 | n + 1, x :: l => match nestV T n l with
  | some y => some ((x, y) : T.den × (nestT T n).den)
  | none => none
def unnest (T : Ty) : (n : Nat) -> (nestT T n).den -> List T.den
 | 0, x => [x]
 | n + 1, x => (x : T.den × (nestT T n).den).1 :: unnest T n (x : T.den × (nestT T n).den).2
section
variable {w : World} {ok : Nat -> Prop} {T : Ty}
theorem unnest_len : ∀ (n : Nat) (x : (nestT T n).den), (unnest T n x).length = n + 1
 | 0, _ => rfl
 | n + 1, x => by simp [unnest, unnest_len n]
theorem nest_holds : ∀ (n : Nat) (l : List T.den) (css : List (List Value)) (x : (nestT T n).den), nestV T n l = some x -> All2 (Holds w ok T) l css -> Holds w ok (nestT T n) x (css.take (n + 1)).flatten
 | 0, x :: l, c :: css, z, h, ⟨h1, _⟩ => by
  cases h
  simpa [nestT] using h1
 | n + 1, x :: l, c :: css, z, h, ⟨h1, h2⟩ => by
  simp only [nestV] at h
  split at h
  ·rename_i y hy
   cases h
   exact ⟨c, (css.take (n + 1)).flatten, by simp, h1, nest_holds n l css y hy h2⟩
  ·cases h
 | 0, [], _, _, h, _ => by cases h
 | n + 1, [], _, _, h, _ => by cases h
theorem nest_len : ∀ (n : Nat) (l : List T.den) (x : (nestT T n).den), nestV T n l = some x -> n + 1 <= l.length
 | 0, _ :: _, _, _ => by simp
 | n + 1, x :: l, z, h => by
  simp only [nestV] at h
  split at h
  ·rename_i y hy
   have := nest_len n l y hy
   simp; omega
  ·cases h
 | 0, [], _, h => by cases h
 | n + 1, [], _, h => by cases h
theorem unnest_holds : ∀ (n : Nat) (x : (nestT T n).den) (cs : List Value), Holds w ok (nestT T n) x cs -> ∃ css, cs = css.flatten /\ All2 (Holds w ok T) (unnest T n x) css
 | 0, x, cs, h => ⟨[cs], by simp, h, trivial⟩
 | n + 1, x, cs, h => by
  obtain ⟨c1, c2, e, h1, h2⟩ := h
  obtain ⟨css, e2, h3⟩ := unnest_holds n _ c2 h2
  exact ⟨c1 :: css, by rw [e, e2]; simp, h1, h3⟩
end
def spK {R : Type} (E : Env) (X : Ctx) (o : Oper) (s : St) (K : St -> Option R) : Option R :=
 match o.op with
 | .sliceToArrayPointer t x => match E.arr t with
  | some (n + 1, e) => match E.ty e, s.ev X.b x with
   | some T, some av => someK (asT (.list T) av) fun l => (nestV T n l).bind fun y => someK (s.app X.b X.n o.dst (.put (.ro (nestT T n) y 0))) K
   | _, _ => none
  | _ => none
 | .slice t x none none none => match E.arr t with
  | some (n + 1, e) => match E.ty e, s.ev X.b x with
   | some T, some (.ptr id ver 0) => match s.bx id with
    | some (.cells ver' c) => bif Nat.beq ver ver' && Nat.ble (n + 1) maxLen then someK (asT (nestT T n) c) fun y => someK (s.app X.b X.n o.dst (.del [id] (.v (.list T) (unnest T n y)))) K else none
    | _ => none
   | _, _ => none
  | _ => none
 | .slice t x none (some hi) none => match E.ty t, s.ev X.b x with
  | some (.list T), some (.arr id ver) => match s.bx id with
   | some (.arr ver' e T' l) => if T' = T then (bif Nat.beq ver ver' then someK (boundA (s.ev X.b) (some hi) 0) fun j => if 0 <= j /\ j <= (l.length : Int) then someK (s.app X.b X.n o.dst (.arr id false e T' (l.take j.toNat))) K else none else none) else none
   | _ => none
  | _, _ => none
 | .alloc t => bif E.one t then someK (s.app X.b X.n o.dst (.new (X.b * 4096 + o.dst.getD 0) (.cst (.slice none 0 0)))) K else none
 | .build t ps => bif E.one t && (E.fld t 0).isSome then someK (buildA E t (s.ev X.b) ps.toList (.cst (.slice none 0 0))) fun x => someK (s.app X.b X.n o.dst (.put (.pr x .nl))) K else none
 | .store t x y => bif E.one t then (match s.ev X.b x, s.ev X.b y with
  | some (.ptr id ver 0), some (.pr z .nl) => match s.bx id with
   | some (.cells ver' c) => bif Nat.beq ver ver' && z.fit && Nat.beq z.size 1 && Nat.beq c.size 1 then someK (s.app X.b X.n o.dst (.sto id ver z)) K else none
   | _ => none
  | _, _ => none) else none
 | _ => none
section
variable {P : Program} {E : Env} {b n : Nat} {O : Octx} {ρ : Nat -> Value} {s : St} {a : Act} {w : World} {o : Oper}
theorem size_of (hE : E.OK P) {e : TypeId} {T : Ty} (he : E.ty e = some T) (w : World) : (sizeOf e).run P w = .ok T.size w := by
 obtain ⟨d', hok'⟩ := hE.ty e T he
 obtain ⟨z0, hlay⟩ := hok'.lay
 obtain ⟨ti, dd, hL⟩ := hE.lay _ _ hlay
 simp [sizeOf, typeInfo, hL.info, hL.size]
theorem sp_toArray (hE : E.OK P) (h : RelC b n O ρ s a w) {t : TypeId} {x : Operand} (ho : o.op = .sliceToArrayPointer t x) {e : TypeId} {k : Nat} {T : Ty} {av : AV} {l : List T.den} {y : (nestT T k).den}
  (ha : E.arr t = some (k + 1, e)) (hx : s.ev b x = some av) (hl : asT (.list T) av = some l) (hy : nestV T k l = some y) : EffOK P o a w O ρ s (.put (.ro (nestT T k) y 0)) := by
 obtain ⟨cs, ⟨A, cap, css, e1, ⟨hc, hmax⟩, h1, h2⟩, hv⟩ := asT_rep hl (h.ev hx)
 subst e1
 have hlen := nest_len k l y hy
 obtain ⟨ad, rfl, hs, hok, cc, el, z, hh, hvv⟩ := h2 (fun e => by subst e; simp at hlen)
 have hv' : a.eval x = .slice (some ad) l.length cap := hv
 obtain ⟨g, off, sp⟩ := ad
 have hs' : sp = none := hs
 subst hs'
 refine EffOK.val h (v := .pointer (some ⟨g, off, none⟩)) ?_ ?_
 ·simp only [execOp, ho, hv', Instr.arrayAt, Sem.run_bind, run_underlying (hE.arr t _ _ ha), Result.andThen_ok]
  rw [if_neg (by omega)]
  simp
 ·refine ⟨[_], ⟨g, off, (css.take (k + 1)).flatten, rfl, hok, ⟨cc, el, z, hh, fun j v hj => hvv j v (flatten_take_get hj)⟩, nest_holds k l css y hy h1⟩, rfl⟩
theorem sp_ofArray (hE : E.OK P) (h : RelC b n O ρ s a w) {t : TypeId} {x : Operand} (ho : o.op = .slice t x none none none) {e : TypeId} {k id ver : Nat} {T : Ty} {c : AV} {y : (nestT T k).den}
  (ha : E.arr t = some (k + 1, e)) (hT : E.ty e = some T) (hx : s.ev b x = some (.ptr id ver 0)) (hB : s.bx id = some (.cells ver c)) (hy : asT (nestT T k) c = some y) (hmaxk : k + 1 <= maxLen) : EffOK P o a w O ρ s (.del [id] (.v (.list T) (unnest T k y))) := by
 obtain ⟨g, cs, e1, hv, hρ, hh, hc⟩ := ptr_at h.toRelO hB (h.ev hx)
 have hhold := asT_holds _ _ _ _ hy hc
 obtain ⟨css, e2, hall⟩ := unnest_holds k y _ hhold
 have hu := hE.arr t _ _ ha
 have hel : P.elem t = e := by simp [Program.elem, hu]
 have hal : P.arrayLen t = k + 1 := by simp [Program.arrayLen, hu]
 have hu' : P.underlying t = some (.array (P.arrayLen t) (P.elem t)) := by rw [hel, hal]; exact hu
 refine .inl ⟨.slice (some ⟨g, 0, none⟩) (k + 1) (k + 1), w, ?_, ρ, h.toRelO.del (fun i B hBi => (delB_some [id] s.bx i B hBi).1), ?_⟩
 ·simp only [execOp, ho, hv, Option.map_none, Sem.run_bind, run_sliceAt_array_all w t _ hu', hel, size_of hE hT w, Result.andThen_ok, slicedAt, hal]
  rw [if_neg (by omega)]
  simp [Addr.add]
 ·have hok : okS O ρ (delB s.bx [id]) g := by
   refine ⟨⟨.inr ((h.bx id _ hB).block (by rw [hρ]; rfl)).1, fun i hi hk => ?_⟩, h.brd id g (by rw [hB]; rfl) (by rw [hρ]; rfl)⟩
   obtain ⟨B', hB'⟩ := Option.isSome_iff_exists.1 hi
   obtain ⟨h1, h2⟩ := delB_some [id] s.bx i B' hB'
   have := h.inj i id g (by rw [h1]; rfl) (by rw [hB]; rfl) hk (by rw [hρ]; rfl)
   subst this
   exact h2 (by simp)
  have hall' : All2 (Holds w (fun k => okS O ρ (delB s.bx [id]) k) T) (unnest T k y) css := All2.imp (fun x c hc => Holds.map (fun k c e z hk hh => ⟨⟨⟨hk.1.1, fun i hi => hk.1.2 i (by
   obtain ⟨B, hB⟩ := Option.isSome_iff_exists.1 hi
   rw [(delB_some [id] s.bx i B hB).1]; rfl)⟩, hk.2⟩, hh⟩) _ _ _ hc) hall
  have hlen := unnest_len k y
  refine ⟨[.slice (some ⟨g, 0, none⟩) (k + 1) (k + 1)], ⟨some ⟨g, 0, none⟩, k + 1, css, by rw [hlen], ⟨by omega, by rw [hlen]; exact hmaxk⟩, hall', fun _ => ⟨_, rfl, rfl, hok, cs, e1, (0, 0), hh, fun j v hj => ?_⟩⟩, rfl⟩
  rw [<- e2] at hj
  simpa using hj
theorem sp_front (hE : E.OK P) (h : RelC b n O ρ s a w) {t : TypeId} {x hi : Operand} (ho : o.op = .slice t x none (some hi) none) {e : TypeId} {id ver : Nat} {T : Ty} {l : List T.den} {j : Int}
  (hT : E.ty t = some (.list T)) (hx : s.ev b x = some (.arr id ver)) (hB : s.bx id = some (.arr ver e T l)) (hj : boundA (s.ev b) (some hi) 0 = some j) (h0 : 0 <= j) (h1 : j <= (l.length : Int)) : EffOK P o a w O ρ s (.arr id false e T (l.take j.toNat)) := by
 obtain ⟨cs, ⟨u, e1, _, hcur⟩, hv⟩ := h.ev hx
 have hu : u = ρ id := hcur (by simp [mem, hB, Box.ver])
 have hv' : a.eval x = ρ id := by rw [hv, e1, hu]; rfl
 obtain ⟨_, css, hall, hown⟩ := h.bx id _ hB
 obtain ⟨i, rfl⟩ : ∃ i : Nat, j = i := ⟨j.toNat, by omega⟩
 have hil : i <= l.length := by omega
 obtain ⟨d, hok⟩ := hE.ty t _ hT
 obtain ⟨e', by_, hd, hel, _⟩ := hok.list T rfl
 subst hd
 have hue := elem_eq hok.desc
 have helem : P.elem t = e' := by simp [Program.elem, hok.desc]
 have hsz : (sizeOf (P.elem t)).run P w = .ok T.size w := by rw [helem]; exact size_of hE hel w
 have hi' : ∃ k, a.eval hi = .int k i := by
  rcases boundA_rep h hj with ⟨e2, _⟩ | ⟨o2, k, e2, e3⟩
  ·cases e2
  ·cases e2; exact ⟨k, e3⟩
 obtain ⟨kk, hi'⟩ := hi'
 have hrow : ∀ A cap, ρ id = .slice A l.length cap -> l.length <= cap -> (execOp a.eval o).run P w = .ok (.value (sliced A 0 i cap T.size)) w := fun A cap e4 hcap => by
  simp only [execOp, ho, hv', e4, Sem.run_bind, Sem.run_pure, run_sliceAt_slice w t _ _ _ _ hue, Option.map_none, Option.map_some, hi', run_slice_h w t A l.length cap hue kk i (by omega) (by omega), hsz, Result.andThen_ok, Int.toNat_natCast]
 have hcss : All2 (Holds w (okS O ρ s.bx) T) (l.take i) (css.take i) := All2.take i hall
 have hlens := All2.lens hall
 have hcl := All2.length hall
 have hlen : (l.take i).length = i := by rw [List.length_take]; omega
 have htake : (css.take i).flatten = css.flatten.take (i * T.size) := by
  have hd := flatten_drop' css i hlens
  have e5 : css.flatten = (css.take i).flatten ++ (css.drop i).flatten := by rw [<- List.flatten_append, List.take_append_drop]
  have e6 : (css.take i).flatten.length = i * T.size := by
   rw [flatten_len (css.take i) (fun c hc => hlens c (List.mem_of_mem_take hc)), List.length_take]
   congr 1; omega
  rw [e5, <- e6, List.take_left]
 refine .inl ?_
 rcases hown.2 with ⟨h3, h5⟩ | ⟨g, cap, cur, h3, h4, h5, h6, h7, h8, h9⟩
 ·have hi0 : i = 0 := by omega
  subst hi0
  obtain ⟨g1, g2⟩ := h.toRelO.arr (id := id) (row := none) (e := e) (l := l.take 0) (v' := .slice none 0 0) (w' := w) (css := css.take 0) ⟨rfl, rfl, rfl, Nat.le_refl _, fun _ _ _ => rfl⟩ (fun k hk => by cases hk)
   ⟨by simp, .inl ⟨rfl, by simp⟩⟩ (fun k hk => by cases hk) hcss
  refine ⟨_, w, hrow none 0 (by rw [h3, h5]) (by omega), _, g1, ?_⟩
  exact g2
 ·obtain ⟨g1, g2⟩ := h.toRelO.arr (id := id) (row := some g) (e := e) (l := l.take i) (v' := .slice (some ⟨g, 0, none⟩) i cap) (w' := w) (css := css.take i) ⟨rfl, rfl, rfl, Nat.le_refl _, fun _ _ _ => rfl⟩ (fun k hk => by cases hk; exact ⟨by rw [hB]; rfl, by rw [h3]; rfl⟩)
   (by
    refine ⟨?_, .inr ⟨g, cap, cur, by rw [hlen], h4, h5, by rw [hlen]; omega, h7, h8, ?_⟩⟩
    ·rw [flatten_len (css.take i) (fun c hc => hlens c (List.mem_of_mem_take hc)), List.length_take, hlen]
     congr 1; omega
    ·rw [hlen, htake, <- h9, List.take_take, Nat.min_eq_left (Nat.mul_le_mul_right _ hil)]) (fun k hk => .inr (by cases hk; rfl)) hcss
  have hval : sliced (some ⟨g, 0, none⟩) 0 i cap T.size = .slice (some ⟨g, 0, none⟩) i cap := by
   simp only [sliced, Nat.sub_zero, Nat.zero_mul]
   split
   ·rfl
   ·simp [Addr.add]
  have hr := hrow (some ⟨g, 0, none⟩) cap h3 h6
  rw [hval] at hr
  exact ⟨_, w, hr, _, g1, g2⟩
theorem one_zero {t : TypeId} (h : OneOK P t) (w : World) : (zeroValue t).run P w = .ok (.agg #[.slice none 0 0]) w := by
 obtain ⟨ti, fd, tf, h1, h2, h3, _⟩ := h.ex
 simp [zeroValue, typeInfo, h1, h3]
theorem one_cst {M : Mm} : HoldsA M (.cst (.slice none 0 0)) [.slice none 0 0] := ⟨by rw [oneCell_cells rfl], fun u hu => by simp at hu; subst hu; rfl⟩
theorem sp_oneAlloc (hE : E.OK P) (h : RelC b n O ρ s a w) {t : TypeId} (ho : o.op = .alloc t) (h1 : E.one t = true) (id : Nat) : EffOK P o a w O ρ s (.new id (.cst (.slice none 0 0))) := by
 obtain ⟨h2, h3⟩ := h.toRelO.new (id := id) (cs := #[.slice none 0 0]) (e := t) (av := .cst (.slice none 0 0)) rfl one_cst
 refine .inl ⟨_, _, ?_, _, h2, h3⟩
 simp only [execOp, ho, Instr.alloc, Sem.run_bind, one_zero (hE.one t h1) w, Result.andThen_ok, newVar, newRow, run_newObj, Sem.run_pure, World.alloc_eq]
 rfl
theorem sp_oneBuild (hE : E.OK P) (h : RelC b n O ρ s a w) {t : TypeId} {ps : Array (Nat × Operand)} (ho : o.op = .build t ps) (h1 : E.one t = true) {x : AV} (hx : buildA E t (s.ev b) ps.toList (.cst (.slice none 0 0)) = some x) : EffOK P o a w O ρ s (.put (.pr x .nl)) := by
 have hz := one_zero (hE.one t h1) w
 obtain ⟨ti, fd, tf, k1, k2, k3, k4, k5, k6, k7⟩ := (hE.one t h1).ex
 obtain ⟨pl, hpl, hpl'⟩ := run_places (P := P) (w := w) [fd] (fun f hf => by simp at hf; subst hf; exact ⟨tf, k6⟩)
 obtain ⟨c', h3, h4⟩ := fill_build h (t := t) (place := (pl[·]?)) (fun i q y hi hy => by
  obtain ⟨fs', fd', hd', hf, ho1, ho2⟩ := hE.fld t i q hi
  have e : fs' = #[fd] := by have := hd'.symm.trans k4; cases this; rfl
  subst e
  obtain ⟨ti', d', hL'⟩ := hE.lay _ _ hy
  rw [hpl' i fd' ti' (by simpa using hf) (by rw [ho2]; exact hL'.info), ho1, hL'.size]) ps.toList _ #[.slice none 0 0] x one_cst hx
 refine EffOK.val h (v := .agg c') ?_ ?_
 ·have hpa : ((#[fd] : Array Field).mapM (fun f => do pure (f.offset, <- sizeOf f.type) : Field -> Sem (Nat × Nat))).run P w = .ok pl.toArray w := by
   rw [show (#[fd] : Array Field) = [fd].toArray by simp, List.mapM_toArray, Sem.run_map, hpl]; rfl
  have hparts : (ps.map fun (q : Nat × Operand) => (q.1, a.eval q.2)).toList = ps.toList.map fun q => (q.1, a.eval q.2) := by simp
  have hcells : (Value.agg #[.slice none 0 0]).cells = #[.slice none 0 0] := rfl
  simp only [execOp, ho, Instr.build, Sem.run_bind, hz, Result.andThen_ok, run_underlying k4, hpa, hcells]
  have h3' : Instr.fill (fun x => pl.toArray[x]?) #[.slice none 0 0] ((ps.map fun (q : Nat × Operand) => (q.1, a.eval q.2)).toList) = some c' := by rw [hparts]; simpa using h3
  rw [h3']
  simp
 ·exact ⟨c'.toList, ⟨c'.toList, [], by simp, h4, rfl⟩, by simp [mkA]⟩
theorem sp_oneStore (hE : E.OK P) (h : RelC b n O ρ s a w) {t : TypeId} {x y : Operand} (ho : o.op = .store t x y) (h1 : E.one t = true) {id ver : Nat} {z c : AV}
  (hx : s.ev b x = some (.ptr id ver 0)) (hy : s.ev b y = some (.pr z .nl)) (hB : s.bx id = some (.cells ver c)) (hzs : z.size = 1) (hcs : c.size = 1) (hbd : z.bd s.us s.nl = true) : EffOK P o a w O ρ s (.sto id ver z) := by
 obtain ⟨ti, fd, tf, k1, k2, k3, k4, k5, k6, k7⟩ := (hE.one t h1).ex
 have hsz : (sizeOf t).run P w = .ok 1 w := by simp [sizeOf, typeInfo, k1, k2]
 obtain ⟨g, cs, el, hxv, hg, hh, hc⟩ := ptr_at h.toRelO hB (h.ev hx)
 obtain ⟨ds, ⟨c1, c2, e1, d1, d2⟩, hyv⟩ := h.ev hy
 have d2' : c2 = [] := d2
 subst d2'
 rw [List.append_nil] at e1
 subst e1
 have hyv' : a.eval y = .agg ds.toArray := hyv
 have hl := HoldsA.len _ _ d1
 have hcl := HoldsA.len _ _ hc
 have hone := HoldsA.one _ _ d1
 have hcell : (a.eval y).cells = ds.toArray := by rw [hyv']; rfl
 have hst := run_storeCells_at (P := P) g 0 el ds 0 cs w hh (by simp at hcl; omega) hone
 refine .inr (.inl ⟨_, ?_, ρ, h.toRelO.sto hB hg hbd (cs := ds.toArray) (by simpa using d1), rfl⟩)
 simp only [execOp, ho, hxv, Instr.storeAt, Instr.sureAddr, storeVar, Sem.run_bind, Sem.run_pure, Result.andThen_ok, hsz, hcell]
 rw [if_neg (by simp; omega)]
 have e2 : (cs.toList.take (0 + 0) ++ ds ++ cs.toList.drop (0 + 0 + ds.length)).toArray = ds.toArray := by
  rw [List.take_zero, List.nil_append, List.drop_of_length_le (by simp at hcl; simp; omega), List.append_nil]
 rw [e2] at hst
 simp only [Sem.run_bind, Sem.run_pure, Result.andThen_ok, hst]
theorem wpOp_ok {t : St} {r : Option Nat} (hnd : ∀ c, o.op ≠ .defer c) {e : Eff} (hok : EffOK P o a w O ρ s e) (h : RelC b n O ρ s a w) (hb : (e.av s.us).bd (e.us s.us) s.nl = true) (happ : s.app b n o.dst e = some t)
  {Q : Exit -> Act -> World -> Prop} {K : Act -> World -> Prop} (hK : ∀ a' w', Rel b n O t a' w' -> K a' w') : o.wpIn (FW r) 0 P a w K Q := by
 refine ⟨fun _ _ => trivial, ?_⟩
 rw [Oper.semAt_eq _ _ _ hnd]
 rcases hok with ⟨v, w', hrun, ha⟩ | ⟨w', hrun, ha⟩ | ⟨f, args, hrun, hc⟩
 ·rw [hrun]; exact hK _ _ (h.after ha hb happ)
 ·rw [hrun]; exact hK _ _ (h.after ha hb happ)
 ·rw [hrun]
  refine ⟨fun hd => (by cases hd), callsFW.2 (hc.mono fun en w' he => ?_)⟩
  obtain ⟨v, e1, ha⟩ := he
  subst e1
  exact hK _ _ (h.after ha hb happ)
theorem spK_sound (hE : E.OK P) {X : Ctx} {r : Option Nat} {R : Type} {K : St -> Option R} {y : R} (hh : spK E X o s K = some y) {KK : Act -> World -> Prop} {Qx : Exit -> Act -> World -> Prop}
  (hK : ∀ t, K t = some y -> ∀ a w, Rel X.b X.n O t a w -> KK a w) (hr : Rel X.b X.n O s a w) : o.wpIn (FW r) 0 P a w KK Qx := by
 obtain ⟨ρ, hr⟩ := hr
 unfold spK at hh
 split at hh
 ·rename_i t x ho
  split at hh
  ·rename_i k e ha
   split at hh
   ·rename_i T av hT hx
    simp only [someK_eq, Option.bind_eq_some_iff] at hh
    obtain ⟨l, hl, z, hz, t', ht, hh⟩ := hh
    exact wpOp_ok (fun c e => by rw [ho] at e; cases e) (sp_toArray hE hr ho ha hx hl hz) hr rfl ht (hK t' hh)
   ·cases hh
  ·cases hh
 ·rename_i t x ho
  split at hh
  ·rename_i k e ha
   split at hh
   ·rename_i T id ver hT hx
    split at hh
    ·rename_i ver' c hB
     cases hc : (Nat.beq ver ver' && Nat.ble (k + 1) maxLen) with
     | false => rw [hc] at hh; cases hh
     | true =>
      rw [hc] at hh
      rw [Bool.and_eq_true] at hc
      have e1 := Nat.eq_of_beq_eq_true hc.1
      subst e1
      simp only [cond_true, someK_eq, Option.bind_eq_some_iff] at hh
      obtain ⟨z, hz, t', ht, hh⟩ := hh
      exact wpOp_ok (fun c e => by rw [ho] at e; cases e) (sp_ofArray hE hr ho ha hT hx hB hz (Nat.le_of_ble_eq_true hc.2)) hr rfl ht (hK t' hh)
    ·cases hh
   ·cases hh
  ·cases hh
 ·rename_i t x hi ho
  split at hh
  ·rename_i T id ver hT hx
   split at hh
   ·rename_i ver' e T' l hB
    split at hh
    ·rename_i eT
     subst eT
     cases hc : Nat.beq ver ver' with
     | false => rw [hc] at hh; cases hh
     | true =>
      rw [hc] at hh
      have e1 := Nat.eq_of_beq_eq_true hc
      subst e1
      simp only [cond_true, someK_eq, Option.bind_eq_some_iff (x := boundA _ _ _)] at hh
      obtain ⟨j, hj, hh⟩ := hh
      split at hh
      ·rename_i h0
       simp only [Option.bind_eq_some_iff] at hh
       obtain ⟨t', ht, hh⟩ := hh
       exact wpOp_ok (fun c e => by rw [ho] at e; cases e) (sp_front hE hr ho hT hx hB hj h0.1 h0.2) hr (by simp [Eff.av, Eff.us, AV.bd, updU]) ht (hK t' hh)
      ·cases hh
    ·cases hh
   ·cases hh
  ·cases hh
 ·rename_i t ho
  cases h1 : E.one t with
  | false => rw [h1] at hh; cases hh
  | true =>
   rw [h1] at hh
   simp only [cond_true, someK_eq, Option.bind_eq_some_iff] at hh
   obtain ⟨t', ht, hh⟩ := hh
   exact wpOp_ok (fun c e => by rw [ho] at e; cases e) (sp_oneAlloc hE hr ho h1 _) hr (by simp [Eff.av, Eff.us, AV.bd, updU]) ht (hK t' hh)
 ·rename_i t ps ho
  cases h1 : E.one t with
  | false => rw [h1] at hh; cases hh
  | true =>
   cases h2 : (E.fld t 0).isSome with
   | false => rw [h1, h2] at hh; cases hh
   | true =>
    rw [h1, h2] at hh
    simp only [Bool.and_true, cond_true, someK_eq, Option.bind_eq_some_iff] at hh
    obtain ⟨x, hx, t', ht, hh⟩ := hh
    refine wpOp_ok (fun c e => by rw [ho] at e; cases e) (sp_oneBuild hE hr ho h1 hx) hr ?_ ht (hK t' hh)
    have := buildA_bd (us := s.us) (nl := s.nl) (fun x av h => hr.bds.ev x av h) _ _ _ hx rfl
    simp [Eff.av, Eff.us, AV.bd, this]
 ·rename_i t x y ho
  cases h1 : E.one t with
  | false => rw [h1] at hh; cases hh
  | true =>
   rw [h1, cond_true] at hh
   split at hh
   ·rename_i id ver z hx hy
    split at hh
    ·rename_i ver' c hB
     cases hc : (Nat.beq ver ver' && z.fit && Nat.beq z.size 1 && Nat.beq c.size 1) with
     | false => rw [hc] at hh; cases hh
     | true =>
      rw [hc] at hh
      simp only [Bool.and_eq_true] at hc
      have e1 := Nat.eq_of_beq_eq_true hc.1.1.1
      subst e1
      simp only [cond_true, someK_eq, Option.bind_eq_some_iff] at hh
      obtain ⟨t', ht, hh⟩ := hh
      have hb := hr.bds.ev _ _ hy
      simp only [AV.bd, Bool.and_true] at hb
      exact wpOp_ok (fun c e => by rw [ho] at e; cases e) (sp_oneStore hE hr ho h1 hx hy hB (Nat.eq_of_beq_eq_true hc.1.2) (Nat.eq_of_beq_eq_true hc.2) hb) hr rfl ht (hK t' hh)
    ·cases hh
   ·cases hh
 ·cases hh
end
end Go.Proofs.YtliiapjinminlaaGreat.Rf
