/- A function's code run upon plain values, in the operations' own order, and that it is what the machine does: whatever the program (part 2). No condition. -/
import Derived.Test.YtjjhfhhoefdjaaaGreatDoorE1
namespace Go.Proofs.YtjjhfhhoefdjaaaGreatDoor.Rf
open Go Go.RowKit Go.Proofs
set_option linter.unusedVariables false
set_option linter.unusedSimpArgs false
/-! ### what may be told in either order -/
section
variable {P : Program} {E : Env} {b n : Nat} {us : Nat → Nat} {nl : Nat} {bx bx' : Nat → Option Box} {hw : How} {dst : Option Nat} {ev ev' : Operand → Option AV} {s s' t : St} {ops : Array Oper} {own : Nat → Bool}

def Quiet (e : Eff) : Prop := (∀ bx us, e.bx bx us = bx) ∧ (∀ us, e.us us = us) ∧ (∃ av, ∀ us, e.av us = av) ∧ ∀ bx, e.can bx = true

def Keyed (e : Eff) (id : Nat) : Prop := ∃ (F : Nat → Box) (G : Nat → Nat) (A : Nat → AV) (C : Option Box → Bool), (∀ bx us, e.bx bx us = updB bx id (some (F (us id)))) ∧ (∀ us, e.us us = updU us id (G (us id))) ∧ (∀ us, e.av us = A (us id)) ∧ ∀ bx, e.can bx = C (bx id)

theorem Quiet.put (av : AV) : Quiet (.put av) := ⟨fun _ _ => rfl, fun _ => rfl, ⟨av, fun _ => rfl⟩, fun _ => rfl⟩
theorem Quiet.del (av : AV) : Quiet (.del [] av) := ⟨fun _ _ => rfl, fun _ => rfl, ⟨av, fun _ => rfl⟩, fun _ => rfl⟩
theorem updU_self (us : Nat → Nat) (id : Nat) : updU us id (us id) = us := by
  funext i; simp only [updU, bif_beq]; split
  · rename_i e; rw [e]
  · rfl
theorem Keyed.new (id : Nat) (av : AV) : Keyed (.new id av) id := ⟨fun v => .cells v av, fun v => v + 1, fun v => .ptr id v 0, fun o => o.isNone, fun _ _ => rfl, fun _ => rfl, fun _ => rfl, fun _ => rfl⟩
theorem Keyed.sto (id ver : Nat) (av : AV) : Keyed (.sto id ver av) id := ⟨fun _ => .cells ver av, fun v => v, fun _ => .cst undef, fun _ => true, fun _ _ => rfl, fun us => (updU_self us id).symm, fun _ => rfl, fun _ => rfl⟩
theorem Keyed.stoE (id ver : Nat) (e : TypeId) (T : Ty) (l : List T.den) : Keyed (.stoE id ver e T l) id := ⟨fun _ => .arr ver e T l, fun v => v, fun _ => .cst undef, fun _ => true, fun _ _ => rfl, fun us => (updU_self us id).symm, fun _ => rfl, fun _ => rfl⟩
theorem Keyed.arr (id : Nat) (fr : Bool) (e : TypeId) (T : Ty) (l : List T.den) : Keyed (.arr id fr e T l) id := ⟨fun v => .arr v e T l, fun v => v + 1, fun v => .arr id v, fun o => !fr || o.isNone, fun _ _ => rfl, fun _ => rfl, fun _ => rfl, fun _ => rfl⟩

theorem updB_ne {id i : Nat} {B : Option Box} (h : i ≠ id) : updB bx id B i = bx i := by simp only [updB, bif_beq]; rw [if_neg h]
theorem updU_ne {id i : Nat} {v : Nat} (h : i ≠ id) : updU us id v i = us i := by simp only [updU, bif_beq]; rw [if_neg h]
theorem updB_at {id : Nat} {B : Option Box} : updB bx id B id = B := by simp [updB]

/-- The temporaries apart, and the variables. -/
def Dis (ex ey : Eff) : Prop := Quiet ex ∨ Quiet ey ∨ ∃ i j, Keyed ex i ∧ Keyed ey j ∧ i ≠ j

theorem Dis.eqs {ex ey : Eff} (h : Dis ex ey) (bx : Nat → Option Box) (us : Nat → Nat) :
    ey.bx (ex.bx bx us) (ex.us us) = ex.bx (ey.bx bx us) (ey.us us) ∧ ey.us (ex.us us) = ex.us (ey.us us) ∧ ey.av (ex.us us) = ey.av us ∧ ex.av (ey.us us) = ex.av us ∧ ey.can (ex.bx bx us) = ey.can bx ∧ (ex.can bx = true → ex.can (ey.bx bx us) = true) := by
  rcases h with ⟨q1, q2, ⟨av, q3⟩, q4⟩ | ⟨q1, q2, ⟨av, q3⟩, q4⟩ | ⟨i, j, ⟨F, G, A, C, k1, k2, k3, k4⟩, ⟨F', G', A', C', l1, l2, l3, l4⟩, hij⟩
  · simp [q1, q2, q3, q4]
  · simp [q1, q2, q3, q4]
  · refine ⟨?_, ?_, ?_, ?_, ?_, ?_⟩
    · rw [k1, k2, l1, l1, l2, k1, updU_ne (Ne.symm hij), updU_ne hij]
      funext t
      simp only [updB, bif_beq]
      split <;> split <;> simp_all
    · rw [k2, l2, l2, k2, updU_ne (Ne.symm hij), updU_ne hij]
      funext t
      simp only [updU, bif_beq]
      split <;> split <;> simp_all
    · rw [l3, l3, k2, updU_ne (Ne.symm hij)]
    · rw [k3, k3, l2, updU_ne hij]
    · rw [l4, l4, k1, updB_ne (Ne.symm hij)]
    · rw [k4, k4, l1, updB_ne hij]; exact id

theorem updT_comm {tm : Nat → Nat → Option AV} {d d' : Option Nat} {v v' : AV} (h : ∀ k, d = some k → d' ≠ some k) : updT (updT tm b d v) b d' v' = updT (updT tm b d' v') b d v := by
  cases d with
  | none => rfl
  | some k =>
    cases d' with
    | none => rfl
    | some k' =>
      have hk : k ≠ k' := fun e => h k rfl (by rw [e])
      funext f t
      simp only [updT]
      cases h1 : Nat.beq t k <;> cases h2 : Nat.beq t k' <;> cases h3 : Nat.beq f b <;> first | rfl | skip
      exact absurd ((Nat.eq_of_beq_eq_true h1).symm.trans (Nat.eq_of_beq_eq_true h2)) hk

/-- What holds of every state on the way. -/
structure InvR (b : Nat) (ops : Array Oper) (s0 s : St) : Prop where
  bd : BD (s.ev b) s.bx s.us s.nl
  same : ∀ t, (ops.any fun o => o.dst == some t) = false → s.tm b t = s0.tm b t

theorem stepR_spec {i : Nat} (h : stepR E own b n ops i s = some t) : ∃ o c e, ops[i]? = some o ∧ wantA b ops s o = some c ∧ (bif c then evalOp E ⟨b, own i⟩ o.dst (s.ev b) s.bx o.op else some (.put (.cst undef))) = some e ∧ s.app b n o.dst e = some t := by
  simp only [stepR, Option.bind_eq_some_iff] at h
  obtain ⟨o, ho, c, hc, e, he, h⟩ := h
  exact ⟨o, c, e, ho, hc, he, h⟩

theorem app_of {d : Option Nat} {e : Eff} (h1 : (d.all fun d => Nat.blt d n) = true) (h2 : e.can s.bx = true) : s.app b n d e = some ⟨updT s.tm b d (e.av s.us), e.bx s.bx s.us, e.us s.us, s.nl, s.jp⟩ := by
  unfold St.app
  rw [h1, h2]; rfl

theorem ev_updT {x : Operand} {d : Option Nat} {v : AV} {tm : Nat → Nat → Option AV} (h : ∀ k, d = some k → x ≠ .tmp k) (bx : Nat → Option Box) (us : Nat → Nat) (nl : Nat) (jp : Nat → Option Jmp) (s : St) (hs : s.tm = tm) :
    St.ev ⟨updT tm b d v, bx, us, nl, jp⟩ b x = s.ev b x := by
  cases x with
  | tmp t =>
    simp only [St.ev, hs]
    cases d with
    | none => rfl
    | some k =>
      have hne : t ≠ k := fun e => h k rfl (by rw [e])
      have : Nat.beq t k = false := Bool.eq_false_iff.2 fun e => hne (Nat.eq_of_beq_eq_true e)
      simp [updT, this]
  | _ => rfl

theorem want_updT {o : Oper} {d : Option Nat} {v : AV} (h : ∀ k, d = some k → k ∉ o.looksAt ops) (bx : Nat → Option Box) (us : Nat → Nat) (nl : Nat) (jp : Nat → Option Jmp) :
    wantA b ops ⟨updT s.tm b d v, bx, us, nl, jp⟩ o = wantA b ops s o := by
  unfold wantA
  cases hg : o.guard with
  | none => rfl
  | some q =>
    obtain ⟨j, want⟩ := q
    simp only
    cases hd : (ops[j]?).bind (·.dst) with
    | none => rfl
    | some g =>
      simp only [Option.bind_some]
      have : updT s.tm b d v b g = s.tm b g := by
        cases d with
        | none => rfl
        | some k =>
          have hne : g ≠ k := fun e => h k rfl (by simp [Oper.looksAt, hg, hd, e])
          have : Nat.beq g k = false := Bool.eq_false_iff.2 fun e => hne (Nat.eq_of_beq_eq_true e)
          simp [updT, this]
      rw [this]

/-- Two operations, apart in what they write, of which each gives the other one's leave. -/
theorem comm_core {i j : Nat} {x y : Oper} {cx cy : Bool} {ex ey : Eff} (hx : ops[i]? = some x) (hy : ops[j]? = some y) (hap : x.apart ops y = true)
    (wx : wantA b ops s x = some cx) (h1 : (bif cx then evalOp E ⟨b, own i⟩ x.dst (s.ev b) s.bx x.op else some (.put (.cst undef))) = some ex) (a1 : (x.dst.all fun d => Nat.blt d n) = true) (a2 : ex.can s.bx = true)
    (wy : wantA b ops ⟨updT s.tm b x.dst (ex.av s.us), ex.bx s.bx s.us, ex.us s.us, s.nl, s.jp⟩ y = some cy) (c1 : (y.dst.all fun d => Nat.blt d n) = true) (c2 : ey.can (ex.bx s.bx s.us) = true)
    (hA : (bif cy then evalOp E ⟨b, own j⟩ y.dst (s.ev b) s.bx y.op else some (.put (.cst undef))) = some ey)
    (hB : (bif cx then evalOp E ⟨b, own i⟩ x.dst (s.ev b) (ey.bx s.bx s.us) x.op else some (.put (.cst undef))) = some ex) (hd : Dis ex ey) :
    ∃ t, stepR E own b n ops j s = some t ∧ stepR E own b n ops i t = some ⟨updT (updT s.tm b x.dst (ex.av s.us)) b y.dst (ey.av (ex.us s.us)), ey.bx (ex.bx s.bx s.us) (ex.us s.us), ey.us (ex.us s.us), s.nl, s.jp⟩ := by
  obtain ⟨p1, p2, p3⟩ := Oper.apart_spec hap
  obtain ⟨e1, e2, e3, e4, e5, e6⟩ := hd.eqs s.bx s.us
  rw [want_updT p1] at wy
  refine ⟨⟨updT s.tm b y.dst (ey.av s.us), ey.bx s.bx s.us, ey.us s.us, s.nl, s.jp⟩, ?_, ?_⟩
  · simp only [stepR, hy, Option.bind_some, wy, hA]
    exact app_of c1 (by rw [← e5]; exact c2)
  · have hev : ∀ z ∈ x.op.operands, St.ev ⟨updT s.tm b y.dst (ey.av s.us), ey.bx s.bx s.us, ey.us s.us, s.nl, s.jp⟩ b z = s.ev b z := fun z hz => ev_updT (fun k hk hzk => p3 k hk (by
      subst hzk
      exact List.mem_append_left _ (List.mem_filterMap.2 ⟨.tmp k, by simpa using hz, rfl⟩))) _ _ _ _ s rfl
    simp only [stepR, hx, Option.bind_some, want_updT p3, wx]
    rw [evalOp_congr (ev' := s.ev b) hev, hB]
    simp only [Option.bind_some]
    rw [app_of a1 (e6 a2)]
    simp only [e4, e3, e1, e2]
    rw [updT_comm (d := x.dst) (d' := y.dst) fun k hk => p2 k hk]

/-! classes -/

def isNilC : List Operand → Bool
  | .const (.slice none 0 0) :: _ => true
  | _ => false

/-- 0: it looks at no variable; 1: at what there is, not at what it holds; 2: a load; 3: it reads arrays; 4: a new variable; 5: a new array out of one that is read; 6: an array is appended to; 7: a store; 8: all else. -/
def opc (E : Env) (own : Bool) : Op → Nat
  | .move _ | .assign _ | .pick _ _ _ | .build _ _ | .field _ _ _ | .extract _ _ | .unOp _ _ _ | .convert _ _ _ | .makeFunc _ _ _ | .index _ _ _ | .slice _ _ _ _ _ => 0
  | .makeSlice _ _ _ => 4
  | .binOp _ t _ _ _ => bif E.pt t then 1 else 0
  | .buildSlice _ _ _ => bif own then 4 else 0
  | .fieldAddr _ _ _ | .nilCheck _ | .indexAddr _ _ _ => 1
  | .load _ _ => 2
  | .alloc _ | .box _ _ => 4
  | .store _ _ _ => 7
  | .call ⟨.value (.tmp _), _, _⟩ => 3
  | .call ⟨.builtin .len, _, _⟩ => 3
  | .call ⟨.builtin .append, as, _⟩ => bif isNilC as.toList then 5 else 6
  | .call ⟨.value (.func f), _, _⟩ => match E.tab f with
    | some S => bif freeL S.res || freeL S.args || !own then 3 else 8
    | none => match E.cln f with
      | some _ => 5
      | none => 3
  | _ => 8

/-- It writes a newer version only. -/
def KeyedN (e : Eff) (id : Nat) : Prop := Keyed e id ∧ ∀ bx us, ∃ B, B.ver = us id ∧ e.bx bx us = updB bx id (some B)
theorem KeyedN.new (id : Nat) (av : AV) : KeyedN (.new id av) id := ⟨Keyed.new id av, fun _ us => ⟨.cells (us id) av, rfl, rfl⟩⟩
theorem KeyedN.arr (id : Nat) (fr : Bool) (e : TypeId) (T : Ty) (l : List T.den) : KeyedN (.arr id fr e T l) id := ⟨Keyed.arr id fr e T l, fun _ us => ⟨.arr (us id) e T l, rfl, rfl⟩⟩

/-- What the classes give. -/
theorem opc_eff {own : Bool} {b : Nat} {op : Op} {e : Eff} (hcst : ∀ c, ev (.const c) = some (.cst c)) (h : evalOp E ⟨b, own⟩ dst ev bx op = some e) :
    (opc E own op ≤ 3 → Quiet e) ∧ (opc E own op = 4 ∨ opc E own op = 5 → KeyedN e (newId ⟨b, own⟩ dst) ∧ (e.can bx = true → bx (newId ⟨b, own⟩ dst) = none)) ∧ (opc E own op = 6 → ∃ id, KeyedN e id) ∧
    (opc E own op = 7 → ∃ id, Keyed e id ∧ (bx id).isSome = true) := by
  have q : ∀ {k : Nat}, k ≤ 3 → Quiet e → (k ≤ 3 → Quiet e) ∧ (k = 4 ∨ k = 5 → KeyedN e (newId ⟨b, own⟩ dst) ∧ (e.can bx = true → bx (newId ⟨b, own⟩ dst) = none)) ∧ (k = 6 → ∃ id, KeyedN e id) ∧ (k = 7 → ∃ id, Keyed e id ∧ (bx id).isSome = true) :=
    fun hl hq => ⟨fun _ => hq, fun h => (by omega), fun h => (by omega), fun h => (by omega)⟩
  have p : ∀ {k : Nat} {av : AV}, k ≤ 3 → e = .put av → (k ≤ 3 → Quiet e) ∧ (k = 4 ∨ k = 5 → KeyedN e (newId ⟨b, own⟩ dst) ∧ (e.can bx = true → bx (newId ⟨b, own⟩ dst) = none)) ∧ (k = 6 → ∃ id, KeyedN e id) ∧ (k = 7 → ∃ id, Keyed e id ∧ (bx id).isSome = true) :=
    fun hl he => q hl (he ▸ Quiet.put _)
  have new : ∀ {k : Nat} {av : AV}, k = 4 → e = .new (newId ⟨b, own⟩ dst) av → (k ≤ 3 → Quiet e) ∧ (k = 4 ∨ k = 5 → KeyedN e (newId ⟨b, own⟩ dst) ∧ (e.can bx = true → bx (newId ⟨b, own⟩ dst) = none)) ∧ (k = 6 → ∃ id, KeyedN e id) ∧ (k = 7 → ∃ id, Keyed e id ∧ (bx id).isSome = true) :=
    fun hl he => ⟨fun h => (by omega), fun _ => ⟨he ▸ KeyedN.new _ _, fun hc => by rw [he] at hc; simpa [Eff.can] using hc⟩, fun h => (by omega), fun h => (by omega)⟩
  have arr : ∀ {k : Nat} {f : TypeId} {T : Ty} {l : List T.den}, k = 4 ∨ k = 5 → e = .arr (newId ⟨b, own⟩ dst) true f T l → (k ≤ 3 → Quiet e) ∧ (k = 4 ∨ k = 5 → KeyedN e (newId ⟨b, own⟩ dst) ∧ (e.can bx = true → bx (newId ⟨b, own⟩ dst) = none)) ∧ (k = 6 → ∃ id, KeyedN e id) ∧ (k = 7 → ∃ id, Keyed e id ∧ (bx id).isSome = true) :=
    fun hl he => ⟨fun h => (by omega), fun _ => ⟨he ▸ KeyedN.arr _ _ _ _ _, fun hc => by rw [he] at hc; simpa [Eff.can] using hc⟩, fun h => (by omega), fun h => (by omega)⟩
  cases op <;> simp only [evalOp] at h
  case move x => rw [Option.map_eq_some_iff] at h; obtain ⟨av, _, e1⟩ := h; exact p (by simp [opc]) e1.symm
  case assign x => rw [Option.map_eq_some_iff] at h; obtain ⟨av, _, e1⟩ := h; exact p (by simp [opc]) e1.symm
  case load t x =>
    simp only [Option.bind_eq_some_iff, Option.map_eq_some_iff] at h
    obtain ⟨_, _, _, _, _, _, e1⟩ := h
    exact p (by simp [opc]) e1.symm
  case store t x y =>
    simp only [Option.bind_eq_some_iff] at h
    obtain ⟨q, hq, z, hz, av, hav, h⟩ := h
    refine ⟨fun h => absurd h (by simp [opc]), fun h => absurd h (by simp [opc]), fun h => absurd h (by simp [opc]), fun _ => ?_⟩
    unfold storeA at h
    split at h
    · rename_i id ver off
      split at h
      · rename_i ver' c hB
        cases hv : (Nat.beq ver ver' && z.fit && Nat.beq z.size q.1) with
        | false => rw [hv] at h; cases h
        | true =>
          rw [hv] at h
          simp only [cond_true] at h
          split at h
          · cases h; exact ⟨id, Keyed.sto _ _ _, by rw [hB]; rfl⟩
          · cases h
      · cases h
    · rename_i id ver sz i off
      split at h
      · rename_i ver' f T l U hB hU
        cases hv : (Nat.beq ver ver' && Nat.beq sz T.size) with
        | false => rw [hv] at h; cases h
        | true =>
          rw [hv] at h
          simp only [cond_true] at h
          split at h
          · rw [Option.bind_eq_some_iff] at h
            obtain ⟨y0, hy0, h⟩ := h
            split at h
            · cases h; exact ⟨id, Keyed.stoE _ _ _ _ _, by rw [hB]; rfl⟩
            · cases h
          · cases h
      · cases h
    · cases h
  case alloc t =>
    rw [Option.map_eq_some_iff] at h
    obtain ⟨q, hq, e1⟩ := h
    exact new (by simp [opc]) e1.symm
  case box t x =>
    rw [Option.bind_eq_some_iff] at h
    obtain ⟨av, hav, h⟩ := h
    exact beq_box h fun e1 _ => new (by simp [opc]) e1.symm
  case pick c x y =>
    simp only [Option.bind_eq_some_iff (x := (ev c).bind _), Option.map_eq_some_iff] at h
    obtain ⟨_, _, _, _, e1⟩ := h
    exact p (by simp [opc]) e1.symm
  case build t ps =>
    rw [Option.bind_eq_some_iff] at h
    obtain ⟨q, hq, h⟩ := h
    split at h
    · rw [Option.bind_eq_some_iff] at h
      obtain ⟨x, hx, h⟩ := h
      exact beq_box h fun e1 _ => p (by simp [opc]) e1.symm
    · cases h
  case buildSlice t len ps =>
    rw [Option.bind_eq_some_iff] at h
    obtain ⟨U, hU, h⟩ := h
    split at h
    · split at h
      · rw [Option.bind_eq_some_iff] at h
        obtain ⟨l, hl, h⟩ := h
        cases ho : own with
        | false => rw [ho] at h; cases h; exact p (by simp [opc]) rfl
        | true =>
          rw [ho] at h
          simp only [cond_true, Option.map_eq_some_iff] at h
          obtain ⟨q, hq, e1⟩ := h
          rw [ho] at arr
          exact arr (.inl (by simp [opc])) e1.symm
      · cases h
    · cases h
  case makeSlice t x y =>
    rw [Option.bind_eq_some_iff] at h
    obtain ⟨U, hU, h⟩ := h
    split at h
    · simp only [Option.bind_eq_some_iff (x := E.el t), Option.bind_eq_some_iff (x := (ev x).bind asI), Option.bind_eq_some_iff (x := (ev y).bind asI)] at h
      obtain ⟨q, hq, m, hm, m', hm', h⟩ := h
      split at h
      · cases h; exact arr (.inl (by simp [opc])) rfl
      · cases h
    · cases h
  case slice t x lo hi mx =>
    rw [Option.bind_eq_some_iff] at h
    obtain ⟨U, hU, h⟩ := h
    split at h
    · cases mx with
      | some m => simp at h
      | none =>
        simp only [Option.isNone_none, cond_true, Option.bind_eq_some_iff (x := (ev x).bind _), Option.bind_eq_some_iff (x := boundA _ _ _)] at h
        obtain ⟨l, hl, i, hi1, j, hj1, h⟩ := h
        split at h
        · cases h; exact p (by simp [opc]) rfl
        · cases h
    · cases h
  case field t x f =>
    simp only [Option.bind_eq_some_iff (x := ev x), Option.bind_eq_some_iff (x := E.fld t f), Option.bind_eq_some_iff (x := E.lay _)] at h
    obtain ⟨av, hav, q, hq, y, hy, h⟩ := h
    cases hc : (av.agg && av.fit) with
    | false => rw [hc] at h; cases h
    | true =>
      rw [hc] at h
      simp only [cond_true, Option.bind_eq_some_iff] at h
      obtain ⟨_, _, h⟩ := h
      exact beq_box h fun e1 _ => p (by simp [opc]) e1.symm
  case fieldAddr t x f =>
    rw [Option.bind_eq_some_iff] at h
    obtain ⟨q, hq, h⟩ := h
    cases hc : (E.lay q.2).isSome with
    | false => rw [hc] at h; cases h
    | true =>
      rw [hc] at h
      simp only [cond_true, Option.bind_eq_some_iff] at h
      obtain ⟨av, hav, h⟩ := h
      split at h
      · exact beq_box h fun e1 _ => p (by simp [opc]) e1.symm
      · split at h
        · exact beq_box h fun e1 _ => p (by simp [opc]) e1.symm
        · cases h
      · cases h; exact p (by simp [opc]) rfl
      · cases h
  case nilCheck x =>
    rw [Option.bind_eq_some_iff] at h
    obtain ⟨av, hav, h⟩ := h
    split at h
    · exact beq_box h fun e1 _ => p (by simp [opc]) e1.symm
    · split at h
      · exact beq_box h fun e1 _ => p (by simp [opc]) e1.symm
      · cases h
    · cases h; exact p (by simp [opc]) rfl
    · cases h
  case indexAddr t x i =>
    simp only [Option.bind_eq_some_iff, Option.map_eq_some_iff] at h
    obtain ⟨_, _, _, _, _, _, e1⟩ := h
    exact p (by simp [opc]) e1.symm
  case index t x i =>
    split at h
    · rw [Option.bind_eq_some_iff] at h
      obtain ⟨av, hav, h⟩ := h
      split at h
      · rw [Option.bind_eq_some_iff] at h
        obtain ⟨m, hm, h⟩ := h
        split at h
        · rw [Option.map_eq_some_iff] at h
          obtain ⟨y, _, e1⟩ := h
          exact p (by simp [opc]) e1.symm
        · cases h
      · cases h
    · cases h
  case extract x k =>
    rw [Option.bind_eq_some_iff] at h
    obtain ⟨av, hav, h⟩ := h
    split at h
    · rw [Option.map_eq_some_iff] at h
      obtain ⟨_, _, e1⟩ := h
      exact p (by simp [opc]) e1.symm
    · cases h
  case binOp op t x y t' =>
    have hl : opc E own (.binOp op t x y t') ≤ 3 := by simp only [opc]; cases E.pt t <;> simp
    cases hpt : E.pt t with
    | true =>
      rw [hpt] at h
      simp only [cond_true] at h
      split at h
      · exact beq_box h fun e1 _ => p hl e1.symm
      · exact beq_box h fun e1 _ => p hl e1.symm
      · cases h
    | false =>
      rw [hpt] at h
      simp only [cond_false, Option.bind_eq_some_iff (x := E.ty t)] at h
      obtain ⟨U, hU, h⟩ := h
      cases U with
      | int k =>
        simp only [Option.bind_eq_some_iff (x := (ev x).bind _)] at h
        obtain ⟨_, _, h⟩ := h
        split at h <;> (simp only [Option.bind_eq_some_iff, Option.map_eq_some_iff] at h; obtain ⟨_, _, _, _, e1⟩ := h; exact p hl e1.symm)
      | bool =>
        simp only [Option.bind_eq_some_iff (x := (ev x).bind _), Option.bind_eq_some_iff (x := (ev y).bind _)] at h
        obtain ⟨_, _, _, _, h⟩ := h
        split at h <;> cases h <;> exact p hl rfl
      | pair A B =>
        simp only [Option.bind_eq_some_iff (x := (ev x).bind _), Option.bind_eq_some_iff (x := (ev y).bind _)] at h
        obtain ⟨_, _, _, _, h⟩ := h
        split at h
        · split at h <;> cases h <;> exact p hl rfl
        · cases h
      | list T => cases h
  case unOp op t x =>
    rw [Option.bind_eq_some_iff] at h
    obtain ⟨U, hU, h⟩ := h
    split at h
    · rw [Option.map_eq_some_iff] at h; obtain ⟨y, _, e1⟩ := h; exact p (by simp [opc]) e1.symm
    · rw [Option.map_eq_some_iff] at h; obtain ⟨y, _, e1⟩ := h; exact p (by simp [opc]) e1.symm
    · rw [Option.map_eq_some_iff] at h; obtain ⟨y, _, e1⟩ := h; exact p (by simp [opc]) e1.symm
    · cases h
  case convert t t' x =>
    simp only [Option.bind_eq_some_iff (x := E.ty t), Option.bind_eq_some_iff (x := E.ty t')] at h
    obtain ⟨U, hU, V, hV, h⟩ := h
    split at h
    · rw [Option.map_eq_some_iff] at h; obtain ⟨y, _, e1⟩ := h; exact p (by simp [opc]) e1.symm
    · cases h
  case makeFunc f first caps =>
    cases f with
    | func f =>
      simp only at h
      cases hc : first.isEmpty with
      | false => rw [hc] at h; cases h
      | true =>
        rw [hc] at h
        simp only [cond_true, Option.map_eq_some_iff] at h
        obtain ⟨c, hc, e1⟩ := h
        exact p (by simp [opc]) e1.symm
    | _ => cases h
  case call c =>
    obtain ⟨callee, args, ats⟩ := c
    split at h
    · rename_i f hdf
      obtain ⟨t, rfl, _⟩ := dynF_some hdf
      simp only [dynCall] at h
      split at h
      · exact beq_none h fun h => by
          simp only [Option.bind_eq_some_iff, Option.map_eq_some_iff] at h
          obtain ⟨xs, hxs, r, hr, e1⟩ := h
          exact p (by simp [opc]) e1.symm
      · cases h
    simp only [evalCall] at h
    split at h
    · rename_i f
      split at h
      · rename_i S hS
        simp only [Option.bind_eq_some_iff] at h
        obtain ⟨xs, hxs, r, hr, e1⟩ := h
        simp only [opc, hS]
        unfold specE at e1
        cases hf : freeL S.res with
        | true =>
          rw [hf] at e1
          cases e1
          exact p (by simp) rfl
        | false =>
          rw [hf] at e1
          cases ho : own with
          | true =>
            rw [ho] at e1
            simp only [cond_false, cond_true, Option.some.injEq] at e1
            cases hf2 : freeL S.args with
            | true =>
              rw [asBL_free _ _ _ hf2 hxs] at e1
              have := @q 3 (by decide) (e1 ▸ Quiet.del _)
              rw [ho] at this
              simpa using this
            | false => exact ⟨fun h => absurd h (by simp), fun h => absurd h (by simp), fun h => absurd h (by simp), fun h => absurd h (by simp)⟩
          | false =>
            rw [ho] at e1
            have hp : ∃ av, e = .put av := by
              revert e1
              cases (idsL (args.toList.map ev)).isEmpty with
              | true => intro e1; cases e1; exact ⟨_, rfl⟩
              | false => intro e1; cases e1
            obtain ⟨av, hav⟩ := hp
            have := @p 3 av (by decide) hav
            rw [ho] at this
            simpa using this
      · rename_i hS
        simp only [opc, hS]
        split at h
        · rename_i t hc
          simp only [hc]
          split at h
          · rw [Option.bind_eq_some_iff] at h
            obtain ⟨l, hl, h⟩ := h
            split at h
            · cases h; simpa using arr (k := 5) (.inr rfl) rfl
            · cases h
          · cases h
        · split at h
          · exact beq_none h fun h => by
              simp only [Option.bind_eq_some_iff, Option.map_eq_some_iff] at h
              obtain ⟨xs, hxs, r, hr, e1⟩ := h
              exact p (by first | simp | simp [*]) e1.symm
          · cases h
    · rw [Option.bind_eq_some_iff] at h
      obtain ⟨U, hU, h⟩ := h
      split at h
      · rw [Option.map_eq_some_iff] at h; obtain ⟨y, _, e1⟩ := h; exact p (by simp [opc]) e1.symm
      · cases h
    · split at h
      · split at h
        · split at h
          · rename_i T e0 by_ x y ht hel hxy
            rw [Option.bind_eq_some_iff] at h
            obtain ⟨m, hm, h⟩ := h
            obtain ⟨x1, y1, hargs, hx1, hy1⟩ := map_two hxy
            simp only [opc, hargs]
            split at h
            · -- an own array: it is no constant
              have hn : isNilC [x1, y1] = false := by
                cases hc : isNilC [x1, y1] with
                | false => rfl
                | true =>
                  exfalso
                  unfold isNilC at hc
                  split at hc
                  · rename_i l heq
                    cases heq
                    rw [hcst] at hx1
                    cases hx1
                  · cases hc
              rw [hn]
              split at h
              · split at h
                · split at h
                  · cases h
                    exact ⟨fun h => absurd h (by simp), fun h => absurd h (by simp), fun _ => ⟨_, KeyedN.arr _ _ _ _ _⟩, fun h => absurd h (by simp)⟩
                  · cases h
                · cases h
              · cases h
            · split at h
              · cases h
                cases hn : isNilC [x1, y1] with
                | true => simpa using arr (k := 5) (.inr rfl) rfl
                | false => exact ⟨fun h => absurd h (by simp), fun h => absurd h (by simp), fun _ => ⟨_, KeyedN.arr _ _ _ _ _⟩, fun h => absurd h (by simp)⟩
              · cases h
            · cases h
          · cases h
        · cases h
      · cases h
    · cases h
  all_goals cases h
end
section
variable {P : Program} {E : Env} {b n : Nat} {us : Nat → Nat} {nl : Nat} {bx bx' : Nat → Option Box} {hw : How} {dst : Option Nat} {ev ev' : Operand → Option AV} {s s' s0 t : St} {ops : Array Oper} {own : Nat → Bool}

theorem opc_call (own : Bool) (c : Call) : opc E own (.call c) = 3 ∨ opc E own (.call c) = 5 ∨ opc E own (.call c) = 6 ∨ opc E own (.call c) = 8 := by
  obtain ⟨callee, args, ats⟩ := c
  cases callee with
  | value f =>
    cases f with
    | func f =>
      simp only [opc]
      cases E.tab f with
      | none => simp only; cases E.cln f <;> simp
      | some S => simp only; cases (freeL S.res || freeL S.args || !own) <;> simp
    | tmp t => simp [opc]
    | _ => simp [opc]
  | invoke r m => simp [opc]
  | builtin bi => cases bi <;> first | (simp [opc]; done) | (simp only [opc]; cases isNilC args.toList <;> simp)

theorem pure_same {own : Bool} {b : Nat} {op : Op} (h : opc E own op = 0 ∨ opc E own op = 4) : evalOp E ⟨b, own⟩ dst ev bx op = evalOp E ⟨b, own⟩ dst ev bx' op := by
  cases op <;> first | rfl | skip
  case load t x => simp [opc] at h
  case store t x y => simp [opc] at h
  case fieldAddr t x f => simp [opc] at h
  case nilCheck x => simp [opc] at h
  case indexAddr t x i => simp [opc] at h
  case binOp op t x y t' =>
    simp only [opc] at h
    simp only [evalOp]
    cases hp : E.pt t with
    | true => rw [hp] at h; simp at h
    | false => rfl
  case makeFunc f first caps => cases f <;> rfl
  case call c => have := opc_call (E := E) own c; omega

/-- The same is there, whatever it holds. -/
def Skel (bx bx' : Nat → Option Box) : Prop := ∀ id, match bx id, bx' id with
  | some (.cells v _), some (.cells v' _) => v = v'
  | some (.arr v e T l), some (.arr v' e' T' l') => v = v' ∧ e = e' ∧ T = T' ∧ l.length = l'.length
  | none, none => True
  | _, _ => False

theorem Skel.symm (h : Skel bx bx') : Skel bx' bx := fun id => by
  have := h id
  revert this
  cases bx id with
  | none => cases bx' id with
    | none => exact fun h => h
    | some B => exact fun h => by cases B <;> exact h
  | some B =>
    cases B with
    | cells v av => cases bx' id with
      | none => exact fun h => h
      | some B' => cases B' with
        | cells v' av' => exact fun h => h.symm
        | arr _ _ _ _ => exact fun h => h
    | arr v e T l => cases bx' id with
      | none => exact fun h => h
      | some B' => cases B' with
        | cells v' av' => exact fun h => h
        | arr v' e' T' l' => exact fun h => ⟨h.1.symm, h.2.1.symm, h.2.2.1.symm, h.2.2.2.symm⟩

theorem Skel.ver (h : Skel bx bx') {id : Nat} {B : Box} (hB : bx id = some B) : ∃ B', bx' id = some B' ∧ B'.ver = B.ver := by
  have := h id
  rw [hB] at this
  cases B with
  | cells v av =>
    cases hb : bx' id with
    | none => rw [hb] at this; exact this.elim
    | some B' => cases B' with
      | cells v' av' => rw [hb] at this; exact ⟨_, rfl, Eq.symm this⟩
      | arr _ _ _ _ => rw [hb] at this; exact this.elim
  | arr v e T l =>
    cases hb : bx' id with
    | none => rw [hb] at this; exact this.elim
    | some B' => cases B' with
      | cells v' av' => rw [hb] at this; exact this.elim
      | arr v' e' T' l' => rw [hb] at this; exact ⟨_, rfl, this.1.symm⟩

theorem Skel.arr (h : Skel bx bx') {id ver : Nat} {e : TypeId} {T : Ty} {l : List T.den} (hB : bx id = some (.arr ver e T l)) : ∃ l' : List T.den, bx' id = some (.arr ver e T l') ∧ l'.length = l.length := by
  have := h id
  rw [hB] at this
  cases hb : bx' id with
  | none => rw [hb] at this; exact this.elim
  | some B' => cases B' with
    | cells v' av' => rw [hb] at this; exact this.elim
    | arr v' e' T' l' =>
      rw [hb] at this
      obtain ⟨rfl, rfl, rfl, h4⟩ := this
      exact ⟨l', rfl, h4.symm⟩

theorem isPtr_skel (h : Skel bx bx') {av : AV} (hp : isPtr bx av = true) : isPtr bx' av = true := by
  obtain ⟨id, ver, off, B, rfl, hB, hv⟩ := isPtr_box hp
  obtain ⟨B', hB', hv'⟩ := h.ver hB
  simp [isPtr, hB', hv', hv]

theorem skel_same {own : Bool} {b : Nat} {op : Op} {e : Eff} (hs : Skel bx bx') (hc : opc E own op = 1) (h : evalOp E ⟨b, own⟩ dst ev bx op = some e) : evalOp E ⟨b, own⟩ dst ev bx' op = some e := by
  cases op
  case fieldAddr t x f =>
    simp only [evalOp] at h ⊢
    rw [Option.bind_eq_some_iff] at h ⊢
    obtain ⟨q, hq, h⟩ := h
    refine ⟨q, hq, ?_⟩
    cases hc : (E.lay q.2).isSome with
    | false => rw [hc] at h; cases h
    | true =>
      rw [hc] at h
      simp only [cond_true, Option.bind_eq_some_iff] at h ⊢
      obtain ⟨av, hav, h⟩ := h
      refine ⟨av, hav, ?_⟩
      split at h
      · rename_i id ver off
        cases hp : isPtr bx (.ptr id ver off) with
        | false => rw [hp] at h; cases h
        | true => rw [hp] at h; rw [isPtr_skel hs hp]; exact h
      · rename_i id ver sz i off
        split at h
        · rename_i ver' f T l hB
          obtain ⟨l', hB', _⟩ := hs.arr hB
          rw [hB']
          exact h
        · cases h
      · exact h
      · cases h
  case nilCheck x =>
    simp only [evalOp] at h ⊢
    rw [Option.bind_eq_some_iff] at h ⊢
    obtain ⟨av, hav, h⟩ := h
    refine ⟨av, hav, ?_⟩
    split at h
    · rename_i id ver off
      cases hp : isPtr bx (.ptr id ver off) with
      | false => rw [hp] at h; cases h
      | true => rw [hp] at h; rw [isPtr_skel hs hp]; exact h
    · rename_i id ver sz i off
      split at h
      · rename_i ver' f T l hB
        obtain ⟨l', hB', _⟩ := hs.arr hB
        rw [hB']
        exact h
      · cases h
    · exact h
    · cases h
  case indexAddr t x i =>
    simp only [evalOp] at h ⊢
    simp only [Option.bind_eq_some_iff, Option.map_eq_some_iff] at h ⊢
    obtain ⟨av, hav, j, hj, p, hp, e⟩ := h
    refine ⟨av, hav, j, hj, p, ?_, e⟩
    unfold idxA at hp ⊢
    split at hp
    · split at hp
      · split at hp
        · rename_i id ver off k _ q _ m
          cases hc : (Nat.blt m _ && isPtr bx (.ptr id ver off)) with
          | false => rw [hc] at hp; cases hp
          | true =>
            rw [hc] at hp
            rw [Bool.and_eq_true] at hc
            rw [hc.1, isPtr_skel hs hc.2]
            exact hp
        · cases hp
      · cases hp
    · split at hp
      · rename_i T hT
        split at hp
        · rename_i id ver
          split at hp
          · rename_i ver' e T' l hB
            obtain ⟨l', hB', hl⟩ := hs.arr hB
            rw [hB']
            cases hv : (Nat.beq ver ver' && decide (T' = T)) with
            | false => rw [hv] at hp; cases hp
            | true =>
              rw [hv] at hp
              simp only [cond_true, hv, Option.bind_eq_some_iff] at hp ⊢
              obtain ⟨m, hm, hp⟩ := hp
              refine ⟨m, hm, ?_⟩
              split at hp
              · rename_i h0
                rw [if_pos h0]
                rw [Option.bind_eq_some_iff] at hp ⊢
                obtain ⟨y, hy, hp⟩ := hp
                have : m.toNat < l.length := (List.getElem?_eq_some_iff.1 hy).1
                exact ⟨l'[m.toNat], List.getElem?_eq_getElem (by omega), hp⟩
              · cases hp
          · cases hp
        · exact hp
      · cases hp
  case binOp op t x y t' =>
    simp only [evalOp] at h ⊢
    cases hpt : E.pt t with
    | true =>
      rw [hpt] at h
      simp only [cond_true] at h ⊢
      split at h
      · rename_i p q hp hq
        cases hc : (isPtr bx p && isNilP q) with
        | false => rw [hc] at h; cases h
        | true =>
          rw [hc] at h
          rw [Bool.and_eq_true] at hc
          rw [isPtr_skel hs hc.1, hc.2]
          exact h
      · rename_i p q hp hq
        cases hc : (isPtr bx p && isNilP q) with
        | false => rw [hc] at h; cases h
        | true =>
          rw [hc] at h
          rw [Bool.and_eq_true] at hc
          rw [isPtr_skel hs hc.1, hc.2]
          exact h
      · cases h
    | false => rw [hpt] at h; simp only [cond_false] at h ⊢; exact h
  case buildSlice t len ps => simp only [opc] at hc; cases own <;> simp at hc
  case call c => have := opc_call (E := E) own c; omega
  all_goals (simp [opc] at hc)

/-- Arrays alone are looked at. -/
def SameArr (bx bx' : Nat → Option Box) : Prop := ∀ id ver e T l, bx id = some (.arr ver e T l) → bx' id = some (.arr ver e T l)

theorem asB_arr (hs : SameArr bx bx') : ∀ (av : AV) (U : Ty) (x : U.den), asB bx U av = some x → asB bx' U av = some x
  | .v T y, U, x, h => h
  | .cst c, U, x, h => h
  | .pr p q, U, x, h => by
    cases U with
    | pair A B =>
      simp only [asB, Option.bind_eq_some_iff] at h ⊢
      obtain ⟨y, hy, z, hz, e⟩ := h
      exact ⟨y, asB_arr hs p A y hy, z, asB_arr hs q B z hz, e⟩
    | _ => simp [asB] at h
  | .arr id ver, U, x, h => by
    simp only [asB] at h ⊢
    split at h
    · rename_i ver' e T l hB
      rw [hs _ _ _ _ _ hB]
      exact h
    · cases h
  | .ptr _ _ _, _, _, h => by cases h
  | .elt _ _ _ _ _, _, _, h => by cases h
  | .ro _ _ _, _, _, h => by cases h
  | .clo _ _, _, _, h => by cases h
  | .yld _, _, _, h => by cases h
  | .nl, _, _, h => by cases h
  | .tup _, _, _, h => by cases h

theorem asBL_arr (hs : SameArr bx bx') : ∀ (l : List Ty) (avs : List (Option AV)) (xs : HL l), asBL bx l avs = some xs → asBL bx' l avs = some xs
  | [], [], _, h => h
  | [], _ :: _, _, h => by simp [asBL] at h
  | _ :: _, [], _, h => by simp [asBL] at h
  | T :: l, av :: r, xs, h => by
    simp only [asBL, Option.bind_eq_some_iff (x := av.bind _), Option.bind_eq_some_iff (x := asBL _ l r)] at h ⊢
    obtain ⟨y, hy, z, hz, e⟩ := h
    refine ⟨y, ?_, z, asBL_arr hs l r z hz, e⟩
    rw [Option.bind_eq_some_iff] at hy ⊢
    obtain ⟨v, hv, hy⟩ := hy
    exact ⟨v, hv, asB_arr hs v T y hy⟩

theorem arrays_same {own : Bool} {b : Nat} {op : Op} {e : Eff} (hs : SameArr bx bx') (hc : opc E own op = 3 ∨ opc E own op = 5) (h : evalOp E ⟨b, own⟩ dst ev bx op = some e) : evalOp E ⟨b, own⟩ dst ev bx' op = some e := by
  cases op
  case call c =>
    obtain ⟨callee, args, ats⟩ := c
    simp only [evalOp] at h ⊢
    split at h
    · simp only [dynCall] at h ⊢
      split at h
      · rename_i S _
        cases hf : freeL S.args && freeL S.res with
        | false => rw [hf] at h; cases h
        | true =>
          rw [hf] at h
          simp only [cond_true, Option.bind_eq_some_iff] at h ⊢
          obtain ⟨xs, hxs, h⟩ := h
          exact ⟨xs, asBL_arr hs _ _ _ hxs, h⟩
      · cases h
    simp only [evalCall] at h ⊢
    split at h
    · split at h
      · rw [Option.bind_eq_some_iff] at h ⊢
        obtain ⟨xs, hxs, h⟩ := h
        exact ⟨xs, asBL_arr hs _ _ _ hxs, h⟩
      · split at h
        · split at h
          · rename_i T e0 by_ x _ _ _
            rw [Option.bind_eq_some_iff] at h ⊢
            obtain ⟨l, hl, h⟩ := h
            exact ⟨l, asB_arr hs x (.list T) l hl, h⟩
          · cases h
        · split at h
          · rename_i S _
            cases hf : freeL S.args && freeL S.res with
            | false => rw [hf] at h; cases h
            | true =>
              rw [hf] at h
              simp only [cond_true, Option.bind_eq_some_iff] at h ⊢
              obtain ⟨xs, hxs, h⟩ := h
              exact ⟨xs, asBL_arr hs _ _ _ hxs, h⟩
          · cases h
    · rw [Option.bind_eq_some_iff] at h ⊢
      obtain ⟨U, hU, h⟩ := h
      refine ⟨U, hU, ?_⟩
      split at h
      · rename_i T x _
        rw [Option.map_eq_some_iff] at h ⊢
        obtain ⟨l, hl, h⟩ := h
        refine ⟨l, ?_, h⟩
        rw [Option.bind_eq_some_iff] at hl ⊢
        obtain ⟨v, hv, hl⟩ := hl
        exact ⟨v, hv, asB_arr hs v (.list T) l hl⟩
      · cases h
    · split at h
      · split at h
        · rename_i htt
          rw [if_pos htt]
          split at h
          · rename_i T e0 by_ x y _ _ _
            rw [Option.bind_eq_some_iff] at h ⊢
            obtain ⟨m, hm, h⟩ := h
            refine ⟨m, asB_arr hs y (.list T) m hm, ?_⟩
            split at h
            · rename_i id ver
              split at h
              · rename_i ver' e' T' l hB
                rw [hs _ _ _ _ _ hB]
                exact h
              · cases h
            · exact h
            · cases h
          · cases h
        · cases h
      · cases h
    · cases h
  case binOp op t x y t' => exfalso; simp only [opc] at hc; revert hc; cases E.pt t <;> simp
  case buildSlice t len ps => exfalso; simp only [opc] at hc; cases own <;> simp at hc
  all_goals (simp [opc] at hc)
end
section
variable {P : Program} {E : Env} {b n : Nat} {us : Nat → Nat} {nl : Nat} {bx bx' : Nat → Option Box} {hw : How} {dst : Option Nat} {ev ev' : Operand → Option AV} {s s' s0 t : St} {ops : Array Oper} {own : Nat → Bool}

def isK : Nat → AV → Bool
  | 1, .ptr _ _ _ => true
  | 2, .elt _ _ _ _ _ => true
  | 2, .ro _ _ _ => true
  | 1, .cst _ => true
  | 2, .cst _ => true
  | _, _ => false

def kOp (E : Env) (kt : Nat → Nat) : Op → Nat
  | .fieldAddr _ (.tmp p) _ => kt p
  | .nilCheck (.tmp p) => kt p
  | .move (.tmp p) => kt p
  | .assign (.tmp p) => kt p
  | .indexAddr t _ _ => bif (E.arr t).isNone then 2 else 0
  | _ => 0

/-- Of what kind an address is, at a temporary: 1: in a variable; 2: in an array; 0: unknown. -/
def kindT (E : Env) (ops : Array Oper) (tm0 : Nat → Option AV) : Nat → Nat → Nat
  | 0, _ => 0
  | k + 1, t =>
    bif ops.any fun o => o.dst == some t then
      (bif (ops.all fun o => o.dst != some t || Nat.beq (kOp E (kindT E ops tm0 k) o.op) 1) && (match tm0 t with | some av => isK 1 av | none => true) then 1
       else bif (ops.all fun o => o.dst != some t || Nat.beq (kOp E (kindT E ops tm0 k) o.op) 2) && (match tm0 t with | some av => isK 2 av | none => true) then 2 else 0)
    else match tm0 t with
      | some (.ptr _ _ _) => 1
      | some (.elt _ _ _ _ _) => 2
      | some (.ro _ _ _) => 2
      | _ => 0

def siteOf : AV → Option Nat
  | .ptr id _ _ => some id
  | .elt id _ _ _ _ => some id
  | _ => none

/-- It names this variable, or nothing. -/
def isR (i : Nat) : AV → Bool
  | .ptr id _ _ => Nat.beq id i
  | .elt id _ _ _ _ => Nat.beq id i
  | .cst _ => true
  | _ => false

theorem isR_site {i j : Nat} {av : AV} (h : isR i av = true) (hj : siteOf av = some j) : j = i := by
  cases av <;> simp only [siteOf, Option.some.injEq, reduceCtorEq] at hj
  case ptr id ver off => subst hj; exact Nat.eq_of_beq_eq_true h
  case elt id ver sz m off => subst hj; exact Nat.eq_of_beq_eq_true h

theorem isR_of {i : Nat} {av : AV} (h : siteOf av = some i) : isR i av = true := by
  cases av <;> simp only [siteOf, Option.some.injEq, reduceCtorEq] at h
  case ptr id ver off => subst h; simp [isR]
  case elt id ver sz m off => subst h; simp [isR]

def rootOp (rt : Nat → Option Nat) : Op → Option Nat
  | .fieldAddr _ (.tmp p) _ => rt p
  | .nilCheck (.tmp p) => rt p
  | .move (.tmp p) => rt p
  | .assign (.tmp p) => rt p
  | _ => none

/-- The variable that an address is in, at a temporary, where that is known ahead. -/
def rootT (ops : Array Oper) (tm0 : Nat → Option AV) : Nat → Nat → Option Nat
  | 0, _ => none
  | k + 1, t =>
    bif ops.any fun o => o.dst == some t then
      match ops.toList.find? fun o => o.dst == some t with
      | some o => match rootOp (rootT ops tm0 k) o.op with
        | some i => bif (ops.all fun o => o.dst != some t || (rootOp (rootT ops tm0 k) o.op == some i)) && (match tm0 t with | some av => isR i av | none => true) then some i else none
        | none => none
      | none => none
    else (tm0 t).bind siteOf

theorem rootT_cases {ops : Array Oper} {tm0 : Nat → Option AV} {k t i : Nat} (h : rootT ops tm0 k t = some i) : ∃ k', k = k' + 1 ∧
    (((ops.any fun o => o.dst == some t) = true ∧ (∀ (j : Nat) (o : Oper), ops[j]? = some o → o.dst = some t → rootOp (rootT ops tm0 k') o.op = some i) ∧ ∀ av, tm0 t = some av → isR i av = true) ∨
     ((ops.any fun o => o.dst == some t) = false ∧ ∀ av, tm0 t = some av → isR i av = true)) := by
  cases k with
  | zero => cases h
  | succ k =>
    refine ⟨k, rfl, ?_⟩
    simp only [rootT] at h
    cases ha : (ops.any fun o => o.dst == some t) with
    | true =>
      left
      rw [ha] at h
      simp only [cond_true] at h
      split at h
      · split at h
        · rename_i i' _
          revert h
          cases hc : ((ops.all fun o => o.dst != some t || (rootOp (rootT ops tm0 k) o.op == some i')) && (match tm0 t with | some av => isR i' av | none => true)) with
          | false => intro h; cases h
          | true =>
            intro h
            cases h
            rw [Bool.and_eq_true] at hc
            refine ⟨rfl, fun j o ho hod => ?_, fun av hav => ?_⟩
            · have := (Array.all_eq_true'.1 hc.1) o (Array.mem_of_getElem? ho)
              simp only [hod, bne_self_eq_false, Bool.false_or] at this
              exact eq_of_beq this
            · have := hc.2; rw [hav] at this; exact this
        · cases h
      · cases h
    | false =>
      right
      rw [ha] at h
      simp only [cond_false, Option.bind_eq_some_iff] at h
      obtain ⟨av, hav, hs⟩ := h
      exact ⟨rfl, fun av' hav' => by rw [hav] at hav'; cases hav'; exact isR_of hs⟩

structure InvK (E : Env) (b : Nat) (ops : Array Oper) (s0 s : St) : Prop extends InvR b ops s0 s where
  kind : ∀ k t c, c ≠ 0 → kindT E ops (s0.tm b) k t = c → ∀ av, s.tm b t = some av → isK c av = true
  root : ∀ k t i, rootT ops (s0.tm b) k t = some i → ∀ av, s.tm b t = some av → isR i av = true

theorem kindT_cases {tm0 : Nat → Option AV} {k t c : Nat} (hc : c ≠ 0) (h : kindT E ops tm0 k t = c) : (c = 1 ∨ c = 2) ∧ ∃ k', k = k' + 1 ∧
    (((ops.any fun o => o.dst == some t) = true ∧ (∀ (i : Nat) (o : Oper), ops[i]? = some o → o.dst = some t → kOp E (kindT E ops tm0 k') o.op = c) ∧ ∀ av, tm0 t = some av → isK c av = true) ∨
     ((ops.any fun o => o.dst == some t) = false ∧ ∀ av, tm0 t = some av → isK c av = true)) := by
  cases k with
  | zero => exact absurd h.symm hc
  | succ k =>
    simp only [kindT] at h
    cases ha : (ops.any fun o => o.dst == some t) with
    | true =>
      rw [ha] at h
      simp only [cond_true] at h
      have key : ∀ d, ((ops.all fun o => o.dst != some t || Nat.beq (kOp E (kindT E ops tm0 k) o.op) d) && (match tm0 t with | some av => isK d av | none => true)) = true →
          (∀ (i : Nat) (o : Oper), ops[i]? = some o → o.dst = some t → kOp E (kindT E ops tm0 k) o.op = d) ∧ ∀ av, tm0 t = some av → isK d av = true := fun d hd => by
        rw [Bool.and_eq_true] at hd
        refine ⟨fun i o ho hod => ?_, fun av hav => ?_⟩
        · have := (Array.all_eq_true'.1 hd.1) o (Array.mem_of_getElem? ho)
          simp only [hod, bne_self_eq_false, Bool.false_or] at this
          exact Nat.eq_of_beq_eq_true this
        · have := hd.2; rw [hav] at this; exact this
      cases h1 : ((ops.all fun o => o.dst != some t || Nat.beq (kOp E (kindT E ops tm0 k) o.op) 1) && (match tm0 t with | some av => isK 1 av | none => true)) with
      | true =>
        rw [h1] at h
        simp only [cond_true] at h
        subst h
        exact ⟨.inl rfl, k, rfl, .inl ⟨rfl, key 1 h1⟩⟩
      | false =>
        rw [h1] at h
        simp only [cond_false] at h
        cases h2 : ((ops.all fun o => o.dst != some t || Nat.beq (kOp E (kindT E ops tm0 k) o.op) 2) && (match tm0 t with | some av => isK 2 av | none => true)) with
        | true =>
          rw [h2] at h
          simp only [cond_true] at h
          subst h
          exact ⟨.inr rfl, k, rfl, .inl ⟨rfl, key 2 h2⟩⟩
        | false => rw [h2] at h; exact absurd h.symm hc
    | false =>
      rw [ha] at h
      simp only [cond_false] at h
      split at h
      · rename_i hav; subst h; exact ⟨.inl rfl, k, rfl, .inr ⟨rfl, fun av h => by rw [hav] at h; cases h; rfl⟩⟩
      · rename_i hav; subst h; exact ⟨.inr rfl, k, rfl, .inr ⟨rfl, fun av h => by rw [hav] at h; cases h; rfl⟩⟩
      · rename_i hav; subst h; exact ⟨.inr rfl, k, rfl, .inr ⟨rfl, fun av h => by rw [hav] at h; cases h; rfl⟩⟩
      · exact absurd h.symm hc

theorem invK_self (h : BD (s0.ev b) s0.bx s0.us s0.nl) : InvK E b ops s0 s0 := ⟨⟨h, fun _ _ => rfl⟩, fun k t c hc hk av hav => by
  obtain ⟨_, k', _, ⟨_, _, h3⟩ | ⟨_, h3⟩⟩ := kindT_cases hc hk
  · exact h3 av hav
  · exact h3 av hav, fun k t i hk av hav => by
  obtain ⟨k', _, ⟨_, _, h3⟩ | ⟨_, h3⟩⟩ := rootT_cases hk
  · exact h3 av hav
  · exact h3 av hav⟩

theorem rootOp_eff {rt : Nat → Option Nat} {op : Op} {e : Eff} {i : Nat} (hk : rootOp rt op = some i) (hkt : ∀ p av, rt p = some i → ev (.tmp p) = some av → isR i av = true) (h : evalOp E hw dst ev bx op = some e) : ∃ av, e = .put av ∧ isR i av = true := by
  cases op <;> simp only [rootOp, reduceCtorEq] at hk
  case move x =>
    cases x <;> simp only [rootOp, reduceCtorEq] at hk
    simp only [evalOp, Option.map_eq_some_iff] at h
    obtain ⟨av, hav, e1⟩ := h
    exact ⟨av, e1.symm, hkt _ _ hk hav⟩
  case assign x =>
    cases x <;> simp only [rootOp, reduceCtorEq] at hk
    simp only [evalOp, Option.map_eq_some_iff] at h
    obtain ⟨av, hav, e1⟩ := h
    exact ⟨av, e1.symm, hkt _ _ hk hav⟩
  case nilCheck x =>
    cases x <;> simp only [rootOp, reduceCtorEq] at hk
    simp only [evalOp, Option.bind_eq_some_iff] at h
    obtain ⟨av, hav, h⟩ := h
    have := hkt _ _ hk hav
    split at h
    · exact beq_box h fun e1 _ => ⟨_, e1.symm, this⟩
    · split at h
      · exact beq_box h fun e1 _ => ⟨_, e1.symm, this⟩
      · cases h
    · cases h; exact ⟨_, rfl, this⟩
    · cases h
  case fieldAddr t x f =>
    cases x <;> simp only [rootOp, reduceCtorEq] at hk
    simp only [evalOp, Option.bind_eq_some_iff] at h
    obtain ⟨q, hq, h⟩ := h
    cases hc : (E.lay q.2).isSome with
    | false => rw [hc] at h; cases h
    | true =>
      rw [hc] at h
      simp only [cond_true, Option.bind_eq_some_iff] at h
      obtain ⟨av, hav, h⟩ := h
      have := hkt _ _ hk hav
      split at h
      · exact beq_box h fun e1 _ => ⟨_, e1.symm, this⟩
      · split at h
        · exact beq_box h fun e1 _ => ⟨_, e1.symm, this⟩
        · cases h
      · cases this
      · cases h

/-- What an address is made of. -/
theorem kOp_eff {kt : Nat → Nat} {op : Op} {e : Eff} {c : Nat} (hc : c = 1 ∨ c = 2) (hk : kOp E kt op = c) (hkt : ∀ p av, kt p = c → ev (.tmp p) = some av → isK c av = true) (h : evalOp E hw dst ev bx op = some e) : ∃ av, e = .put av ∧ isK c av = true := by
  have h0 : c ≠ 0 := by omega
  cases op <;> simp only [kOp] at hk <;> try exact absurd hk.symm h0
  case move x =>
    cases x <;> simp only [kOp] at hk <;> try exact absurd hk.symm h0
    simp only [evalOp, Option.map_eq_some_iff] at h
    obtain ⟨av, hav, e1⟩ := h
    exact ⟨av, e1.symm, hkt _ _ hk hav⟩
  case assign x =>
    cases x <;> simp only [kOp] at hk <;> try exact absurd hk.symm h0
    simp only [evalOp, Option.map_eq_some_iff] at h
    obtain ⟨av, hav, e1⟩ := h
    exact ⟨av, e1.symm, hkt _ _ hk hav⟩
  case nilCheck x =>
    cases x <;> simp only [kOp] at hk <;> try exact absurd hk.symm h0
    simp only [evalOp, Option.bind_eq_some_iff] at h
    obtain ⟨av, hav, h⟩ := h
    have := hkt _ _ hk hav
    split at h
    · exact beq_box h fun e1 _ => ⟨_, e1.symm, this⟩
    · split at h
      · exact beq_box h fun e1 _ => ⟨_, e1.symm, this⟩
      · cases h
    · cases h; exact ⟨_, rfl, this⟩
    · cases h
  case fieldAddr t x f =>
    cases x <;> simp only [kOp] at hk <;> try exact absurd hk.symm h0
    simp only [evalOp, Option.bind_eq_some_iff] at h
    obtain ⟨q, hq, h⟩ := h
    cases hl : (E.lay q.2).isSome with
    | false => rw [hl] at h; cases h
    | true =>
      rw [hl] at h
      simp only [cond_true, Option.bind_eq_some_iff] at h
      obtain ⟨av, hav, h⟩ := h
      have := hkt _ _ hk hav
      split at h
      · rename_i id ver off
        exact beq_box h fun e1 _ => ⟨.ptr id ver (off + q.1), e1.symm, by rcases hc with rfl | rfl <;> exact this⟩
      · split at h
        · rename_i id ver sz i off _ _ _ _ _ _
          exact beq_box h fun e1 _ => ⟨.elt id ver sz i (off + q.1), e1.symm, by rcases hc with rfl | rfl <;> exact this⟩
        · cases h
      · rename_i T y off
        cases h
        exact ⟨_, rfl, by rcases hc with rfl | rfl <;> exact this⟩
      · cases h
  case indexAddr t x i =>
    cases ha : E.arr t with
    | some q => rw [ha] at hk; exact absurd hk.symm h0
    | none =>
      rw [ha] at hk
      simp only [Option.isNone_none, cond_true] at hk
      subst hk
      simp only [evalOp, Option.bind_eq_some_iff, Option.map_eq_some_iff] at h
      obtain ⟨av, hav, j, hj, p, hp, e1⟩ := h
      refine ⟨p, e1.symm, ?_⟩
      unfold idxA at hp
      rw [ha] at hp
      simp only at hp
      split at hp
      · split at hp
        · split at hp
          · rename_i id ver _ ver' f T' l hB
            revert hp
            cases (Nat.beq ver ver' && decide (T' = _)) with
            | false => intro hp; cases hp
            | true =>
              intro hp
              simp only [cond_true, Option.bind_eq_some_iff] at hp
              obtain ⟨m, hm, hp⟩ := hp
              split at hp
              · rw [Option.bind_eq_some_iff] at hp
                obtain ⟨_, _, hp⟩ := hp
                cases hp
                rfl
              · cases hp
          · cases hp
        · simp only [Option.bind_eq_some_iff] at hp
          obtain ⟨l, hl, m, hm, hp⟩ := hp
          split at hp
          · rw [Option.bind_eq_some_iff] at hp
            obtain ⟨_, _, hp⟩ := hp
            cases hp
            rfl
          · cases hp
      · cases hp

theorem isK_cst {c : Nat} (hc : c = 1 ∨ c = 2) (v : Value) : isK c (.cst v) = true := by rcases hc with rfl | rfl <;> rfl

theorem Quiet.skip : Quiet (.put (.cst undef)) := Quiet.put _

theorem BD.step (hE : E.OK P) {i : Nat} (h : BD (s.ev b) s.bx s.us s.nl) (hs : stepR E own b n ops i s = some t) : BD (t.ev b) t.bx t.us t.nl := by
  obtain ⟨o, c, e, ho, hw, he, happ⟩ := stepR_spec hs
  obtain ⟨h1, h2, rfl⟩ := app_spec happ
  have hbd : (e.av s.us).bd (e.us s.us) s.nl = true ∧ (∀ id av, e = .new id av → av.bd s.us s.nl = true) ∧ (∀ id ver av, e = .sto id ver av → av.bd s.us s.nl = true) ∧ (∀ id ver f T l, e = .stoE id ver f T l → ver < s.us id) ∧ (∀ id ver av, e = .sto id ver av → ver < s.us id) := by
    cases c with
    | true => exact evalOp_bd hE h he
    | false => cases he; exact ⟨rfl, fun _ _ h => (by cases h), fun _ _ _ h => (by cases h), fun _ _ _ _ _ h => (by cases h), fun _ _ _ h => (by cases h)⟩
  obtain ⟨b1, b2, b3, b4, b5⟩ := hbd
  have hus : ∀ id, s.us id ≤ e.us s.us id := fun id => by
    cases e <;> first | exact Nat.le_refl _ | skip
    all_goals (simp only [Eff.us, updU, bif_beq]; split <;> first | (rename_i h; subst h; omega) | exact Nat.le_refl _)
  refine ⟨fun x av hx => ?_, fun id B hB => ?_⟩
  · cases x with
    | tmp k =>
      simp only [St.ev] at hx
      cases hd : o.dst with
      | none => rw [hd] at hx; exact AV.bd_mono hus av (h.ev (.tmp k) av hx)
      | some d =>
        rw [hd] at hx
        simp only [updT] at hx
        cases hc : (Nat.beq k d && Nat.beq b b) with
        | true => rw [hc] at hx; cases hx; exact b1
        | false => rw [hc] at hx; exact AV.bd_mono hus av (h.ev (.tmp k) av hx)
    | const v => cases hx; rfl
    | global g => cases hx
    | func f => cases hx; rfl
  · have old : ∀ B, s.bx id = some B → B.ver < e.us s.us id ∧ B.bd (e.us s.us) s.nl = true := fun B hB => by
      obtain ⟨h3, h4⟩ := h.bx id B hB
      refine ⟨Nat.lt_of_lt_of_le h3 (hus id), ?_⟩
      cases B with
      | cells ver av => exact AV.bd_mono hus av h4
      | arr _ _ _ _ => rfl
    cases e with
    | put av => exact old B hB
    | new k av =>
      simp only [Eff.bx, updB, bif_beq] at hB
      split at hB
      · rename_i hk; subst hk; cases hB
        exact ⟨by simp [Box.ver, Eff.us, updU], AV.bd_mono hus av (b2 _ _ rfl)⟩
      · exact old B hB
    | sto k ver av =>
      simp only [Eff.bx, updB, bif_beq] at hB
      split at hB
      · rename_i hk; subst hk; cases hB
        exact ⟨b5 _ _ _ rfl, b3 _ _ _ rfl⟩
      · exact old B hB
    | stoE k ver f T l =>
      simp only [Eff.bx, updB, bif_beq] at hB
      split at hB
      · rename_i hk; subst hk; cases hB
        exact ⟨b4 _ _ _ _ _ rfl, rfl⟩
      · exact old B hB
    | arr k fr f T l =>
      simp only [Eff.bx, updB, bif_beq] at hB
      split at hB
      · rename_i hk; subst hk; cases hB
        exact ⟨by simp [Box.ver, Eff.us, updU], rfl⟩
      · exact old B hB
    | del ids av => exact old B (delB_some ids s.bx id B hB).1

theorem keepsK (hE : E.OK P) : KeepsG (stepR E own b n ops) (InvK E b ops s0) := by
  intro i s t hv hs
  have hbd := hv.bd.step hE hs
  obtain ⟨o, c, e, ho, hw, he, happ⟩ := stepR_spec hs
  obtain ⟨h1, h2, rfl⟩ := app_spec happ
  have other : ∀ k, o.dst ≠ some k → updT s.tm b o.dst (e.av s.us) b k = s.tm b k := fun k hk => by
    cases hd : o.dst with
    | none => rfl
    | some d =>
      have hne : k ≠ d := fun e => hk (by rw [hd, e])
      have : Nat.beq k d = false := Bool.eq_false_iff.2 fun e => hne (Nat.eq_of_beq_eq_true e)
      simp [updT, this]
  refine ⟨⟨hbd, fun k hk => ?_⟩, fun k u c0 hc0 hkind av hav => ?_, fun k u i0 hroot av hav => ?_⟩
  · refine (other k fun hd => ?_).trans (hv.same k hk)
    have : (ops.any fun o => o.dst == some k) = true := Array.any_eq_true'.2 ⟨o, Array.mem_of_getElem? ho, by simp [hd]⟩
    rw [hk] at this; cases this
  · by_cases hd : o.dst = some u
    · obtain ⟨hc12, k', rfl, ⟨_, h3, _⟩ | ⟨h3, _⟩⟩ := kindT_cases hc0 hkind
      · have hko := h3 i o ho hd
        have hav' : av = e.av s.us := by
          simp only [hd, updT, Nat.beq_refl, Bool.and_self, cond_true, Option.some.injEq] at hav
          exact hav.symm
        cases c with
        | false => cases he; rw [hav']; exact isK_cst hc12 _
        | true =>
          obtain ⟨av', e1, h4⟩ := kOp_eff hc12 hko (fun p av hp hpv => hv.kind k' p c0 hc0 hp av hpv) he
          rw [hav', e1]; exact h4
      · have : (ops.any fun o => o.dst == some u) = true := Array.any_eq_true'.2 ⟨o, Array.mem_of_getElem? ho, by simp [hd]⟩
        rw [h3] at this; cases this
    · have hav' : updT s.tm b o.dst (e.av s.us) b u = some av := hav
      rw [other u hd] at hav'
      exact hv.kind k u c0 hc0 hkind av hav'
  · by_cases hd : o.dst = some u
    · obtain ⟨k', rfl, ⟨_, h3, _⟩ | ⟨h3, _⟩⟩ := rootT_cases hroot
      · have hko := h3 i o ho hd
        have hav' : av = e.av s.us := by
          simp only [hd, updT, Nat.beq_refl, Bool.and_self, cond_true, Option.some.injEq] at hav
          exact hav.symm
        cases c with
        | false => cases he; rw [hav']; rfl
        | true =>
          obtain ⟨av', e1, h4⟩ := rootOp_eff hko (fun p av hp hpv => hv.root k' p i0 hp av hpv) he
          rw [hav', e1]; exact h4
      · have : (ops.any fun o => o.dst == some u) = true := Array.any_eq_true'.2 ⟨o, Array.mem_of_getElem? ho, by simp [hd]⟩
        rw [h3] at this; cases this
    · have hav' : updT s.tm b o.dst (e.av s.us) b u = some av := hav
      rw [other u hd] at hav'
      exact hv.root k u i0 hroot av hav'
end
/-! ### what two operations of a region ask of each other -/
section
variable {P : Program} {E : Env} {b n : Nat} {us : Nat → Nat} {nl : Nat} {bx bx' : Nat → Option Box} {hw : How} {dst : Option Nat} {ev ev' : Operand → Option AV} {s s' s0 t : St} {ops : Array Oper} {own : Nat → Bool}

theorem Quiet.eqb {e : Eff} (h : Quiet e) (bx : Nat → Option Box) (us : Nat → Nat) : e.bx bx us = bx := h.1 bx us

theorem KeyedN.back {e : Eff} {id : Nat} (h : KeyedN e id) : Le us (e.bx bx us) bx := fun i B hv hB => by
  obtain ⟨B', h1, h2⟩ := h.2 bx us
  rw [h2] at hB
  simp only [updB, bif_beq] at hB
  split at hB
  · rename_i hi; subst hi; cases hB; omega
  · exact hB

theorem KeyedN.at {e : Eff} {id : Nat} (h : KeyedN e id) : (e.bx bx us id).isSome = true := by
  obtain ⟨B', h1, h2⟩ := h.2 bx us
  rw [h2, updB_at]; rfl

theorem Keyed.ne {e : Eff} {id i : Nat} (h : Keyed e id) (hi : i ≠ id) : e.bx bx us i = bx i := by
  obtain ⟨F, _, _, _, k1, _⟩ := h
  rw [k1, updB_ne hi]

theorem Keyed.on {e : Eff} {id : Nat} (h : Keyed e id) (hn : bx id = none) : Le us bx (e.bx bx us) := fun i B _ hB => by
  rw [h.ne (fun hi => by rw [hi, hn] at hB; cases hB)]; exact hB

theorem Keyed.on_arr {e : Eff} {id : Nat} (h : Keyed e id) (hn : bx id = none) : SameArr bx (e.bx bx us) := fun i v f T l hB => by
  rw [h.ne (fun hi => by rw [hi, hn] at hB; cases hB)]; exact hB

theorem loadA_at {k : Nat} {ag : Bool} {av : AV} (h : ∀ id, siteOf av = some id → bx' id = bx id) : loadA bx' k ag av = loadA bx k ag av := by
  cases av <;> first | rfl | skip
  case ptr id ver off => simp only [loadA, h id rfl]
  case elt id ver sz i off => simp only [loadA, h id rfl]

theorem storeA_at {U : Option Ty} {k : Nat} {z av : AV} (h : ∀ id, siteOf av = some id → bx' id = bx id) : storeA bx' U k z av = storeA bx U k z av := by
  cases av <;> first | rfl | skip
  case ptr id ver off => simp only [storeA, h id rfl]
  case elt id ver sz i off => simp only [storeA, h id rfl]

def adr : Op → Option Operand
  | .load _ x => some x
  | .store _ x _ => some x
  | _ => none

theorem acc_at {op : Op} {z : Operand} {av : AV} (hz : adr op = some z) (hav : ev z = some av) (h : ∀ id, siteOf av = some id → bx' id = bx id) : evalOp E hw dst ev bx' op = evalOp E hw dst ev bx op := by
  cases op <;> simp only [adr, Option.some.injEq, reduceCtorEq] at hz
  case load t x =>
    subst hz
    simp only [evalOp, hav, Option.bind_some, loadA_at h]
  case store t x y =>
    subst hz
    simp only [evalOp, hav, Option.bind_some, storeA_at h]

def cellsAt (bx : Nat → Option Box) (id : Nat) : Prop := ∃ v c, bx id = some (.cells v c)
def arrAt (bx : Nat → Option Box) (id : Nat) : Prop := ∃ v f T l, bx id = some (.arr v f T l)

/-- A load's or a store's address, and what lies there. -/
theorem acc_site {op : Op} {e : Eff} (hc : (adr op).isSome = true) (h : evalOp E hw dst ev bx op = some e) : ∃ z av, adr op = some z ∧ ev z = some av ∧
    (∀ id, siteOf av = some id → (isK 1 av = true → cellsAt bx id) ∧ (isK 2 av = true → arrAt bx id)) := by
  cases op <;> simp only [adr, Option.isSome_none, Bool.false_eq_true] at hc
  case load t x =>
    simp only [evalOp, Option.bind_eq_some_iff, Option.map_eq_some_iff] at h
    obtain ⟨q, _, av, hav, p, hp, _⟩ := h
    refine ⟨x, av, rfl, hav, fun id hid => ?_⟩
    cases av <;> simp only [siteOf, Option.some.injEq, reduceCtorEq] at hid
    case ptr i ver off =>
      subst hid
      refine ⟨fun _ => ?_, fun h => (by cases h)⟩
      simp only [loadA] at hp
      split at hp
      · exact ⟨_, _, by assumption⟩
      · cases hp
    case elt i ver sz m off =>
      subst hid
      refine ⟨fun h => (by cases h), fun _ => ?_⟩
      simp only [loadA] at hp
      split at hp
      · exact ⟨_, _, _, _, by assumption⟩
      · cases hp
  case store t x y =>
    simp only [evalOp, Option.bind_eq_some_iff] at h
    obtain ⟨q, _, z, _, av, hav, hp⟩ := h
    refine ⟨x, av, rfl, hav, fun id hid => ?_⟩
    cases av <;> simp only [siteOf, Option.some.injEq, reduceCtorEq] at hid
    case ptr i ver off =>
      subst hid
      refine ⟨fun _ => ?_, fun h => (by cases h)⟩
      simp only [storeA] at hp
      split at hp
      · exact ⟨_, _, by assumption⟩
      · cases hp
    case elt i ver sz m off =>
      subst hid
      refine ⟨fun h => (by cases h), fun _ => ?_⟩
      simp only [storeA] at hp
      split at hp
      · exact ⟨_, _, _, _, by assumption⟩
      · cases hp

/-- What a store does. -/
theorem store_eff {t : TypeId} {x y : Operand} {e : Eff} (h : evalOp E hw dst ev bx (.store t x y) = some e) : ∃ av, ev x = some av ∧
    ((∃ id ver off c c', av = .ptr id ver off ∧ bx id = some (.cells ver c) ∧ e = .sto id ver c') ∨
     (∃ id ver sz i off f, ∃ T : Ty, ∃ l l' : List T.den, av = .elt id ver sz i off ∧ bx id = some (.arr ver f T l) ∧ e = .stoE id ver f T l' ∧ l.length = l'.length)) := by
  simp only [evalOp, Option.bind_eq_some_iff] at h
  obtain ⟨q, _, z, _, av, hav, h⟩ := h
  refine ⟨av, hav, ?_⟩
  unfold storeA at h
  split at h
  · rename_i id ver off
    split at h
    · rename_i ver' c hB
      cases hv : (Nat.beq ver ver' && z.fit && Nat.beq z.size q.1) with
      | false => rw [hv] at h; cases h
      | true =>
        rw [hv] at h
        simp only [Bool.and_eq_true] at hv
        have hvv := Nat.eq_of_beq_eq_true hv.1.1
        subst hvv
        simp only [cond_true] at h
        split at h
        · cases h; exact .inl ⟨id, ver, off, c, _, rfl, hB, rfl⟩
        · cases h
    · cases h
  · rename_i id ver sz i off
    split at h
    · rename_i ver' f T l U hB hU
      cases hv : (Nat.beq ver ver' && Nat.beq sz T.size) with
      | false => rw [hv] at h; cases h
      | true =>
        rw [hv] at h
        simp only [Bool.and_eq_true] at hv
        have hvv := Nat.eq_of_beq_eq_true hv.1
        subst hvv
        simp only [cond_true] at h
        split at h
        · rw [Option.bind_eq_some_iff] at h
          obtain ⟨y0, hy0, h⟩ := h
          split at h
          · cases h; exact .inr ⟨id, ver, sz, i, off, f, T, l, _, rfl, hB, rfl, by simp⟩
          · cases h
        · cases h
    · cases h
  · cases h

theorem skel_refl (bx : Nat → Option Box) : Skel bx bx := fun id => by
  cases bx id with
  | none => trivial
  | some B => cases B <;> simp

theorem store_skel {t : TypeId} {x y : Operand} {e : Eff} (h : evalOp E hw dst ev bx (.store t x y) = some e) : Skel bx (e.bx bx us) := fun i => by
  obtain ⟨av, hav, ⟨id, ver, off, c, c', rfl, hB, rfl⟩ | ⟨id, ver, sz, i', off, f, T, l, l', rfl, hB, rfl, hl⟩⟩ := store_eff h
  · by_cases hi : i = id
    · subst hi
      have e1 : (Eff.sto i ver c').bx bx us i = some (.cells ver c') := updB_at
      rw [hB, e1]
    · have e1 : (Eff.sto id ver c').bx bx us i = bx i := updB_ne hi
      rw [e1]; exact skel_refl bx i
  · by_cases hi : i = id
    · subst hi
      have e1 : (Eff.stoE i ver f T l').bx bx us i = some (.arr ver f T l') := updB_at
      rw [hB, e1]; exact ⟨rfl, rfl, rfl, hl⟩
    · have e1 : (Eff.stoE id ver f T l').bx bx us i = bx i := updB_ne hi
      rw [e1]; exact skel_refl bx i

theorem store_arrs {t : TypeId} {x y : Operand} {e : Eff} {av : AV} (h : evalOp E hw dst ev bx (.store t x y) = some e) (hx : ev x = some av) (hk : isK 1 av = true) : SameArr bx (e.bx bx us) ∧ SameArr (e.bx bx us) bx := by
  obtain ⟨av', hav, ⟨id, ver, off, c, c', rfl, hB, rfl⟩ | ⟨id, ver, sz, i', off, f, T, l, l', rfl, hB, rfl, hl⟩⟩ := store_eff h
  · refine ⟨fun i v f T l hi => ?_, fun i v f T l hi => ?_⟩
    · simp only [Eff.bx, updB, bif_beq]
      split
      · rename_i e; subst e; rw [hB] at hi; cases hi
      · exact hi
    · simp only [Eff.bx, updB, bif_beq] at hi
      split at hi
      · cases hi
      · exact hi
  · rw [hav] at hx; cases hx; cases hk

theorem store_keyed {t : TypeId} {x y : Operand} {e : Eff} {av : AV} (h : evalOp E hw dst ev bx (.store t x y) = some e) (hx : ev x = some av) : ∃ id, siteOf av = some id ∧ Keyed e id ∧ (bx id).isSome = true := by
  obtain ⟨av', hav, ⟨id, ver, off, c, c', rfl, hB, rfl⟩ | ⟨id, ver, sz, i', off, f, T, l, l', rfl, hB, rfl, hl⟩⟩ := store_eff h
  · rw [hav] at hx; cases hx; exact ⟨id, rfl, Keyed.sto _ _ _, by rw [hB]; rfl⟩
  · rw [hav] at hx; cases hx; exact ⟨id, rfl, Keyed.stoE _ _ _ _ _, by rw [hB]; rfl⟩

def kdO (E : Env) (ops : Array Oper) (tm0 : Nat → Option AV) : Option Operand → Nat
  | some (.tmp t) => kindT E ops tm0 ops.size t
  | _ => 0

/-- Where an address points that the region leaves alone. -/
def fixO (ops : Array Oper) (tm0 : Nat → Option AV) : Option Operand → Option Nat
  | some (.tmp t) => rootT ops tm0 (ops.size + 1) t
  | _ => none

def sepO (E : Env) (ops : Array Oper) (tm0 : Nat → Option AV) (x y : Option Operand) : Bool :=
  (Nat.beq (kdO E ops tm0 x) 1 && Nat.beq (kdO E ops tm0 y) 2) || (Nat.beq (kdO E ops tm0 x) 2 && Nat.beq (kdO E ops tm0 y) 1) ||
  match fixO ops tm0 x, fixO ops tm0 y with
  | some i, some j => !(Nat.beq i j)
  | _, _ => false

/-- Whether two operations, the first behind none of the second's, may change places. -/
def pairC (E : Env) (ops : Array Oper) (tm0 : Nat → Option AV) (ox oy : Bool) (x y : Op) : Bool :=
  let cx := opc E ox x
  let cy := opc E oy y
  (cx == 0) || (cy == 0) || (decide (cx ≤ 3) && decide (cy ≤ 3)) || ((cx == 4 || cx == 5 || cx == 6) && decide (cy ≤ 3)) || (decide (cx ≤ 3) && (cy == 4 || cy == 5)) ||
  ((cx == 4 || cx == 5) && (cy == 4 || cy == 5)) || (cx == 7 && cy == 4) || (cx == 4 && cy == 7) || (cx == 7 && cy == 1) || (cx == 1 && cy == 7) ||
  (cx == 7 && (cy == 3 || cy == 5) && Nat.beq (kdO E ops tm0 (adr x)) 1) || ((cx == 3 || cx == 5) && cy == 7 && Nat.beq (kdO E ops tm0 (adr y)) 1) ||
  ((cx == 2 || cx == 7) && (cy == 2 || cy == 7) && sepO E ops tm0 (adr x) (adr y))

theorem opc_store {own : Bool} {op : Op} (h : opc E own op = 7) : ∃ t x y, op = .store t x y := by
  cases op
  case store t x y => exact ⟨t, x, y, rfl⟩
  case binOp op t x y t' => simp only [opc] at h; revert h; cases E.pt t <;> simp
  case buildSlice t l ps => simp only [opc] at h; cases own <;> simp at h
  case call c => have := opc_call (E := E) own c; omega
  all_goals (simp [opc] at h)

theorem opc_load {own : Bool} {op : Op} (h : opc E own op = 2) : ∃ t x, op = .load t x := by
  cases op
  case load t x => exact ⟨t, x, rfl⟩
  case binOp op t x y t' => simp only [opc] at h; revert h; cases E.pt t <;> simp
  case buildSlice t l ps => simp only [opc] at h; cases own <;> simp at h
  case call c => have := opc_call (E := E) own c; omega
  all_goals (simp [opc] at h)

theorem opc_adr {own : Bool} {op : Op} (h : opc E own op = 2 ∨ opc E own op = 7) : (adr op).isSome = true := by
  rcases h with h | h
  · obtain ⟨t, x, rfl⟩ := opc_load h; rfl
  · obtain ⟨t, x, y, rfl⟩ := opc_store h; rfl

theorem kdO_is (hv : InvK E b ops s0 s) {z : Option Operand} {x : Operand} {c : Nat} {av : AV} (hz : z = some x) (hc : c ≠ 0) (hk : kdO E ops (s0.tm b) z = c) (hav : s.ev b x = some av) : isK c av = true := by
  subst hz
  cases x with
  | tmp t => exact hv.kind _ t c hc hk av hav
  | _ => exact absurd hk.symm hc

theorem fixO_is (hv : InvK E b ops s0 s) {z : Option Operand} {x : Operand} {i : Nat} {av : AV} (hz : z = some x) (hf : fixO ops (s0.tm b) z = some i) (hav : s.ev b x = some av) : isR i av = true := by
  subst hz
  cases x with
  | tmp t => exact hv.root _ t i hf av hav
  | _ => cases hf

/-- Two addresses that never meet. -/
theorem sep_ne (hv : InvK E b ops s0 s) {X Y : Op} {x y : Operand} {ax ay : AV} (hx : adr X = some x) (hy : adr Y = some y) (hax : s.ev b x = some ax) (hay : s.ev b y = some ay) (hs : sepO E ops (s0.tm b) (adr X) (adr Y) = true)
    (h1 : ∀ id, siteOf ax = some id → (isK 1 ax = true → cellsAt bx id) ∧ (isK 2 ax = true → arrAt bx id)) (h2 : ∀ id, siteOf ay = some id → (isK 1 ay = true → cellsAt bx' id) ∧ (isK 2 ay = true → arrAt bx' id)) (hk : Skel bx bx') :
    ∀ i j, siteOf ax = some i → siteOf ay = some j → i ≠ j := by
  intro i j hi hj hij
  subst hij
  have clash : cellsAt bx i → arrAt bx' i → False := fun ⟨v, c, e1⟩ ⟨v', f, T, l, e2⟩ => by
    have := hk i; rw [e1, e2] at this; exact this
  have clash' : arrAt bx i → cellsAt bx' i → False := fun ⟨v', f, T, l, e2⟩ ⟨v, c, e1⟩ => by
    have := hk i; rw [e1, e2] at this; exact this
  simp only [sepO, Bool.or_eq_true, Bool.and_eq_true] at hs
  rcases hs with (⟨ha, hb⟩ | ⟨ha, hb⟩) | hs
  · exact clash ((h1 i hi).1 (kdO_is hv hx (by decide) (Nat.eq_of_beq_eq_true ha) hax)) ((h2 i hj).2 (kdO_is hv hy (by decide) (Nat.eq_of_beq_eq_true hb) hay))
  · exact clash' ((h1 i hi).2 (kdO_is hv hx (by decide) (Nat.eq_of_beq_eq_true ha) hax)) ((h2 i hj).1 (kdO_is hv hy (by decide) (Nat.eq_of_beq_eq_true hb) hay))
  · split at hs
    · rename_i p q hp hq
      have e1 := fixO_is hv hx hp hax
      have e2 := fixO_is hv hy hq hay
      have g1 := isR_site e1 hi
      have g2 := isR_site e2 hj
      subst g1; subst g2
      simp at hs
    · cases hs

theorem pair_core (hv : InvK E b ops s0 s) {ox oy : Bool} {X Y : Op} {dx dy : Option Nat} {ex ey : Eff} (h1 : evalOp E ⟨b, ox⟩ dx (s.ev b) s.bx X = some ex) (a1 : ex.can s.bx = true)
    (h2 : evalOp E ⟨b, oy⟩ dy (s.ev b) (ex.bx s.bx s.us) Y = some ey) (a2 : ey.can (ex.bx s.bx s.us) = true) (hc : pairC E ops (s0.tm b) ox oy X Y = true) :
    evalOp E ⟨b, oy⟩ dy (s.ev b) s.bx Y = some ey ∧ evalOp E ⟨b, ox⟩ dx (s.ev b) (ey.bx s.bx s.us) X = some ex ∧ Dis ex ey := by
  have hcst : ∀ c, s.ev b (.const c) = some (.cst c) := fun _ => rfl
  have hbd : ∀ (op : Op), ∀ x ∈ op.operands, ∀ av, s.ev b x = some av → av.bd s.us s.nl = true := fun op x _ av h => hv.bd.ev x av h
  obtain ⟨x3, x45, x6, x7⟩ := opc_eff hcst h1
  obtain ⟨y3, y45, y6, y7⟩ := opc_eff hcst h2
  -- both look alone
  have cQQ : Quiet ex → Quiet ey → _ := fun hx hy => (⟨by rw [hx.eqb] at h2; exact h2, by rw [hy.eqb]; exact h1, .inl hx⟩ : evalOp E ⟨b, oy⟩ dy (s.ev b) s.bx Y = some ey ∧ evalOp E ⟨b, ox⟩ dx (s.ev b) (ey.bx s.bx s.us) X = some ex ∧ Dis ex ey)
  have xq : Quiet ex → evalOp E ⟨b, oy⟩ dy (s.ev b) s.bx Y = some ey := fun hx => by rw [hx.eqb] at h2; exact h2
  have yq : Quiet ey → evalOp E ⟨b, ox⟩ dx (s.ev b) (ey.bx s.bx s.us) X = some ex := fun hy => by rw [hy.eqb]; exact h1
  -- a new thing first
  have xn : ∀ id, KeyedN ex id → evalOp E ⟨b, oy⟩ dy (s.ev b) s.bx Y = some ey := fun id hk => evalOp_mono hk.back (hbd Y) h2
  simp only [pairC, Bool.or_eq_true, Bool.and_eq_true, beq_iff_eq, decide_eq_true_eq] at hc
  -- y's new id, upon s.bx
  have ynew : ∀ id, KeyedN ey id → (ex.bx s.bx s.us) id = none → Quiet ex ∨ (∃ i, Keyed ex i ∧ (ex.bx s.bx s.us i).isSome = true) → s.bx id = none ∧ ∀ i, Keyed ex i → (ex.bx s.bx s.us i).isSome = true → i ≠ id := fun id hk hn hq => by
    have hne : ∀ i, Keyed ex i → (ex.bx s.bx s.us i).isSome = true → i ≠ id := fun i hki hi e => by rw [e, hn] at hi; cases hi
    refine ⟨?_, hne⟩
    rcases hq with hq | ⟨i, hki, hi⟩
    · rw [hq.eqb] at hn; exact hn
    · rw [hki.ne (Ne.symm (hne i hki hi))] at hn; exact hn
  rcases hc with ((((((((((((hc | hc) | hc) | hc) | hc) | hc) | hc) | hc) | hc) | hc) | hc) | hc) | hc)
  · exact ⟨xq (x3 (by omega)), by rw [pure_same (bx' := s.bx) (.inl hc)]; exact h1, .inl (x3 (by omega))⟩
  · exact ⟨by rw [pure_same (bx' := ex.bx s.bx s.us) (.inl hc)]; exact h2, yq (y3 (by omega)), .inr (.inl (y3 (by omega)))⟩
  · exact cQQ (x3 hc.1) (y3 hc.2)
  · obtain ⟨id, hk⟩ : ∃ id, KeyedN ex id := by
      rcases hc.1 with (h | h) | h
      · exact ⟨_, (x45 (.inl h)).1⟩
      · exact ⟨_, (x45 (.inr h)).1⟩
      · exact x6 h
    exact ⟨xn id hk, yq (y3 hc.2), .inr (.inl (y3 hc.2))⟩
  · obtain ⟨hk, hn⟩ := y45 hc.2
    have hq := x3 hc.1
    obtain ⟨hn', _⟩ := ynew _ hk (hn a2) (.inl hq)
    exact ⟨xq hq, evalOp_mono (hk.1.on hn') (hbd X) h1, .inl hq⟩
  · obtain ⟨hkx, hnx⟩ := x45 hc.1
    obtain ⟨hk, hn⟩ := y45 hc.2
    obtain ⟨hn', hne⟩ := ynew _ hk (hn a2) (.inr ⟨_, hkx.1, hkx.at⟩)
    exact ⟨xn _ hkx, evalOp_mono (hk.1.on hn') (hbd X) h1, .inr (.inr ⟨_, _, hkx.1, hk.1, hne _ hkx.1 hkx.at⟩)⟩
  · obtain ⟨i, hki, hi⟩ := x7 hc.1
    obtain ⟨hk, hn⟩ := y45 (.inl hc.2)
    have hi' : (ex.bx s.bx s.us i).isSome = true := by
      obtain ⟨F, _, _, _, k1, _⟩ := hki; rw [k1, updB_at]; rfl
    obtain ⟨hn', hne⟩ := ynew _ hk (hn a2) (.inr ⟨i, hki, hi'⟩)
    exact ⟨by rw [pure_same (bx' := ex.bx s.bx s.us) (.inr hc.2)]; exact h2, evalOp_mono (hk.1.on hn') (hbd X) h1, .inr (.inr ⟨_, _, hki, hk.1, hne _ hki hi'⟩)⟩
  · obtain ⟨hkx, hnx⟩ := x45 (.inl hc.1)
    have hA := xn _ hkx
    obtain ⟨_, _, _, y7'⟩ := opc_eff hcst hA
    obtain ⟨j, hkj, hj⟩ := y7' hc.2
    have hne : newId ⟨b, ox⟩ dx ≠ j := fun e => by rw [← e, hnx a1] at hj; cases hj
    exact ⟨hA, by rw [pure_same (bx' := s.bx) (.inr hc.1)]; exact h1, .inr (.inr ⟨_, _, hkx.1, hkj, hne⟩)⟩
  · obtain ⟨t, x, y, rfl⟩ := opc_store hc.1
    exact ⟨skel_same (store_skel h1).symm hc.2 h2, yq (y3 (by omega)), .inr (.inl (y3 (by omega)))⟩
  · obtain ⟨t, x, y, rfl⟩ := opc_store hc.2
    have hq := x3 (by omega)
    exact ⟨xq hq, skel_same (store_skel (xq hq)) hc.1 h1, .inl hq⟩
  · obtain ⟨⟨hc1, hc2⟩, hc3⟩ := hc
    obtain ⟨t, x, y, rfl⟩ := opc_store hc1
    obtain ⟨av, hav, _⟩ := store_eff h1
    obtain ⟨i, _, hki, hi⟩ := store_keyed h1 hav
    obtain ⟨_, s2⟩ := store_arrs (us := s.us) h1 hav (kdO_is hv (x := x) rfl (by decide) (Nat.eq_of_beq_eq_true hc3) hav)
    have hA := arrays_same s2 hc2 h2
    rcases hc2 with hc2 | hc2
    · exact ⟨hA, yq (y3 (by omega)), .inr (.inl (y3 (by omega)))⟩
    · obtain ⟨hk, hn⟩ := y45 (.inr hc2)
      have hi' : (ex.bx s.bx s.us i).isSome = true := by
        obtain ⟨F, _, _, _, k1, _⟩ := hki; rw [k1, updB_at]; rfl
      obtain ⟨hn', hne⟩ := ynew _ hk (hn a2) (.inr ⟨i, hki, hi'⟩)
      exact ⟨hA, evalOp_mono (hk.1.on hn') (hbd _) h1, .inr (.inr ⟨_, _, hki, hk.1, hne _ hki hi'⟩)⟩
  · obtain ⟨⟨hc1, hc2⟩, hc3⟩ := hc
    obtain ⟨t, x, y, rfl⟩ := opc_store hc2
    have fin : evalOp E ⟨b, oy⟩ dy (s.ev b) s.bx (.store t x y) = some ey → evalOp E ⟨b, ox⟩ dx (s.ev b) (ey.bx s.bx s.us) X = some ex := fun hA => by
      obtain ⟨av, hav, _⟩ := store_eff hA
      obtain ⟨s1, _⟩ := store_arrs (us := s.us) hA hav (kdO_is hv (x := x) rfl (by decide) (Nat.eq_of_beq_eq_true hc3) hav)
      exact arrays_same s1 hc1 h1
    rcases hc1 with hc1 | hc1
    · have hq := x3 (by omega)
      exact ⟨xq hq, fin (xq hq), .inl hq⟩
    · obtain ⟨hkx, hnx⟩ := x45 (.inr hc1)
      have hA := xn _ hkx
      obtain ⟨av, hav, _⟩ := store_eff hA
      obtain ⟨j, _, hkj, hj⟩ := store_keyed hA hav
      have hne : newId ⟨b, ox⟩ dx ≠ j := fun e => by rw [← e, hnx a1] at hj; cases hj
      exact ⟨hA, fin hA, .inr (.inr ⟨_, _, hkx.1, hkj, hne⟩)⟩
  · obtain ⟨⟨hcx, hcy⟩, hs⟩ := hc
    obtain ⟨x, ax, hzx, hax, sx⟩ := acc_site (opc_adr hcx) h1
    obtain ⟨y, ay, hzy, hay, sy⟩ := acc_site (opc_adr hcy) h2
    have hsk : Skel s.bx (ex.bx s.bx s.us) := by
      rcases hcx with hcx | hcx
      · rw [(x3 (by omega)).eqb]; exact skel_refl _
      · obtain ⟨t, p, q, rfl⟩ := opc_store hcx
        exact store_skel h1
    have hne := sep_ne hv hzx hzy hax hay hs sx sy hsk
    have hA : evalOp E ⟨b, oy⟩ dy (s.ev b) s.bx Y = some ey := by
      rw [← h2]
      refine (acc_at hzy hay fun id hid => ?_).symm
      rcases hcx with hcx | hcx
      · rw [(x3 (by omega)).eqb]
      · obtain ⟨t, p, q, rfl⟩ := opc_store hcx
        cases hzx
        obtain ⟨i, hi, hki, _⟩ := store_keyed h1 hax
        exact hki.ne (Ne.symm (hne i id hi hid))
    have hB : evalOp E ⟨b, ox⟩ dx (s.ev b) (ey.bx s.bx s.us) X = some ex := by
      rw [← h1]
      refine acc_at hzx hax fun id hid => ?_
      rcases hcy with hcy | hcy
      · rw [(y3 (by omega)).eqb]
      · obtain ⟨t, p, q, rfl⟩ := opc_store hcy
        cases hzy
        obtain ⟨j, hj, hkj, _⟩ := store_keyed hA hay
        exact hkj.ne (hne id j hid hj)
    refine ⟨hA, hB, ?_⟩
    rcases hcx with hcx | hcx
    · exact .inl (x3 (by omega))
    · rcases hcy with hcy | hcy
      · exact .inr (.inl (y3 (by omega)))
      · obtain ⟨t, p, q, rfl⟩ := opc_store hcx
        obtain ⟨t', p', q', rfl⟩ := opc_store hcy
        cases hzx; cases hzy
        obtain ⟨i, hi, hki, _⟩ := store_keyed h1 hax
        obtain ⟨j, hj, hkj, _⟩ := store_keyed hA hay
        exact .inr (.inr ⟨i, j, hki, hkj, hne i j hi hj⟩)

def commR (E : Env) (ops : Array Oper) (own : Nat → Bool) (tm0 : Nat → Option AV) (i j : Nat) : Bool :=
  match ops[i]?, ops[j]? with
  | some x, some y => x.apart ops y && pairC E ops tm0 (own i) (own j) x.op y.op
  | _, _ => false

theorem commR_ok {i j : Nat} (h : commR E ops own (s0.tm b) i j = true) : CommG (stepR E own b n ops) (InvK E b ops s0) i j := by
  intro s s1 s2 hv h1 h2
  unfold commR at h
  split at h
  · rename_i x y hx hy
    rw [Bool.and_eq_true] at h
    obtain ⟨hap, hpc⟩ := h
    obtain ⟨x', cx, ex, hx', wx, e1, p1⟩ := stepR_spec h1
    rw [hx] at hx'; cases hx'
    obtain ⟨a1, a2, rfl⟩ := app_spec p1
    obtain ⟨y', cy, ey, hy', wy, e2, p2⟩ := stepR_spec h2
    rw [hy] at hy'; cases hy'
    obtain ⟨c1, c2, rfl⟩ := app_spec p2
    obtain ⟨q1, q2, q3⟩ := Oper.apart_spec hap
    have hev : ∀ z ∈ y.op.operands, St.ev ⟨updT s.tm b x.dst (ex.av s.us), ex.bx s.bx s.us, ex.us s.us, s.nl, s.jp⟩ b z = s.ev b z := fun z hz => ev_updT (fun k hk hzk => q1 k hk (by
      subst hzk
      exact List.mem_append_left _ (List.mem_filterMap.2 ⟨.tmp k, by simpa using hz, rfl⟩))) _ _ _ _ s rfl
    have e2' : (bif cy then evalOp E ⟨b, own j⟩ y.dst (s.ev b) (ex.bx s.bx s.us) y.op else some (.put (.cst undef))) = some ey := by
      cases cy with
      | false => exact e2
      | true =>
        simp only [cond_true] at e2 ⊢
        rw [evalOp_congr (ev' := s.ev b) hev] at e2
        exact e2
    have goal : (bif cy then evalOp E ⟨b, own j⟩ y.dst (s.ev b) s.bx y.op else some (.put (.cst undef))) = some ey ∧ (bif cx then evalOp E ⟨b, own i⟩ x.dst (s.ev b) (ey.bx s.bx s.us) x.op else some (.put (.cst undef))) = some ex ∧ Dis ex ey := by
      cases cx with
      | false =>
        cases e1
        exact ⟨e2', rfl, .inl (Quiet.put _)⟩
      | true =>
        cases cy with
        | false =>
          cases e2'
          exact ⟨rfl, e1, .inr (.inl (Quiet.put _))⟩
        | true => exact pair_core hv e1 a2 e2' c2 hpc
    obtain ⟨gA, gB, gD⟩ := goal
    exact comm_core hx hy hap wx e1 a1 a2 wy c1 c2 gA gB gD
  · cases h
end
/-! ### frames that wait, loops that run -/
section
variable {P : Program} {E : Env} {b n : Nat} {O : Octx} {ρ ρ' : Nat → Value} {s t : St} {a : Act} {w w' : World}

/-- An object that is no cells turns. -/
theorem mem_obj {bx : Nat → Option Box} {us : Nat → Nat} {nl D : Nat} {o o' : Obj} (hD : w.heap[D]? = some o) (ho : o.isCells = false) : (mem O ρ bx w).Ext (mem O ρ bx (w.putObj D o')) us nl :=
  ⟨fun k c e z hk hh => ⟨hk, by
    have : k ≠ D := fun e => by
      subst e
      have hh' : w.heap[k]? = some (.cells c _ z) := hh
      rw [hD] at hh'; cases hh'; cases ho
    exact (World.putObj_heap_other this).trans hh⟩, fun _ _ _ h => ⟨h, rfl⟩, fun _ _ _ h => h⟩

theorem below_putObj {D B : Nat} {o : Obj} (h : B ≤ D) : Below B w (w.putObj D o) :=
  ⟨rfl, rfl, rfl, by simp, fun k hk => World.putObj_heap_other (by omega)⟩

theorem RelO.obj (h : RelO O ρ s w) {D : Nat} {o o' : Obj} (hD : w.heap[D]? = some o) (ho : o.isCells = false) (hlt : O.w0.heap.size ≤ D) {jp' : Nat → Option Jmp}
    (hl : ∀ q ∈ O.lps, (w.putObj D o').heap[q.2.1]? = some (loopAt q.2.2 (jp' q.1))) (hk : ∀ q ∈ O.keep, q.1 ≠ D) : RelO O ρ { s with jp := jp' } (w.putObj D o') where
  up := fun p hp t av ht => by
    obtain ⟨h1, h2⟩ := h.up p hp t av ht
    exact ⟨h1, RepA.map (mem_obj hD ho) h1 h2⟩
  bx := fun id B hB => (h.bx id B hB).keep (mem_obj hD ho) (fun _ => Nat.le_refl _) rfl fun k hkk => World.putObj_heap_other fun e => by
    subst e
    obtain ⟨_, cs, e, h1⟩ := (h.bx id B hB).block hkk
    rw [hD] at h1; cases h1; cases ho
  inj := h.inj
  below := h.below.trans (below_putObj hlt)
  lps := fun q hq => ⟨hl q hq, (h.lps q hq).2⟩
  keep := fun q hq => ⟨(World.putObj_heap_other (hk q hq)).trans (h.keep q hq).1, (h.keep q hq).2⟩

/-- The frame waits. -/
def Octx.push (O : Octx) (b : Nat) (tmps : Array Value) (Ds : List Nat) : Octx := { O with ups := (b, tmps) :: O.ups, keep := Ds.map (fun D => (D, .deferred (some []))) ++ O.keep }

structure Waits (b n : Nat) (O : Octx) (a : Act) (Ds : List Nat) : Prop where
  defers : a.defers = Ds.map mark
  nodup : Ds.Nodup
  fresh : ∀ p ∈ O.ups, p.1 ≠ b
  size : a.tmps.size = n
  ds : ∀ D ∈ Ds, O.w0.heap.size ≤ D ∧ (∀ q ∈ O.lps, q.2.1 ≠ D) ∧ ∀ q ∈ O.keep, q.1 ≠ D

theorem RelC.push (h : RelC b n O ρ s a w) : ∃ Ds, Waits b n O a Ds ∧ RelO (O.push b a.tmps Ds) ρ s w := by
  obtain ⟨Ds, h1, h2, h3⟩ := h.defers
  refine ⟨Ds, ⟨h1, h2, h.fresh, h.size, fun D hD => (h3 D hD).2⟩, ?_, h.bx, h.inj, h.below, h.lps, ?_⟩
  · intro p hp t av ht
    rcases List.mem_cons.1 hp with e | hp
    · subst e; exact h.tm t av ht
    · exact h.up p hp t av ht
  · intro q hq
    rcases List.mem_append.1 hq with hq | hq
    · obtain ⟨D, hD, e⟩ := List.mem_map.1 hq
      subst e
      exact ⟨(h3 D hD).1, rfl, (h3 D hD).2.1⟩
    · exact h.keep q hq

theorem RelO.pop {Ds : List Nat} (hw : Waits b n O a Ds) (h : RelO (O.push b a.tmps Ds) ρ s w) : RelC b n O ρ s a w where
  up := fun p hp => h.up p (List.mem_cons_of_mem _ hp)
  bx := h.bx
  inj := h.inj
  below := h.below
  lps := h.lps
  keep := fun q hq => h.keep q (List.mem_append_right _ hq)
  fresh := hw.fresh
  size := hw.size
  tm := fun t av ht => h.up (b, a.tmps) List.mem_cons_self t av ht
  defers := ⟨Ds, hw.defers, hw.nodup, fun D hD => ⟨(h.keep (D, .deferred (some [])) (List.mem_append_left _ (List.mem_map.2 ⟨D, hD, rfl⟩))).1, hw.ds D hD⟩⟩

/-- A frame is laid: what was its own before is let go of. -/
def St.enter (s : St) (b : Nat) (tm : Nat → Option AV) : St := { s with tm := fun f t => bif Nat.beq f b then tm t else s.tm f t, bx := fun id => bif Nat.beq (id / 4096) b then none else s.bx id }

theorem RelO.enter (h : RelO O ρ s w) (hb : ∀ p ∈ O.ups, p.1 ≠ b) {tm : Nat → Option AV} {tmps : Array Value} (hs : tmps.size = n)
    (hr : ∀ t av, tm t = some av → av.bd s.us s.nl = true ∧ RepA (mem O ρ s.bx w) av (tmps.getD t undef)) : RelC b n O ρ (s.enter b tm) { tmps := tmps, defers := [] } w := by
  have hst := h.del (bx' := (s.enter b tm).bx) fun i B hB => by
    simp only [St.enter] at hB
    cases hc : Nat.beq (i / 4096) b with
    | true => rw [hc] at hB; cases hB
    | false => rw [hc] at hB; exact hB
  have h1 := h.move hst
  refine ⟨⟨fun p hp t av ht => ?_, h1.bx, h1.inj, h1.below, h1.lps, h1.keep⟩, hb, hs, fun t av ht => ?_, [], rfl, List.nodup_nil, fun D hD => (by cases hD)⟩
  · have hne : Nat.beq p.1 b = false := Bool.eq_false_iff.2 fun e => hb p hp (Nat.eq_of_beq_eq_true e)
    have ht' : (bif Nat.beq p.1 b then tm t else s.tm p.1 t) = some av := ht
    rw [hne] at ht'
    exact h1.up p hp t av ht'
  · have ht' : (bif Nat.beq b b then tm t else s.tm b t) = some av := ht
    rw [Nat.beq_refl] at ht'
    obtain ⟨h2, h3⟩ := hr t av ht'
    exact ⟨h2, RepA.map hst.ext h2 h3⟩

/-- The frame that runs, an object that is none of its own turned. -/
theorem RelC.obj {Ds Ds' : List Nat} {tmps : Array Value} (h : RelC b n O ρ s ⟨tmps, Ds.map mark⟩ w) {D : Nat} {o o' : Obj} (hD : w.heap[D]? = some o) (ho : o.isCells = false) (hlt : O.w0.heap.size ≤ D) {jp' : Nat → Option Jmp}
    (hl : ∀ q ∈ O.lps, (w.putObj D o').heap[q.2.1]? = some (loopAt q.2.2 (jp' q.1))) (hk : ∀ q ∈ O.keep, q.1 ≠ D)
    (hn : Ds'.Nodup) (hds : ∀ D' ∈ Ds', D' ≠ D ∧ w.heap[D']? = some (.deferred (some [])) ∧ O.w0.heap.size ≤ D' ∧ (∀ q ∈ O.lps, q.2.1 ≠ D') ∧ ∀ q ∈ O.keep, q.1 ≠ D') : RelC b n O ρ { s with jp := jp' } ⟨tmps, Ds'.map mark⟩ (w.putObj D o') where
  toRelO := h.toRelO.obj hD ho hlt hl hk
  fresh := h.fresh
  size := h.size
  tm := fun t av ht => ⟨(h.tm t av ht).1, RepA.map (mem_obj hD ho) (h.tm t av ht).1 (h.tm t av ht).2⟩
  defers := ⟨Ds', rfl, hn, fun D' hD' => by
    obtain ⟨g1, g2, g3⟩ := hds D' hD'
    exact ⟨(World.putObj_heap_other g1).trans g2, g3⟩⟩

/-- The marks on the way out. -/
theorem leave_marks {F : Fence} {m : Nat} {fn : Func} {tmps : Array Value} {R : Ending → World → Prop} (hR : ∀ w', RelC b n O ρ s ⟨tmps, []⟩ w' → ∃ v, (results fn tmps).run P w' = .ok v w' ∧ R (.returned v) w') : ∀ (Ds : List Nat) (w1 : World),
    RelC b n O ρ s ⟨tmps, Ds.map mark⟩ w1 → LeavesInM F m P fn tmps R (Ds.map mark) .returning w1
  | [], w1, h => hR w1 h
  | D :: Ds, w1, h => by
    obtain ⟨Ds0, e0, hn, hD⟩ := h.defers
    have hinj : ∀ (l l' : List Nat), l.map mark = l'.map mark → l = l' := by
      intro l
      induction l with
      | nil => intro l' e; cases l' with
        | nil => rfl
        | cons x l' => simp at e
      | cons x l ih => intro l' e; cases l' with
        | nil => simp at e
        | cons x' l' =>
          simp only [List.map_cons, List.cons.injEq, mark, Deferred.mk.injEq, Target.collected.injEq] at e
          rw [e.1.1, ih l' e.2]
    have e1 := hinj _ _ e0
    subst e1
    obtain ⟨h1, h2, h3, h4⟩ := hD D List.mem_cons_self
    refine ⟨by simp, .inl ⟨D, w1.putObj D (.deferred none), rfl, run_takeDeferred h1, ?_⟩⟩
    have hne : ∀ D' ∈ Ds, D' ≠ D := fun D' hD' e => (List.nodup_cons.1 hn).1 (e ▸ hD')
    refine leave_marks hR Ds _ ?_
    exact h.obj (jp' := s.jp) h1 rfl h2 (fun q hq => (World.putObj_heap_other (h3 q hq)).trans (h.lps q hq).1) h4 (List.nodup_cons.1 hn).2 fun D' hD' => ⟨hne D' hD', hD D' (List.mem_cons_of_mem _ hD')⟩
end
/-! ### what a function hands back; a call in place -/
section
variable {P : Program} {E : Env} {b n : Nat} {O : Octx} {ρ ρ' : Nat → Value} {s t : St} {a : Act} {w w' : World}

theorem loadA_run (hE : E.OK P) (h : RelO O ρ s w) {t : TypeId} {q : Nat × Bool × AV} (hq : E.lay t = some q) {av p : AV} {v : Value} (hrep : RepA (mem O ρ s.bx w) av v) (hp : loadA s.bx q.1 q.2.1 av = some p) :
    ∃ ad u, v = .pointer (some ad) ∧ (loadVar t ad).run P w = .ok u w ∧ RepB (mem O ρ s.bx w) p u := by
  obtain ⟨ti, d, hL⟩ := hE.lay t q hq
  have fin : ∀ (g off : Nat) (ds : List Value) (p' : AV), v = .pointer (some ⟨g, off, none⟩) → At w g off ds → ds.length = q.1 → HoldsA (mem O ρ s.bx w) p' ds → (bif p'.fit && (p'.agg == q.2.1) then some p' else none) = some p →
      ∃ ad u, v = .pointer (some ad) ∧ (loadVar t ad).run P w = .ok u w ∧ RepB (mem O ρ s.bx w) p u :=
    fun g off ds p' hx ha hl hd hc => by
      obtain ⟨rfl, hf, hag⟩ := pick_of (R := Unit) hc
      refine ⟨_, mkA p ds, hx, ?_, hd.rep⟩
      have h1 : q.2.1 = false → q.1 = 1 := fun hb => by rw [← hl, HoldsA.len _ _ hd]; exact agg_one _ hf (hag.trans hb)
      rw [run_loadVar_at hL ha hl h1, hd.mk hf, hag]
  unfold loadA at hp
  split at hp
  · rename_i id ver off
    split at hp
    · rename_i ver' c hB
      cases hv : Nat.beq ver ver' with
      | false => rw [hv] at hp; cases hp
      | true =>
        rw [hv] at hp
        have hv' := Nat.eq_of_beq_eq_true hv
        subst hv'
        simp only [cond_true] at hp
        split at hp
        · rename_i p' hp'
          obtain ⟨g, cs, e, hx, _, hh, hc⟩ := ptr_at h hB hrep
          obtain ⟨h1, h2⟩ := subA_holds _ _ _ _ _ hp' hc
          have hat : At w g 0 cs.toList := ⟨cs, e, _, hh, fun j v hj => by simpa using hj⟩
          have hat' := At.part (k := off) (m := q.1) hat
          rw [Nat.zero_add] at hat'
          exact fin g off _ p' hx hat' (by simp at h2 ⊢; omega) h1 hp
        · cases hp
    · cases hp
  · rename_i id ver sz i off
    split at hp
    · rename_i ver' e T l hB
      cases hv : (Nat.beq ver ver' && Nat.beq sz T.size) with
      | false => rw [hv] at hp; cases hp
      | true =>
        rw [hv] at hp
        rw [Bool.and_eq_true] at hv
        have hv1 := Nat.eq_of_beq_eq_true hv.1
        have hv2 := Nat.eq_of_beq_eq_true hv.2
        subst hv1; subst hv2
        simp only [cond_true, Option.bind_eq_some_iff] at hp
        obtain ⟨y, hy, hp⟩ := hp
        split at hp
        · rename_i p' hp'
          obtain ⟨g, m, cap, cur, c, hx, _, _, hat, hc, _, _⟩ := elt_at h hB hrep hy
          obtain ⟨h1, h2⟩ := subS_holds (M := mem O ρ s.bx w) _ _ _ _ _ _ hp' hc
          exact fin g _ _ p' hx (At.part hat) (by simp; omega) h1 hp
        · cases hp
    · cases hp
  · rename_i T y off
    split at hp
    · rename_i p' hp'
      obtain ⟨cs, ⟨g, o', ds, e, hk, ha, hc⟩, hx⟩ := hrep
      have hx' : v = .pointer (some ⟨g, o' + off, none⟩) := by rw [hx, e]; rfl
      obtain ⟨h1, h2⟩ := subS_holds (M := mem O ρ s.bx w) _ _ _ _ _ _ hp' hc
      exact fin g _ _ p' hx' (At.part ha) (by simp; omega) h1 hp
    · cases hp
  · cases hp

def isTup : AV → Bool
  | .tup _ => true
  | _ => false

def retA (E : Env) (s : St) (b : Nat) : List ResultVar → Option AV
  | [] => some .nl
  | .tmp p :: r => match s.tm b p with
    | some av => bif isTup av then none else (retA E s b r).map (.pr av)
    | none => none
  | .cell p ty :: r => match s.tm b p, E.lay ty with
    | some av, some q => match loadA s.bx q.1 q.2.1 av with
      | some y => (retA E s b r).map (.pr y)
      | none => none
    | _, _ => none

def resA : AV → AV
  | .pr a .nl => a
  | c => .tup c

theorem asAddr_ptr (x : Addr) : asAddr (.pointer (some x)) = pure x := rfl

theorem retA_sound (hE : E.OK P) (h : RelC b n O ρ s a w) : ∀ (rs : List ResultVar) (c : AV), retA E s b rs = some c →
    ∃ vs, (rs.mapM (fun | .tmp t => pure (a.tmps.getD t undef) | .cell p t => do loadVar t (← asAddr (a.tmps.getD p undef)) : ResultVar → Sem Value)).run P w = .ok vs w ∧ TupA (mem O ρ s.bx w) c vs ∧ c.bd s.us s.nl = true
  | [], c, he => by cases he; exact ⟨[], rfl, rfl, rfl⟩
  | .tmp p :: rs, c, he => by
    simp only [retA] at he
    split at he
    · rename_i av hav
      cases ht : isTup av with
      | true => rw [ht] at he; cases he
      | false =>
        rw [ht] at he
        simp only [cond_false, Option.map_eq_some_iff] at he
        obtain ⟨c', hc', e⟩ := he
        subst e
        obtain ⟨vs, h1, h2, h3⟩ := retA_sound hE h rs c' hc'
        obtain ⟨g1, g2⟩ := h.tm p av hav
        refine ⟨_ :: vs, ?_, ⟨_, _, rfl, g2.toB (fun c e => by rw [e] at ht; cases ht), h2⟩, by simp [AV.bd, g1, h3]⟩
        simp only [List.mapM_cons, Sem.run_bind, Sem.run_pure, Result.andThen_ok, h1]
    · cases he
  | .cell p ty :: rs, c, he => by
    simp only [retA] at he
    split at he
    · rename_i av q hav hq
      split at he
      · rename_i y hy
        rw [Option.map_eq_some_iff] at he
        obtain ⟨c', hc', e⟩ := he
        subst e
        obtain ⟨vs, h1, h2, h3⟩ := retA_sound hE h rs c' hc'
        obtain ⟨g1, g2⟩ := h.tm p av hav
        obtain ⟨ad, u, e1, e2, e3⟩ := loadA_run hE h.toRelO hq g2 hy
        refine ⟨u :: vs, ?_, ⟨_, _, rfl, e3, h2⟩, ?_⟩
        · simp only [List.mapM_cons, e1, asAddr_ptr, Sem.run_bind, Sem.run_pure, Result.andThen_ok, e2, h1]
        · have : y.bd s.us s.nl = true := loadA_bd h.bds.bx hy
          simp [AV.bd, this, h3]
      · cases he
    · cases he

theorem resA_rep {M : Mm} {c : AV} {vs : List Value} (h : TupA M c vs) : RepA M (resA c) (if h : vs.toArray.size = 1 then vs.toArray[0] else .tuple vs.toArray) := by
  have two : ∀ (c : AV) (vs : List Value), TupA M c vs → (∀ x, c ≠ .pr x .nl) → vs.length ≠ 1 := fun c vs h hc => by
    cases c <;> try exact h.elim
    · rename_i x y
      obtain ⟨u, r, e, h1, h2⟩ := h
      subst e
      cases y <;> try exact h2.elim
      · obtain ⟨u', r', e', _⟩ := h2; subst e'; simp
      · exact absurd rfl (hc x)
    · rw [show vs = [] from h]; simp
  unfold resA
  split
  · obtain ⟨u, r, e, h1, h2⟩ := h
    rw [show r = [] from h2] at e
    subst e
    exact RepB.toA h1
  · rename_i hc
    have hl := two _ vs h (fun x e => hc x e)
    rw [dif_neg (by simpa using hl)]
    exact ⟨vs, rfl, h⟩

theorem resA_bd {us : Nat → Nat} {nl : Nat} {c : AV} (h : c.bd us nl = true) : (resA c).bd us nl = true := by
  unfold resA
  split
  · simp only [AV.bd, Bool.and_eq_true] at h; exact h.1
  · exact h

/-- What follows a function's body. -/
def retQ (E : Env) (b : Nat) (fn : Func) (Q : St → AV → Prop) (e : Exit) (t : St) : Prop := (e = .ret ∨ e = .normal) ∧ ∃ c, retA E t b fn.results.toList = some c ∧ Q t (resA c)

/-- What a call in place leaves. -/
def LeftBy (O : Octx) (Q : St → AV → Prop) (e : Ending) (w : World) : Prop := ∃ v t av ρ, e = .returned v ∧ RelO O ρ t w ∧ RepA (mem O ρ t.bx w) av v ∧ av.bd t.us t.nl = true ∧ Q t av

theorem call_place (hE : E.OK P) {r : Option Nat} {m : Nat} {f : FuncId} {fn : Func} {c : Code} {args : Array Value} {Q : St → AV → Prop} (hf : P.funcs[f]? = some fn) (hb : fn.body = some c)
    (h : c.wpIn (FW none) 0 P (fun e a' w' => ∃ t, retQ E b fn Q e t ∧ Rel b fn.ntmps O t a' w') { tmps := args ++ Array.replicate (fn.ntmps - args.size) undef, defers := [] } w) :
    CallsIn (FW r) m P f args w (LeftBy O Q) := by
  have h0 : CallsIn (FW none) 0 P f args w (LeftBy O Q) := by
    refine callsIn_of_wp_marks hf hb trivial (wpIn_mono h fun e a' w' ⟨t, ⟨he, c, hc, hq⟩, ρ, hrel⟩ => ?_)
    have key : LeavesInM (FW none) 0 P fn a'.tmps (LeftBy O Q) a'.defers .returning w' := by
      obtain ⟨Ds, hDs, hD⟩ := hrel.defers
      rw [hDs]
      refine leave_marks (b := b) (n := fn.ntmps) (O := O) (ρ := ρ) (s := t) (fun w2 h2 => ?_) Ds w' ?_
      · obtain ⟨vs, h3, h4, h5⟩ := retA_sound hE h2 _ _ hc
        refine ⟨_, ?_, _, t, _, ρ, rfl, h2.toRelO, resA_rep h4, resA_bd h5, hq⟩
        unfold results
        rw [show fn.results = fn.results.toList.toArray by simp, List.mapM_toArray]
        simp only [Sem.run_bind, Sem.run_map]
        exact (congrArg (fun r : Result (List Value) => (r.andThen fun x w' => Result.ok x.toArray w').andThen fun vs w' => (pure (if h : vs.size = 1 then vs[0] else Value.tuple vs) : Sem Value).run P w') h3).trans rfl
      · rw [← hDs]; exact hrel
    rcases he with rfl | rfl
    · exact key
    · exact key
  exact callsFW.2 (callsFW.1 h0)
end
/-! ### where a piece of code stands -/

inductive Dir where
  | s1 | s2 | c1 | c2 | b | l | ra | rb

def Code.down : Code → Dir → Code
  | .seq x _, .s1 => x
  | .seq _ y, .s2 => y
  | .cond _ x _, .c1 => x
  | .cond _ _ y, .c2 => y
  | .block _ c, .b => c
  | .loop c, .l => c
  | .rangeFunc _ _ c _, .ra => c
  | .rangeFunc _ _ _ c, .rb => c
  | _, _ => .skip

/-- The piece at a place: the last step stands first. -/
def atR (c : Code) : List Dir → Code
  | [] => c
  | d :: p => Code.down (atR c p) d

def codeOf (E : Env) (f : FuncId) : Code :=
  match E.fn f with
  | some fn => fn.body.getD .skip
  | none => .skip

/-- A loop over a function, under way: its number; the frame that waits, and its size; where it stands. -/
structure LoopI where
  k : Nat
  b : Nat
  n : Nat
  f : FuncId
  p : List Dir

structure Ctx where
  b : Nat
  n : Nat
  rd : Bool
  act : List Nat
  ys : List LoopI

structure Fits (E : Env) (X : Ctx) (O : Octx) (r : Option Nat) : Prop where
  g : GOK E O
  rd : r.isSome = X.rd
  act : ∀ p ∈ O.ups, p.1 ∈ X.act
  ys : ∀ q ∈ O.lps, ∃ y ∈ X.ys, y.k = q.1
  at_ : ∀ y ∈ X.ys, ∃ l r', O.lm y.k = some l ∧ (y.k, l, r') ∈ O.lps ∧ (y.b, r'.tmps) ∈ O.ups ∧ r'.tmps.size = y.n ∧ ∃ g, atR (codeOf E y.f) y.p = .rangeFunc g r'.params r'.assign r'.body
  key : ∀ q ∈ O.lps, ∀ q' ∈ O.lps, q.1 = q'.1 → q = q'
  blk : ∀ q ∈ O.lps, ∀ q' ∈ O.lps, q.2.1 = q'.2.1 → q = q'
  keep : ∀ q ∈ O.keep, q.2 = .deferred (some [])

def Awp (P : Program) (X : Ctx) (O : Octx) (r : Option Nat) (c : Code) (Q : Exit → St → Prop) (s : St) : Prop :=
  ∀ a w, Rel X.b X.n O s a w → c.wpIn (FW r) 0 P (fun e a' w' => ∃ t, Q e t ∧ Rel X.b X.n O t a' w') a w

def St.putT (s : St) (b : Nat) (dst : Option Nat) (av : AV) : St := { s with tm := updT s.tm b dst av }

/-- A call's frame. -/
def Ctx.call (X : Ctx) (b n : Nat) : Ctx := ⟨b, n, false, X.b :: X.act, X.ys⟩
/-- A round's frame. -/
def Ctx.round (X : Ctx) (b n : Nat) : Ctx := ⟨b, n, true, X.b :: X.act, X.ys⟩
/-- The frame of a function that is ranged over. -/
def Ctx.range (X : Ctx) (b n k : Nat) (f : FuncId) (p : List Dir) : Ctx := ⟨b, n, false, X.b :: X.act, ⟨k, X.b, X.n, f, p⟩ :: X.ys⟩

def Ctx.free (X : Ctx) (b : Nat) : Bool := !(Nat.beq X.b b) && X.act.all fun c => !(Nat.beq c b)

section
variable {P : Program} {E : Env} {X : Ctx} {O : Octx} {r : Option Nat} {ρ ρ' : Nat → Value} {s t : St} {a : Act} {w w' : World} {o : Oper} {b n : Nat}

theorem Fits.push (h : Fits E X O r) (tmps : Array Value) (Ds : List Nat) (m : Nat) : Fits E (X.call b m) (O.push X.b tmps Ds) none where
  g := h.g
  rd := rfl
  act := fun p hp => by
    rcases List.mem_cons.1 hp with e | hp
    · subst e; exact List.mem_cons_self
    · exact List.mem_cons_of_mem _ (h.act p hp)
  ys := h.ys
  at_ := fun y hy => by
    obtain ⟨l, r', h1, h2, h3, h4⟩ := h.at_ y hy
    exact ⟨l, r', h1, h2, List.mem_cons_of_mem _ h3, h4⟩
  key := h.key
  blk := h.blk
  keep := fun q hq => by
    rcases List.mem_append.1 hq with hq | hq
    · obtain ⟨D, _, e⟩ := List.mem_map.1 hq; subst e; rfl
    · exact h.keep q hq

theorem Fits.round (h : Fits E X O r) (tmps : Array Value) (Ds : List Nat) (m l : Nat) : Fits E (X.round b m) (O.push X.b tmps Ds) (some l) where
  g := h.g
  rd := rfl
  act := (h.push (b := b) tmps Ds m).act
  ys := h.ys
  at_ := (h.push (b := b) tmps Ds m).at_
  key := h.key
  blk := h.blk
  keep := (h.push (b := b) tmps Ds m).keep

theorem Ctx.free_spec (h : Fits E X O r) (hf : X.free b = true) (tmps : Array Value) (Ds : List Nat) : ∀ p ∈ (O.push X.b tmps Ds).ups, p.1 ≠ b := fun p hp e => by
  simp only [Ctx.free, Bool.and_eq_true, Bool.not_eq_true', List.all_eq_true] at hf
  rcases List.mem_cons.1 hp with e1 | hp
  · subst e1; have e' : X.b = b := e; rw [e', Nat.beq_refl] at hf; cases hf.1
  · have := hf.2 _ (h.act p hp)
    rw [e, Nat.beq_refl] at this; cases this

def seqA : List (Option AV) → Option (List AV)
  | [] => some []
  | some av :: l => match seqA l with | some r => some (av :: r) | none => none
  | none :: _ => none

def capsL : AV → Option (List AV)
  | .nl => some []
  | .pr a c => bif a.fit && Nat.beq a.size 1 && !a.agg then (match capsL c with | some l => some (a :: l) | none => none) else none
  | _ => none

theorem seqA_spec : ∀ (l : List (Option AV)) (avs : List AV), seqA l = some avs → l = avs.map some
  | [], avs, h => by cases h; rfl
  | some av :: l, avs, h => by
    simp only [seqA] at h
    split at h
    · rename_i q hq; cases h; rw [seqA_spec l q hq]; rfl
    · cases h
  | none :: _, _, h => by cases h

/-- One cell, of no part. -/
theorem holds_one {M : Mm} {av : AV} {u : Value} (h1 : av.fit = true) (h2 : av.size = 1) (h3 : av.agg = false) (h : HoldsA M av [u]) : RepA M av u := by
  have := h.rep
  rw [h.mk h1, h3] at this
  exact RepB.toA this

theorem capsL_rep {M : Mm} : ∀ (c : AV) (l : List AV) (vs : List Value), capsL c = some l → HoldsA M c vs → vs.length = l.length ∧ ∀ t av, l[t]? = some av → RepA M av (vs.getD t undef)
  | .nl, l, vs, h, hh => by cases h; rw [show vs = [] from hh]; exact ⟨rfl, fun _ _ e => by cases e⟩
  | .pr a c, l, vs, h, hh => by
    obtain ⟨c1, c2, e, h1, h2⟩ := hh
    simp only [capsL] at h
    cases hc : (a.fit && Nat.beq a.size 1 && !a.agg) with
    | false => rw [hc] at h; cases h
    | true =>
      rw [hc] at h
      simp only [cond_true] at h
      simp only [Bool.and_eq_true, Bool.not_eq_true'] at hc
      obtain ⟨⟨g1, g2⟩, g3⟩ := hc
      have g2 := Nat.eq_of_beq_eq_true g2
      split at h
      · rename_i q hq
        cases h
        obtain ⟨h3, h4⟩ := capsL_rep c q c2 hq h2
        have hl := HoldsA.len _ _ h1
        rw [g2] at hl
        match c1, hl, h1 with
        | [u], _, h1 =>
          subst e
          refine ⟨by simp [h3], fun t av ht => ?_⟩
          cases t with
          | zero => cases ht; exact holds_one g1 g2 g3 h1
          | succ t => simpa using h4 t av ht
      · cases h
  | .cst _, _, _, h, _ => by cases h
  | .v _ _, _, _, h, _ => by cases h
  | .ptr _ _ _, _, _, h, _ => by cases h
  | .elt _ _ _ _ _, _, _, h, _ => by cases h
  | .ro _ _ _, _, _, h, _ => by cases h
  | .arr _ _, _, _, h, _ => by cases h
  | .clo _ _, _, _, h, _ => by cases h
  | .yld _, _, _, h, _ => by cases h
  | .tup _, _, _, h, _ => by cases h

theorem capsL_bd {us : Nat → Nat} {nl : Nat} : ∀ (c : AV) (l : List AV), capsL c = some l → c.bd us nl = true → ∀ av ∈ l, av.bd us nl = true
  | .nl, l, h, _ => by cases h; exact fun _ h => by cases h
  | .pr a c, l, h, hb => by
    simp only [capsL] at h
    simp only [AV.bd, Bool.and_eq_true] at hb
    cases hc : (a.fit && Nat.beq a.size 1 && !a.agg) with
    | false => rw [hc] at h; cases h
    | true =>
      rw [hc] at h
      simp only [cond_true] at h
      split at h
      · rename_i q hq
        cases h
        intro av hav
        rcases List.mem_cons.1 hav with e | hav
        · subst e; exact hb.1
        · exact capsL_bd c q hq hb.2 av hav
      · cases h
  | .cst _, _, h, _ => by cases h
  | .v _ _, _, h, _ => by cases h
  | .ptr _ _ _, _, h, _ => by cases h
  | .elt _ _ _ _ _, _, h, _ => by cases h
  | .ro _ _ _, _, h, _ => by cases h
  | .arr _ _, _, h, _ => by cases h
  | .clo _ _, _, h, _ => by cases h
  | .yld _, _, h, _ => by cases h
  | .tup _, _, h, _ => by cases h

/-- The temporaries that a function is entered with. -/
def inTm (avs : List AV) (t : Nat) : Option AV := avs[t]?

theorem in_rep {M : Mm} {us : Nat → Nat} {nl : Nat} {avs : List AV} {vs : List Value} (hl : vs.length = avs.length) (hr : ∀ t av, avs[t]? = some av → av.bd us nl = true ∧ RepA M av (vs.getD t undef)) (m : Nat) :
    ∀ t av, inTm avs t = some av → av.bd us nl = true ∧ RepA M av ((vs.toArray ++ Array.replicate (m - vs.toArray.size) undef).getD t undef) := fun t av ht => by
  obtain ⟨h1, h2⟩ := hr t av ht
  have hlt : t < vs.length := by rw [hl]; exact (List.getElem?_eq_some_iff.1 ht).1
  refine ⟨h1, ?_⟩
  have : (vs.toArray ++ Array.replicate (m - vs.toArray.size) undef).getD t undef = vs.getD t undef := by
    simp [Array.getElem?_append, hlt]
  rw [this]; exact h2

theorem args_rep (h : RelC b n O ρ s a w) : ∀ (l : List Operand) (avs : List AV), seqA (l.map (s.ev b)) = some avs → (l.map a.eval).length = avs.length ∧ ∀ t av, avs[t]? = some av → av.bd s.us s.nl = true ∧ RepA (mem O ρ s.bx w) av ((l.map a.eval).getD t undef) := fun l avs hs => by
  have he := seqA_spec _ _ hs
  have hlen : l.length = avs.length := by simpa using congrArg List.length he
  refine ⟨by simpa using hlen, fun t av ht => ?_⟩
  have hlt : t < l.length := by rw [hlen]; exact (List.getElem?_eq_some_iff.1 ht).1
  have h1 : (l.map (s.ev b))[t]? = (avs.map some)[t]? := by rw [he]
  simp only [List.getElem?_map, ht, List.getElem?_eq_getElem hlt, Option.map_some, Option.some.injEq] at h1
  have : (l.map a.eval).getD t undef = a.eval l[t] := by simp [hlt]
  rw [this]
  exact ⟨h.bds.ev _ _ h1, h.ev h1⟩

theorem putT_rel (h : RelC b n O ρ s a w) {dst : Option Nat} {av : AV} {v : Value} (hd : (dst.all fun d => Nat.blt d n) = true) (hb : av.bd s.us s.nl = true) (hr : RepA (mem O ρ s.bx w) av v) : Rel b n O (s.putT b dst av) (a.put dst v) w :=
  ⟨ρ, h.putO hd hb hr⟩

/-- A function value is called in place. -/
theorem wpOp_place (hE : E.OK P) (hF : Fits E X O r) (h : RelC X.b X.n O ρ s a w) {x : Operand} {args : Array Operand} {ats : Array TypeId} (ho : o.op = .call ⟨.value x, args, ats⟩) {f : FuncId} {caps : AV} (hx : s.ev X.b x = some (.clo f caps))
    {fn : Func} (hfn : E.fn f = some fn) {avs cl : List AV} (hav : seqA (args.toList.map (s.ev X.b)) = some avs) (hcl : capsL caps = some cl) (hsz : avs.length + cl.length ≤ fn.ntmps) (hb : X.free b = true) (hd : (o.dst.all fun d => Nat.blt d X.n) = true)
    {Q : St → AV → Prop} (hrun : ∀ O', Fits E (X.call b fn.ntmps) O' none → Awp P (X.call b fn.ntmps) O' none (codeOf E f) (retQ E b fn Q) (s.enter b (inTm (avs ++ cl))))
    {K : Act → World → Prop} {Qx : Exit → Act → World → Prop} (hK : ∀ t av, Q t av → ∀ a' w', Rel X.b X.n O (t.putT X.b o.dst av) a' w' → K a' w') : o.wpIn (FW r) 0 P a w K Qx := by
  obtain ⟨hf, hn, hbody⟩ := hE.fn f fn hfn
  obtain ⟨c, hc⟩ := Option.isSome_iff_exists.1 hbody
  have hcode : codeOf E f = c := by simp [codeOf, hfn, hc]
  have hxr := h.ev hx
  obtain ⟨cs, ⟨l, e1, h1⟩, h2⟩ := hxr
  have hxv : a.eval x = .func (.func f) #[] l.toArray := by rw [h2, e1]; rfl
  have hrunop : (execOp a.eval o).run P w = .ok (.enter f (args.map a.eval ++ l.toArray)) w := by
    simp only [execOp, ho, resolve, hxv, Deferred.ofValue, Sem.run_bind, Sem.run_pure, Result.andThen_ok, invoke]
    simpa using run_callFunc (w := w) hf hn hc (args.map a.eval ++ l.toArray)
  refine ⟨fun _ _ => trivial, ?_⟩
  rw [Oper.semAt_eq _ _ _ (fun c hc => by rw [ho] at hc; cases hc), hrunop]
  refine ⟨fun hd => (by cases hd), ?_⟩
  obtain ⟨Ds, hw, hO⟩ := h.push
  have hF' := hF.push (b := b) a.tmps Ds fn.ntmps
  obtain ⟨ha1, ha2⟩ := args_rep h args.toList avs hav
  obtain ⟨hc1, hc2⟩ := capsL_rep caps cl l hcl h1
  have hxb : (AV.clo f caps).bd s.us s.nl = true := h.bds.ev _ _ hx
  have hcb := capsL_bd (us := s.us) (nl := s.nl) caps cl hcl hxb
  have hvals : args.map a.eval ++ l.toArray = (args.toList.map a.eval ++ l).toArray := by
    rw [← List.append_toArray, ← Array.toList_map, Array.toArray_toList]
  have hlen : (args.toList.map a.eval ++ l).length = (avs ++ cl).length := by simp only [List.length_append, ha1, hc1]
  have hrep : ∀ t av, (avs ++ cl)[t]? = some av → av.bd s.us s.nl = true ∧ RepA (mem (O.push X.b a.tmps Ds) ρ s.bx w) av ((args.toList.map a.eval ++ l).getD t undef) := fun t av ht => by
    rw [List.getElem?_append] at ht
    split at ht
    · rename_i hlt
      have := ha2 t av ht
      have e : (args.toList.map a.eval ++ l).getD t undef = (args.toList.map a.eval).getD t undef := by
        rw [← ha1] at hlt
        simp only [List.getD_eq_getElem?_getD, List.getElem?_append_left hlt]
      rw [e]; exact this
    · rename_i hlt
      have e : (args.toList.map a.eval ++ l).getD t undef = l.getD (t - avs.length) undef := by
        have hge : (args.toList.map a.eval).length ≤ t := by rw [ha1]; omega
        simp only [List.getD_eq_getElem?_getD, List.getElem?_append_right hge, ha1]
      rw [e]
      exact ⟨hcb av (List.mem_of_getElem? ht), hc2 _ av ht⟩
  have hrel := hO.enter (n := fn.ntmps) (Ctx.free_spec hF hb a.tmps Ds) (tm := inTm (avs ++ cl)) (tmps := (args.toList.map a.eval ++ l).toArray ++ Array.replicate (fn.ntmps - (args.toList.map a.eval ++ l).toArray.size) undef) (by
    have : (args.toList.map a.eval ++ l).length ≤ fn.ntmps := by rw [hlen, List.length_append]; exact hsz
    simp at this ⊢; omega) (in_rep hlen hrep fn.ntmps)
  rw [hvals]
  have hwp := hrun _ hF' _ _ ⟨ρ, hrel⟩
  rw [hcode] at hwp
  refine (call_place (m := 0 - 1) hE hf hc hwp).mono fun e w' ⟨v, t, av, ρ', e1, h3, h4, h5, h6⟩ => ?_
  subst e1
  exact hK t av h6 _ _ (putT_rel (h3.pop hw) hd h5 h4)

/-- A function value whose function is told. -/
theorem wpOp_spec (hE : E.OK P) (hF : Fits E X O r) (h : RelC X.b X.n O ρ s a w) {x : Operand} {args : Array Operand} {ats : Array TypeId} (ho : o.op = .call ⟨.value x, args, ats⟩) {f : FuncId} (hx : s.ev X.b x = some (.clo f .nl))
    {S : Spec} (hS : E.tab f = some S) {xs : HL S.args} {y : HL S.res} (hxs : asBL s.bx S.args (args.toList.map (s.ev X.b)) = some xs) (hy : S.F xs = some y)
    (happ : s.app X.b X.n o.dst (if freeL S.res = true then .put (resAV S.res y) else .del (idsL (args.toList.map (s.ev X.b))) (resAV S.res y)) = some t)
    {K : Act → World → Prop} {Qx : Exit → Act → World → Prop} (hK : ∀ a' w', Rel X.b X.n O t a' w' → K a' w') : o.wpIn (FW r) 0 P a w K Qx := by
  have hfs := (hE.tab f S hS).1
  obtain ⟨fn, c, hf, hn, hc⟩ := hfs
  have hxr := h.ev hx
  obtain ⟨cs, ⟨l, e1, h1⟩, h2⟩ := hxr
  have hl : l = [] := h1
  subst hl
  have hxv : a.eval x = .func (.func f) #[] #[] := by rw [h2, e1]; rfl
  have hrunop : (execOp a.eval o).run P w = .ok (.enter f (args.map a.eval)) w := by
    simp only [execOp, ho, resolve, hxv, Deferred.ofValue, Sem.run_bind, Sem.run_pure, Result.andThen_ok, invoke]
    simpa using run_callFunc (w := w) hf hn hc (args.map a.eval)
  have hok := evalOp_spec hE hF.g h hrunop hS hxs hy
  have hb : ∀ (e : Eff), e = (if freeL S.res = true then .put (resAV S.res y) else .del (idsL (args.toList.map (s.ev X.b))) (resAV S.res y)) → (e.av s.us).bd (e.us s.us) s.nl = true := fun e he => by
    subst he
    split <;> exact resAV_bd _ _
  have hb := hb _ rfl
  refine ⟨fun _ _ => trivial, ?_⟩
  rw [Oper.semAt_eq _ _ _ (fun c hc => by rw [ho] at hc; cases hc)]
  rcases hok with ⟨v, w', hrun, ha⟩ | ⟨w', hrun, ha⟩ | ⟨f', args', hrun, hc'⟩
  · rw [hrun]; exact hK _ _ (h.after ha hb happ)
  · rw [hrun]; exact hK _ _ (h.after ha hb happ)
  · rw [hrun]
    refine ⟨fun hd => (by cases hd), callsFW.2 (hc'.mono fun en w' he => ?_)⟩
    obtain ⟨v, e1, ha⟩ := he
    subst e1
    exact hK _ _ (h.after ha hb happ)
end
/-! ### rounds, and the statement that ranges over a function -/
section
variable {P : Program} {E : Env} {X : Ctx} {O : Octx} {r : Option Nat} {ρ ρ' : Nat → Value} {s t : St} {a : Act} {w w' : World} {o : Oper} {b n : Nat}

def setJ (jp : Nat → Option Jmp) (k : Nat) (j : Option Jmp) : Nat → Option Jmp := fun i => bif Nat.beq i k then j else jp i

theorem setJ_at {jp : Nat → Option Jmp} {k : Nat} {j : Option Jmp} : setJ jp k j k = j := by simp [setJ]
theorem setJ_ne {jp : Nat → Option Jmp} {k i : Nat} {j : Option Jmp} (h : i ≠ k) : setJ jp k j i = jp i := by simp only [setJ, bif_beq]; rw [if_neg h]

def St.setJ (s : St) (k : Nat) (j : Option Jmp) : St := { s with jp := Rf.setJ s.jp k j }

theorem RelC.loopTo (h : RelC b n O ρ s a w) (hF : Fits E X O r) {k l : Nat} {r' : Loop} (hq : (k, l, r') ∈ O.lps) (j : Option Jmp) : RelC b n O ρ (s.setJ k j) a (w.putObj l (loopAt r' j)) := by
  obtain ⟨Ds, hDs, hn, hD⟩ := h.defers
  obtain ⟨tmps, defers⟩ := a
  simp only at hDs
  subst hDs
  have hl := h.lps _ hq
  refine RelC.obj h hl.1 (loopAt_notCells _ _) hl.2 (fun q hq' => ?_) (fun q hq' e => ?_) hn fun D' hD' => ⟨fun e => ?_, hD D' hD'⟩
  · by_cases e : q.2.1 = l
    · have := hF.blk q hq' (k, l, r') hq e
      subst this
      show _ = some (loopAt r' (Rf.setJ s.jp k j k))
      rw [setJ_at]
      exact World.putObj_heap_same (Array.getElem?_eq_some_iff.1 hl.1).1
    · have hne : q.1 ≠ k := fun e' => e (by rw [hF.key q hq' (k, l, r') hq e'])
      rw [World.putObj_heap_other e, setJ_ne hne]
      exact (h.lps q hq').1
  · have h1 := (h.keep q hq').1
    rw [e, hF.keep q hq'] at h1
    have h2 : w.heap[l]? = some (loopAt r' (s.jp k)) := hl.1
    rw [h2] at h1
    cases hj : s.jp k with
    | none => rw [hj] at h1; cases h1
    | some x => rw [hj] at h1; cases x <;> cases h1
  · exact (hD D' hD').2.2.1 _ hq e.symm

/-- The temporaries of a round's frame. -/
def roundTm (tm : Nat → Option AV) : List (Nat × AV) → Nat → Option AV
  | [] => tm
  | q :: l => roundTm (fun t => bif Nat.beq t q.1 then some q.2 else tm t) l

theorem roundTm_rep {M : Mm} {us : Nat → Nat} {nl m : Nat} : ∀ (ps : List Nat) (avs : List AV) (vs : List Value) (tm : Nat → Option AV) (tmps : Array Value), (∀ p ∈ ps, p < m) → avs.length = ps.length → vs.length = ps.length → tmps.size = m →
    (∀ t av, avs[t]? = some av → av.bd us nl = true ∧ RepA M av (vs.getD t undef)) → (∀ t av, tm t = some av → av.bd us nl = true ∧ RepA M av (tmps.getD t undef)) →
    ((ps.zip vs).foldl (fun tmps (q : Nat × Value) => tmps.setIfInBounds q.1 q.2) tmps).size = m ∧
    ∀ t av, roundTm tm (ps.zip avs) t = some av → av.bd us nl = true ∧ RepA M av (((ps.zip vs).foldl (fun tmps (q : Nat × Value) => tmps.setIfInBounds q.1 q.2) tmps).getD t undef)
  | [], [], [], tm, tmps, _, _, _, hs, _, h => ⟨hs, h⟩
  | p :: ps, av :: avs, v :: vs, tm, tmps, hp, h1, h2, hs, ha, h => by
    simp only [List.zip_cons_cons, List.foldl_cons, roundTm]
    refine roundTm_rep ps avs vs _ _ (fun p hp' => hp p (List.mem_cons_of_mem _ hp')) (by simpa using h1) (by simpa using h2) (by simpa using hs) (fun t x hx => by simpa using ha (t + 1) x (by simpa using hx)) fun t x hx => ?_
    rw [bif_beq] at hx
    split at hx
    · rename_i e; subst e; cases hx
      rw [getD_set_self (by rw [hs]; exact hp t List.mem_cons_self)]
      exact ha 0 av rfl
    · rename_i e
      rw [getD_set_other (fun e' => e e'.symm)]
      exact h t x hx
  | [], _ :: _, _, _, _, _, h1, _, _, _, _ => by simp at h1
  | _ :: _, [], _, _, _, _, h1, _, _, _, _ => by simp at h1
  | [], [], _ :: _, _, _, _, _, h2, _, _, _ => by simp at h2
  | _ :: _, _ :: _, [], _, _, _, _, h2, _, _, _ => by simp at h2

/-- How a round ends. -/
def roundQ (k : Nat) (Q : St → Bool → Prop) (e : Exit) (t : St) : Prop := (t.jp k matches some .busy) ∧
  match e with
  | .normal => Q (t.setJ k none) true
  | .ret => Q (t.setJ k (some .ret)) false
  | .exit id => Q (t.setJ k (some (.exit id))) false
  | _ => False

theorem wpOp_round (hF : Fits E X O r) (h : RelC X.b X.n O ρ s a w) {x : Operand} {args : Array Operand} {ats : Array TypeId} (ho : o.op = .call ⟨.value x, args, ats⟩) {y : LoopI} (hy : y ∈ X.ys) (hx : s.ev X.b x = some (.yld y.k))
    {g : Operand} {ps : Array Tmp} {assign body : Code} (hcode : atR (codeOf E y.f) y.p = .rangeFunc g ps assign body) {avs : List AV} (hav : seqA (args.toList.map (s.ev X.b)) = some avs) (hlen : avs.length = ps.toList.length) (hps : ∀ p ∈ ps.toList, p < y.n)
    (hjp : s.jp y.k = none) (hb : X.free b = true) (hd : (o.dst.all fun d => Nat.blt d X.n) = true) {Q : St → Bool → Prop}
    (hrun : ∀ O' l, Fits E (X.round b y.n) O' (some l) → Awp P (X.round b y.n) O' (some l) assign (fun e t1 => e = .normal ∧ t1.jp y.k = none ∧ Awp P (X.round b y.n) O' (some l) body (roundQ y.k Q) (t1.setJ y.k (some .busy))) (s.enter b (roundTm (s.tm y.b) (ps.toList.zip avs))))
    {K : Act → World → Prop} {Qx : Exit → Act → World → Prop} (hK : ∀ t c, Q t c → ∀ a' w', Rel X.b X.n O (t.putT X.b o.dst (.cst (.bool c))) a' w' → K a' w') : o.wpIn (FW r) 0 P a w K Qx := by
  obtain ⟨l, r', hlm, hq, hup, hsz, g', hcode'⟩ := hF.at_ y hy
  rw [hcode] at hcode'
  simp only [Code.rangeFunc.injEq] at hcode'
  obtain ⟨_, e1, e2, e3⟩ := hcode'
  subst e1; subst e2; subst e3
  obtain ⟨cs, ⟨u, e4, _, h1⟩, h2⟩ := h.ev hx
  have hxv : a.eval x = .func (.yield l) #[] #[] := by rw [h2, e4]; exact h1 l hlm
  obtain ⟨ha1, ha2⟩ := args_rep h args.toList avs hav
  have hrec : w.heap[l]? = some (.loop { r' with state := .ready, pending := none }) := by
    have := (h.lps _ hq).1
    simp only [hjp] at this
    exact this
  have hargs : (args.map a.eval).toList = args.toList.map a.eval := Array.toList_map
  have hasz : (args.map a.eval).size = r'.params.size := by
    rw [← Array.length_toList, hargs, ha1, hlen, Array.length_toList]
  have hrunop : (execOp a.eval o).run P w = .ok (.round l r'.fn ((r'.params.zip (args.map a.eval)).foldl (fun tmps (t, a) => tmps.setIfInBounds t a) r'.tmps) r'.assign r'.body) w := by
    simp only [execOp, ho, resolve, hxv, Deferred.ofValue, Sem.run_bind, Sem.run_pure, Result.andThen_ok, invoke]
    simpa using run_yield (P := P) hrec (args := args.map a.eval) hasz
  refine ⟨fun _ _ => trivial, ?_⟩
  rw [Oper.semAt_eq _ _ _ (fun c hc => by rw [ho] at hc; cases hc), hrunop]
  refine ⟨fun hd => (by cases hd), ?_⟩
  obtain ⟨Ds, hw, hO⟩ := h.push
  have hF' := hF.round (b := b) a.tmps Ds y.n l
  have hq' : (y.k, l, r') ∈ (O.push X.b a.tmps Ds).lps := hq
  have hfold : (r'.params.zip (args.map a.eval)).foldl (fun tmps (t, a) => tmps.setIfInBounds t a) r'.tmps = (r'.params.toList.zip (args.toList.map a.eval)).foldl (fun tmps (q : Nat × Value) => tmps.setIfInBounds q.1 q.2) r'.tmps := by
    rw [← Array.foldl_toList, Array.toList_zip, hargs]
  obtain ⟨f1, f2⟩ := roundTm_rep (M := mem (O.push X.b a.tmps Ds) ρ s.bx w) (us := s.us) (nl := s.nl) r'.params.toList avs (args.toList.map a.eval) (s.tm y.b) r'.tmps hps hlen (by rw [ha1, hlen]) hsz ha2 (fun t av ht => hO.up (y.b, r'.tmps) (List.mem_cons_of_mem _ hup) t av ht)
  have hrel := hO.enter (n := y.n) (Ctx.free_spec hF hb a.tmps Ds) f1 f2
  rw [hfold]
  refine roundIn_of_wpIn (F := FW r) trivial ?_
  have hwp := hrun _ l hF' _ _ ⟨ρ, hrel⟩
  refine wpIn_mono (F := FW (some l)) hwp fun e a1 w1 ⟨t1, ⟨he, hj1, hbody⟩, ρ1, hr1⟩ => ?_
  subst he
  have hrec1 : w1.heap[l]? = some (.loop { r' with state := .ready, pending := none }) := by
    have := (hr1.lps _ hq').1
    simp only [hj1] at this
    exact this
  refine ⟨_, run_beginRound hrec1 rfl, ?_⟩
  have hr2 : RelC b y.n (O.push X.b a.tmps Ds) ρ1 (t1.setJ y.k (some .busy)) a1 (w1.putObj l (loopAt r' (some .busy))) := hr1.loopTo hF' hq' (some .busy)
  refine wpIn_mono (F := FW (some l)) (hbody _ _ ⟨ρ1, hr2⟩) fun e a2 w2 ⟨t2, ⟨hj2, hq2⟩, ρ2, hr3⟩ => ?_
  have hjj : t2.jp y.k = some .busy := by
    revert hj2
    cases t2.jp y.k with
    | none => intro h; cases h
    | some j => cases j <;> first | (intro h; cases h; done) | exact fun _ => rfl
  have hrec2 : w2.heap[l]? = some (.loop { r' with state := .busy, pending := none }) := by
    have := (hr3.lps _ hq').1
    simp only [hjj] at this
    exact this
  cases e with
  | normal => exact ⟨_, _, run_endRound none hrec2, hK _ _ hq2 _ _ (putT_rel (RelO.pop hw (hr3.loopTo hF' hq' none).toRelO) hd rfl rfl)⟩
  | ret => exact ⟨_, _, run_endRound (some .ret) hrec2, hK _ _ hq2 _ _ (putT_rel (RelO.pop hw (hr3.loopTo hF' hq' (some .ret)).toRelO) hd rfl rfl)⟩
  | exit id => exact ⟨_, _, run_endRound (some (.exit id)) hrec2, hK _ _ hq2 _ _ (putT_rel (RelO.pop hw (hr3.loopTo hF' hq' (some (.exit id))).toRelO) hd rfl rfl)⟩
  | _ => exact hq2.elim
end
section
variable {P : Program} {E : Env} {X : Ctx} {O O' : Octx} {r : Option Nat} {ρ ρ' : Nat → Value} {s t : St} {a : Act} {w w' : World} {o : Oper} {b n : Nat}

theorem AV.bd_nl {us : Nat → Nat} {nl nl' : Nat} (h : nl ≤ nl') : ∀ (av : AV), av.bd us nl = true → av.bd us nl' = true
  | .ptr _ _ _, hb => hb
  | .elt _ _ _ _ _, hb => hb
  | .arr _ _, hb => hb
  | .yld k, hb => by simp only [AV.bd, Nat.blt_eq] at *; exact Nat.lt_of_lt_of_le hb h
  | .clo f c, hb => AV.bd_nl h c hb
  | .tup c, hb => AV.bd_nl h c hb
  | .pr x y, hb => by simp only [AV.bd, Bool.and_eq_true] at *; exact ⟨AV.bd_nl h x hb.1, AV.bd_nl h y hb.2⟩
  | .cst _, _ => rfl
  | .v _ _, _ => rfl
  | .ro _ _ _, _ => rfl
  | .nl, _ => rfl

/-- A loop's record is laid, or no more looked at. -/
theorem mem_lps {bx : Nat → Option Box} {us : Nat → Nat} {nl : Nat} (h1 : O'.w0 = O.w0) (h2 : O'.ok0 = O.ok0) (h3 : ∀ k l, k < nl → O'.lm k = some l → O.lm k = some l) : (mem O ρ bx w).Ext (mem O' ρ bx w) us nl :=
  ⟨fun k c e z hk hh => ⟨⟨by rw [h1, h2]; exact hk.1, hk.2⟩, hh⟩, fun _ _ _ h => ⟨h, rfl⟩, fun k l hk h => h3 k l hk h⟩

theorem BoxOK.ctx {bx : Nat → Option Box} {us : Nat → Nat} {nl nl' id : Nat} {B : Box} (h : BoxOK O ρ bx w us nl id B) (h1 : O'.w0 = O.w0) (he : (mem O ρ bx w).Ext (mem O' ρ bx w) us nl) (hn : nl ≤ nl') : BoxOK O' ρ bx w us nl' id B := by
  cases B with
  | cells ver av =>
    obtain ⟨g1, g2, g, cs, e, g3, g4, g5, g6⟩ := h
    exact ⟨g1, AV.bd_nl hn av g2, g, cs, e, g3, by rw [h1]; exact g4, g5, HoldsA.map he _ _ g2 g6⟩
  | arr ver e T l =>
    obtain ⟨g1, css, g2, g3⟩ := h
    refine ⟨g1, css, All2.imp (fun x c hc => Holds.map he.heap _ _ _ hc) g2, ?_⟩
    rw [h1]; exact g3

/-- What follows the statement. -/
def rangeQ (k : Nat) (Q : Exit → St → Prop) (t : St) (_ : AV) : Prop :=
  match t.jp k with
  | none => Q .normal t
  | some .ret => Q .ret t
  | some (.exit id) => Q (.exit id) t
  | some .busy => False

theorem lm_cons {q : Nat × Nat × Loop} {k : Nat} : ({ O with lps := q :: O.lps } : Octx).lm k = if q.1 = k then some q.2.1 else O.lm k := by
  unfold Octx.lm
  simp only [List.find?_cons]
  by_cases h : q.1 = k
  · simp [h]
  · have : (q.1 == k) = false := by simpa using h
    simp [h, this]

/-- The statement that ranges over a function, the function walked in place. -/
theorem Awp.rangeFunc (hE : E.OK P) (hF : Fits E X O r) (hrd : X.rd = false) {g : Operand} {ps : Array Tmp} {assign body : Code} {f0 : FuncId} {p : List Dir} (hcode : atR (codeOf E f0) p = .rangeFunc g ps assign body)
    {f : FuncId} {caps : AV} (hx : s.ev X.b g = some (.clo f caps)) {fn : Func} (hfn : E.fn f = some fn) {cl : List AV} (hcl : capsL caps = some cl) (hsz : 1 + cl.length ≤ fn.ntmps) (hb : X.free b = true)
    {k : Nat} (hk : s.nl ≤ k) (hk' : (X.ys.all fun y => !(Nat.beq y.k k)) = true) {Q : Exit → St → Prop}
    (hrun : ∀ O', Fits E (X.range b fn.ntmps k f0 p) O' none → Awp P (X.range b fn.ntmps k f0 p) O' none (codeOf E f) (retQ E b fn (rangeQ k Q)) (({ s with nl := k + 1, jp := setJ s.jp k none } : St).enter b (inTm (.yld k :: cl)))) :
    Awp P X O r (.rangeFunc g ps assign body) Q s := by
  intro a w ⟨ρ, h⟩
  have hrn : r = none := by have := hF.rd; rw [hrd] at this; cases r with | none => rfl | some _ => cases this
  subst hrn
  obtain ⟨hf, hn, hbody⟩ := hE.fn f fn hfn
  obtain ⟨c, hc⟩ := Option.isSome_iff_exists.1 hbody
  have hcodef : codeOf E f = c := by simp [codeOf, hfn, hc]
  obtain ⟨cs, ⟨lc, e1, h1⟩, h2⟩ := h.ev hx
  have hxv : a.eval g = .func (.func f) #[] lc.toArray := by rw [h2, e1]; rfl
  have hknew : ∀ q ∈ O.lps, q.1 ≠ k := fun q hq e => by
    obtain ⟨y, hy, hyk⟩ := hF.ys q hq
    have := List.all_eq_true.1 hk' y hy
    rw [hyk, e, Nat.beq_refl] at this; cases this
  have hlmk : O.lm k = none := by
    unfold Octx.lm
    rw [List.find?_eq_none.2 (fun q hq => by simpa using hknew q hq)]; rfl
  refine wpIn_rangeFunc fun fn0 _ => ?_
  obtain ⟨D, hD⟩ : ∃ D, D = w.heap.size := ⟨_, rfl⟩
  obtain ⟨rec, hrec⟩ : ∃ rec : Loop, rec = { state := .ready, pending := none, fn := fn0, tmps := a.tmps, params := ps, assign := assign, body := body, defers := D } := ⟨_, rfl⟩
  obtain ⟨w1, hw1⟩ : ∃ w1, w1 = (w.alloc (.deferred (some []))).alloc (.loop rec) := ⟨_, rfl⟩
  have hd1 : w1.heap[D]? = some (.deferred (some [])) := by
    rw [hw1, Below.heap_alloc _ _ _ (by simp [hD]), hD]
    exact World.alloc_heap_new w _
  have hl1 : w1.heap[D + 1]? = some (loopAt rec none) := by
    have : loopAt rec none = .loop rec := by rw [hrec]; rfl
    rw [this, hw1, hD]
    have h3 := World.alloc_heap_new (w.alloc (.deferred (some []))) (.loop rec)
    rw [World.size_alloc] at h3
    exact h3
  have hbel : Below w.heap.size w w1 := by
    rw [hw1]; exact ((Below.refl _ w).alloc (Nat.le_refl _) _).alloc (by simp) _
  refine ⟨D + 1, [mark D], w1, { target := .fn (.func f) lc.toArray, args := #[.func (.yield (D + 1)) #[] #[]] }, w1, f, #[.func (.yield (D + 1)) #[] #[]] ++ lc.toArray, w1, ?_, ?_, fun _ _ => trivial, ?_, fun hd => (by cases hd), ?_⟩
  · rw [hw1, hrec, hD]; exact run_enterLoop_outer fn0 a.tmps ps assign body
  · simp only [resolve, rangeCall, hxv, Deferred.ofValue, Sem.run_pure]
    simp [Act.eval]
  · simp only [invoke]
    exact run_callFunc hf hn hc _
  -- the frame waits
  obtain ⟨Ds, hw, hO⟩ := h.push
  have hO1 := hO.move (hO.same hbel)
  obtain ⟨O1, hO1d⟩ : ∃ O1, O1 = O.push X.b a.tmps (D :: Ds) := ⟨_, rfl⟩
  obtain ⟨O2, hO2d⟩ : ∃ O2 : Octx, O2 = { O1 with lps := (k, D + 1, rec) :: O1.lps } := ⟨_, rfl⟩
  have ho1 : O1.w0 = O.w0 := by rw [hO1d]; rfl
  have ho2 : O2.w0 = O.w0 := by rw [hO2d]; exact ho1
  have hlm2 : ∀ i, O2.lm i = if k = i then some (D + 1) else O.lm i := fun i => by
    rw [hO2d, lm_cons, hO1d]; rfl
  have hge : O.w0.heap.size ≤ D := by rw [hD]; exact h.below.size
  have hext : (mem (O.push X.b a.tmps Ds) ρ s.bx w1).Ext (mem O2 ρ s.bx w1) s.us s.nl := mem_lps (by rw [ho2]; rfl) (by rw [hO2d, hO1d]; rfl) fun i l hi hl => by
    rw [hlm2] at hl
    split at hl
    · omega
    · exact hl
  have hups2 : O2.ups = (X.b, a.tmps) :: O.ups := by rw [hO2d, hO1d]; rfl
  have hlps2 : O2.lps = (k, D + 1, rec) :: O.lps := by rw [hO2d, hO1d]; rfl
  have hkeep2 : O2.keep = (D, .deferred (some [])) :: (O.push X.b a.tmps Ds).keep := by rw [hO2d, hO1d]; rfl
  have hrelO : RelO O2 ρ { s with nl := k + 1, jp := setJ s.jp k none } w1 := by
    refine ⟨fun q hq t av ht => ?_, fun id B hB => ?_, hO1.inj, ?_, fun q hq => ?_, fun q hq => ?_⟩
    · rw [hups2] at hq
      obtain ⟨g1, g2⟩ := hO1.up q hq t av ht
      exact ⟨AV.bd_nl (show s.nl ≤ k + 1 by omega) av g1, RepA.map hext g1 g2⟩
    · exact (hO1.bx id B hB).ctx (by rw [ho2]; rfl) hext (by show s.nl ≤ k + 1; omega)
    · rw [ho2]; exact hO1.below
    · rw [hlps2] at hq
      rw [ho2]
      rcases List.mem_cons.1 hq with e | hq
      · subst e
        refine ⟨?_, by show O.w0.heap.size ≤ D + 1; omega⟩
        show w1.heap[D + 1]? = some (loopAt rec (setJ s.jp k none k))
        rw [setJ_at]; exact hl1
      · refine ⟨?_, (hO1.lps q hq).2⟩
        show w1.heap[q.2.1]? = some (loopAt q.2.2 (setJ s.jp k none q.1))
        rw [setJ_ne (hknew q hq)]
        exact (hO1.lps q hq).1
    · rw [hkeep2] at hq
      rw [ho2]
      rcases List.mem_cons.1 hq with e | hq
      · subst e; exact ⟨hd1, rfl, hge⟩
      · exact hO1.keep q hq
  -- it fits
  have hlt : ∀ q ∈ O.lps, q.2.1 < w.heap.size := fun q hq => (Array.getElem?_eq_some_iff.1 (h.lps q hq).1).1
  have hkeeplt : ∀ q ∈ O.keep, q.1 < w.heap.size := fun q hq => (Array.getElem?_eq_some_iff.1 (h.keep q hq).1).1
  have hDlt : ∀ D' ∈ Ds, D' < w.heap.size := fun D' hD' => by
    have := (hO.keep (D', .deferred (some [])) (List.mem_append_left _ (List.mem_map.2 ⟨D', hD', rfl⟩))).1
    exact (Array.getElem?_eq_some_iff.1 this).1
  have hFit : Fits E (X.range b fn.ntmps k f0 p) O2 none := by
    refine ⟨fun w' hb' => hF.g w' (by rw [← ho2]; exact hb'), rfl, fun q hq => ?_, fun q hq => ?_, fun y hy => ?_, fun q hq q' hq' e => ?_, fun q hq q' hq' e => ?_, fun q hq => ?_⟩
    · rw [hups2] at hq
      rcases List.mem_cons.1 hq with e | hq
      · subst e; exact List.mem_cons_self
      · exact List.mem_cons_of_mem _ (hF.act q hq)
    · rw [hlps2] at hq
      rcases List.mem_cons.1 hq with e | hq
      · subst e; exact ⟨_, List.mem_cons_self, rfl⟩
      · obtain ⟨y, hy, e⟩ := hF.ys q hq
        exact ⟨y, List.mem_cons_of_mem _ hy, e⟩
    · rcases List.mem_cons.1 hy with e | hy
      · subst e
        refine ⟨D + 1, rec, ?_, ?_, ?_, ?_, g, ?_⟩
        · rw [hlm2]; simp
        · rw [hlps2]; exact List.mem_cons_self
        · rw [hups2, hrec]; exact List.mem_cons_self
        · rw [hrec]; exact h.size
        · rw [hrec]; exact hcode
      · obtain ⟨l, r', g1, g2, g3, g4⟩ := hF.at_ y hy
        refine ⟨l, r', ?_, by rw [hlps2]; exact List.mem_cons_of_mem _ g2, by rw [hups2]; exact List.mem_cons_of_mem _ g3, g4⟩
        rw [hlm2, if_neg (fun e => hknew _ g2 e.symm)]; exact g1
    · rw [hlps2] at hq hq'
      rcases List.mem_cons.1 hq with e1 | hq <;> rcases List.mem_cons.1 hq' with e2 | hq'
      · rw [e1, e2]
      · subst e1; exact absurd e.symm (hknew q' hq')
      · subst e2; exact absurd e (hknew q hq)
      · exact hF.key q hq q' hq' e
    · rw [hlps2] at hq hq'
      rcases List.mem_cons.1 hq with e1 | hq <;> rcases List.mem_cons.1 hq' with e2 | hq'
      · rw [e1, e2]
      · subst e1; have := hlt q' hq'; have e' : D + 1 = q'.2.1 := e; omega
      · subst e2; have := hlt q hq; have e' : q.2.1 = D + 1 := e; omega
      · exact hF.blk q hq q' hq' e
    · rw [hkeep2] at hq
      rcases List.mem_cons.1 hq with e | hq
      · subst e; rfl
      · exact (hF.push (b := b) a.tmps Ds fn.ntmps).keep q hq
  -- the function's frame
  have hcapb : caps.bd s.us s.nl = true := h.bds.ev g (.clo f caps) hx
  obtain ⟨hc1, hc2⟩ := capsL_rep (M := mem O2 ρ s.bx w1) caps cl lc hcl (HoldsA.map hext _ _ hcapb (HoldsA.map (hO.same hbel).ext _ _ hcapb h1))
  have hcb := capsL_bd (us := s.us) (nl := k + 1) caps cl hcl (AV.bd_nl (show s.nl ≤ k + 1 by omega) _ hcapb)
  have hyb : (AV.yld k).bd s.us (k + 1) = true := by simp [AV.bd]
  have hyr : RepA (mem O2 ρ s.bx w1) (.yld k) (.func (.yield (D + 1)) #[] #[]) := by
    refine ⟨[_], ⟨_, rfl, rfl, fun l hl => ?_⟩, rfl⟩
    have hl' : O2.lm k = some l := hl
    rw [hlm2, if_pos rfl] at hl'
    cases hl'; rfl
  have hrep : ∀ t av, (AV.yld k :: cl)[t]? = some av → av.bd s.us (k + 1) = true ∧ RepA (mem O2 ρ s.bx w1) av ((.func (.yield (D + 1)) #[] #[] :: lc).getD t undef) := fun t av ht => by
    cases t with
    | zero => cases ht; exact ⟨hyb, hyr⟩
    | succ t => exact ⟨hcb av (List.mem_of_getElem? (by simpa using ht)), by simpa using hc2 t av (by simpa using ht)⟩
  have hvals : #[.func (.yield (D + 1)) #[] #[]] ++ lc.toArray = (Value.func (.yield (D + 1)) #[] #[] :: lc).toArray := by
    rw [show (Value.func (.yield (D + 1)) #[] #[] :: lc) = [Value.func (.yield (D + 1)) #[] #[]] ++ lc from rfl, ← List.append_toArray]
  have hrel := hrelO.enter (n := fn.ntmps) (b := b) (by rw [hups2]; exact Ctx.free_spec hF hb a.tmps Ds) (tm := inTm (.yld k :: cl)) (tmps := (Value.func (.yield (D + 1)) #[] #[] :: lc).toArray ++ Array.replicate (fn.ntmps - (Value.func (.yield (D + 1)) #[] #[] :: lc).toArray.size) undef) (by
    simp [hc1]; omega) (in_rep (by simp [hc1]) hrep fn.ntmps)
  rw [hvals]
  have hwp := hrun _ hFit _ _ ⟨ρ, hrel⟩
  rw [hcodef] at hwp
  refine (call_place (m := 0 - 1) hE hf hc hwp).mono fun e w3 ⟨v, t, av, ρ3, e1, h3, h4, h5, h6⟩ => ?_
  subst e1
  -- back
  have hl3 : w3.heap[D + 1]? = some (loopAt rec (t.jp k)) := (h3.lps (k, D + 1, rec) (by rw [hlps2]; exact List.mem_cons_self)).1
  have hO3 : RelO O1 ρ3 t w3 := by
    have hext3 : (mem O2 ρ3 t.bx w3).Ext (mem O1 ρ3 t.bx w3) t.us t.nl := mem_lps (by rw [hO2d]) (by rw [hO2d]) fun i l hi hl => by
      rw [hlm2]
      have hl' : O.lm i = some l := by rw [hO1d] at hl; exact hl
      split
      · rename_i e; rw [← e, hlmk] at hl'; cases hl'
      · exact hl'
    have e01 : O1.w0 = O2.w0 := by rw [ho1, ho2]
    refine ⟨fun q hq t' av ht => ?_, fun id B hB => (h3.bx id B hB).ctx e01 hext3 (Nat.le_refl _), h3.inj, by rw [e01]; exact h3.below, fun q hq => ?_, fun q hq => ?_⟩
    · obtain ⟨g1, g2⟩ := h3.up q (by rw [hO2d]; exact hq) t' av ht
      exact ⟨g1, RepA.map hext3 g1 g2⟩
    · rw [e01]; exact h3.lps q (by rw [hO2d]; exact List.mem_cons_of_mem _ hq)
    · rw [e01]; exact h3.keep q (by rw [hO2d]; exact hq)
  have hO4 : RelO O1 ρ3 t (w3.putObj (D + 1) (.loop { rec with state := .exhausted, pending := (match t.jp k with | none => none | some .busy => none | some j => some j.code) })) :=
    hO3.obj (jp' := t.jp) hl3 (loopAt_notCells _ _) (by rw [ho1]; omega) (fun q hq => by
      have hq' : q ∈ O.lps := by rw [hO1d] at hq; exact hq
      have := hlt q hq'
      rw [World.putObj_heap_other (by omega)]; exact (hO3.lps q hq).1) (fun q hq => by
      rw [hO1d] at hq
      rcases List.mem_append.1 hq with hq | hq
      · obtain ⟨D', hD', e⟩ := List.mem_map.1 hq
        subst e
        rcases List.mem_cons.1 hD' with e | hD'
        · subst e; show D' ≠ D' + 1; omega
        · have := hDlt D' hD'; show D' ≠ D + 1; omega
      · have := hkeeplt q hq; omega)
  have hW : Waits X.b X.n O { a with defers := [mark D] ++ a.defers } (D :: Ds) := by
    refine ⟨by rw [hw.defers]; rfl, List.nodup_cons.2 ⟨fun hm => ?_, hw.nodup⟩, hw.fresh, hw.size, fun D' hD' => ?_⟩
    · have := hDlt D hm; omega
    · rcases List.mem_cons.1 hD' with e | hD'
      · subst e
        exact ⟨hge, fun q hq e => by have := hlt q hq; omega, fun q hq e => by have := hkeeplt q hq; omega⟩
      · exact hw.ds D' hD'
  have hfin : Rel X.b X.n O t { a with defers := [mark D] ++ a.defers } (w3.putObj (D + 1) (.loop { rec with state := .exhausted, pending := (match t.jp k with | none => none | some .busy => none | some j => some j.code) })) :=
    ⟨ρ3, RelO.pop hW (by rw [hO1d] at hO4; exact hO4)⟩
  unfold rangeQ at h6
  split at h6
  · rename_i hj
    rw [hj] at hl3 hfin
    exact ⟨none, _, run_endLoop hl3 (by simp), ⟨t, h6, hfin⟩⟩
  · rename_i hj
    rw [hj] at hl3 hfin
    exact ⟨some .ret, _, run_endLoop hl3 (by simp), wpIn_ret ⟨t, h6, hfin⟩⟩
  · rename_i id hj
    rw [hj] at hl3 hfin
    exact ⟨some (.exit id), _, run_endLoop hl3 (by simp), wpIn_exit ⟨t, h6, hfin⟩⟩
  · exact h6.elim
end
/-! ### an array that a call in place hands back bears the caller's own number -/
section
variable {P : Program} {E : Env} {b n : Nat} {O : Octx} {ρ : Nat → Value} {s : St} {a : Act} {w : World}

def subArr (id ver id' ver' : Nat) : AV → AV
  | .arr i v => bif Nat.beq i id && Nat.beq v ver then .arr id' ver' else .arr i v
  | .pr x y => .pr (subArr id ver id' ver' x) (subArr id ver id' ver' y)
  | .tup c => .tup (subArr id ver id' ver' c)
  | av => av

def idsR : AV → List Nat
  | .tup c => arrIds c
  | av => arrIds av

def renAt (b d id : Nat) (av : AV) (s : St) : St :=
  match s.bx id with
  | some (.arr ver e T l) => bif (s.bx (b * 4096 + d)).isNone then
      { s with tm := updT s.tm b (some d) (subArr id ver (b * 4096 + d) (s.us (b * 4096 + d)) av), bx := updB (updB s.bx id none) (b * 4096 + d) (some (.arr (s.us (b * 4096 + d)) e T l)), us := updU s.us (b * 4096 + d) (s.us (b * 4096 + d) + 1) }
      else s
  | _ => s

def renS (f : Bool) (b : Nat) (dst : Option Nat) (s : St) : St :=
  bif f then (match dst with
    | some d => match s.tm b d with
      | some av => match idsR av with
        | [id] => renAt b d id av s
        | _ => s
      | none => s
    | none => s) else s

theorem subArr_bd {us us' : Nat → Nat} {nl id ver id' ver' : Nat} (hu : ∀ i, us i ≤ us' i) (hv : ver' < us' id') : ∀ av : AV, av.bd us nl = true → (subArr id ver id' ver' av).bd us' nl = true
  | .arr i v, h => by
    simp only [subArr]
    cases Nat.beq i id && Nat.beq v ver with
    | true => simp [AV.bd, hv]
    | false => exact AV.bd_mono hu _ h
  | .pr x y, h => by
    simp only [AV.bd, Bool.and_eq_true] at h
    simp [subArr, AV.bd, subArr_bd hu hv x h.1, subArr_bd hu hv y h.2]
  | .tup c, h => by
    have h' : c.bd us nl = true := h
    exact subArr_bd hu hv c h'
  | .cst _, h => AV.bd_mono hu _ h
  | .v _ _, h => AV.bd_mono hu _ h
  | .ptr _ _ _, h => AV.bd_mono hu _ h
  | .elt _ _ _ _ _, h => AV.bd_mono hu _ h
  | .ro _ _ _, h => AV.bd_mono hu _ h
  | .clo _ _, h => AV.bd_mono hu _ h
  | .yld _, h => AV.bd_mono hu _ h
  | .nl, h => AV.bd_mono hu _ h

theorem subArr_holds {M M' : Mm} {us : Nat → Nat} {nl id ver id' ver' : Nat} (hx : M.Ext M' us nl) (hc : M.cur id = some ver) (hρ : M'.ρ id' = M.ρ id) : ∀ (av : AV) (cs : List Value), av.bd us nl = true → HoldsA M av cs → HoldsA M' (subArr id ver id' ver' av) cs
  | .arr i v, cs, h, H => by
    simp only [subArr]
    cases hb : Nat.beq i id && Nat.beq v ver with
    | true =>
      rw [Bool.and_eq_true] at hb
      have e1 := Nat.eq_of_beq_eq_true hb.1
      have e2 := Nat.eq_of_beq_eq_true hb.2
      subst e1; subst e2
      obtain ⟨u, e, h1, h2⟩ := H
      exact ⟨u, e, h1, fun _ => by rw [hρ]; exact h2 hc⟩
    | false => exact HoldsA.map hx _ _ h H
  | .pr x y, cs, h, ⟨c1, c2, e, h1, h2⟩ => by
    simp only [AV.bd, Bool.and_eq_true] at h
    exact ⟨c1, c2, e, subArr_holds hx hc hρ x c1 h.1 h1, subArr_holds hx hc hρ y c2 h.2 h2⟩
  | .tup _, _, _, H => H.elim
  | .cst _, _, h, H => HoldsA.map hx _ _ h H
  | .v _ _, _, h, H => HoldsA.map hx _ _ h H
  | .ptr _ _ _, _, h, H => HoldsA.map hx _ _ h H
  | .elt _ _ _ _ _, _, h, H => HoldsA.map hx _ _ h H
  | .ro _ _ _, _, h, H => HoldsA.map hx _ _ h H
  | .clo _ _, _, h, H => HoldsA.map hx _ _ h H
  | .yld _, _, h, H => HoldsA.map hx _ _ h H
  | .nl, _, h, H => HoldsA.map hx _ _ h H

theorem subArr_repB {M M' : Mm} {us : Nat → Nat} {nl id ver id' ver' : Nat} (hx : M.Ext M' us nl) (hc : M.cur id = some ver) (hρ : M'.ρ id' = M.ρ id) (av : AV) (u : Value) (hb : av.bd us nl = true) (H : RepB M av u) : RepB M' (subArr id ver id' ver' av) u := by
  cases av with
  | cst v => exact H
  | arr i v =>
    obtain ⟨cs, h1, h2⟩ := H
    have h3 := subArr_holds (ver' := ver') hx hc hρ (.arr i v) cs hb h1
    simp only [subArr] at h3 ⊢
    cases hq : Nat.beq i id && Nat.beq v ver with
    | true => rw [hq] at h3; exact ⟨cs, h3, h2⟩
    | false => rw [hq] at h3; exact ⟨cs, h3, h2⟩
  | pr x y =>
    obtain ⟨cs, h1, h2⟩ := H
    exact ⟨cs, subArr_holds hx hc hρ (.pr x y) cs hb h1, h2⟩
  | tup c => obtain ⟨cs, h1, h2⟩ := H; exact h1.elim
  | v T x => exact RepB.map hx hb H
  | ptr _ _ _ => exact RepB.map hx hb H
  | elt _ _ _ _ _ => exact RepB.map hx hb H
  | ro _ _ _ => exact RepB.map hx hb H
  | clo _ _ => exact RepB.map hx hb H
  | yld _ => exact RepB.map hx hb H
  | nl => exact RepB.map hx hb H

theorem subArr_tup {M M' : Mm} {us : Nat → Nat} {nl id ver id' ver' : Nat} (hx : M.Ext M' us nl) (hc : M.cur id = some ver) (hρ : M'.ρ id' = M.ρ id) : ∀ (c : AV) (l : List Value), c.bd us nl = true → TupA M c l → TupA M' (subArr id ver id' ver' c) l
  | .nl, _, _, H => H
  | .pr x y, l, hb, ⟨u, r, e, h1, h2⟩ => by
    simp only [AV.bd, Bool.and_eq_true] at hb
    exact ⟨u, r, e, subArr_repB hx hc hρ x u hb.1 h1, subArr_tup hx hc hρ y r hb.2 h2⟩
  | .arr _ _, _, _, H => H.elim
  | .tup _, _, _, H => H.elim
  | .cst _, _, _, H => H.elim
  | .v _ _, _, _, H => H.elim
  | .ptr _ _ _, _, _, H => H.elim
  | .elt _ _ _ _ _, _, _, H => H.elim
  | .ro _ _ _, _, _, H => H.elim
  | .clo _ _, _, _, H => H.elim
  | .yld _, _, _, H => H.elim

theorem subArr_rep {M M' : Mm} {us : Nat → Nat} {nl id ver id' ver' : Nat} (hx : M.Ext M' us nl) (hc : M.cur id = some ver) (hρ : M'.ρ id' = M.ρ id) (av : AV) (u : Value) (hb : av.bd us nl = true) (H : RepA M av u) : RepA M' (subArr id ver id' ver' av) u := by
  cases av with
  | tup c =>
    obtain ⟨l, e, h1⟩ := H
    exact ⟨l, e, subArr_tup hx hc hρ c l hb h1⟩
  | arr i v =>
    have := subArr_repB (ver' := ver') hx hc hρ (.arr i v) u hb H
    simp only [subArr] at this ⊢
    cases hq : Nat.beq i id && Nat.beq v ver with
    | true => rw [hq] at this; exact this
    | false => rw [hq] at this; exact this
  | cst v => exact subArr_repB (ver' := ver') hx hc hρ (.cst v) u hb H
  | pr x y => exact subArr_repB (ver' := ver') hx hc hρ (.pr x y) u hb H
  | v T x => exact subArr_repB (ver' := ver') hx hc hρ (.v T x) u hb H
  | ptr i v o => exact subArr_repB (ver' := ver') hx hc hρ (.ptr i v o) u hb H
  | elt i v z j o => exact subArr_repB (ver' := ver') hx hc hρ (.elt i v z j o) u hb H
  | ro T x o => exact subArr_repB (ver' := ver') hx hc hρ (.ro T x o) u hb H
  | clo f c => exact subArr_repB (ver' := ver') hx hc hρ (.clo f c) u hb H
  | yld k => exact subArr_repB (ver' := ver') hx hc hρ (.yld k) u hb H
  | nl => exact subArr_repB (ver' := ver') hx hc hρ .nl u hb H

theorem renAt_rel (h : RelC b n O ρ s a w) {d id : Nat} {av : AV} (hav : s.tm b d = some av) : ∃ ρ', RelC b n O ρ' (renAt b d id av s) a w := by
  unfold renAt
  split
  · rename_i ver e T l hB
    cases hN : (s.bx (b * 4096 + d)).isNone with
    | false => exact ⟨ρ, h⟩
    | true =>
      have hN' : s.bx (b * 4096 + d) = none := by simpa using hN
      have hne : id ≠ b * 4096 + d := fun e => by rw [e, hN'] at hB; cases hB
      simp only [cond_true]
      generalize hid : b * 4096 + d = id' at *
      have hbx : ∀ i, updB (updB s.bx id none) id' (some (.arr (s.us id') e T l)) i = if i = id' then some (.arr (s.us id') e T l) else if i = id then none else s.bx i := fun i => by simp only [updB, bif_beq]
      have hus : ∀ i, s.us i ≤ updU s.us id' (s.us id' + 1) i := fun i => by
        simp only [updU, bif_beq]; split
        · rename_i e; subst e; omega
        · exact Nat.le_refl _
      have hext : (mem O ρ s.bx w).Ext (mem O (fun i => if i = id' then ρ id else ρ i) (updB (updB s.bx id none) id' (some (.arr (s.us id') e T l))) w) s.us s.nl := by
        refine ⟨fun k c e' z hk hh => ⟨⟨hk.1, fun i hi => ?_⟩, hh⟩, fun i v hv hc => ?_, fun _ _ _ h => h⟩
        · rw [hbx] at hi
          show refB (if i = id' then ρ id else ρ i) ≠ some k
          by_cases h1 : i = id'
          · rw [if_pos h1]; exact hk.2 id (by rw [hB]; rfl)
          · rw [if_neg h1] at hi ⊢
            by_cases h2 : i = id
            · rw [if_pos h2] at hi; cases hi
            · rw [if_neg h2] at hi; exact hk.2 i hi
        · have hc' : (updB (updB s.bx id none) id' (some (.arr (s.us id') e T l)) i).map Box.ver = some v := hc
          rw [hbx] at hc'
          by_cases h1 : i = id'
          · rw [if_pos h1] at hc'
            simp only [Option.map_some, Box.ver, Option.some.injEq] at hc'
            rw [h1] at hv; omega
          · rw [if_neg h1] at hc'
            by_cases h2 : i = id
            · rw [if_pos h2] at hc'; cases hc'
            · rw [if_neg h2] at hc'
              exact ⟨hc', by show (if i = id' then ρ id else ρ i) = ρ i; rw [if_neg h1]⟩
      have hcur : (mem O ρ s.bx w).cur id = some ver := by simp [mem, hB, Box.ver]
      have hver : s.us id' < updU s.us id' (s.us id' + 1) id' := by simp [updU]
      refine ⟨fun i => if i = id' then ρ id else ρ i, ?_⟩
      exact {
        up := fun p hp t av' ht => by
          have ht' : s.tm p.1 t = some av' := by
            have hb : Nat.beq p.1 b = false := Bool.eq_false_iff.2 fun e => h.fresh p hp (Nat.eq_of_beq_eq_true e)
            simpa [updT, hb] using ht
          obtain ⟨h1, h2⟩ := h.up p hp t av' ht'
          exact ⟨AV.bd_mono hus _ h1, RepA.map hext h1 h2⟩
        bx := fun i B hBi => by
          have hBi : updB (updB s.bx id none) id' (some (.arr (s.us id') e T l)) i = some B := hBi
          rw [hbx] at hBi
          by_cases h1 : i = id'
          · rw [if_pos h1] at hBi
            cases hBi
            subst h1
            obtain ⟨_, css, h2, h3⟩ := h.bx id _ hB
            exact ⟨hver, css, All2.imp (fun x c hc => Holds.map hext.heap _ _ _ hc) h2, by simpa using h3⟩
          · rw [if_neg h1] at hBi
            by_cases h2 : i = id
            · rw [if_pos h2] at hBi; cases hBi
            · rw [if_neg h2] at hBi
              exact (h.bx i B hBi).keep hext hus (by simp [h1]) (fun _ _ => rfl)
        inj := fun i j k hi hj h1 h2 => by
          have hi : (updB (updB s.bx id none) id' (some (.arr (s.us id') e T l)) i).isSome = true := hi
          have hj : (updB (updB s.bx id none) id' (some (.arr (s.us id') e T l)) j).isSome = true := hj
          rw [hbx] at hi hj
          have old : ∀ i, (if i = id' then some (Box.arr (s.us id') e T l) else if i = id then none else s.bx i).isSome = true → refB ((fun i => if i = id' then ρ id else ρ i) i) = some k →
              ∃ i0, (s.bx i0).isSome = true ∧ refB (ρ i0) = some k ∧ (if i = id' then i0 = id else i0 = i ∧ i ≠ id) := fun i hi h1 => by
            by_cases e1 : i = id'
            · simp only [e1, if_true] at h1
              exact ⟨id, by rw [hB]; rfl, h1, by rw [if_pos e1]⟩
            · simp only [e1, if_false] at h1 hi
              by_cases e2 : i = id
              · rw [if_pos e2] at hi; cases hi
              · rw [if_neg e2] at hi
                exact ⟨i, hi, h1, by rw [if_neg e1]; exact ⟨rfl, e2⟩⟩
          obtain ⟨i0, a1, a2, a3⟩ := old i hi h1
          obtain ⟨j0, c1, c2, c3⟩ := old j hj h2
          have := h.inj i0 j0 k a1 c1 a2 c2
          subst this
          by_cases e1 : i = id' <;> by_cases e2 : j = id' <;> simp only [e1, e2, if_true, if_false] at a3 c3 ⊢
          · exact absurd a3 (by rw [c3.1]; exact c3.2)
          · exact absurd c3 (by rw [a3.1]; exact a3.2)
          · rw [← a3.1, ← c3.1]
        below := h.below
        lps := h.lps
        keep := h.keep
        fresh := h.fresh
        size := h.size
        defers := h.defers
        tm := fun t av' ht => by
          have ht2 : (if t = d then some (subArr id ver id' (s.us id') av) else s.tm b t) = some av' := by
            have : updT s.tm b (some d) (subArr id ver id' (s.us id') av) b t = some av' := ht
            simpa [updT, bif_beq] using this
          by_cases h1 : t = d
          · rw [if_pos h1] at ht2
            cases ht2
            subst h1
            obtain ⟨h2, h3⟩ := h.tm t av hav
            exact ⟨subArr_bd hus hver av h2, subArr_rep hext hcur (by simp [mem]) av _ h2 h3⟩
          · rw [if_neg h1] at ht2
            obtain ⟨h2, h3⟩ := h.tm t av' ht2
            exact ⟨AV.bd_mono hus _ h2, RepA.map hext h2 h3⟩ }
  · exact ⟨ρ, h⟩

theorem renS_rel {f : Bool} {dst : Option Nat} (h : Rel b n O s a w) : Rel b n O (renS f b dst s) a w := by
  obtain ⟨ρ, h⟩ := h
  unfold renS
  cases f with
  | false => exact ⟨ρ, h⟩
  | true =>
    simp only [cond_true]
    split
    · split
      · rename_i d av hav
        split
        · exact renAt_rel h hav
        · exact ⟨ρ, h⟩
      · exact ⟨ρ, h⟩
    · exact ⟨ρ, h⟩
end
/-! ### code upon abstract states -/

/-- What 's'' says, 's' says. -/
def Weaker (E : Env) (X : Ctx) (s' s : St) : Prop := ∀ O r ρ a w, Fits E X O r → RelC X.b X.n O ρ s a w → Rel X.b X.n O s' a w

section
variable {P : Program} {E : Env} {X : Ctx} {O : Octx} {r : Option Nat} {ρ ρ' : Nat → Value} {s s' t : St} {a : Act} {w w' : World} {Q Q' : Exit → St → Prop} {x y c : Code}

theorem Weaker.refl (s : St) : Weaker E X s s := fun _ _ ρ _ _ _ h => ⟨ρ, h⟩

theorem Awp.weaker (hF : Fits E X O r) (h : Awp P X O r c Q s') (hl : Weaker E X s' s) : Awp P X O r c Q s := fun a w ⟨ρ, hr⟩ => h a w (hl O r ρ a w hF hr)

theorem Awp.mono (hF : Fits E X O r) (h : Awp P X O r c Q s) (hq : ∀ e t, Q e t → ∃ t', Q' e t' ∧ Weaker E X t' t) : Awp P X O r c Q' s := fun a w hr =>
  wpIn_mono (h a w hr) fun e a' w' ⟨t, h1, ρ, h2⟩ => by
    obtain ⟨t', h3, h4⟩ := hq e t h1
    exact ⟨t', h3, h4 O r ρ a' w' hF h2⟩

theorem Awp.imp (h : Awp P X O r c Q s) (hq : ∀ e t, Q e t → Q' e t) : Awp P X O r c Q' s := fun a w hr =>
  wpIn_mono (h a w hr) fun e _ _ ⟨t, h1, h2⟩ => ⟨t, hq e t h1, h2⟩

def thenA (next : St → Prop) (Q : Exit → St → Prop) : Exit → St → Prop
  | .normal, t => next t
  | e, t => Q e t

theorem Awp.seq (h : Awp P X O r x (thenA (Awp P X O r y Q) Q) s) : Awp P X O r (.seq x y) Q s := fun a w hr =>
  wpIn_seq (wpIn_mono (h a w hr) fun e a' w' ⟨t, h1, h2⟩ => by
    cases e with
    | normal => exact h1 a' w' h2
    | _ => exact ⟨t, h1, h2⟩)

theorem Awp.skip (h : Q .normal s) : Awp P X O r .skip Q s := fun _ _ hr => wpIn_skip ⟨s, h, hr⟩
theorem Awp.ret (h : Q .ret s) : Awp P X O r .ret Q s := fun _ _ hr => wpIn_ret ⟨s, h, hr⟩
theorem Awp.exit {id : Nat} (h : Q (.exit id) s) : Awp P X O r (.exit id) Q s := fun _ _ hr => wpIn_exit ⟨s, h, hr⟩

def inBlockA (id : Nat) (Q : Exit → St → Prop) : Exit → St → Prop
  | .exit id', t => if id' = id then Q .normal t else Q (.exit id') t
  | e, t => Q e t

theorem Awp.block {id : Nat} (h : Awp P X O r c (inBlockA id Q) s) : Awp P X O r (.block id c) Q s := fun a w hr =>
  wpIn_block (wpIn_mono (h a w hr) fun e a' w' ⟨t, h1, h2⟩ => by
    cases e with
    | exit id' =>
      simp only [Exit.inBlock, inBlockA] at h1 ⊢
      split at h1
      · rw [if_pos (by assumption)]; exact ⟨t, h1, h2⟩
      · rw [if_neg (by assumption)]; exact ⟨t, h1, h2⟩
    | _ => exact ⟨t, h1, h2⟩)

theorem Awp.cond {c : Operand} {v : Bool} (hb : (s.ev X.b c).bind (asT .bool) = some v) (h1 : v = true → Awp P X O r x Q s) (h2 : v = false → Awp P X O r y Q s) :
    Awp P X O r (.cond c x y) Q s := fun a w hr => by
  obtain ⟨ρ, h⟩ := hr
  exact wpIn_cond_split (h.evT hb).bool (fun e => h1 e a w ⟨ρ, h⟩) (fun e => h2 e a w ⟨ρ, h⟩)

/-- A loop, by a number that falls. -/
theorem Awp.loop (I : Nat → St → Prop) {k : Nat} (h0 : I k s) (round : ∀ k s, I k s → Awp P X O r c (thenA (fun t => ∃ j, j < k ∧ I j t) Q) s) : Awp P X O r (.loop c) Q s := by
  intro a w hr b kk cs hro hb hroom
  have key : ∀ k s a w, I k s → Rel X.b X.n O s a w →
      ∃ e a' w', (∃ t, Q e t ∧ Rel X.b X.n O t a' w') ∧ ArrivesIn (Machine.fenced P (FW r)) P (lone (b.atR a (.code c :: .inLoop c :: kk)) cs w) b kk cs e a' w' := by
    intro k
    induction k using Nat.strongRecOn with
    | _ k ih =>
      intro s a w hI hr
      obtain ⟨e, a₁, w₁, ⟨t, hq, hrt⟩, harr⟩ := round k s hI a w hr b (.inLoop c :: kk) cs hro hb hroom
      cases e with
      | normal =>
        obtain ⟨j, hj, hI'⟩ := hq
        obtain ⟨e₂, a₂, w₂, hq₂, harr₂⟩ := ih j hj t a₁ w₁ hI' hrt
        exact ⟨e₂, a₂, w₂, hq₂, .of_steps (StepsIn.trans harr (.one (fenced_calm hb hroom rfl) stepR_inLoop)) harr₂⟩
      | exit id => exact ⟨_, a₁, w₁, ⟨t, hq, hrt⟩, .pass (x := .inLoop c) rfl (fun _ _ => .inl (by simp)) harr⟩
      | goto l => exact ⟨_, a₁, w₁, ⟨t, hq, hrt⟩, .pass (x := .inLoop c) rfl (fun _ _ => .inl (by simp)) harr⟩
      | ret => exact ⟨_, a₁, w₁, ⟨t, hq, hrt⟩, .pass (x := .inLoop c) rfl (fun _ _ => .inl (by simp)) harr⟩
      | panic ch => exact ⟨_, a₁, w₁, ⟨t, hq, hrt⟩, .pass (x := .inLoop c) rfl (fun _ _ => .inl (by simp)) harr⟩
      | outgrown => exact ⟨_, a₁, w₁, ⟨t, hq, hrt⟩, .pass (x := .inLoop c) rfl (fun _ _ => .inl (by simp)) harr⟩
  obtain ⟨e, a', w', hq, harr⟩ := key k s a w h0 hr
  exact ⟨e, a', w', hq, .of_steps (.one (fenced_calm hb hroom rfl) stepR_loop) harr⟩

theorem Rel.drew {b n : Nat} (h : Rel b n O s a w) : Rel b n O s a { w with drawn := w.drawn + 1 } := by
  obtain ⟨ρ, h⟩ := h
  exact ⟨ρ, h.move (h.toRelO.same (Below.refl _ _).drew)⟩
end

/-! ### masks: what lives at a place -/

inductive Sh where
  | v (T : Ty)
  | k (a : AV)
  | pr (a b : Sh)

abbrev Sh.den : Sh → Type
  | .v T => T.den
  | .k _ => Unit
  | .pr a b => a.den × b.den

def Sh.mk : (h : Sh) → h.den → AV
  | .v T, x => .v T x
  | .k a, _ => a
  | .pr a b, x => .pr (a.mk x.1) (b.mk x.2)

/-- A fixed shape: the same names, of the versions that hold. -/
def fitA (bx : Nat → Option Box) : AV → AV → Bool
  | .ptr i _ o, .ptr i' ver o' => Nat.beq i i' && Nat.beq o o' && (match bx i with | some B => Nat.beq B.ver ver | none => false)
  | .arr i _, .arr i' ver => Nat.beq i i' && (match bx i with | some B => Nat.beq B.ver ver | none => false)
  | .arr i _, .cst (.slice none 0 0) => (bx i).isNone
  | .clo f c, .clo f' c' => Nat.beq f f' && fitA bx c c'
  | .yld k, .yld k' => Nat.beq k k'
  | .pr a b, .pr a' b' => fitA bx a a' && fitA bx b b'
  | .nl, .nl => true
  | _, _ => false

def unPr : AV → Option (AV × AV)
  | .pr x y => some (x, y)
  | _ => none

theorem unPr_eq {av : AV} {q : AV × AV} (h : unPr av = some q) : av = .pr q.1 q.2 := by
  cases av <;> first | (cases h; rfl) | cases h

def takeSh (bx : Nat → Option Box) : (h : Sh) → AV → Option h.den
  | .v T => fun av => asT T av
  | .k p => fun av => bif fitA bx p av then some () else none
  | .pr a b => fun av => match unPr av with
    | some q => match takeSh bx a q.1, takeSh bx b q.2 with
      | some x, some y => some (x, y)
      | _, _ => none
    | none => none

def Sh.bd (nl : Nat) : Sh → Bool
  | .v _ => true
  | .k a => a.bd (fun _ => 1) nl
  | .pr a b => a.bd nl && b.bd nl

inductive BSh where
  | cells (h : Sh)
  | arr (e : TypeId) (T : Ty)

abbrev BSh.den : BSh → Type
  | .cells h => h.den
  | .arr _ T => List T.den

def BSh.mk : (h : BSh) → h.den → Box
  | .cells h, x => .cells 0 (h.mk x)
  | .arr e T, l => .arr 0 e T l

def takeBx (bx : Nat → Option Box) : (h : BSh) → Option Box → Option h.den
  | .cells h => fun B => match B with
    | some (.cells _ av) => takeSh bx h av
    | _ => none
  | .arr e T => fun B => match B with
    | some (.arr _ e' T' l) => if e = e' then (if h : T' = T then some (h ▸ l) else none) else none
    | none => some []
    | _ => none

theorem BSh.ver : ∀ (h : BSh) (z : h.den), (h.mk z).ver = 0
  | .cells _, _ => rfl
  | .arr _ _, _ => rfl

def BSh.bd (nl : Nat) : BSh → Bool
  | .cells h => h.bd nl
  | .arr _ _ => true

structure Mask where
  tms : List (Nat × Nat × Sh)
  bxs : List (Nat × BSh)
  jps : List (Nat × Jmp)
  nl : Nat

abbrev denT : List (Nat × Nat × Sh) → Type
  | [] => Unit
  | q :: l => q.2.2.den × denT l
abbrev denB : List (Nat × BSh) → Type
  | [] => Unit
  | q :: l => q.2.den × denB l

abbrev Mask.den (M : Mask) : Type := denT M.tms × denB M.bxs

def lookT : (l : List (Nat × Nat × Sh)) → denT l → Nat → Nat → Option AV
  | [], _, _, _ => none
  | q :: l, x, f, t => bif Nat.beq f q.1 && Nat.beq t q.2.1 then some (q.2.2.mk x.1) else lookT l x.2 f t
def lookB : (l : List (Nat × BSh)) → denB l → Nat → Option Box
  | [], _, _ => none
  | q :: l, x, id => bif Nat.beq id q.1 then some (q.2.mk x.1) else lookB l x.2 id
def lookJ : List (Nat × Jmp) → Nat → Option Jmp
  | [], _ => none
  | q :: l, k => bif Nat.beq k q.1 then some q.2 else lookJ l k

def Mask.mk' (M : Mask) (x : M.den) : St := ⟨lookT M.tms x.1, lookB M.bxs x.2, fun _ => 1, M.nl, lookJ M.jps⟩

def sameJ : Option Jmp → Option Jmp → Bool
  | none, none => true
  | some .ret, some .ret => true
  | some .busy, some .busy => true
  | some (.exit i), some (.exit j) => Nat.beq i j
  | _, _ => false

def takeT {R : Type} (s : St) : (l : List (Nat × Nat × Sh)) → (denT l → Option R) → Option R
  | [], K => K ()
  | q :: l, K => match s.tm q.1 q.2.1 with
    | some av => match takeSh s.bx q.2.2 av with
      | some x => takeT s l fun y => K (x, y)
      | none => none
    | none => none
def takeB {R : Type} (s : St) : (l : List (Nat × BSh)) → (denB l → Option R) → Option R
  | [], K => K ()
  | q :: l, K => match takeBx s.bx q.2 (s.bx q.1) with
    | some x => takeB s l fun y => K (x, y)
    | none => none

def Mask.bd (M : Mask) : Bool := (M.tms.all fun q => q.2.2.bd M.nl) && M.bxs.all fun q => q.2.bd M.nl
def Mask.jpOK (M : Mask) (X : Ctx) (s : St) : Bool := X.ys.all fun y => sameJ (s.jp y.k) (lookJ M.jps y.k)

def Mask.take {R : Type} (M : Mask) (X : Ctx) (s : St) (K : M.den → Option R) : Option R :=
  bif M.bd && M.jpOK X s then takeT s M.tms fun x => takeB s M.bxs fun y => K (x, y) else none

section
variable {P : Program} {E : Env} {X : Ctx} {O : Octx} {r : Option Nat} {ρ ρ' : Nat → Value} {s s' t : St} {a : Act} {w w' : World} {R : Type}

theorem takeT_spec {y : R} : ∀ (l : List (Nat × Nat × Sh)) (K : denT l → Option R), takeT s l K = some y → ∃ x, K x = some y ∧
    ∀ f t av, lookT l x f t = some av → ∃ q ∈ l, ∃ z bv, av = q.2.2.mk z ∧ s.tm f t = some bv ∧ takeSh s.bx q.2.2 bv = some z
  | [], K, h => ⟨(), h, fun _ _ _ e => by cases e⟩
  | q :: l, K, h => by
    unfold takeT at h
    split at h
    · rename_i bv hbv
      split at h
      · rename_i z hz
        obtain ⟨x, h1, h2⟩ := takeT_spec l _ h
        refine ⟨(z, x), h1, fun f t av e => ?_⟩
        simp only [lookT] at e
        cases hc : (Nat.beq f q.1 && Nat.beq t q.2.1) with
        | true =>
          rw [hc] at e
          simp only [cond_true, Option.some.injEq] at e
          rw [Bool.and_eq_true] at hc
          rw [Nat.eq_of_beq_eq_true hc.1, Nat.eq_of_beq_eq_true hc.2]
          exact ⟨q, List.mem_cons_self, z, bv, e.symm, hbv, hz⟩
        | false =>
          rw [hc] at e
          obtain ⟨q', hq', rest⟩ := h2 f t av e
          exact ⟨q', List.mem_cons_of_mem _ hq', rest⟩
      · cases h
    · cases h

theorem takeB_spec {y : R} : ∀ (l : List (Nat × BSh)) (K : denB l → Option R), takeB s l K = some y → ∃ x, K x = some y ∧
    ∀ id B, lookB l x id = some B → ∃ q ∈ l, ∃ z, B = q.2.mk z ∧ takeBx s.bx q.2 (s.bx id) = some z
  | [], K, h => ⟨(), h, fun _ _ e => by cases e⟩
  | q :: l, K, h => by
    unfold takeB at h
    split at h
    · rename_i z hz
      obtain ⟨x, h1, h2⟩ := takeB_spec l _ h
      refine ⟨(z, x), h1, fun id B e => ?_⟩
      simp only [lookB, bif_beq] at e
      split at e
      · rename_i hi
        subst hi
        exact ⟨q, List.mem_cons_self, z, (Option.some.inj e).symm, hz⟩
      · obtain ⟨q', hq', rest⟩ := h2 id B e
        exact ⟨q', List.mem_cons_of_mem _ hq', rest⟩
    · cases h

/-- How the state of a mask stands to the one it was taken of. -/
structure Mm.Cut (M M' : Mm) (bx : Nat → Option Box) : Prop where
  w : M'.w = M.w
  ok : ∀ k, M.ok k → M'.ok k
  lm : M'.lm = M.lm
  old : M.cur = fun id => (bx id).map Box.ver
  cur : ∀ id v, M'.cur id = some v → v = 0
  rho : ∀ id, (bx id).isSome = true → M'.ρ id = M.ρ id
  nil : ∀ id, bx id = none → M'.ρ id = .slice none 0 0

theorem fitA_holds {M M' : Mm} {bx : Nat → Option Box} (h : M.Cut M' bx) : ∀ (p av : AV) (cs : List Value), fitA bx p av = true → HoldsA M av cs → HoldsA M' p cs
  | .ptr i v o, .ptr i' ver o', cs, hf, hh => by
    simp only [fitA, Bool.and_eq_true] at hf
    obtain ⟨⟨h1, h2⟩, h3⟩ := hf
    have e1 := Nat.eq_of_beq_eq_true h1
    have e2 := Nat.eq_of_beq_eq_true h2
    subst e1; subst e2
    split at h3
    · rename_i B hB
      have e3 := Nat.eq_of_beq_eq_true h3
      obtain ⟨u, eu, h4, h5⟩ := hh
      refine ⟨u, eu, h4, fun _ => ?_⟩
      rw [h.rho i (by rw [hB]; rfl)]
      exact h5 (by rw [h.old]; simp [hB, e3])
    · cases h3
  | .arr i v, .arr i' ver, cs, hf, hh => by
    simp only [fitA, Bool.and_eq_true] at hf
    obtain ⟨h1, h3⟩ := hf
    have e1 := Nat.eq_of_beq_eq_true h1
    subst e1
    split at h3
    · rename_i B hB
      have e3 := Nat.eq_of_beq_eq_true h3
      obtain ⟨u, eu, h4, h5⟩ := hh
      refine ⟨u, eu, h4, fun _ => ?_⟩
      rw [h.rho i (by rw [hB]; rfl)]
      exact h5 (by rw [h.old]; simp [hB, e3])
    · cases h3
  | .arr i v, .cst c, cs, hf, hh => by
    have hc : c = .slice none 0 0 ∧ (bx i).isNone = true := by
      unfold fitA at hf
      split at hf <;> first | (rename_i e1 e2; cases e2; cases e1; exact ⟨rfl, hf⟩) | (simp at hf; done) | (simp_all; done)
    obtain ⟨rfl, hb⟩ := hc
    obtain ⟨e, _⟩ := hh
    refine ⟨.slice none 0 0, e, rfl, fun _ => (h.nil i (by simpa using hb)).symm⟩
  | .clo f c, .clo f' c', cs, hf, hh => by
    simp only [fitA, Bool.and_eq_true] at hf
    have e1 := Nat.eq_of_beq_eq_true hf.1
    subst e1
    obtain ⟨l, e, h1⟩ := hh
    exact ⟨l, e, fitA_holds h c c' l hf.2 h1⟩
  | .yld k, .yld k', cs, hf, hh => by
    simp only [fitA] at hf
    have e1 := Nat.eq_of_beq_eq_true hf
    subst e1
    obtain ⟨u, e, h1, h2⟩ := hh
    exact ⟨u, e, h1, fun l hl => h2 l (by rw [← h.lm]; exact hl)⟩
  | .pr a b, .pr a' b', cs, hf, hh => by
    simp only [fitA, Bool.and_eq_true] at hf
    obtain ⟨c1, c2, e, h1, h2⟩ := hh
    exact ⟨c1, c2, e, fitA_holds h a a' c1 hf.1 h1, fitA_holds h b b' c2 hf.2 h2⟩
  | .nl, .nl, cs, _, hh => hh

theorem takeSh_holds {M M' : Mm} {bx : Nat → Option Box} (h : M.Cut M' bx) : ∀ (p : Sh) (av : AV) (x : p.den) (cs : List Value), takeSh bx p av = some x → HoldsA M av cs → HoldsA M' (p.mk x) cs
  | .v T, av, x, cs, ht, hh => by
    have := asT_holds av T x cs ht hh
    show Holds M'.w M'.ok T x cs
    rw [h.w]
    exact Holds.map (fun k c e z hk hh => ⟨h.ok k hk, hh⟩) _ _ _ this
  | .k p, av, x, cs, ht, hh => by
    simp only [takeSh] at ht
    cases hc : fitA bx p av with
    | true => exact fitA_holds h p av cs hc hh
    | false => rw [hc] at ht; cases ht
  | .pr a b, av, x, cs, ht, hh => by
    simp only [takeSh] at ht
    split at ht
    · rename_i q0 hq0
      have := unPr_eq hq0
      subst this
      split at ht
      · rename_i p q hp hq
        cases ht
        obtain ⟨c1, c2, e, h1, h2⟩ := hh
        exact ⟨c1, c2, e, takeSh_holds h a _ p c1 hp h1, takeSh_holds h b _ q c2 hq h2⟩
      · cases ht
    · cases ht

theorem takeSh_rep {M M' : Mm} {bx : Nat → Option Box} (h : M.Cut M' bx) : ∀ (p : Sh) (av : AV) (x : p.den) (v : Value), takeSh bx p av = some x → RepA M av v → RepA M' (p.mk x) v
  | .v T, av, x, v, ht, hh => by
    obtain ⟨cs, h1, h2⟩ := asT_rep (M := M) (av := av) ht hh
    refine ⟨cs, ?_, h2⟩
    show Holds M'.w M'.ok T x cs
    rw [h.w]
    exact Holds.map (fun k c e z hk hh => ⟨h.ok k hk, hh⟩) _ _ _ h1
  | .k p, av, x, v, ht, hh => by
    simp only [takeSh] at ht
    cases hc : fitA bx p av with
    | false => rw [hc] at ht; cases ht
    | true =>
      show RepA M' p v
      have key : ∀ cs, HoldsA M av cs → mkA p cs = v → (∀ c, p ≠ .tup c) → (∀ c, p ≠ .cst c) → RepA M' p v := fun cs h1 h2 h3 h4 => by
        have := fitA_holds h p av cs hc h1
        cases p <;> first | exact absurd rfl (h3 _) | exact absurd rfl (h4 _) | exact ⟨cs, this, h2.symm⟩
      cases p <;> cases av <;> first | (simp [fitA] at hc; done) | skip
      case arr.cst i ver c =>
        have hv : v = c := hh
        have : c = .slice none 0 0 := by
          unfold fitA at hc
          split at hc <;> first | (rename_i e1 e2; cases e2; rfl) | (simp at hc; done) | (simp_all; done)
        subst this
        exact key [.slice none 0 0] ⟨rfl, fun u hu => by simp at hu; subst hu; rfl⟩ (by rw [hv]; rfl) (fun c e => by cases e) (fun c e => by cases e)
      all_goals
        obtain ⟨cs, h1, h2⟩ := hh
        exact key cs h1 h2.symm (fun c e => by cases e) (fun c e => by cases e)
  | .pr a b, av, x, v, ht, hh => by
    have ht' := ht
    simp only [takeSh] at ht'
    split at ht'
    · rename_i q0 hq0
      have := unPr_eq hq0
      subst this
      obtain ⟨cs, h1, h2⟩ := hh
      exact ⟨cs, takeSh_holds h (.pr a b) (.pr q0.1 q0.2) x cs ht h1, h2⟩
    · cases ht'

theorem Sh.bd_mk {nl : Nat} : ∀ (p : Sh) (x : p.den), p.bd nl = true → (p.mk x).bd (fun _ => 1) nl = true
  | .v _, _, _ => rfl
  | .k _, _, h => h
  | .pr a b, x, h => by
    simp only [Sh.bd, Bool.and_eq_true] at h
    simp only [Sh.mk, AV.bd, Sh.bd_mk a x.1 h.1, Sh.bd_mk b x.2 h.2, Bool.and_self]

theorem sameJ_eq {x y : Option Jmp} (h : sameJ x y = true) : x = y := by
  unfold sameJ at h
  split at h
  · rfl
  · rfl
  · rfl
  · rw [Nat.eq_of_beq_eq_true h]
  · cases h

theorem Mask.take_spec {M : Mask} {K : M.den → Option R} {y : R} (h : M.take X s K = some y) : ∃ x, K x = some y ∧ Weaker E X (M.mk' x) s := by
  unfold Mask.take at h
  cases hc : (M.bd && M.jpOK X s) with
  | false => rw [hc] at h; cases h
  | true =>
    rw [hc] at h
    simp only [cond_true] at h
    simp only [Mask.bd, Mask.jpOK, Bool.and_eq_true, List.all_eq_true] at hc
    obtain ⟨⟨hbT, hbB⟩, hj⟩ := hc
    obtain ⟨x1, h1, h2⟩ := takeT_spec _ _ h
    obtain ⟨x2, h3, h4⟩ := takeB_spec _ _ h1
    refine ⟨(x1, x2), h3, fun O r ρ a w hF hr => ?_⟩
    obtain ⟨ρ', hρ'⟩ : ∃ ρ' : Nat → Value, ρ' = fun id => if (s.bx id).isSome = true then ρ id else .slice none 0 0 := ⟨_, rfl⟩
    have r1 : ∀ id, (s.bx id).isSome = true → ρ' id = ρ id := fun id hid => by rw [hρ']; simp only [hid, if_true]
    have r2 : ∀ id, s.bx id = none → ρ' id = .slice none 0 0 := fun id hid => by rw [hρ']; simp [hid]
    obtain ⟨bx', hbx'⟩ : ∃ bx', bx' = (M.mk' (x1, x2)).bx := ⟨_, rfl⟩
    have hok : ∀ k, okS O ρ s.bx k → okS O ρ' bx' k := fun k hk => ⟨hk.1, fun id hid => by
      cases hs : s.bx id with
      | none => rw [r2 id hs]; exact fun e => by cases e
      | some B => rw [r1 id (by rw [hs]; rfl)]; exact hk.2 id (by rw [hs]; rfl)⟩
    have hcut : (mem O ρ s.bx w).Cut (mem O ρ' bx' w) s.bx := by
      refine ⟨rfl, hok, rfl, rfl, fun id v hv => ?_, r1, r2⟩
      simp only [mem, Option.map_eq_some_iff] at hv
      obtain ⟨B, hB, e⟩ := hv
      rw [hbx'] at hB
      obtain ⟨q, _, z, eB, _⟩ := h4 id B hB
      subst e; subst eB
      exact BSh.ver _ _
    have conv : ∀ f t av v, (M.mk' (x1, x2)).tm f t = some av → (∀ bv, s.tm f t = some bv → RepA (mem O ρ s.bx w) bv v) → av.bd (fun _ => 1) M.nl = true ∧ RepA (mem O ρ' bx' w) av v := fun f t av v ht hv => by
      obtain ⟨q, hq, z, bv, e, hb, htk⟩ := h2 f t av ht
      subst e
      exact ⟨Sh.bd_mk _ _ (hbT q hq), takeSh_rep hcut _ _ _ _ htk (hv bv hb)⟩
    have someS : ∀ id k, refB (ρ' id) = some k → (s.bx id).isSome = true := fun id k hk => by
      cases hs : s.bx id with
      | none => rw [r2 id hs] at hk; cases hk
      | some B => rfl
    refine ⟨ρ', ⟨fun p hp t av ht => ?_, fun id B hB => ?_, fun i j k hi hj h5 h6 => ?_, hr.below, fun q hq => ?_, hr.keep⟩, hr.fresh, hr.size, fun t av ht => ?_, hr.defers⟩
    · rw [← hbx']
      exact conv p.1 t av _ ht fun bv hb => (hr.up p hp t bv hb).2
    · rw [← hbx']
      obtain ⟨q, hq, z, eB, htk⟩ := h4 id B hB
      have hbq := hbB q hq
      obtain ⟨qi, qh⟩ := q
      cases qh with
      | cells h =>
        subst eB
        simp only [BSh.bd] at hbq
        cases hs : s.bx id with
        | none => rw [hs] at htk; cases htk
        | some B0 =>
          rw [hs] at htk
          cases B0 with
          | arr _ _ _ _ => cases htk
          | cells ver av =>
            have htk' : takeSh s.bx h av = some z := htk
            obtain ⟨g1, g2, g, cs, e, g3, g4, g5, g6⟩ := hr.bx id _ hs
            exact ⟨Nat.one_pos, Sh.bd_mk _ _ hbq, g, cs, e, by rw [r1 id (by rw [hs]; rfl)]; exact g3, g4, g5, takeSh_holds hcut _ _ _ _ htk' g6⟩
      | arr e T =>
        subst eB
        simp only [takeBx] at htk
        split at htk
        · rename_i ver e' T' l hs
          split at htk
          · rename_i ee
            subst ee
            split at htk
            · rename_i eT
              subst eT
              cases htk
              obtain ⟨g1, css, g2, g3⟩ := hr.bx id _ hs
              exact ⟨Nat.one_pos, css, All2.imp (fun x c hc => Holds.map (fun k c e z hk hh => ⟨hok k hk, hh⟩) _ _ _ hc) g2, by rw [r1 id (by rw [hs]; rfl)]; exact g3⟩
            · cases htk
          · cases htk
        · rename_i hs
          cases htk
          refine ⟨Nat.one_pos, [], trivial, ?_⟩
          rw [r2 id hs]
          exact World.ownsRow_nil w _ e T.size
        · cases htk
    · exact hr.inj i j k (someS i k h5) (someS j k h6) (by rw [← r1 i (someS i k h5)]; exact h5) (by rw [← r1 j (someS j k h6)]; exact h6)
    · obtain ⟨y', hy', hk'⟩ := hF.ys q hq
      have hjj := sameJ_eq (hj y' hy')
      refine ⟨?_, (hr.lps q hq).2⟩
      show w.heap[q.2.1]? = some (loopAt q.2.2 (lookJ M.jps q.1))
      rw [← hk', ← hjj, hk']
      exact (hr.lps q hq).1
    · rw [← hbx']
      exact conv X.b t av _ ht fun bv hb => (hr.tm t bv hb).2
end
/-! ### pieces, hints -/

inductive Way where
  | nor
  | ret
  | exit (id : Nat)

def Way.out : Way → Exit
  | .nor => .normal
  | .ret => .ret
  | .exit id => .exit id

def Way.is : Way → Exit → Bool
  | .nor, .normal => true
  | .ret, .ret => true
  | .exit i, .exit j => Nat.beq j i
  | _, _ => false

structure Out where
  way : Way
  M : Mask

abbrev denS : List Out → Type
  | [] => Empty
  | o :: l => o.M.den ⊕ denS l

/-- A piece of code as a function of what lives: where it stands; what lives before it; how it may end, and what lives then. -/
structure Seg where
  X : Ctx
  f : FuncId
  p : List Dir
  ins : Mask
  outs : List Out
  G : ins.den → Option (denS outs)

def fanK {R : Type} : (l : List Out) → denS l → (Exit → St → Option R) → Option R
  | [], _, _ => none
  | o :: l, x, K => Sum.elim (fun y => K o.way.out (o.M.mk' y)) (fun z => fanK l z K) x

def FinS (Q : Exit → St → Prop) : (l : List Out) → denS l → Prop
  | [], _ => False
  | o :: l, x => Sum.elim (fun y => Q o.way.out (o.M.mk' y)) (fun z => FinS Q l z) x

def outK (X : Ctx) : (l : List Out) → Exit → St → Option (denS l)
  | [], _, _ => none
  | o :: l, e, t => bif o.way.is e && o.M.jpOK X t then o.M.take X t fun x => some (Sum.inl x) else match outK X l e t with
    | some z => some (Sum.inr z)
    | none => none

def SegOK (P : Program) (E : Env) (S : Seg) : Prop :=
  ∀ x r, S.G x = some r → ∀ O rr, Fits E S.X O rr → Awp P S.X O rr (atR (codeOf E S.f) S.p) (fun e t => FinS (fun e' t' => e = e' ∧ Weaker E S.X t' t) S.outs r) (S.ins.mk' x)

def dirB : Dir → Dir → Bool
  | .s1, .s1 => true | .s2, .s2 => true | .c1, .c1 => true | .c2, .c2 => true | .b, .b => true | .l, .l => true | .ra, .ra => true | .rb, .rb => true
  | _, _ => false
def pathB : List Dir → List Dir → Bool
  | [], [] => true
  | d :: l, d' :: l' => dirB d d' && pathB l l'
  | _, _ => false
def natsB : List Nat → List Nat → Bool
  | [], [] => true
  | d :: l, d' :: l' => Nat.beq d d' && natsB l l'
  | _, _ => false
def LoopI.same (x y : LoopI) : Bool := Nat.beq x.k y.k && Nat.beq x.b y.b && Nat.beq x.n y.n && Nat.beq x.f y.f && pathB x.p y.p
def loopsB : List LoopI → List LoopI → Bool
  | [], [] => true
  | d :: l, d' :: l' => d.same d' && loopsB l l'
  | _, _ => false
def Ctx.same (X Y : Ctx) : Bool := Nat.beq X.b Y.b && Nat.beq X.n Y.n && (X.rd == Y.rd) && natsB X.act Y.act && loopsB X.ys Y.ys

theorem dirB_eq {x y : Dir} (h : dirB x y = true) : x = y := by cases x <;> cases y <;> first | rfl | cases h
theorem pathB_eq : ∀ {x y : List Dir}, pathB x y = true → x = y
  | [], [], _ => rfl
  | d :: l, d' :: l', h => by simp only [pathB, Bool.and_eq_true] at h; rw [dirB_eq h.1, pathB_eq h.2]
  | [], _ :: _, h => by cases h
  | _ :: _, [], h => by cases h
theorem natsB_eq : ∀ {x y : List Nat}, natsB x y = true → x = y
  | [], [], _ => rfl
  | d :: l, d' :: l', h => by simp only [natsB, Bool.and_eq_true] at h; rw [Nat.eq_of_beq_eq_true h.1, natsB_eq h.2]
  | [], _ :: _, h => by cases h
  | _ :: _, [], h => by cases h
theorem LoopI.same_eq {x y : LoopI} (h : x.same y = true) : x = y := by
  simp only [LoopI.same, Bool.and_eq_true] at h
  obtain ⟨⟨⟨⟨h1, h2⟩, h3⟩, h4⟩, h5⟩ := h
  cases x; cases y
  simp only at h1 h2 h3 h4 h5
  rw [Nat.eq_of_beq_eq_true h1, Nat.eq_of_beq_eq_true h2, Nat.eq_of_beq_eq_true h3, Nat.eq_of_beq_eq_true h4, pathB_eq h5]
theorem loopsB_eq : ∀ {x y : List LoopI}, loopsB x y = true → x = y
  | [], [], _ => rfl
  | d :: l, d' :: l', h => by simp only [loopsB, Bool.and_eq_true] at h; rw [LoopI.same_eq h.1, loopsB_eq h.2]
  | [], _ :: _, h => by cases h
  | _ :: _, [], h => by cases h
theorem Ctx.same_eq {X Y : Ctx} (h : X.same Y = true) : X = Y := by
  simp only [Ctx.same, Bool.and_eq_true, beq_iff_eq] at h
  obtain ⟨⟨⟨⟨h1, h2⟩, h3⟩, h4⟩, h5⟩ := h
  cases X; cases Y
  simp only at h1 h2 h3 h4 h5
  rw [Nat.eq_of_beq_eq_true h1, Nat.eq_of_beq_eq_true h2, h3, natsB_eq h4, loopsB_eq h5]

inductive Hint where
  | n
  | two (a b : Hint)
  | use (S : Seg)
  | own (i : Nat) (r : Hint)
  | spec (i : Nat) (r : Hint)
  | call (i b : Nat) (h r : Hint)
  | rf (k b : Nat) (h : Hint)

def Hint.a : Hint → Hint
  | .two a _ => a
  | _ => .n
def Hint.b : Hint → Hint
  | .two _ b => b
  | _ => .n

inductive OpH where
  | plain (own : Bool)
  | spec
  | call (b : Nat) (h : Hint)

def Hint.op : Hint → Nat → OpH
  | .own i r, j => bif Nat.beq j i then .plain true else r.op j
  | .spec i r, j => bif Nat.beq j i then .spec else r.op j
  | .call i b h r, j => bif Nat.beq j i then .call b h else r.op j
  | _, _ => .plain false

def Hint.ownB (h : Hint) (j : Nat) : Bool := match h.op j with
  | .plain o => o
  | _ => false

def Hint.calls : Hint → Bool
  | .own _ r => r.calls
  | .spec _ _ => true
  | .call _ _ _ _ => true
  | _ => false

def HintOK (P : Program) (E : Env) : Hint → Prop
  | .use S => SegOK P E S
  | .two a b => HintOK P E a ∧ HintOK P E b
  | .own _ r => HintOK P E r
  | .spec _ r => HintOK P E r
  | .call _ _ h r => HintOK P E h ∧ HintOK P E r
  | .rf _ _ h => HintOK P E h
  | .n => True

theorem HintOK.a {P : Program} {E : Env} {h : Hint} (hh : HintOK P E h) : HintOK P E h.a := by cases h <;> first | exact hh.1 | exact trivial
theorem HintOK.b {P : Program} {E : Env} {h : Hint} (hh : HintOK P E h) : HintOK P E h.b := by cases h <;> first | exact hh.2 | exact trivial
theorem HintOK.op {P : Program} {E : Env} : ∀ {h : Hint} (_ : HintOK P E h) {j b : Nat} {q : Hint}, h.op j = .call b q → HintOK P E q
  | .n, _, j, b, q, h => by cases h
  | .two _ _, _, j, b, q, h => by cases h
  | .use _, _, j, b, q, h => by cases h
  | .rf _ _ _, _, j, b, q, h => by cases h
  | .own i r, hh, j, b, q, h => by
    simp only [Hint.op, bif_beq] at h
    split at h
    · cases h
    · exact HintOK.op (h := r) hh h
  | .spec i r, hh, j, b, q, h => by
    simp only [Hint.op, bif_beq] at h
    split at h
    · cases h
    · exact HintOK.op (h := r) hh h
  | .call i b' q' r, hh, j, b, q, h => by
    simp only [Hint.op, bif_beq] at h
    split at h
    · cases h; exact hh.1
    · exact HintOK.op (h := r) hh.2 h

theorem HintOK.plain : ∀ {h : Hint}, h.calls = false → ∀ j, h.op j = .plain (h.ownB j)
  | .n, _, j => rfl
  | .two _ _, _, j => rfl
  | .use _, _, j => rfl
  | .rf _ _ _, _, j => rfl
  | .own i r, hc, j => by
    have := HintOK.plain (h := r) hc j
    simp only [Hint.ownB, Hint.op, bif_beq]
    split
    · rfl
    · rw [this]
  | .spec i r, hc, j => by cases hc
  | .call i b' q' r, hc, j => by cases hc

section
variable {P : Program} {E : Env} {X : Ctx} {O : Octx} {r : Option Nat} {s t : St} {R : Type} {Q Q' : Exit → St → Prop}

theorem FinS.imp (h : ∀ e t, Q e t → Q' e t) : ∀ (l : List Out) (x : denS l), FinS Q l x → FinS Q' l x
  | [], _, hh => hh
  | o :: l, .inl y, hh => h _ _ hh
  | o :: l, .inr z, hh => FinS.imp h l z hh

theorem Way.is_eq {w : Way} {e : Exit} (h : w.is e = true) : e = w.out := by
  cases w <;> cases e <;> first | rfl | (cases h; done) | skip
  simp only [Way.is] at h
  rw [Nat.eq_of_beq_eq_true h]; rfl

theorem outK_spec {e : Exit} : ∀ (l : List Out) (z : denS l), outK X l e t = some z → FinS (fun e' t' => e = e' ∧ Weaker E X t' t) l z
  | [], _, h => by cases h
  | o :: l, z, h => by
    simp only [outK] at h
    cases hc : (o.way.is e && o.M.jpOK X t) with
    | true =>
      rw [hc] at h
      simp only [cond_true] at h
      obtain ⟨x, h1, h2⟩ := Mask.take_spec (E := E) h
      cases h1
      rw [Bool.and_eq_true] at hc
      exact ⟨Way.is_eq hc.1, h2⟩
    | false =>
      rw [hc] at h
      simp only [cond_false] at h
      split at h
      · rename_i z' hz
        cases h
        exact outK_spec l z' hz
      · cases h

theorem fanK_spec {y : R} {K : Exit → St → Option R} (hK : ∀ e t, K e t = some y → Q e t) : ∀ (l : List Out) (x : denS l), fanK l x K = some y → FinS Q l x
  | [], _, h => by cases h
  | o :: l, .inl z, h => hK _ _ h
  | o :: l, .inr z, h => fanK_spec hK l z h

theorem FinS.get {e : Exit} : ∀ (l : List Out) (x : denS l), FinS (fun e' t' => e = e' ∧ Weaker E X t' t) l x → FinS Q l x → ∃ t', Q e t' ∧ Weaker E X t' t
  | [], _, h, _ => h.elim
  | o :: l, .inl z, h, hq => by obtain ⟨h1, h2⟩ := h; exact ⟨_, h1 ▸ hq, h2⟩
  | o :: l, .inr z, h, hq => FinS.get l z h hq

def useK (S : Seg) (s : St) (K : Exit → St → Option R) : Option R :=
  S.ins.take S.X s fun x => (S.G x).bind fun r => fanK S.outs r K

theorem useK_sound {S : Seg} {y : R} {K : Exit → St → Option R} (hS : SegOK P E S) (hF : Fits E S.X O r) (h : useK S s K = some y) (hK : ∀ e t, K e t = some y → Q e t) :
    Awp P S.X O r (atR (codeOf E S.f) S.p) Q s := by
  obtain ⟨x, h1, h2⟩ := Mask.take_spec (E := E) h
  rw [Option.bind_eq_some_iff] at h1
  obtain ⟨q, h3, h4⟩ := h1
  exact Awp.weaker hF (Awp.mono hF (hS x q h3 O r hF) fun e t he => FinS.get S.outs q he (fanK_spec hK S.outs q h4)) h2
end
/-! ### one operation, what follows handed on: what may fail of a plain value stands outermost -/

def isDiv : BinOp → Bool
  | .shl | .shr | .quo | .rem => true
  | _ => false

def someK {α R : Type} (x : Option α) (k : α → Option R) : Option R :=
  match x with
  | some y => k y
  | none => none

theorem someK_eq {α R : Type} {x : Option α} {k : α → Option R} : someK x k = x.bind k := by cases x <;> rfl

def callK {R : Type} (E : Env) (h : How) (bx : Nat → Option Box) (dst : Option Nat) (ats : Array TypeId) (callee : Callee) (avs : List (Option AV)) (k : Eff → Option R) : Option R :=
  match callee with
  | .value (.func f) =>
    match E.tab f with
    | some S => someK (asBL bx S.args avs) fun xs => (S.F xs).bind fun r => someK (specE h.own S avs r) k
    | none => match E.cln f with
      | some t => match E.ty t, E.el t, avs with
        | some (.list T), some (e, by_), [some x] => someK (elemsA bx T x) fun l => if l.length * by_ ≤ 140737488355328 then k (.arr (newId h dst) true e T l) else none
        | _, _, _ => none
      | none => match E.xt f with
        | some S => bif freeL S.args && freeL S.res then someK (asBL bx S.args avs) fun xs => (S.F xs).bind fun r => k (.put (resAV S.res r)) else none
        | none => none
  | .builtin .append =>
    match ats[0]?, ats[1]? with
    | some t, some t' => bif Nat.beq t t' && Nat.beq ats.size 2 then
        match E.ty t, E.el t, avs with
        | some (.list T), some (e, by_), [some x, some y] => someK (elemsA bx T y) fun m =>
          match x with
          | .arr id ver => match bx id with
            | some (.arr ver' e' T' l) => if h' : T' = T then (bif Nat.beq ver ver' && Nat.beq e e' then (if (l.length + m.length) * by_ ≤ 140737488355328 then k (.arr id false e T ((h' ▸ l) ++ m)) else none) else none) else none
            | _ => none
          | .cst (.slice none 0 0) => if m.length * by_ ≤ 140737488355328 then k (.arr (newId h dst) true e T m) else none
          | _ => none
        | _, _, _ => none
      else none
    | _, _ => none
  | c => someK (evalCall E h bx dst ats c avs) k

def loadK {R : Type} (E : Env) (ev : Operand → Option AV) (bx : Nat → Option Box) (t : TypeId) (x : Operand) (k : Eff → Option R) : Option R :=
  match E.lay t with
  | some q => match ev x with
    | some (.elt id ver sz i off) => match bx id with
      | some (.arr ver' _ T l) => bif Nat.beq ver ver' && Nat.beq sz T.size then (l[i]?).bind fun y => (match subS T y off q.1 with | some p => bif p.fit && (p.agg == q.2.1) then k (.put p) else none | none => none) else none
      | _ => none
    | some av => match loadA bx q.1 q.2.1 av with
      | some p => k (.put p)
      | none => none
    | none => none
  | none => none

def storeK {R : Type} (E : Env) (ev : Operand → Option AV) (bx : Nat → Option Box) (t : TypeId) (x y : Operand) (k : Eff → Option R) : Option R :=
  match E.lay t with
  | some q => match ev y with
    | some z => match ev x with
      | some (.elt id ver sz i off) => match bx id, E.ty t with
        | some (.arr ver' e T l), some U => bif Nat.beq ver ver' && Nat.beq sz T.size then (match asT U z with
            | some x => (l[i]?).bind fun y => (match upd T y off U x with | some y' => k (.stoE id ver e T (l.set i y')) | none => none)
            | none => none) else none
        | _, _ => none
      | some av => match storeA bx (E.ty t) q.1 z av with
        | some e => k e
        | none => none
      | none => none
    | none => none
  | none => none

def idxK {R : Type} (E : Env) (ev : Operand → Option AV) (bx : Nat → Option Box) (t : TypeId) (x i : Operand) (k : Eff → Option R) : Option R :=
  match ev x, ev i with
  | some x, some i => match E.arr t with
    | some _ => match idxA E bx t x i with
      | some p => k (.put p)
      | none => none
    | none => match E.ty t with
      | some (.list T) => match x with
        | .arr id ver => match bx id with
          | some (.arr ver' _ T' l) => bif Nat.beq ver ver' && decide (T' = T) then someK (asI i) fun m => if 0 ≤ m then (l[m.toNat]?).bind fun _ => k (.put (.elt id ver T'.size m.toNat 0)) else none else none
          | _ => none
        | x => someK (asT (.list T) x) fun l => someK (asI i) fun m => if 0 ≤ m then (l[m.toNat]?).bind fun y => k (.put (.ro T y 0)) else none
      | _ => none
  | _, _ => none

def divK {R : Type} (E : Env) (ev : Operand → Option AV) (op : BinOp) (t : TypeId) (x y : Operand) (k : Eff → Option R) : Option R :=
  match E.ty t with
  | some (.int j) => someK ((ev x).bind (asT (.int j))) fun a =>
      match op with
      | .shl => someK ((ev y).bind asI) fun b => if b < 0 then none else k (.put (.v (.int j) (j.wrap (a * 2 ^ min b.toNat j.bits))))
      | .shr => someK ((ev y).bind asI) fun b => if b < 0 then none else k (.put (.v (.int j) (a.fdiv (2 ^ min b.toNat j.bits))))
      | .quo => someK ((ev y).bind (asT (.int j))) fun b => if b = 0 then none else k (.put (.v (.int j) (j.wrap (a.tdiv b))))
      | .rem => someK ((ev y).bind (asT (.int j))) fun b => if b = 0 then none else k (.put (.v (.int j) (a.tmod b)))
      | _ => none
  | _ => none

def plainK {R : Type} (E : Env) (h : How) (dst : Option Nat) (ev : Operand → Option AV) (bx : Nat → Option Box) (op : Op) (k : Eff → Option R) : Option R :=
  match op with
  | .call c => match dynF ev c.callee with
    | some f => match E.tab f with
      | some S => bif freeL S.args && freeL S.res then someK (asBL bx S.args (c.args.toList.map ev)) fun xs => (S.F xs).bind fun r => k (.put (resAV S.res r)) else none
      | none => none
    | none => callK E h bx dst c.argTypes c.callee (c.args.toList.map ev) k
  | .load t x => loadK E ev bx t x k
  | .store t x y => storeK E ev bx t x y k
  | .indexAddr t x i => idxK E ev bx t x i k
  | .index t x i =>
    bif E.str t then
      match ev x with
      | some (.cst (.string b)) => someK ((ev i).bind asI) fun m => if 0 ≤ m then (b[m.toNat]?).bind fun y => k (.put (.v (.int .u8) (y.toNat : Int))) else none
      | _ => none
    else none
  | .binOp op t x y t' =>
    bif isDiv op && !(E.pt t) then divK E ev op t x y k
    else someK (evalOp E h dst ev bx (.binOp op t x y t')) k
  | .pick c a b =>
    match (ev c).bind (asT .bool) with
    | some x => bif x then someK (ev a) (fun av => k (.put av)) else someK (ev b) (fun av => k (.put av))
    | none => none
  | .makeSlice t x y =>
    match E.ty t, E.el t with
    | some (.list T), some q => someK ((ev x).bind asI) fun n => someK ((ev y).bind asI) fun m => if n = m ∧ 0 ≤ n ∧ n.toNat * q.2 ≤ 140737488355328 then k (.arr (newId h dst) true q.1 T (List.replicate n.toNat (zeroT T))) else none
    | _, _ => none
  | .slice t x lo hi mx =>
    match E.ty t with
    | some (.list T) => bif mx.isNone then someK ((ev x).bind (asT (.list T))) fun l => someK (boundA ev lo 0) fun i => someK (boundA ev hi (l.length : Int)) fun j => if 0 ≤ i ∧ i ≤ j ∧ j ≤ (l.length : Int) then k (.put (.v (.list T) ((l.take j.toNat).drop i.toNat))) else none else none
    | _ => none
  | op => someK (evalOp E h dst ev bx op) k

section
variable {P : Program} {E : Env} {R : Type} {hw : How} {dst : Option Nat} {ev : Operand → Option AV} {bx : Nat → Option Box}

theorem beq_and {α : Type} {a b c d : Nat} {x y : α} : (bif Nat.beq a b && Nat.beq c d then x else y) = if a = b ∧ c = d then x else y := by
  by_cases h1 : a = b
  · by_cases h2 : c = d
    · subst h1; subst h2; simp
    · have : Nat.beq c d = false := Bool.eq_false_iff.2 fun e => h2 (Nat.eq_of_beq_eq_true e)
      simp [h2, this]
  · have : Nat.beq a b = false := Bool.eq_false_iff.2 fun e => h1 (Nat.eq_of_beq_eq_true e)
    simp [h1, this]

theorem callK_eq {ats : Array TypeId} {c : Callee} {avs : List (Option AV)} {k : Eff → Option R} : callK E hw bx dst ats c avs k = (evalCall E hw bx dst ats c avs).bind k := by
  unfold callK
  split
  · rename_i f
    simp only [evalCall]
    cases E.tab f with
    | some S =>
      simp only [someK_eq]
      cases asBL bx S.args avs with
      | none => rfl
      | some xs =>
        simp only [Option.bind_some]
        cases S.F xs <;> rfl
    | none =>
      simp only
      cases E.cln f with
      | none =>
        simp only
        cases E.xt f with
        | none => rfl
        | some S =>
          simp only [someK_eq]
          cases freeL S.args && freeL S.res with
          | false => rfl
          | true =>
            simp only [cond_true]
            cases asBL bx S.args avs with
            | none => rfl
            | some xs =>
              simp only [Option.bind_some]
              cases S.F xs <;> rfl
      | some t =>
        simp only
        cases E.ty t with
        | none => rfl
        | some U =>
          cases U with
          | list T =>
            cases E.el t with
            | none => rfl
            | some q =>
              obtain ⟨e, by_⟩ := q
              match avs with
              | [] => rfl
              | [none] => rfl
              | [some x] =>
                simp only [someK_eq]
                cases elemsA bx T x with
                | none => rfl
                | some l => simp only [Option.bind_some]; split <;> rfl
              | none :: _ :: _ => rfl
              | some _ :: _ :: _ => rfl
          | _ => rfl
  · simp only [evalCall]
    cases ats[0]? with
    | none => rfl
    | some t =>
      cases ats[1]? with
      | none => rfl
      | some t' =>
        simp only [beq_and]
        by_cases hc : t = t' ∧ ats.size = 2
        · simp only [if_pos hc]
          cases E.ty t with
          | none => rfl
          | some U =>
            cases U with
            | list T =>
              cases E.el t with
              | none => rfl
              | some q =>
                obtain ⟨e, by_⟩ := q
                match avs with
                | [] => rfl
                | [none] => rfl
                | [some x] => rfl
                | [none, _] => rfl
                | [some x, none] => rfl
                | none :: _ :: _ :: _ => rfl
                | some _ :: none :: _ :: _ => rfl
                | some _ :: some _ :: _ :: _ => rfl
                | [some x, some y] =>
                  simp only [someK_eq]
                  cases elemsA bx T y with
                  | none => rfl
                  | some m =>
                    simp only [Option.bind_some]
                    have gen : ∀ (x : AV), (∀ i v, x ≠ .arr i v) → (match x with
                        | .arr id ver => match bx id with
                          | some (.arr ver' e' T' l) => if h' : T' = T then (if ver = ver' ∧ e = e' then (if (l.length + m.length) * by_ ≤ 140737488355328 then k (.arr id false e T ((h' ▸ l) ++ m)) else none) else none) else none
                          | _ => none
                        | .cst (.slice none 0 0) => if m.length * by_ ≤ 140737488355328 then k (.arr (newId hw dst) true e T m) else none
                        | _ => none) = ((match x with
                        | .arr id ver => match bx id with
                          | some (.arr ver' e' T' l) => if h' : T' = T then (if ver = ver' ∧ e = e' ∧ (l.length + m.length) * by_ ≤ 140737488355328 then some (.arr id false e T ((h' ▸ l) ++ m)) else none) else none
                          | _ => none
                        | .cst (.slice none 0 0) => if m.length * by_ ≤ 140737488355328 then some (.arr (newId hw dst) true e T m) else none
                        | _ => none) : Option Eff).bind k := fun x hx => by
                      split
                      · exact absurd rfl (hx _ _)
                      · split <;> rfl
                      · rfl
                    cases x
                    case arr id ver =>
                      simp only
                      cases bx id with
                      | none => rfl
                      | some B =>
                        cases B with
                        | cells _ _ => rfl
                        | arr ver' e' T' l =>
                          simp only
                          split
                          · by_cases h3 : ver = ver' ∧ e = e'
                            · rw [if_pos h3]
                              split
                              · rename_i h4; rw [if_pos ⟨h3.1, h3.2, h4⟩]; rfl
                              · rename_i h4; rw [if_neg (fun h => h4 h.2.2)]; rfl
                            · rw [if_neg h3, if_neg (fun h => h3 ⟨h.1, h.2.1⟩)]; rfl
                          · rfl
                    case cst c =>
                      by_cases hcc : c = .slice none 0 0
                      · subst hcc
                        simp only
                        split <;> rfl
                      · have e1 : ∀ {α : Type} (p q : α), (match AV.cst c with | .cst (.slice none 0 0) => p | _ => q) = q := fun p q => by
                          split
                          · rename_i h0; cases h0; exact absurd rfl hcc
                          · rfl
                        simp_all
                    all_goals rfl
            | _ => rfl
        · simp only [if_neg hc]; rfl
  · exact someK_eq

theorem loadK_eq {t : TypeId} {x : Operand} {k : Eff → Option R} : loadK E ev bx t x k = (evalOp E hw dst ev bx (.load t x)).bind k := by
  simp only [evalOp, loadK]
  cases E.lay t with
  | none => rfl
  | some q =>
    simp only [Option.bind_some]
    cases ev x with
    | none => rfl
    | some av =>
      simp only [Option.bind_some]
      have gen : (match loadA bx q.1 q.2.1 av with | some p => k (.put p) | none => none) = (Option.map Eff.put (loadA bx q.1 q.2.1 av)).bind k := by cases loadA bx q.1 q.2.1 av <;> rfl
      cases av
      case elt id ver sz i off =>
        simp only [loadA]
        cases bx id with
        | none => rfl
        | some B =>
          cases B with
          | cells _ _ => rfl
          | arr ver' e T l =>
            simp only
            cases (Nat.beq ver ver' && Nat.beq sz T.size) with
            | false => rfl
            | true =>
              simp only [cond_true]
              cases l[i]? with
              | none => rfl
              | some y =>
                simp only [Option.bind_some]
                cases subS T y off q.1 with
                | none => rfl
                | some p => simp only; cases (p.fit && (p.agg == q.2.1)) <;> rfl
      all_goals exact gen

theorem storeK_eq {t : TypeId} {x y : Operand} {k : Eff → Option R} : storeK E ev bx t x y k = (evalOp E hw dst ev bx (.store t x y)).bind k := by
  simp only [evalOp, storeK]
  cases E.lay t with
  | none => rfl
  | some q =>
    simp only [Option.bind_some]
    cases ev y with
    | none => rfl
    | some z =>
      simp only [Option.bind_some]
      cases ev x with
      | none => rfl
      | some av =>
        simp only [Option.bind_some]
        have gen : (match storeA bx (E.ty t) q.1 z av with | some e => k e | none => none) = (storeA bx (E.ty t) q.1 z av).bind k := by cases storeA bx (E.ty t) q.1 z av <;> rfl
        cases av
        case elt id ver sz i off =>
          simp only [storeA]
          cases bx id with
          | none => rfl
          | some B =>
            cases B with
            | cells _ _ => rfl
            | arr ver' e T l =>
              cases E.ty t with
              | none => rfl
              | some U =>
                simp only
                cases (Nat.beq ver ver' && Nat.beq sz T.size) with
                | false => rfl
                | true =>
                  simp only [cond_true]
                  cases asT U z with
                  | none => rfl
                  | some u =>
                    simp only
                    cases l[i]? with
                    | none => rfl
                    | some y =>
                      simp only [Option.bind_some]
                      cases upd T y off U u <;> rfl
        all_goals exact gen

theorem idxK_eq {t : TypeId} {x i : Operand} {k : Eff → Option R} : idxK E ev bx t x i k = (evalOp E hw dst ev bx (.indexAddr t x i)).bind k := by
  simp only [evalOp, idxK]
  cases ev x with
  | none => rfl
  | some x =>
    simp only [Option.bind_some]
    cases ev i with
    | none => rfl
    | some j =>
      simp only [Option.bind_some]
      cases ha : E.arr t with
      | some q => simp only; cases idxA E bx t x j <;> rfl
      | none =>
        simp only [idxA, ha]
        cases E.ty t with
        | none => rfl
        | some U =>
          cases U with
          | list T =>
            simp only
            have gen : (someK (asT (.list T) x) fun l => someK (asI j) fun m => if 0 ≤ m then (l[m.toNat]?).bind fun y => k (.put (.ro T y 0)) else none) =
                (Option.map Eff.put ((asT (.list T) x).bind fun l => (asI j).bind fun m => if 0 ≤ m then (l[m.toNat]?).bind fun y => some (.ro T y 0) else none)).bind k := by
              simp only [someK_eq]
              cases asT (.list T) x with
              | none => rfl
              | some l =>
                simp only [Option.bind_some]
                cases asI j with
                | none => rfl
                | some m =>
                  simp only [Option.bind_some]
                  split
                  · cases l[m.toNat]? <;> rfl
                  · rfl
            cases x
            case arr id ver =>
              simp only
              cases bx id with
              | none => rfl
              | some B =>
                cases B with
                | cells _ _ => rfl
                | arr ver' e T' l =>
                  simp only
                  cases (Nat.beq ver ver' && decide (T' = T)) with
                  | false => rfl
                  | true =>
                    simp only [cond_true, someK_eq]
                    cases asI j with
                    | none => rfl
                    | some m =>
                      simp only [Option.bind_some]
                      split
                      · cases l[m.toNat]? <;> rfl
                      · rfl
            all_goals exact gen
          | _ => rfl

theorem divK_eq {op : BinOp} {t t' : TypeId} {x y : Operand} {k : Eff → Option R} (hp : E.pt t = false) (h : isDiv op = true) : divK E ev op t x y k = (evalOp E hw dst ev bx (.binOp op t x y t')).bind k := by
  simp only [divK, evalOp, hp, cond_false]
  cases E.ty t with
  | none => rfl
  | some U =>
    simp only [Option.bind_some]
    cases U with
    | int j =>
      simp only [someK_eq]
      cases (ev x).bind (asT (.int j)) with
      | none => rfl
      | some a =>
        simp only [Option.bind_some]
        cases op <;> first | (cases h; done) | skip
        · simp only
          cases (ev y).bind (asT (.int j)) with
          | none => rfl
          | some b => simp only [Option.bind_some, binI]; split <;> rfl
        · simp only
          cases (ev y).bind (asT (.int j)) with
          | none => rfl
          | some b => simp only [Option.bind_some, binI]; split <;> rfl
        · simp only
          cases (ev y).bind asI with
          | none => rfl
          | some b => simp only [Option.bind_some, shiftI]; split <;> rfl
        · simp only
          cases (ev y).bind asI with
          | none => rfl
          | some b => simp only [Option.bind_some, shiftI]; split <;> rfl
    | bool =>
      simp only
      cases (ev x).bind (asT .bool) with
      | none => rfl
      | some a =>
        simp only [Option.bind_some]
        cases (ev y).bind (asT .bool) with
        | none => rfl
        | some b => cases op <;> first | (cases h; done) | rfl
    | pair p q =>
      simp only
      cases (ev x).bind (asT (.pair p q)) with
      | none => rfl
      | some a =>
        simp only [Option.bind_some]
        cases (ev y).bind (asT (.pair p q)) with
        | none => rfl
        | some b =>
          simp only [Option.bind_some]
          split
          · cases op <;> first | (cases h; done) | rfl
          · rfl
    | list T => rfl

theorem plainK_eq {op : Op} {k : Eff → Option R} : plainK E hw dst ev bx op k = (evalOp E hw dst ev bx op).bind k := by
  unfold plainK
  split
  · rename_i c
    simp only [evalOp]
    cases dynF ev c.callee with
    | none => exact callK_eq
    | some f =>
      simp only [dynCall]
      cases E.tab f with
      | none => rfl
      | some S =>
        simp only [someK_eq]
        cases freeL S.args && freeL S.res with
        | false => rfl
        | true =>
          simp only [cond_true]
          cases asBL bx S.args (c.args.toList.map ev) with
          | none => rfl
          | some xs =>
            simp only [Option.bind_some]
            cases S.F xs <;> rfl
  · exact loadK_eq
  · exact storeK_eq
  · exact idxK_eq
  · simp only [evalOp]
    cases E.str _ with
    | false => rfl
    | true =>
      simp only [cond_true, if_true]
      cases ev _ with
      | none => rfl
      | some av =>
        simp only [Option.bind_some]
        cases av with
        | cst c =>
          cases c with
          | string b =>
            simp only [someK_eq]
            cases (ev _).bind asI with
            | none => rfl
            | some m =>
              simp only [Option.bind_some]
              split
              · cases b[m.toNat]? <;> rfl
              · rfl
          | _ => rfl
        | _ => rfl
  · rename_i op t x y t'
    cases hd : isDiv op with
    | true =>
      cases hp : E.pt t with
      | false => simp only [Bool.not_false, Bool.and_self, cond_true]; exact divK_eq hp hd
      | true => simp only [Bool.not_true, Bool.and_false, cond_false]; exact someK_eq
    | false => simp only [Bool.false_and, cond_false]; exact someK_eq
  · simp only [evalOp]
    cases (ev _).bind (asT .bool) with
    | none => rfl
    | some x =>
      cases x with
      | true => simp only [Option.bind_some, cond_true, someK_eq]; cases ev _ <;> rfl
      | false => simp only [Option.bind_some, cond_false, someK_eq]; cases ev _ <;> rfl
  · rename_i t x y
    simp only [evalOp]
    cases E.ty t with
    | none => rfl
    | some U =>
      cases U with
      | list T =>
        cases E.el t with
        | none => rfl
        | some q =>
          simp only [someK_eq, Option.bind_some]
          cases (ev x).bind asI with
          | none => rfl
          | some m =>
            simp only [Option.bind_some]
            cases (ev y).bind asI with
            | none => rfl
            | some m' => simp only [Option.bind_some]; split <;> rfl
      | _ => cases E.el t <;> rfl
  · rename_i t x lo hi mx
    simp only [evalOp]
    cases E.ty t with
    | none => rfl
    | some U =>
      cases U with
      | list T =>
        cases mx with
        | some m => rfl
        | none =>
          simp only [someK_eq, Option.bind_some, Option.isNone_none, cond_true]
          cases (ev x).bind (asT (.list T)) with
          | none => rfl
          | some l =>
            simp only [Option.bind_some]
            cases boundA ev lo 0 with
            | none => rfl
            | some i =>
              simp only [Option.bind_some]
              cases boundA ev hi l.length with
              | none => rfl
              | some j => simp only [Option.bind_some]; split <;> rfl
      | _ => rfl
  · exact someK_eq
end
/-! ### the evaluator -/

abbrev HH (R : Type) := Ctx → FuncId → List Dir → Code → Hint → St → (Exit → St → Option R) → Option R

def dstOK (X : Ctx) (dst : Option Nat) : Bool := dst.all fun d => Nat.blt d X.n

/-- An operation whose function is told, behind a value. -/
def specK {R : Type} (E : Env) (X : Ctx) (o : Oper) (s : St) (K : St → Option R) : Option R :=
  match o.op with
  | .call ⟨.value x, args, _⟩ => match s.ev X.b x with
    | some (.clo f .nl) => match E.tab f with
      | some S => someK (asBL s.bx S.args (args.toList.map (s.ev X.b))) fun xs => (S.F xs).bind fun y =>
          someK (s.app X.b X.n o.dst (if freeL S.res = true then .put (resAV S.res y) else .del (idsL (args.toList.map (s.ev X.b))) (resAV S.res y))) K
      | none => none
    | _ => none
  | _ => none

def isBusy : Option Jmp → Bool
  | some .busy => true
  | _ => false

/-- A call in place, or a round. -/
def placeK {R : Type} (E : Env) (H : HH R) (X : Ctx) (b : Nat) (h : Hint) (o : Oper) (s : St) (K : St → Option R) : Option R :=
  match o.op with
  | .call ⟨.value x, args, _⟩ => match s.ev X.b x with
    | some (.clo f caps) => match E.fn f, seqA (args.toList.map (s.ev X.b)), capsL caps with
      | some fn, some avs, some cl => bif Nat.ble (avs.length + cl.length) fn.ntmps && X.free b && dstOK X o.dst then
          H (X.call b fn.ntmps) f [] (codeOf E f) h (s.enter b (inTm (avs ++ cl))) fun e t =>
            bif (match e with | .ret => true | .normal => true | _ => false) then
              (match retA E t b fn.results.toList with
                | some c => K (renS (Nat.ble 512 b) X.b o.dst (t.putT X.b o.dst (resA c)))
                | none => none)
            else none
          else none
      | _, _, _ => none
    | some (.yld k) => match X.ys.find? fun y => Nat.beq y.k k with
      | some y => match atR (codeOf E y.f) y.p with
        | .rangeFunc _ ps assign body => match seqA (args.toList.map (s.ev X.b)) with
          | some avs => bif Nat.beq avs.length ps.toList.length && (ps.toList.all fun p => Nat.blt p y.n) && (s.jp k).isNone && X.free b && dstOK X o.dst then
              H (X.round b y.n) y.f (.ra :: y.p) assign h.a (s.enter b (roundTm (s.tm y.b) (ps.toList.zip avs))) fun e t1 =>
                bif (match e with | .normal => true | _ => false) && (t1.jp k).isNone then
                  H (X.round b y.n) y.f (.rb :: y.p) body h.b (t1.setJ k (some .busy)) fun e t =>
                    bif isBusy (t.jp k) then
                      (match e with
                        | .normal => K ((t.setJ k none).putT X.b o.dst (.cst (.bool true)))
                        | .ret => K ((t.setJ k (some .ret)).putT X.b o.dst (.cst (.bool false)))
                        | .exit id => K ((t.setJ k (some (.exit id))).putT X.b o.dst (.cst (.bool false)))
                        | _ => none)
                    else none
                else none
              else none
          | none => none
        | _ => none
      | none => none
    | _ => none
  | _ => none

/-- One operation, whose guard has been looked at. -/
def stepM {R : Type} (E : Env) (H : HH R) (X : Ctx) (q : OpH) (o : Oper) (s : St) (c : Bool) (K : St → Option R) : Option R :=
  bif c then (match q with
    | .plain own => plainK E ⟨X.b, own⟩ o.dst (s.ev X.b) s.bx o.op fun e => someK (s.app X.b X.n o.dst e) K
    | .spec => specK E X o s K
    | .call b h => placeK E H X b h o s K)
  else someK (s.app X.b X.n o.dst (.put (.cst undef))) K

def runM {R : Type} (E : Env) (H : HH R) (X : Ctx) (h : Hint) (ops : Array Oper) : List Nat → St → (St → Option R) → Option R
  | [], s, K => K s
  | i :: l, s, K =>
    match ops[i]? with
    | some o =>
      match o.guard with
      | none => stepM E H X (h.op i) o s true fun t => runM E H X h ops l t K
      | some (j, want) =>
        match (ops[j]?).bind (·.dst) with
        | some g =>
          match s.tm X.b g with
          | some (.v .bool x) => bif x then stepM E H X (h.op i) o (s.putT X.b (some g) (.v .bool true)) (true == want) fun t => runM E H X h ops l t K
              else stepM E H X (h.op i) o (s.putT X.b (some g) (.v .bool false)) (false == want) fun t => runM E H X h ops l t K
          | some (.cst (.bool x)) => stepM E H X (h.op i) o s (x == want) fun t => runM E H X h ops l t K
          | some (.cst _) => stepM E H X (h.op i) o s false fun t => runM E H X h ops l t K
          | _ => none
        | none => none
    | none => none

/-- One operation alone is ready, each time. -/
def chainB (md : Region.Mode) (ops : Array Oper) : Nat → Nat → Array Bool → Bool
  | 0, _, listed => (Region.ready md ops listed).isEmpty
  | fuel + 1, k, listed => natsB (Region.ready md ops listed) [k] && chainB md ops fuel (k + 1) (listed.setIfInBounds k true)

/-- How many operations stand ahead of the first call in place. -/
def Hint.pre (h : Hint) : Nat → Nat → Nat
  | 0, k => k
  | m + 1, k => match h.op k with
    | .plain _ => h.pre m (k + 1)
    | _ => k

/-- A region with calls in place: one operation alone is ready, each time; or those ahead of the first call commute, and one alone is ready from there on. -/
def callsB (E : Env) (X : Ctx) (h : Hint) (ops : Array Oper) (tm : Nat → Option AV) : Bool :=
  chainB .any ops ops.size 0 (Array.replicate ops.size false) ||
  (Nat.ble (h.pre ops.size 0) ops.size && lexP (commR E ops h.ownB tm) .any ops (h.pre ops.size 0) (h.pre ops.size 0) 0 (Array.replicate ops.size false) &&
    chainB .any ops (ops.size - h.pre ops.size 0) (h.pre ops.size 0) (setsL (h.pre ops.size 0) 0 (Array.replicate ops.size false)))

def evC {R : Type} (E : Env) (H : HH R) (X : Ctx) (f : FuncId) : List Dir → Code → Hint → St → (Exit → St → Option R) → Option R
  | p, c, h, s, K => match h with
    | .use S => bif S.X.same X && Nat.beq S.f f && pathB S.p p then useK S s K else none
    | h => match c with
      | .skip => K .normal s
      | .ret => K .ret s
      | .exit id => K (.exit id) s
      | .region _ ops draw => bif !draw || (bif h.calls then callsB E X h ops (s.tm X.b) else lexC (commR E ops h.ownB (s.tm X.b)) .any ops ops.size 0 (Array.replicate ops.size false)) then
          runM E H X h ops (List.range' 0 ops.size) s (K .normal) else none
      | .seq x y => evC E H X f (.s1 :: p) x h.a s fun e t => match e with
        | .normal => evC E H X f (.s2 :: p) y h.b t K
        | e => K e t
      | .cond c x y => match (s.ev X.b c).bind (asT .bool) with
        | some v => bif v then evC E H X f (.c1 :: p) x h.a s K else evC E H X f (.c2 :: p) y h.b s K
        | none => none
      | .block id c => evC E H X f (.b :: p) c h.a s fun e t => match e with
        | .exit id' => bif Nat.beq id' id then K .normal t else K (.exit id') t
        | e => K e t
      | .rangeFunc g _ _ _ => match h with
        | .rf k b hh => match s.ev X.b g with
          | some (.clo f' caps) => match E.fn f', capsL caps with
            | some fn, some cl => bif !X.rd && Nat.ble s.nl k && (X.ys.all fun y => !(Nat.beq y.k k)) && X.free b && Nat.ble (1 + cl.length) fn.ntmps then
                H (X.range b fn.ntmps k f p) f' [] (codeOf E f') hh (({ s with nl := k + 1, jp := setJ s.jp k none } : St).enter b (inTm (.yld k :: cl))) fun e t =>
                  bif (match e with | .ret => true | .normal => true | _ => false) && (retA E t b fn.results.toList).isSome then
                    (match t.jp k with
                      | none => K .normal t
                      | some .ret => K .ret t
                      | some (.exit id) => K (.exit id) t
                      | some .busy => none)
                  else none
                else none
            | _, _ => none
          | _ => none
        | _ => none
      | _ => none

def evN {R : Type} (E : Env) : Nat → HH R
  | 0 => fun _ _ _ _ _ _ _ => none
  | d + 1 => fun X f p c h s K => evC E (evN E d) X f p c h s K

section
variable {P : Program} {E : Env} {X : Ctx} {O : Octx} {r : Option Nat} {ρ ρ' : Nat → Value} {s s' t : St} {a : Act} {w w' : World} {R : Type} {H : HH R} {o : Oper} {ops : Array Oper} {y : R}

def HOK (P : Program) (E : Env) (y : R) (H : HH R) : Prop := ∀ X f p c h s K (Q : Exit → St → Prop) O r, c = atR (codeOf E f) p → HintOK P E h → H X f p c h s K = some y → (∀ e t, K e t = some y → Q e t) → Fits E X O r → Awp P X O r c Q s

theorem putT_self {g : Nat} {av : AV} {b : Nat} (h : s.tm b g = some av) : s.putT b (some g) av = s := by
  obtain ⟨tm, bx, us, nl, jp⟩ := s
  simp only [St.putT, St.mk.injEq, and_true]
  funext f t
  simp only [updT]
  cases hc : (Nat.beq t g && Nat.beq f b) with
  | false => rfl
  | true =>
    rw [Bool.and_eq_true] at hc
    rw [Nat.eq_of_beq_eq_true hc.1, Nat.eq_of_beq_eq_true hc.2]
    exact h.symm

theorem specK_sound (hE : E.OK P) (hF : Fits E X O r) {K : St → Option R} (h : specK E X o s K = some y) {KK : Act → World → Prop} {Qx : Exit → Act → World → Prop}
    (hK : ∀ t, K t = some y → ∀ a w, Rel X.b X.n O t a w → KK a w) (hr : Rel X.b X.n O s a w) : o.wpIn (FW r) 0 P a w KK Qx := by
  obtain ⟨ρ, hr⟩ := hr
  unfold specK at h
  split at h
  · rename_i x args ats ho
    split at h
    · rename_i f hx
      split at h
      · rename_i S hS
        rw [someK_eq, Option.bind_eq_some_iff] at h
        obtain ⟨xs, hxs, h⟩ := h
        rw [Option.bind_eq_some_iff] at h
        obtain ⟨z, hz, h⟩ := h
        rw [someK_eq, Option.bind_eq_some_iff] at h
        obtain ⟨t, ht, h⟩ := h
        exact wpOp_spec hE hF hr ho hx hS hxs hz ht (hK t h)
      · cases h
    · cases h
  · cases h

theorem beq_of {m n : Nat} (h : Nat.beq m n = true) : m = n := Nat.eq_of_beq_eq_true h

theorem placeK_sound (hE : E.OK P) (hH : HOK P E y H) (hF : Fits E X O r) {b : Nat} {h : Hint} (ho' : HintOK P E h) {K : St → Option R} (hh : placeK E H X b h o s K = some y) {KK : Act → World → Prop} {Qx : Exit → Act → World → Prop}
    (hK : ∀ t, K t = some y → ∀ a w, Rel X.b X.n O t a w → KK a w) (hr : Rel X.b X.n O s a w) : o.wpIn (FW r) 0 P a w KK Qx := by
  obtain ⟨ρ, hr⟩ := hr
  unfold placeK at hh
  split at hh
  · rename_i x args ats ho
    split at hh
    · rename_i f caps hx
      split at hh
      · rename_i fn avs cl hfn hav hcl
        cases hc : (Nat.ble (avs.length + cl.length) fn.ntmps && X.free b && dstOK X o.dst) with
        | false => rw [hc] at hh; cases hh
        | true =>
          rw [hc] at hh
          simp only [Bool.and_eq_true] at hc
          obtain ⟨⟨h1, h2⟩, h3⟩ := hc
          simp only [cond_true] at hh
          refine wpOp_place hE hF hr ho hx hfn hav hcl (Nat.le_of_ble_eq_true h1) h2 h3 (Q := fun t av => K (renS (Nat.ble 512 b) X.b o.dst (t.putT X.b o.dst av)) = some y)
            (fun O' hF' => hH _ _ _ _ _ _ _ _ O' none rfl ho' hh (fun e t he => ?_) hF') (fun t av hq a' w' hrel => hK _ hq a' w' (renS_rel hrel))
          cases e with
          | normal =>
            simp only [cond_true] at he
            split at he
            · rename_i c hc; exact ⟨.inr rfl, c, hc, he⟩
            · cases he
          | ret =>
            simp only [cond_true] at he
            split at he
            · rename_i c hc; exact ⟨.inl rfl, c, hc, he⟩
            · cases he
          | _ => cases he
      · cases hh
    · rename_i k hx
      split at hh
      · rename_i y' hy'
        have hy1 := List.mem_of_find?_eq_some hy'
        have hy2 := List.find?_some hy'
        have hy2 := beq_of hy2
        subst hy2
        split at hh
        · rename_i g ps assign body hcode
          split at hh
          · rename_i avs hav
            cases hc : (Nat.beq avs.length ps.toList.length && (ps.toList.all fun p => Nat.blt p y'.n) && (s.jp y'.k).isNone && X.free b && dstOK X o.dst) with
            | false => rw [hc] at hh; cases hh
            | true =>
              rw [hc] at hh
              simp only [Bool.and_eq_true, List.all_eq_true] at hc
              obtain ⟨⟨⟨⟨h1, h2⟩, h3⟩, h4⟩, h5⟩ := hc
              simp only [cond_true] at hh
              refine wpOp_round hF hr ho hy1 hx hcode hav (beq_of h1) (fun p hp => by simpa using h2 p hp) (by simpa using h3) h4 h5 (Q := fun t c => K (t.putT X.b o.dst (.cst (.bool c))) = some y)
                (fun O' l hF' => ?_) (fun t c hq a' w' hrel => hK _ hq a' w' hrel)
              refine hH _ _ _ _ _ _ _ _ O' (some l) (by rw [atR, hcode]; rfl) ho'.a hh (fun e t1 he => ?_) hF'
              cases e with
              | normal =>
                cases hj : (t1.jp y'.k) with
                | some j => rw [hj] at he; cases he
                | none =>
                  rw [hj] at he
                  simp only [Option.isNone_none, Bool.and_self, cond_true] at he
                  refine ⟨rfl, rfl, hH _ _ _ _ _ _ _ _ O' (some l) (by rw [atR, hcode]; rfl) ho'.b he (fun e t he => ?_) hF'⟩
                  cases hb : isBusy (t.jp y'.k) with
                  | false => rw [hb] at he; cases he
                  | true =>
                    rw [hb] at he
                    simp only [cond_true] at he
                    refine ⟨?_, ?_⟩
                    · revert hb
                      cases t.jp y'.k with
                      | none => intro h; cases h
                      | some j => cases j <;> first | (intro h; cases h; done) | exact fun _ => rfl
                    · cases e <;> first | exact he | cases he
              | _ => cases he
          · cases hh
        · cases hh
      · cases hh
    · cases hh
  · cases hh

theorem stepM_sound (hE : E.OK P) (hH : HOK P E y H) (hF : Fits E X O r) {i : Nat} {h : Hint} (ho' : HintOK P E h) (ho : ops[i]? = some o) {c : Bool} (hc : wantA X.b ops s o = some c) {K : St → Option R} (hh : stepM E H X (h.op i) o s c K = some y)
    {KK : Act → World → Prop} {Qx : Exit → Act → World → Prop} (hK : ∀ t, K t = some y → ∀ a w, Rel X.b X.n O t a w → KK a w) (hr : Rel X.b X.n O s a w) : wpOpIn (FW r) 0 P ops Qx i KK a w := by
  obtain ⟨ρ, hr'⟩ := hr
  have hw := wantA_sound hr' hc
  unfold wpOpIn
  simp only [ho, hw]
  unfold stepM at hh
  cases c with
  | false =>
    simp only [cond_false, someK_eq, Option.bind_eq_some_iff] at hh
    obtain ⟨t, ht, hh⟩ := hh
    simp only [Bool.false_eq_true, if_false]
    exact ⟨fun _ _ => trivial, hK t hh _ _ (skip_after hr' ht)⟩
  | true =>
    simp only [cond_true] at hh
    simp only [if_true]
    cases hq : h.op i with
    | plain own =>
      rw [hq] at hh
      simp only [plainK_eq, Option.bind_eq_some_iff, someK_eq] at hh
      obtain ⟨e, he, t, ht, hh⟩ := hh
      exact wpOp_eff hE hF.g hr' he ht (hK t hh)
    | spec => rw [hq] at hh; exact specK_sound hE hF hh hK ⟨ρ, hr'⟩
    | call b q => rw [hq] at hh; exact placeK_sound hE hH hF (HintOK.op ho' hq) hh hK ⟨ρ, hr'⟩

/-- What the guard of an operation says, and the rest. -/
theorem runM_cons {h : Hint} {i : Nat} {l : List Nat} {K : St → Option R} (hh : runM E H X h ops (i :: l) s K = some y) :
    ∃ o c, ops[i]? = some o ∧ wantA X.b ops s o = some c ∧ (stepM E H X (h.op i) o s c fun t => runM E H X h ops l t K) = some y := by
  unfold runM at hh
  split at hh
  · rename_i o ho
    split at hh
    · rename_i hg
      exact ⟨o, true, ho, by simp only [wantA, hg], hh⟩
    · rename_i j want hg
      split at hh
      · rename_i g hj
        split at hh
        · rename_i x hx
          have hw : wantA X.b ops s o = some (x == want) := by simp only [wantA, hg, hj, Option.bind_some, hx]; rfl
          cases x with
          | true => rw [putT_self hx] at hh; exact ⟨o, _, ho, hw, hh⟩
          | false => rw [putT_self hx] at hh; exact ⟨o, _, ho, hw, hh⟩
        · rename_i x hx
          exact ⟨o, _, ho, by simp only [wantA, hg, hj, Option.bind_some, hx], hh⟩
        · rename_i v hnb hx
          exact ⟨o, _, ho, by simp only [wantA, hg, hj, Option.bind_some, hx], hh⟩
        · cases hh
      · cases hh
  · cases hh

theorem runM_ops (hE : E.OK P) (hH : HOK P E y H) (hF : Fits E X O r) {h : Hint} (ho' : HintOK P E h) {Qx : Exit → Act → World → Prop} : ∀ (l : List Nat) (s : St) (K : St → Option R) (a : Act) (w : World), runM E H X h ops l s K = some y →
    (∀ t, K t = some y → ∀ a w, Rel X.b X.n O t a w → Qx .normal a w) → Rel X.b X.n O s a w → wpOpsIn (FW r) 0 P ops Qx l a w
  | [], s, K, a, w, hh, hK, hr => hK s hh a w hr
  | i :: l, s, K, a, w, hh, hK, hr => by
    obtain ⟨o, c, ho, hc, hh⟩ := runM_cons hh
    rw [wpOpsIn_cons]
    exact stepM_sound hE hH hF ho' ho hc hh (fun t ht a w hr => runM_ops hE hH hF ho' l t K a w ht hK hr) hr

theorem runM_chain (hE : E.OK P) (hH : HOK P E y H) (hF : Fits E X O r) {h : Hint} (ho' : HintOK P E h) {Qx : Exit → Act → World → Prop} : ∀ (n k : Nat) (listed : Array Bool) (s : St) (K : St → Option R) (a : Act) (w : World), chainB .any ops n k listed = true →
    runM E H X h ops (List.range' k n) s K = some y → (∀ t, K t = some y → ∀ a w, Rel X.b X.n O t a w → Qx .normal a w) → Rel X.b X.n O s a w → wpAnyIn (FW r) 0 P .any ops Qx n listed a w
  | 0, k, listed, s, K, a, w, hB, hh, hK, hr => ⟨by simpa [chainB] using hB, hK s hh a w hr⟩
  | n + 1, k, listed, s, K, a, w, hB, hh, hK, hr => by
    simp only [chainB, Bool.and_eq_true] at hB
    have hready := natsB_eq hB.1
    rw [List.range'_succ] at hh
    obtain ⟨o, c, ho, hc, hh⟩ := runM_cons hh
    refine ⟨fun h0 => (by rw [hready] at h0; cases h0), fun i hi => ?_⟩
    rw [hready] at hi
    have hik : i = k := by simpa using hi
    subst hik
    exact stepM_sound hE hH hF ho' ho hc hh (fun t ht a w hr => runM_chain hE hH hF ho' n (i + 1) _ t K a w hB.2 ht hK hr) hr

/-- Plain operations alone: one run. -/
theorem runM_plain {h : Hint} (hc : h.calls = false) : ∀ (l : List Nat) (s : St) (K : St → Option R), runM E H X h ops l s K = some y → ∃ t, runL (stepR E h.ownB X.b X.n ops) l s = some t ∧ K t = some y
  | [], s, K, hh => ⟨s, rfl, hh⟩
  | i :: l, s, K, hh => by
    obtain ⟨o, c, ho, hw, hh⟩ := runM_cons hh
    rw [HintOK.plain hc i] at hh
    have : ∃ t, stepR E h.ownB X.b X.n ops i s = some t ∧ runM E H X h ops l t K = some y := by
      unfold stepM at hh
      simp only [stepR, ho, Option.bind_some, hw]
      cases c with
      | true =>
        simp only [cond_true, plainK_eq, Option.bind_eq_some_iff, someK_eq] at hh ⊢
        obtain ⟨e, he, t, ht, hh⟩ := hh
        exact ⟨t, ⟨e, he, ht⟩, hh⟩
      | false =>
        simp only [cond_false, someK_eq, Option.bind_eq_some_iff] at hh ⊢
        obtain ⟨t, ht, hh⟩ := hh
        exact ⟨t, ⟨_, rfl, ht⟩, hh⟩
    obtain ⟨t, h1, h2⟩ := this
    obtain ⟨u, h3, h4⟩ := runM_plain hc l t K h2
    exact ⟨u, by simp only [runL, h1, Option.bind_some, h3], h4⟩

theorem Hint.pre_plain {h : Hint} : ∀ (m k i : Nat), k ≤ i → i < h.pre m k → h.op i = .plain (h.ownB i)
  | 0, k, i, h1, h2 => by simp only [Hint.pre] at h2; omega
  | m + 1, k, i, h1, h2 => by
    simp only [Hint.pre] at h2
    split at h2
    · rename_i o ho
      by_cases e : i = k
      · subst e; simp only [Hint.ownB, ho]
      · exact Hint.pre_plain m (k + 1) i (by omega) h2
    · omega

theorem runM_plainL {h : Hint} {l' : List Nat} : ∀ (l : List Nat) (s : St) (K : St → Option R), (∀ i ∈ l, h.op i = .plain (h.ownB i)) → runM E H X h ops (l ++ l') s K = some y →
    ∃ t, runL (stepR E h.ownB X.b X.n ops) l s = some t ∧ runM E H X h ops l' t K = some y
  | [], s, K, _, hh => ⟨s, rfl, hh⟩
  | i :: l, s, K, hp, hh => by
    rw [List.cons_append] at hh
    obtain ⟨o, c, ho, hw, hh⟩ := runM_cons hh
    rw [hp i (by simp)] at hh
    have : ∃ t, stepR E h.ownB X.b X.n ops i s = some t ∧ runM E H X h ops (l ++ l') t K = some y := by
      unfold stepM at hh
      simp only [stepR, ho, Option.bind_some, hw]
      cases c with
      | true =>
        simp only [cond_true, plainK_eq, Option.bind_eq_some_iff, someK_eq] at hh ⊢
        obtain ⟨e, he, t, ht, hh⟩ := hh
        exact ⟨t, ⟨e, he, ht⟩, hh⟩
      | false =>
        simp only [cond_false, someK_eq, Option.bind_eq_some_iff] at hh ⊢
        obtain ⟨t, ht, hh⟩ := hh
        exact ⟨t, ⟨_, rfl, ht⟩, hh⟩
    obtain ⟨t, h1, h2⟩ := this
    obtain ⟨u, h3, h4⟩ := runM_plainL l t K (fun i hi => hp i (by simp [hi])) h2
    exact ⟨u, by simp only [runL, h1, Option.bind_some, h3], h4⟩

theorem Awp.region (hE : E.OK P) (hm : P.follows .mixedOrders = true) (hH : HOK P E y H) (hF : Fits E X O r) {h : Hint} (ho' : HintOK P E h) {id : Nat} {draw : Bool} {K : St → Option R} {Q : Exit → St → Prop}
    (hh : (bif !draw || (bif h.calls then callsB E X h ops (s.tm X.b) else lexC (commR E ops h.ownB (s.tm X.b)) .any ops ops.size 0 (Array.replicate ops.size false)) then
          runM E H X h ops (List.range' 0 ops.size) s K else none) = some y) (hK : ∀ t, K t = some y → Q .normal t) : Awp P X O r (.region id ops draw) Q s := by
  intro a w hr
  cases draw with
  | false =>
    simp only [Bool.not_false, Bool.true_or, cond_true] at hh
    exact wpIn_region (by rw [List.range_eq_range']; exact runM_ops hE hH hF ho' _ s K a w hh (fun t ht a w hr => ⟨t, hK t ht, hr⟩) hr)
  | true =>
    simp only [Bool.not_true, Bool.false_or] at hh
    cases hc : h.calls with
    | true =>
      rw [hc] at hh
      simp only [cond_true, callsB] at hh
      cases hB : chainB .any ops ops.size 0 (Array.replicate ops.size false) with
      | false =>
        rw [hB, Bool.false_or] at hh
        generalize hp : h.pre ops.size 0 = p at hh
        cases hB2 : (Nat.ble p ops.size && lexP (commR E ops h.ownB (s.tm X.b)) .any ops p p 0 (Array.replicate ops.size false) && chainB .any ops (ops.size - p) p (setsL p 0 (Array.replicate ops.size false))) with
        | false => rw [hB2] at hh; cases hh
        | true =>
          rw [hB2] at hh
          simp only [cond_true] at hh
          simp only [Bool.and_eq_true] at hB2
          obtain ⟨⟨b1, b2⟩, b3⟩ := hB2
          have b1 := Nat.le_of_ble_eq_true b1
          have e1 : List.range' 0 ops.size = List.range' 0 p ++ List.range' p (ops.size - p) := by
            have := List.range'_append (s := 0) (m := p) (n := ops.size - p) (step := 1)
            rw [show p + (ops.size - p) = ops.size by omega] at this
            simpa using this.symm
          rw [e1] at hh
          obtain ⟨t, h1, h2⟩ := runM_plainL _ s K (fun i hi => Hint.pre_plain ops.size 0 i (Nat.zero_le _) (by rw [hp]; rw [List.mem_range'_1] at hi; omega)) hh
          have hv : InvK E X.b ops s s := invK_self (by obtain ⟨ρ, hr⟩ := hr; exact hr.bds)
          have hA := anyP_lex (md := .any) (keepsK hE) (fun i j hij => commR_ok hij) p 0 _ s t hv (closed_none _) b2 h1
          refine wpIn_region_any hm ?_
          have e2 : ops.size = (ops.size - p) + p := by omega
          have := wpAny_of_anyP (stepR_sound hE hF.g) (Q := fun e a w => ∃ t, Q e t ∧ Rel X.b X.n O t a w) (q := ops.size - p) (fun l x a w hx hr => by
            obtain ⟨⟨hl, hxt⟩, _⟩ := hx
            subst hl; subst hxt
            exact runM_chain hE hH hF ho' _ p _ _ K a w b3 h2 (fun t ht a w hr => ⟨t, hK t ht, hr⟩) hr) p _ s a _ hA hr.drew
          rw [← e2] at this
          exact this
      | true =>
        rw [hB, Bool.true_or] at hh
        exact wpIn_region_any hm (runM_chain hE hH hF ho' _ 0 _ s K a _ hB hh (fun t ht a w hr => ⟨t, hK t ht, hr⟩) hr.drew)
    | false =>
      rw [hc] at hh
      simp only [cond_false] at hh
      cases hB : lexC (commR E ops h.ownB (s.tm X.b)) .any ops ops.size 0 (Array.replicate ops.size false) with
      | false => rw [hB] at hh; cases hh
      | true =>
        rw [hB] at hh
        obtain ⟨t, h1, h2⟩ := runM_plain hc _ s K hh
        have hv : InvK E X.b ops s s := invK_self (by obtain ⟨ρ, hr⟩ := hr; exact hr.bds)
        exact wp_region_abs hm (stepR_sound hE hF.g) (keepsK hE) hv (fun i j hij => commR_ok hij) hB hr.drew h1 (fun a w hr => ⟨t, hK t h2, hr⟩)

theorem evC_use {f : FuncId} {p : List Dir} {c : Code} {S : Seg} {K : Exit → St → Option R} {Q : Exit → St → Prop} (hc : c = atR (codeOf E f) p) (ho : HintOK P E (.use S)) (h1 : evC E H X f p c (.use S) s K = some y)
    (hK : ∀ e t, K e t = some y → Q e t) (hF : Fits E X O r) : Awp P X O r c Q s := by
  have h2 : (bif S.X.same X && Nat.beq S.f f && pathB S.p p then useK S s K else none) = some y := by
    cases c <;> exact h1
  cases hb : (S.X.same X && Nat.beq S.f f && pathB S.p p) with
  | false => rw [hb] at h2; cases h2
  | true =>
    rw [hb] at h2
    simp only [Bool.and_eq_true] at hb
    have e1 := Ctx.same_eq hb.1.1; have e2 := beq_of hb.1.2; have e3 := pathB_eq hb.2
    subst e1; subst e2; subst e3
    rw [hc]
    exact useK_sound ho hF h2 hK

theorem evC_range (hE : E.OK P) (hH : HOK P E y H) {f : FuncId} {p : List Dir} {g : Operand} {ps : Array Tmp} {assign body : Code} {h : Hint} {K : Exit → St → Option R} {Q : Exit → St → Prop} (hc : .rangeFunc g ps assign body = atR (codeOf E f) p) (ho : HintOK P E h)
    (hu : ∀ S, h ≠ .use S) (h1 : evC E H X f p (.rangeFunc g ps assign body) h s K = some y) (hK : ∀ e t, K e t = some y → Q e t) (hF : Fits E X O r) : Awp P X O r (.rangeFunc g ps assign body) Q s := by
  cases h with
  | use S => exact absurd rfl (hu S)
  | rf k b hh =>
    simp only [evC] at h1
    split at h1
    · rename_i f' caps hg
      split at h1
      · rename_i fn cl hfn hcl
        cases hb : (!X.rd && Nat.ble s.nl k && (X.ys.all fun y => !(Nat.beq y.k k)) && X.free b && Nat.ble (1 + cl.length) fn.ntmps) with
        | false => rw [hb] at h1; cases h1
        | true =>
          rw [hb] at h1
          simp only [Bool.and_eq_true, Bool.not_eq_true'] at hb
          obtain ⟨⟨⟨⟨g1, g2⟩, g3⟩, g4⟩, g5⟩ := hb
          simp only [cond_true] at h1
          refine Awp.rangeFunc hE hF g1 hc.symm hg hfn hcl (Nat.le_of_ble_eq_true g5) g4 (Nat.le_of_ble_eq_true g2) g3 fun O' hF' => ?_
          refine hH (X.range b fn.ntmps k f p) f' [] (codeOf E f') hh _ _ _ O' none rfl ho h1 (fun e t he => ?_) hF'
          have key : (bif (retA E t b fn.results.toList).isSome then (match t.jp k with | none => K .normal t | some .ret => K .ret t | some (.exit id) => K (.exit id) t | some .busy => none) else none) = some y → ∃ c, retA E t b fn.results.toList = some c ∧ rangeQ k Q t (resA c) := fun he => by
            cases hret : retA E t b fn.results.toList with
            | none => rw [hret] at he; cases he
            | some c =>
              rw [hret] at he
              simp only [Option.isSome_some, cond_true] at he
              refine ⟨c, rfl, ?_⟩
              unfold rangeQ
              split at he
              · rename_i hj; first | exact hK _ _ he | (rw [hj]; exact hK _ _ he)
              · rename_i hj; first | exact hK _ _ he | (rw [hj]; exact hK _ _ he)
              · rename_i id hj; first | exact hK _ _ he | (rw [hj]; exact hK _ _ he)
              · cases he
          cases e with
          | normal => exact ⟨.inr rfl, key (by simpa only [Bool.true_and] using he)⟩
          | ret => exact ⟨.inl rfl, key (by simpa only [Bool.true_and] using he)⟩
          | _ => cases he
      · cases h1
    · cases h1
  | _ => cases h1

/-- THE EVALUATOR IS SOUND. -/
theorem evC_sound (hE : E.OK P) (hm : P.follows .mixedOrders = true) (hH : HOK P E y H) : HOK P E y (fun X f p c h s K => evC E H X f p c h s K) := by
  intro X f p c
  induction c generalizing p with
  | skip =>
    intro h s K Q O r hc ho h1 hK hF
    cases h with
    | use S => exact evC_use hc ho h1 hK hF
    | _ => exact Awp.skip (hK _ _ h1)
  | ret =>
    intro h s K Q O r hc ho h1 hK hF
    cases h with
    | use S => exact evC_use hc ho h1 hK hF
    | _ => exact Awp.ret (hK _ _ h1)
  | exit id =>
    intro h s K Q O r hc ho h1 hK hF
    cases h with
    | use S => exact evC_use hc ho h1 hK hF
    | _ => exact Awp.exit (hK _ _ h1)
  | region id ops draw =>
    intro h s K Q O r hc ho h1 hK hF
    cases h with
    | use S => exact evC_use hc ho h1 hK hF
    | _ => exact Awp.region hE hm hH hF ho h1 fun t ht => hK _ _ ht
  | seq x z ihx ihz =>
    intro h s K Q O r hc ho h1 hK hF
    have fin : ∀ h : Hint, HintOK P E h.a → HintOK P E h.b → (evC E H X f (.s1 :: p) x h.a s fun e t => match e with | .normal => evC E H X f (.s2 :: p) z h.b t K | e => K e t) = some y → Awp P X O r (.seq x z) Q s := fun h ha hb h1 => by
      refine Awp.seq (ihx (.s1 :: p) h.a s _ _ O r (by rw [atR, ← hc]; rfl) ha h1 (fun e t he => ?_) hF)
      cases e with
      | normal => exact ihz (.s2 :: p) h.b t K Q O r (by rw [atR, ← hc]; rfl) hb he hK hF
      | _ => exact hK _ _ he
    cases h with
    | use S => exact evC_use hc ho h1 hK hF
    | _ => exact fin _ ho.a ho.b h1
  | cond c x z ihx ihz =>
    intro h s K Q O r hc ho h1 hK hF
    have fin : ∀ h : Hint, HintOK P E h.a → HintOK P E h.b → (match (s.ev X.b c).bind (asT .bool) with | some v => bif v then evC E H X f (.c1 :: p) x h.a s K else evC E H X f (.c2 :: p) z h.b s K | none => none) = some y → Awp P X O r (.cond c x z) Q s := fun h ha hb h1 => by
      split at h1
      · rename_i v hv
        refine Awp.cond hv (fun e => ?_) (fun e => ?_)
        · subst e; exact ihx (.c1 :: p) h.a s K Q O r (by rw [atR, ← hc]; rfl) ha h1 hK hF
        · subst e; exact ihz (.c2 :: p) h.b s K Q O r (by rw [atR, ← hc]; rfl) hb h1 hK hF
      · cases h1
    cases h with
    | use S => exact evC_use hc ho h1 hK hF
    | _ => exact fin _ ho.a ho.b h1
  | block id c ih =>
    intro h s K Q O r hc ho h1 hK hF
    have fin : ∀ h : Hint, HintOK P E h.a → (evC E H X f (.b :: p) c h.a s fun e t => match e with | .exit id' => bif Nat.beq id' id then K .normal t else K (.exit id') t | e => K e t) = some y → Awp P X O r (.block id c) Q s := fun h ha h1 => by
      refine Awp.block (ih (.b :: p) h.a s _ _ O r (by rw [atR, ← hc]; rfl) ha h1 (fun e t he => ?_) hF)
      cases e with
      | exit id' =>
        simp only [bif_beq, inBlockA] at he ⊢
        split at he
        · rw [if_pos (by assumption)]; exact hK _ _ he
        · rw [if_neg (by assumption)]; exact hK _ _ he
      | _ => exact hK _ _ he
    cases h with
    | use S => exact evC_use hc ho h1 hK hF
    | _ => exact fin _ ho.a h1
  | rangeFunc g ps assign body iha ihb =>
    intro h s K Q O r hc ho h1 hK hF
    cases h with
    | use S => exact evC_use hc ho h1 hK hF
    | _ => exact evC_range hE hH hc ho (fun _ e => by cases e) h1 hK hF
  | _ =>
    intro h s K Q O r hc ho h1 hK hF
    cases h with
    | use S => exact evC_use hc ho h1 hK hF
    | _ => simp [evC] at h1

theorem evN_sound (hE : E.OK P) (hm : P.follows .mixedOrders = true) : ∀ d, HOK P E y (evN E d)
  | 0 => fun X f p c h s K Q O r _ _ h1 _ _ => by cases h1
  | d + 1 => evC_sound hE hm (evN_sound hE hm d)
end
end Go.Proofs.YtjjhfhhoefdjaaaGreatDoor.Rf
