/- The law's function upon plain values: its code run by the evaluator, each call by its printed contract. No condition. -/
import Derived.Test.YtaookeneeemfbaaDoorRF
import Derived.Test.YtaookeneeemfbaaDoorPAx0
import Derived.Test.YtaookeneeemfbaaDoorPAx3
import Derived.Test.YtaookeneeemfbaaDoorPAx7
import Derived.Test.YtaookeneeemfbaaDoorPAx8
import Derived.Test.YtaookeneeemfbaaDoorPAx9
import Derived.Test.YtaookeneeemfbaaDoorPAx14
import Derived.Test.YtaookeneeemfbaaDoorPAx21
import Derived.KernelRfl
namespace Go.Proofs.YtaookeneeemfbaaDoor.Rf
open Go Go.Proofs
set_option linter.unusedVariables false
set_option linter.unusedSimpArgs false
set_option maxRecDepth 100000
/-! ### the printed words' readings of rows, and Holds (NAME: the seat's) -/
section
open Go.RowKit Go.Proofs.YtaookeneeemfbaaDoorW.PrintWords
variable {w : World} {ok : Nat → Prop}

theorem flat_int {k : IntKind} : ∀ {l : List Int} {css : List (List Value)}, All2 (Holds w ok (.int k)) l css → css.flatten = l.map (Value.int k)
  | [], [], _ => rfl
  | x :: l, d :: css, ⟨h1, h2⟩ => by
    rw [List.flatten_cons, flat_int h2, show d = _ from h1]; rfl

/-- A row of whole numbers, as the printed contracts ask for it. -/
theorem holds_C {k : IntKind} {l : List Int} {v : Value} (h : Rep w ok (.list (.int k)) l v) : ∃ A c, v = .slice A l.length c ∧ l.length ≤ c ∧ Kd.C (Kd.int k) w A l.length l := by
  obtain ⟨cs, ⟨A, cap, css, e, ⟨hc, hm⟩, h1, h2⟩, rfl⟩ := h
  subst e
  refine ⟨A, cap, rfl, hc, rfl, hm, fun hn => ?_⟩
  have hne : l ≠ [] := fun e => by rw [e] at hn; exact Nat.lt_irrefl _ hn
  obtain ⟨ad, hA, hs, _, cc, el, z, hh, hv⟩ := h2 hne
  refine ⟨ad, hA, fun j p hp => ⟨[.int k p], rfl, rfl, fun i u hu => ?_⟩⟩
  have hi : i = 0 ∧ u = .int k p := by
    cases i with
    | zero => exact ⟨rfl, (Option.some.inj hu).symm⟩
    | succ i => simp at hu
  obtain ⟨rfl, rfl⟩ := hi
  have hf : css.flatten[j]? = some (.int k p) := by rw [flat_int h1]; simp [hp]
  have hadd : ad.add (j * (Kd.int k).sz + 0) = ⟨ad.block, ad.off + j, none⟩ := by
    obtain ⟨b, o, sp⟩ := ad
    simp only at hs
    subst hs
    show Addr.add _ (j * 1 + 0) = _
    unfold Addr.add; split <;> simp_all
  rw [hadd]
  simp only [World.cell?, hh]
  exact hv _ _ hf

/-- A row that a printed contract hands back. -/
theorem R_holds {k : IntKind} {e base : Nat} {l : List Int} {v : Value} {okr : Nat → Prop} (h : Kd.R (Kd.int k) e w base okr v l) : Rep w (fun b => base ≤ b) (.list (.int k)) l v := by
  obtain ⟨_, inner, ⟨hl, hv⟩, hr⟩ := h
  have hrep : ∀ j p, l[j]? = some p → inner[j]? = some (Value.int k p) := fun j p hp => by
    have h1 : (inner.drop (j * 1)).take 1 = [.int k p] := hr.2 j p hp
    have h2 := congrArg (·[0]?) h1
    simpa using h2
  have hall : All2 (Holds w (fun b => base ≤ b) (.int k)) l (l.map fun x => [Value.int k x]) := by
    clear hr hl hv hrep
    induction l with
    | nil => exact trivial
    | cons x l ih => exact ⟨rfl, ih⟩
  have hfl : (l.map fun x => [Value.int k x]).flatten = l.map (Value.int k) := flat_int hall
  rcases hv with ⟨rfl, h0⟩ | ⟨g, cap, cur, rfl, hg, hh, hn, hm, hsz, ht⟩
  · have : l = [] := List.length_eq_zero_iff.1 h0
    subst this
    exact ⟨[.slice none 0 0], ⟨none, 0, [], rfl, ⟨Nat.le_refl _, Nat.zero_le _⟩, trivial, fun h => absurd rfl h⟩, rfl⟩
  · refine ⟨[.slice (some ⟨g, 0, none⟩) l.length cap], ⟨some ⟨g, 0, none⟩, cap, _, rfl, ⟨hn, Nat.le_trans hn hm⟩, hall, fun _ => ⟨_, rfl, rfl, hg, cur, e, (0, 0), hh, fun j v hj => ?_⟩⟩, rfl⟩
    rw [hfl] at hj
    rw [List.getElem?_map, Option.map_eq_some_iff] at hj
    obtain ⟨p, hp, rfl⟩ := hj
    have h1 := hrep j p hp
    rw [← ht, List.getElem?_take] at h1
    split at h1
    · simpa using h1
    · cases h1
end

section
open Go.RowKit Go.Proofs.YtaookeneeemfbaaDoorW.PrintWords
variable {w : World} {ok : Nat → Prop}

/-- A sign and limbs. -/
abbrev TW : Ty := .pair .bool (.list (.int .u32))

theorem rep_whole {x : Ty.den TW} {v : Value} (h : Rep w ok TW x v) : ∃ A c, v = .agg #[.bool x.1, .slice A x.2.length c] ∧ x.2.length ≤ c ∧ Kd.C (Kd.int .u32) w A x.2.length x.2 := by
  obtain ⟨cs, ⟨c1, c2, e, h1, h2⟩, rfl⟩ := h
  obtain ⟨A, c, hv, hc, hC⟩ := holds_C (k := .u32) (l := x.2) (v := mkV (.list (.int .u32)) c2) ⟨c2, h2, rfl⟩
  obtain ⟨A', c', css, e2, _⟩ := h2
  subst e2
  refine ⟨A, c, ?_, hc, hC⟩
  rw [e, show c1 = [.bool x.1] from h1]
  have : (Value.slice A' x.2.length c' : Value) = .slice A x.2.length c := hv
  simp [mkV, this]

theorem whole_rep {e base : Nat} {okr : Nat → Prop} {b : Bool} {l : List Int} {v : Value} (h : Kd.R (Kd.int .u32) e w base okr v l) : Rep w (fun k => base ≤ k) TW (b, l) (.agg #[.bool b, v]) := by
  obtain ⟨cs, hc, hv⟩ := R_holds h
  obtain ⟨A, cap, css, e1, r⟩ := hc
  subst e1
  refine ⟨[.bool b, .slice A l.length cap], ⟨[.bool b], [.slice A l.length cap], rfl, rfl, A, cap, css, rfl, r⟩, ?_⟩
  rw [hv]
  rfl
end
section
open Go.RowKit Go.Proofs.YtaookeneeemfbaaDoorW.PrintWords Go.Proofs.YtaookeneeemfbaaDoor.PA
variable {w : World} {ok : Nat → Prop}

theorem k24_of {x : Ty.den TW} {cs : List Value} (h : Holds w ok TW x cs) : k24.K w (⟨x.1, x.2⟩ : S24) cs := by
  obtain ⟨c1, c2, e, h1, h2⟩ := h
  subst e
  obtain ⟨A, c, hv, hc, hC⟩ := holds_C (k := .u32) (l := x.2) (v := mkV (.list (.int .u32)) c2) ⟨c2, h2, rfl⟩
  obtain ⟨A', c', css, e2, _⟩ := h2
  subst e2
  have he : (Value.slice A' x.2.length c' : Value) = .slice A x.2.length c := hv
  exact ⟨c1, _, rfl, h1, A, c, by rw [he], hc, hC⟩

end
section
open Go.RowKit Go.Proofs.YtaookeneeemfbaaDoorW.PrintWords
variable {w : World}

/-- The other way: a row that a printed contract is given. -/
theorem C_rep {k : IntKind} {l : List Int} {A : Option Addr} {c : Nat} (h : Kd.C (Kd.int k) w A l.length l) (hc : l.length ≤ c) : Rep w (fun _ => True) (.list (.int k)) l (.slice A l.length c) := by
  obtain ⟨hll, hm, hr⟩ := h
  have hall : All2 (Holds w (fun _ => True) (.int k)) l (l.map fun x => [Value.int k x]) := by
    clear hr hm hc hll
    induction l with
    | nil => exact trivial
    | cons x l ih => exact ⟨rfl, ih⟩
  refine ⟨[.slice A l.length c], ⟨A, c, _, rfl, ⟨hc, hm⟩, hall, fun hne => ?_⟩, rfl⟩
  obtain ⟨ad, hA, hcell⟩ := hr (List.length_pos_iff.2 hne)
  have key : ∀ j x, l[j]? = some x → w.cell? (ad.add (j * 1 + 0)) = some (.int k x) := fun j x hx => by
    obtain ⟨cs, h1, h2, h3⟩ := hcell j x hx
    have h2' : cs = [.int k x] := h2
    subst h2'
    exact h3 0 _ rfl
  obtain ⟨b, o, sp⟩ := ad
  obtain ⟨x0, hx0⟩ : ∃ x, l[0]? = some x := ⟨_, List.getElem?_eq_getElem (List.length_pos_iff.2 hne)⟩
  have h0 : w.cell? ⟨b, o, sp⟩ = some (.int k x0) := key 0 x0 hx0
  unfold World.cell? at h0
  simp only at h0
  split at h0
  · rename_i cc el z hh
    split at h0
    · cases h0
    · rename_i hsp
      have hs : sp = none := by simpa using hsp
      subst hs
      refine ⟨_, hA, rfl, trivial, cc, el, z, hh, fun j v hj => ?_⟩
      rw [flat_int hall, List.getElem?_map, Option.map_eq_some_iff] at hj
      obtain ⟨x, hx, rfl⟩ := hj
      have h1 := key j x hx
      have hadd : (⟨b, o, none⟩ : Addr).add (j * 1 + 0) = ⟨b, o + j, none⟩ := by unfold Addr.add; split <;> simp_all
      rw [hadd] at h1
      simp only [World.cell?, hh] at h1
      simpa using h1
  · cases h0
end

section
open Go.Proofs Go.RowKit Go.Proofs.YtaookeneeemfbaaDoorW.PrintWords Go.Proofs.YtaookeneeemfbaaDoor.PA
variable {w : World} {ok : Nat → Prop}

/-- A number times a power of two. -/
abbrev TD : Ty := .pair TW (.int .i64)

theorem k27_of {x : Ty.den TD} {cs : List Value} (h : Holds w ok TD x cs) : k27.K w (⟨⟨x.1.1, x.1.2⟩, x.2⟩ : S27) cs := by
  obtain ⟨c1, c2, e, h1, h2⟩ := h
  subst e
  exact ⟨c1, c2, rfl, k24_of h1, h2⟩

theorem holds_C27 {l : List (Ty.den TD)} {v : Value} (h : Rep w ok (.list TD) l v) : ∃ A c, v = .slice A l.length c ∧ l.length ≤ c ∧ Kd.C k27 w A (l.map fun x => (⟨⟨x.1.1, x.1.2⟩, x.2⟩ : S27)).length (l.map fun x => (⟨⟨x.1.1, x.1.2⟩, x.2⟩ : S27)) := by
  obtain ⟨cs, ⟨A, cap, css, e, ⟨hc, hm⟩, h1, h2⟩, rfl⟩ := h
  subst e
  refine ⟨A, cap, rfl, hc, rfl, by rw [List.length_map]; exact hm, fun hn => ?_⟩
  have hne : l ≠ [] := fun e => by rw [e] at hn; exact Nat.lt_irrefl _ hn
  obtain ⟨ad, hA, hs, _, cc, el, z, hh, hv⟩ := h2 hne
  refine ⟨ad, hA, fun j p hp => ?_⟩
  rw [List.getElem?_map, Option.map_eq_some_iff] at hp
  obtain ⟨x, hx, rfl⟩ := hp
  obtain ⟨c, hcj, hxc⟩ := All2.get h1 hx
  refine ⟨c, Holds.len _ _ _ hxc, k27_of hxc, fun i u hu => ?_⟩
  have hadd : ad.add (j * k27.sz + i) = ⟨ad.block, ad.off + (j * 3 + i), none⟩ := by
    obtain ⟨b, o, sp⟩ := ad
    simp only at hs
    subst hs
    show Addr.add _ (j * 3 + i) = _
    unfold Addr.add; split <;> simp_all
  rw [hadd]
  simp only [World.cell?, hh]
  exact hv _ _ (Holds.flat h1 j c hcj i u hu)

theorem rep_dy {x : Ty.den TD} {v : Value} (h : Rep w ok TD x v) : ∃ A c, v = .agg #[.bool x.1.1, .slice A x.1.2.length c, .int .i64 x.2] ∧ x.1.2.length ≤ c ∧ Kd.C (Kd.int .u32) w A x.1.2.length x.1.2 := by
  obtain ⟨cs, ⟨c1, c2, e, h1, h2⟩, rfl⟩ := h
  obtain ⟨A, c, hv, hc, hC⟩ := rep_whole (x := x.1) (v := .agg c1.toArray) ⟨c1, h1, rfl⟩
  refine ⟨A, c, ?_, hc, hC⟩
  have e1 : c1 = [.bool x.1.1, .slice A x.1.2.length c] := by have := congrArg (fun v => match v with | Value.agg cs => cs.toList | _ => []) hv; simpa using this
  rw [e, e1, show c2 = [.int .i64 x.2] from h2]
  rfl

theorem dy_rep {e base : Nat} {okr : Nat → Prop} {b : Bool} {l : List Int} {n : Int} {v : Value} (h : Kd.R (Kd.int .u32) e w base okr v l) : Rep w (fun k => base ≤ k) TD ((b, l), n) (.agg #[.bool b, v, .int .i64 n]) := by
  obtain ⟨cs, hc, hv⟩ := whole_rep (b := b) h
  refine ⟨cs ++ [Value.int .i64 n], ⟨cs, [Value.int .i64 n], rfl, hc, rfl⟩, ?_⟩
  have e1 : cs.toArray = #[.bool b, v] := by have : Value.agg #[.bool b, v] = Value.agg cs.toArray := hv; exact (Value.agg.inj this).symm
  show Value.agg _ = Value.agg (cs ++ [Value.int .i64 n]).toArray
  rw [← List.append_toArray, e1]
  rfl

end

section
open Go.Proofs Go.RowKit Go.Proofs.YtaookeneeemfbaaDoorW.PrintWords Go.Proofs.YtaookeneeemfbaaDoor.PA
/-- The table that lies there. -/
abbrev tzG (w : World) : Prop := Kd.C (Kd.int .u8) w (some ⟨0, 0, none⟩) 32 tz32tab
def w_Few (k : Nat) (x : Ty.den (TD)) : Option (HL [.bool]) := (peloruslaw03_Few.f x.1.1 x.1.2 x.2).map fun r => (r, ())
theorem w_Few.ok (k : Nat) : SpecOK Tryd.prog tzG 19 ⟨[TD], [.bool], fun x => w_Few k x.1⟩ := by
  refine ⟨⟨_, _, Tryd.func19, by kernel_rfl, rfl⟩, fun w ok xs vs r hg hxs hr => ?_⟩
  obtain ⟨v0, q0, rfl, h0, rfl⟩ := hxs
  obtain ⟨A0, c0, rfl, hc0, hC0⟩ := rep_dy h0
  obtain ⟨r1, hb, rfl⟩ := Option.map_eq_some_iff.1 hr
  have hcall := peloruslaw03_Few.calls xs.1.1.1 A0 c0 xs.1.1.2 xs.1.2 r1 w hC0 hc0 hb
  refine hcall.mono fun e w' he => ?_
  obtain ⟨rfl, hw⟩ := he
  exact ⟨_, rfl, hw, Rep.of_bool⟩

def w_May (k : Nat) (x : Ty.den (TD)) : Option (HL [.bool]) := (dy_May.f x.1.1 x.1.2 x.2).map fun r => (r, ())
theorem w_May.ok (k : Nat) : SpecOK Tryd.prog tzG 15 ⟨[TD], [.bool], fun x => w_May k x.1⟩ := by
  refine ⟨⟨_, _, Tryd.func15, by kernel_rfl, rfl⟩, fun w ok xs vs r hg hxs hr => ?_⟩
  obtain ⟨v0, q0, rfl, h0, rfl⟩ := hxs
  obtain ⟨A0, c0, rfl, hc0, hC0⟩ := rep_dy h0
  obtain ⟨r1, hb, rfl⟩ := Option.map_eq_some_iff.1 hr
  have hcall := dy_May.calls xs.1.1.1 A0 c0 xs.1.1.2 xs.1.2 r1 w hC0 hc0 hb
  refine hcall.mono fun e w' he => ?_
  obtain ⟨rfl, hw⟩ := he
  exact ⟨_, rfl, hw, Rep.of_bool⟩

def w_Sign (k : Nat) (x : Ty.den (TD)) : Option (HL [.int .i64]) := (dy_Sign.f k x.1.1 x.1.2 x.2).map fun r => (r, ())
theorem w_Sign.ok (k : Nat) : SpecOK Tryd.prog tzG 17 ⟨[TD], [.int .i64], fun x => w_Sign k x.1⟩ := by
  refine ⟨⟨_, _, Tryd.func17, by kernel_rfl, rfl⟩, fun w ok xs vs r hg hxs hr => ?_⟩
  obtain ⟨v0, q0, rfl, h0, rfl⟩ := hxs
  obtain ⟨A0, c0, rfl, hc0, hC0⟩ := rep_dy h0
  obtain ⟨r1, hb, rfl⟩ := Option.map_eq_some_iff.1 hr
  have hcall := dy_Sign.calls k xs.1.1.1 A0 c0 xs.1.1.2 xs.1.2 r1 w hC0 hc0 hb (hg w (Below.refl _ _))
  refine hcall.mono fun e w' he => ?_
  obtain ⟨rfl, hw⟩ := he
  exact ⟨_, rfl, hw, Rep.of_int⟩

def w_Cmp (k : Nat) (x : Ty.den (TD)) (y : Ty.den (TD)) : Option (HL [.int .i64]) := (dy_Cmp.f k x.1.1 x.1.2 x.2 y.1.1 y.1.2 y.2).map fun r => (r, ())
theorem w_Cmp.ok (k : Nat) : SpecOK Tryd.prog tzG 20 ⟨[TD, TD], [.int .i64], fun x => w_Cmp k x.1 x.2.1⟩ := by
  refine ⟨⟨_, _, Tryd.func20, by kernel_rfl, rfl⟩, fun w ok xs vs r hg hxs hr => ?_⟩
  obtain ⟨v0, q0, rfl, h0, v1, q1, rfl, h1, rfl⟩ := hxs
  obtain ⟨A0, c0, rfl, hc0, hC0⟩ := rep_dy h0
  obtain ⟨A1, c1, rfl, hc1, hC1⟩ := rep_dy h1
  obtain ⟨r1, hb, rfl⟩ := Option.map_eq_some_iff.1 hr
  have hcall := dy_Cmp.calls k xs.1.1.1 A0 c0 xs.1.1.2 xs.1.2 xs.2.1.1.1 A1 c1 xs.2.1.1.2 xs.2.1.2 r1 w hC0 hc0 hC1 hc1 hb (hg w (Below.refl _ _))
  refine hcall.mono fun e w' he => ?_
  obtain ⟨rfl, hw⟩ := he
  exact ⟨_, rfl, hw, Rep.of_int⟩

def w_Add (k : Nat) (x : Ty.den (.list TD)) : Option (HL [TD]) := (dy_Add.f k (List.map (fun x => (⟨⟨x.1.1, x.1.2⟩, x.2⟩ : S27)) x)).map fun r => (((r.1, r.2.1), r.2.2), ())
theorem w_Add.ok (k : Nat) : SpecOK Tryd.prog tzG 21 ⟨[.list TD], [TD], fun x => w_Add k x.1⟩ := by
  refine ⟨⟨_, _, Tryd.func21, by kernel_rfl, rfl⟩, fun w ok xs vs r hg hxs hr => ?_⟩
  obtain ⟨v0, q0, rfl, h0, rfl⟩ := hxs
  obtain ⟨A0, c0, rfl, hc0, hC0⟩ := holds_C27 h0
  obtain ⟨⟨r1, r2, r3⟩, hb, rfl⟩ := Option.map_eq_some_iff.1 hr
  have hcall := dy_Add.calls k A0 c0 _ r1 r2 r3 w hC0 (by rw [List.length_map]; exact hc0) hb (hg w (Below.refl _ _))
  rw [List.length_map] at hcall
  refine hcall.mono fun e w' he => ?_
  obtain ⟨v, rfl, hR, hw⟩ := he
  exact ⟨_, rfl, hw, Rep.map (fun k c e z hk hh => ⟨.inr hk, hh⟩) (dy_rep hR)⟩

def w_Mul (k : Nat) (x : Ty.den (TD)) (y : Ty.den (TD)) : Option (HL [TD]) := (dy_Mul.f k x.1.1 x.1.2 x.2 y.1.1 y.1.2 y.2).map fun r => (((r.1, r.2.1), r.2.2), ())
theorem w_Mul.ok (k : Nat) : SpecOK Tryd.prog tzG 30 ⟨[TD, TD], [TD], fun x => w_Mul k x.1 x.2.1⟩ := by
  refine ⟨⟨_, _, Tryd.func30, by kernel_rfl, rfl⟩, fun w ok xs vs r hg hxs hr => ?_⟩
  obtain ⟨v0, q0, rfl, h0, v1, q1, rfl, h1, rfl⟩ := hxs
  obtain ⟨A0, c0, rfl, hc0, hC0⟩ := rep_dy h0
  obtain ⟨A1, c1, rfl, hc1, hC1⟩ := rep_dy h1
  obtain ⟨⟨r1, r2, r3⟩, hb, rfl⟩ := Option.map_eq_some_iff.1 hr
  have hcall := dy_Mul.calls k xs.1.1.1 A0 c0 xs.1.1.2 xs.1.2 xs.2.1.1.1 A1 c1 xs.2.1.1.2 xs.2.1.2 r1 r2 r3 w hC0 hc0 hC1 hc1 hb (hg w (Below.refl _ _))
  refine hcall.mono fun e w' he => ?_
  obtain ⟨v, rfl, hR, hw⟩ := he
  exact ⟨_, rfl, hw, Rep.map (fun k c e z hk hh => ⟨.inr hk, hh⟩) (dy_rep hR)⟩

def w_Sub (k : Nat) (x : Ty.den (TD)) (y : Ty.den (TD)) : Option (HL [TD]) := (dy_Sub.f k x.1.1 x.1.2 x.2 y.1.1 y.1.2 y.2).map fun r => (((r.1, r.2.1), r.2.2), ())
theorem w_Sub.ok (k : Nat) : SpecOK Tryd.prog tzG 28 ⟨[TD, TD], [TD], fun x => w_Sub k x.1 x.2.1⟩ := by
  refine ⟨⟨_, _, Tryd.func28, by kernel_rfl, rfl⟩, fun w ok xs vs r hg hxs hr => ?_⟩
  obtain ⟨v0, q0, rfl, h0, v1, q1, rfl, h1, rfl⟩ := hxs
  obtain ⟨A0, c0, rfl, hc0, hC0⟩ := rep_dy h0
  obtain ⟨A1, c1, rfl, hc1, hC1⟩ := rep_dy h1
  obtain ⟨⟨r1, r2, r3⟩, hb, rfl⟩ := Option.map_eq_some_iff.1 hr
  have hcall := dy_Sub.calls k xs.1.1.1 (fun k => k < w.heap.size) A0 c0 xs.1.1.2 xs.1.2 xs.2.1.1.1 A1 c1 xs.2.1.1.2 xs.2.1.2 r1 r2 r3 w (Kd.V_mk hc0 (Kd.C_F (Kd.heap_int .u32) hC0)) hC1 hc1 hb (hg w (Below.refl _ _))
  refine hcall.mono fun e w' he => ?_
  obtain ⟨v, rfl, hR, hw⟩ := he
  exact ⟨_, rfl, hw, Rep.map (fun k c e z hk hh => ⟨.inr hk, hh⟩) (dy_rep hR)⟩

def w_awake (k : Nat) : Option (HL [.bool]) := match peloruslaw03_awake.f k with
  | some true => some (true, ())
  | _ => none
theorem w_awake.ok (k : Nat) : SpecOK Tryd.prog tzG 9 ⟨[], [.bool], fun _ => w_awake k⟩ := by
  refine ⟨⟨_, _, Tryd.func9, by kernel_rfl, rfl⟩, fun w ok xs vs r hg hxs hr => ?_⟩
  obtain rfl : vs = [] := hxs
  have hr' : w_awake k = some r := hr
  unfold w_awake at hr'
  split at hr'
  · rename_i hf
    cases hr'
    refine (peloruslaw03_awake.calls k true w rfl hf (hg w (Below.refl _ _))).mono fun e w' he => ?_
    obtain ⟨rfl, hw⟩ := he
    exact ⟨_, rfl, hw, Rep.of_bool⟩
  · cases hr'

/-- A number, at the law's own door. -/
theorem dy_of {w : World} {A : Option Addr} {c : Nat} {b : Bool} {l : List Int} {n : Int} (h : Kd.C (Kd.int .u32) w A l.length l) (hc : l.length ≤ c) : Rep w (fun _ => True) TD ((b, l), n) (.agg #[.bool b, .slice A l.length c, .int .i64 n]) := by
  obtain ⟨cs, hh, hv⟩ := C_rep h hc
  obtain ⟨A', cap, css, e, r⟩ := hh
  subst e
  refine ⟨[.bool b, .slice A' l.length cap, .int .i64 n], ⟨[.bool b, .slice A' l.length cap], [.int .i64 n], rfl, ⟨[.bool b], _, rfl, rfl, A', cap, css, rfl, r⟩, rfl⟩, ?_⟩
  rw [hv]
  rfl
end
abbrev T7 : Ty := (.pair (.int .i64) (.pair (.int .i64) (.pair .bool (.int .u8))))
abbrev T22 : Ty := (.list (.int .u32))
abbrev T23 : Ty := (.pair .bool T22)
abbrev T26 : Ty := (.pair T23 (.int .i64))
abbrev T43 : Ty := (.list T26)
abbrev T76 : Ty := (.list T23)
def tyL : List (Nat × Ty) := [(2, (.int .i64)), (3, (.int .i64)), (4, .bool), (5, (.int .u8)), (6, (.int .u8)), (7, T7), (8, T7), (12, (.int .u64)), (21, (.int .i32)), (22, T22), (23, T23), (24, T23), (26, T26), (27, T26), (43, T43), (51, (.int .u32)), (61, (.int .u64)), (62, (.int .u64)), (76, T76), (87, (.int .u8)), (88, (.int .u8)), (91, (.int .i32)), (92, (.int .i32))]
def eqL : List Nat := [7, 8]
def strL : List Nat := [9, 10, 11]
def fldL : List (Nat × List (Nat × (Nat × Ty))) := [(7, [(0, (0, (.int .i64))), (1, (1, (.int .i64))), (2, (2, .bool)), (3, (3, (.int .u8)))]), (8, [(0, (0, (.int .i64))), (1, (1, (.int .i64))), (2, (2, .bool)), (3, (3, (.int .u8)))]), (23, [(0, (0, .bool)), (1, (1, T22))]), (24, [(0, (0, .bool)), (1, (1, T22))]), (26, [(0, (0, T23)), (1, (2, (.int .i64)))]), (27, [(0, (0, T23)), (1, (2, (.int .i64)))])]
def e0 (_k : Nat) : Env := baseE tzG tyL eqL strL fldL
theorem e0.ok (k : Nat) : (e0 k).OK Tryd.prog := Env.OK.base (by kernel_rfl)
def e1 (k : Nat) : Env := (e0 k).add 9 ⟨[], [.bool], fun x => w_awake k⟩
theorem e1.ok (k : Nat) : (e1 k).OK Tryd.prog := (e0.ok k).add (w_awake.ok k)
def e2 (k : Nat) : Env := (e1 k).add 19 ⟨[T26], [.bool], fun x => w_Few k x.1⟩
theorem e2.ok (k : Nat) : (e2 k).OK Tryd.prog := (e1.ok k).add (w_Few.ok k)
def e3 (k : Nat) : Env := (e2 k).add 15 ⟨[T26], [.bool], fun x => w_May k x.1⟩
theorem e3.ok (k : Nat) : (e3 k).OK Tryd.prog := (e2.ok k).add (w_May.ok k)
def e4 (k : Nat) : Env := (e3 k).add 17 ⟨[T26], [(.int .i64)], fun x => w_Sign k x.1⟩
theorem e4.ok (k : Nat) : (e4 k).OK Tryd.prog := (e3.ok k).add (w_Sign.ok k)
def e5 (k : Nat) : Env := (e4 k).add 20 ⟨[T26, T26], [(.int .i64)], fun x => w_Cmp k x.1 x.2.1⟩
theorem e5.ok (k : Nat) : (e5 k).OK Tryd.prog := (e4.ok k).add (w_Cmp.ok k)
def e6 (k : Nat) : Env := (e5 k).add 21 ⟨[T43], [T26], fun x => w_Add k x.1⟩
theorem e6.ok (k : Nat) : (e6 k).OK Tryd.prog := (e5.ok k).add (w_Add.ok k)
def e7 (k : Nat) : Env := (e6 k).add 30 ⟨[T26, T26], [T26], fun x => w_Mul k x.1 x.2.1⟩
theorem e7.ok (k : Nat) : (e7 k).OK Tryd.prog := (e6.ok k).add (w_Mul.ok k)
def e8 (k : Nat) : Env := (e7 k).add 28 ⟨[T26, T26], [T26], fun x => w_Sub k x.1 x.2.1⟩
theorem e8.ok (k : Nat) : (e8 k).OK Tryd.prog := (e7.ok k).add (w_Sub.ok k)
def peloruslaw03_DyRing (k : Nat) (x0 : Ty.den T26) (x1 : Ty.den T26) (x2 : Ty.den T26) : Option (HL [.bool]) :=
 (w_awake k).bind fun r1 =>
 (w_Few k x0).bind fun r2 =>
 (w_Few k x1).bind fun r3 =>
 (w_Few k x2).bind fun r4 =>
 bif (!r1.1) then
  some (r1.1, ())
 else
  bif (!r2.1) then
   some (r1.1, ())
  else
   bif (!r3.1) then
    some (r1.1, ())
   else
    bif (!r4.1) then
     some (r1.1, ())
    else
     (w_Add k [x0, x1, x2]).bind fun r5 =>
     (w_Add k [x1, x0]).bind fun r6 =>
     (w_Add k [x2, r6.1]).bind fun r7 =>
     (w_Add k [x1, x2]).bind fun r8 =>
     (w_Mul k x0 r8.1).bind fun r9 =>
     (w_Mul k x0 x1).bind fun r10 =>
     (w_Mul k x2 x0).bind fun r11 =>
     (w_Add k [r10.1, r11.1]).bind fun r12 =>
     (w_Cmp k r5.1 r7.1).bind fun r13 =>
     bif (r13.1 == 0) then
      (w_Cmp k r9.1 r12.1).bind fun r14 =>
      bif (r14.1 == 0) then
       (w_Sub k x0 x0).bind fun r15 =>
       (w_Sign k r15.1).bind fun r16 =>
       bif (r16.1 == 0) then
        (w_May k r5.1).bind fun r17 =>
        bif r17.1 then
         (w_May k r9.1).bind fun r18 =>
         bif r18.1 then
          (w_Mul k x1 x2).bind fun r19 =>
          (w_Mul k x0 r19.1).bind fun r20 =>
          (w_Mul k x0 x1).bind fun r21 =>
          (w_Mul k r21.1 x2).bind fun r22 =>
          (w_Cmp k r20.1 r22.1).bind fun r23 =>
          some ((r23.1 == 0), ())
         else
          some (false, ())
        else
         some (false, ())
       else
        some (false, ())
      else
       some (false, ())
     else
      some (false, ())
set_option maxHeartbeats 4000000 in
theorem peloruslaw03_DyRing.ok (k : Nat) : SpecOK Tryd.prog tzG 7 ⟨[T26, T26, T26], [.bool], fun x => peloruslaw03_DyRing k x.1 x.2.1 x.2.2.1⟩ :=
 evF_sound (E := (e8 k)) (e8.ok k) (by kernel_rfl) Tryd.func7 (by kernel_rfl) (by kernel_rfl) (by kernel_rfl) .n trivial (fun xs => by kernel_rfl)
def e9 (k : Nat) : Env := (e8 k).add 7 ⟨[T26, T26, T26], [.bool], fun x => peloruslaw03_DyRing k x.1 x.2.1 x.2.2.1⟩
theorem e9.ok (k : Nat) : (e9 k).OK Tryd.prog := (e8.ok k).add (peloruslaw03_DyRing.ok k)
open Go.RowKit Go.Proofs.YtaookeneeemfbaaDoorW.PrintWords in
theorem ring_calls (k : Nat) (b0 : Bool) (l0 : List Int) (e0 : Int) (b1 : Bool) (l1 : List Int) (e1 : Int) (b2 : Bool) (l2 : List Int) (e2 : Int) (A0 A1 A2 : Option Addr) (c0 c1 c2 : Nat) (w : World)
    (h0 : Kd.C (Kd.int .u32) w A0 l0.length l0) (hc0 : l0.length ≤ c0) (h1 : Kd.C (Kd.int .u32) w A1 l1.length l1) (hc1 : l1.length ≤ c1) (h2 : Kd.C (Kd.int .u32) w A2 l2.length l2) (hc2 : l2.length ≤ c2)
    (hg : ∀ w', Below w.heap.size w w' → tzG w') (h : peloruslaw03_DyRing k ((b0, l0), e0) ((b1, l1), e1) ((b2, l2), e2) = some (true, ())) :
    Calls Tryd.prog 7 #[.agg #[.bool b0, .slice A0 l0.length c0, .int .i64 e0], .agg #[.bool b1, .slice A1 l1.length c1, .int .i64 e1], .agg #[.bool b2, .slice A2 l2.length c2, .int .i64 e2]] w fun e w' => e = .returned (.bool true) ∧ Below w.heap.size w w' := by
  refine ((peloruslaw03_DyRing.ok k).2 w (fun _ => True) (((b0, l0), e0), ((b1, l1), e1), ((b2, l2), e2), ()) _ (true, ()) hg ⟨_, _, rfl, dy_of h0 hc0, _, _, rfl, dy_of h1 hc1, _, _, rfl, dy_of h2 hc2, rfl⟩ h).mono fun e w' he => ?_
  obtain ⟨v, rfl, hb, hr⟩ := he
  exact ⟨by rw [Rep.bool hr], hb⟩
end Go.Proofs.YtaookeneeemfbaaDoor.Rf
