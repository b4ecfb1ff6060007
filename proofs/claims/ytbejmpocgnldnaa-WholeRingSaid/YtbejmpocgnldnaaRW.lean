/- The law's function upon plain values: its code run by the evaluator, each call by its printed contract. No condition. -/
import Derived.Test.YtbejmpocgnldnaaRF
import Derived.Test.YtbejmpocgnldnaaPZx0
import Derived.Test.YtbejmpocgnldnaaPZx2
import Derived.Test.YtbejmpocgnldnaaPZx4
import Derived.Test.YtbejmpocgnldnaaPZx8
import Derived.Test.YtbejmpocgnldnaaPZx13
import Derived.Test.YtbejmpocgnldnaaPZx14
import Derived.Test.YtbejmpocgnldnaaPZx16
import Derived.Test.YtbejmpocgnldnaaPZx21
import Derived.KernelRfl
namespace Go.Proofs.Ytbejmpocgnldnaa.Rf
open Go Go.Proofs
set_option linter.unusedVariables false
set_option linter.unusedSimpArgs false
set_option maxRecDepth 100000
/-! ### the printed words' readings of rows, and Holds (NAME: the seat's) -/
section
open Go.RowKit Go.Proofs.YtbejmpocgnldnaaW.PrintWords
variable {w : World} {ok : Nat → Prop}

theorem flat_int {k : IntKind} : ∀ {l : List Int} {css : List (List Value)}, All2 (Holds w ok (.int k)) l css → css.flatten = l.map (Value.int k)
  | [], [], _ => rfl
  | x :: l, d :: css, ⟨h1, h2⟩ => by
    rw [List.flatten_cons, flat_int h2, show d = _ from h1]; rfl

/-- A row of whole numbers, as the printed contracts ask for it. -/
theorem holds_C {k : IntKind} {l : List Int} {v : Value} (h : Rep w ok (.list (.int k)) l v) : ∃ A c, v = .slice A l.length c ∧ l.length ≤ c ∧ Kd.C (Kd.int k) w A l.length l := by
  obtain ⟨cs, ⟨A, cap, css, e, ⟨hc, hm⟩, h1, h2⟩, rfl⟩ := h
  subst e
  refine ⟨A, cap, rfl, hc, rfl, hm, fun hn => ?_⟩
  have hne : l ≠ [] := fun e => by rw [e] at hn; exact Nat.lt_irrefl _ hn
  obtain ⟨ad, hA, hs, _, cc, el, z, hh, hv⟩ := h2 hne
  refine ⟨ad, hA, fun j p hp => ⟨[.int k p], rfl, rfl, fun i u hu => ?_⟩⟩
  have hi : i = 0 ∧ u = .int k p := by
    cases i with
    | zero => exact ⟨rfl, (Option.some.inj hu).symm⟩
    | succ i => simp at hu
  obtain ⟨rfl, rfl⟩ := hi
  have hf : css.flatten[j]? = some (.int k p) := by rw [flat_int h1]; simp [hp]
  have hadd : ad.add (j * (Kd.int k).sz + 0) = ⟨ad.block, ad.off + j, none⟩ := by
    obtain ⟨b, o, sp⟩ := ad
    simp only at hs
    subst hs
    show Addr.add _ (j * 1 + 0) = _
    unfold Addr.add; split <;> simp_all
  rw [hadd]
  simp only [World.cell?, hh]
  exact hv _ _ hf

/-- A row that a printed contract hands back. -/
theorem R_holds {k : IntKind} {e base : Nat} {l : List Int} {v : Value} {okr : Nat → Prop} (h : Kd.R (Kd.int k) e w base okr v l) : Rep w (fun b => base ≤ b) (.list (.int k)) l v := by
  obtain ⟨_, inner, ⟨hl, hv⟩, hr⟩ := h
  have hrep : ∀ j p, l[j]? = some p → inner[j]? = some (Value.int k p) := fun j p hp => by
    have h1 : (inner.drop (j * 1)).take 1 = [.int k p] := hr.2 j p hp
    have h2 := congrArg (·[0]?) h1
    simpa using h2
  have hall : All2 (Holds w (fun b => base ≤ b) (.int k)) l (l.map fun x => [Value.int k x]) := by
    clear hr hl hv hrep
    induction l with
    | nil => exact trivial
    | cons x l ih => exact ⟨rfl, ih⟩
  have hfl : (l.map fun x => [Value.int k x]).flatten = l.map (Value.int k) := flat_int hall
  rcases hv with ⟨rfl, h0⟩ | ⟨g, cap, cur, rfl, hg, hh, hn, hm, hsz, ht⟩
  · have : l = [] := List.length_eq_zero_iff.1 h0
    subst this
    exact ⟨[.slice none 0 0], ⟨none, 0, [], rfl, ⟨Nat.le_refl _, Nat.zero_le _⟩, trivial, fun h => absurd rfl h⟩, rfl⟩
  · refine ⟨[.slice (some ⟨g, 0, none⟩) l.length cap], ⟨some ⟨g, 0, none⟩, cap, _, rfl, ⟨hn, Nat.le_trans hn hm⟩, hall, fun _ => ⟨_, rfl, rfl, hg, cur, e, (0, 0), hh, fun j v hj => ?_⟩⟩, rfl⟩
    rw [hfl] at hj
    rw [List.getElem?_map, Option.map_eq_some_iff] at hj
    obtain ⟨p, hp, rfl⟩ := hj
    have h1 := hrep j p hp
    rw [← ht, List.getElem?_take] at h1
    split at h1
    · simpa using h1
    · cases h1
end

section
open Go.RowKit Go.Proofs.YtbejmpocgnldnaaW.PrintWords
variable {w : World} {ok : Nat → Prop}

/-- A sign and limbs. -/
abbrev TW : Ty := .pair .bool (.list (.int .u32))

theorem rep_whole {x : Ty.den TW} {v : Value} (h : Rep w ok TW x v) : ∃ A c, v = .agg #[.bool x.1, .slice A x.2.length c] ∧ x.2.length ≤ c ∧ Kd.C (Kd.int .u32) w A x.2.length x.2 := by
  obtain ⟨cs, ⟨c1, c2, e, h1, h2⟩, rfl⟩ := h
  obtain ⟨A, c, hv, hc, hC⟩ := holds_C (k := .u32) (l := x.2) (v := mkV (.list (.int .u32)) c2) ⟨c2, h2, rfl⟩
  obtain ⟨A', c', css, e2, _⟩ := h2
  subst e2
  refine ⟨A, c, ?_, hc, hC⟩
  rw [e, show c1 = [.bool x.1] from h1]
  have : (Value.slice A' x.2.length c' : Value) = .slice A x.2.length c := hv
  simp [mkV, this]

theorem whole_rep {e base : Nat} {okr : Nat → Prop} {b : Bool} {l : List Int} {v : Value} (h : Kd.R (Kd.int .u32) e w base okr v l) : Rep w (fun k => base ≤ k) TW (b, l) (.agg #[.bool b, v]) := by
  obtain ⟨cs, hc, hv⟩ := R_holds h
  obtain ⟨A, cap, css, e1, r⟩ := hc
  subst e1
  refine ⟨[.bool b, .slice A l.length cap], ⟨[.bool b], [.slice A l.length cap], rfl, rfl, A, cap, css, rfl, r⟩, ?_⟩
  rw [hv]
  rfl
end
section
open Go.Proofs Go.RowKit Go.Proofs.YtbejmpocgnldnaaW.PrintWords Go.Proofs.Ytbejmpocgnldnaa.PZ
variable {w : World} {ok : Nat → Prop}

theorem k24_of {x : Ty.den TW} {cs : List Value} (h : Holds w ok TW x cs) : k24.K w (⟨x.1, x.2⟩ : S24) cs := by
  obtain ⟨c1, c2, e, h1, h2⟩ := h
  subst e
  obtain ⟨A, c, hv, hc, hC⟩ := holds_C (k := .u32) (l := x.2) (v := mkV (.list (.int .u32)) c2) ⟨c2, h2, rfl⟩
  obtain ⟨A', c', css, e2, _⟩ := h2
  subst e2
  have he : (Value.slice A' x.2.length c' : Value) = .slice A x.2.length c := hv
  exact ⟨c1, _, rfl, h1, A, c, by rw [he], hc, hC⟩

theorem holds_C24 {l : List (Ty.den TW)} {v : Value} (h : Rep w ok (.list TW) l v) : ∃ A c, v = .slice A l.length c ∧ l.length ≤ c ∧ Kd.C k24 w A (l.map fun x => (⟨x.1, x.2⟩ : S24)).length (l.map fun x => (⟨x.1, x.2⟩ : S24)) := by
  obtain ⟨cs, ⟨A, cap, css, e, ⟨hc, hm⟩, h1, h2⟩, rfl⟩ := h
  subst e
  refine ⟨A, cap, rfl, hc, rfl, by rw [List.length_map]; exact hm, fun hn => ?_⟩
  have hne : l ≠ [] := fun e => by rw [e] at hn; exact Nat.lt_irrefl _ hn
  obtain ⟨ad, hA, hs, _, cc, el, z, hh, hv⟩ := h2 hne
  refine ⟨ad, hA, fun j p hp => ?_⟩
  rw [List.getElem?_map, Option.map_eq_some_iff] at hp
  obtain ⟨x, hx, rfl⟩ := hp
  obtain ⟨c, hcj, hxc⟩ := All2.get h1 hx
  refine ⟨c, Holds.len _ _ _ hxc, k24_of hxc, fun i u hu => ?_⟩
  have hadd : ad.add (j * k24.sz + i) = ⟨ad.block, ad.off + (j * 2 + i), none⟩ := by
    obtain ⟨b, o, sp⟩ := ad
    simp only at hs
    subst hs
    show Addr.add _ (j * 2 + i) = _
    unfold Addr.add; split <;> simp_all
  rw [hadd]
  simp only [World.cell?, hh]
  exact hv _ _ (Holds.flat h1 j c hcj i u hu)

end
section
open Go.Proofs Go.RowKit Go.Proofs.YtbejmpocgnldnaaW.PrintWords Go.Proofs.Ytbejmpocgnldnaa.PZ
def w_Mul (k : Nat) (x : Ty.den (.list TW)) : Option (HL [TW]) := (whole_Mul.f k (List.map (fun x => (⟨x.1, x.2⟩ : S24)) x)).map fun r => (r, ())
theorem w_Mul.ok (k : Nat) : SpecOK Try.prog 14 ⟨[.list TW], [TW], fun x => w_Mul k x.1⟩ := by
  refine ⟨⟨_, _, Try.func14, by kernel_rfl, rfl⟩, fun w ok xs vs r hxs hr => ?_⟩
  obtain ⟨v0, q0, rfl, h0, rfl⟩ := hxs
  obtain ⟨A0, c0, rfl, hc0, hC0⟩ := holds_C24 h0
  obtain ⟨⟨r1, r2⟩, hb, rfl⟩ := Option.map_eq_some_iff.1 hr
  have := whole_Mul.calls k A0 c0 _ r1 r2 w hC0 (by rw [List.length_map]; exact hc0) hb
  rw [List.length_map] at this
  refine this.mono fun e w' he => ?_
  obtain ⟨v, rfl, hR, hw⟩ := he
  exact ⟨_, rfl, hw, Rep.map (fun k c e z hk hh => ⟨.inr hk, hh⟩) (whole_rep hR)⟩
end
section
open Go.RowKit Go.Proofs.YtbejmpocgnldnaaW.PrintWords
variable {w : World}

/-- The other way: a row that a printed contract is given. -/
theorem C_rep {k : IntKind} {l : List Int} {A : Option Addr} {c : Nat} (h : Kd.C (Kd.int k) w A l.length l) (hc : l.length ≤ c) : Rep w (fun _ => True) (.list (.int k)) l (.slice A l.length c) := by
  obtain ⟨hll, hm, hr⟩ := h
  have hall : All2 (Holds w (fun _ => True) (.int k)) l (l.map fun x => [Value.int k x]) := by
    clear hr hm hc hll
    induction l with
    | nil => exact trivial
    | cons x l ih => exact ⟨rfl, ih⟩
  refine ⟨[.slice A l.length c], ⟨A, c, _, rfl, ⟨hc, hm⟩, hall, fun hne => ?_⟩, rfl⟩
  obtain ⟨ad, hA, hcell⟩ := hr (List.length_pos_iff.2 hne)
  have key : ∀ j x, l[j]? = some x → w.cell? (ad.add (j * 1 + 0)) = some (.int k x) := fun j x hx => by
    obtain ⟨cs, h1, h2, h3⟩ := hcell j x hx
    have h2' : cs = [.int k x] := h2
    subst h2'
    exact h3 0 _ rfl
  obtain ⟨b, o, sp⟩ := ad
  obtain ⟨x0, hx0⟩ : ∃ x, l[0]? = some x := ⟨_, List.getElem?_eq_getElem (List.length_pos_iff.2 hne)⟩
  have h0 : w.cell? ⟨b, o, sp⟩ = some (.int k x0) := key 0 x0 hx0
  unfold World.cell? at h0
  simp only at h0
  split at h0
  · rename_i cc el z hh
    split at h0
    · cases h0
    · rename_i hsp
      have hs : sp = none := by simpa using hsp
      subst hs
      refine ⟨_, hA, rfl, trivial, cc, el, z, hh, fun j v hj => ?_⟩
      rw [flat_int hall, List.getElem?_map, Option.map_eq_some_iff] at hj
      obtain ⟨x, hx, rfl⟩ := hj
      have h1 := key j x hx
      have hadd : (⟨b, o, none⟩ : Addr).add (j * 1 + 0) = ⟨b, o + j, none⟩ := by unfold Addr.add; split <;> simp_all
      rw [hadd] at h1
      simp only [World.cell?, hh] at h1
      simpa using h1
  · cases h0
end
/-! ### rows: printed contracts, as the evaluator takes them -/
section
open Go.Proofs Go.RowKit Go.Proofs.YtbejmpocgnldnaaW.PrintWords Go.Proofs.Ytbejmpocgnldnaa.PZ

def w_Same (k : Nat) (x y : Ty.den TW) : Option (HL [.bool]) := (whole_Same.f k x.1 x.2 y.1 y.2).map fun r => (r, ())
theorem w_Same.ok (k : Nat) : SpecOK Try.prog 26 ⟨[TW, TW], [.bool], fun x => w_Same k x.1 x.2.1⟩ := by
  refine ⟨⟨_, _, Try.func26, by kernel_rfl, rfl⟩, fun w ok xs vs r hxs hr => ?_⟩
  obtain ⟨v0, q0, rfl, h0, v1, q1, rfl, h1, rfl⟩ := hxs
  obtain ⟨A0, c0, rfl, hc0, hC0⟩ := rep_whole h0
  obtain ⟨A1, c1, rfl, hc1, hC1⟩ := rep_whole h1
  obtain ⟨b, hb, rfl⟩ := Option.map_eq_some_iff.1 hr
  refine (whole_Same.calls k xs.1.1 A0 c0 xs.1.2 xs.2.1.1 A1 c1 xs.2.1.2 b w hC0 hc0 hC1 hc1 hb).mono fun e w' he => ?_
  obtain ⟨rfl, hw⟩ := he
  exact ⟨_, rfl, hw, Rep.of_bool⟩

def w_Add (k : Nat) (x y : Ty.den TW) : Option (HL [TW]) := (whole_Add.f k x.1 x.2 y.1 y.2).map fun r => (r, ())
theorem w_Add.ok (k : Nat) : SpecOK Try.prog 27 ⟨[TW, TW], [TW], fun x => w_Add k x.1 x.2.1⟩ := by
  refine ⟨⟨_, _, Try.func27, by kernel_rfl, rfl⟩, fun w ok xs vs r hxs hr => ?_⟩
  obtain ⟨v0, q0, rfl, h0, v1, q1, rfl, h1, rfl⟩ := hxs
  obtain ⟨A0, c0, rfl, hc0, hC0⟩ := rep_whole h0
  obtain ⟨A1, c1, rfl, hc1, hC1⟩ := rep_whole h1
  obtain ⟨⟨r1, r2⟩, hb, rfl⟩ := Option.map_eq_some_iff.1 hr
  refine (whole_Add.calls k xs.1.1 A0 c0 xs.1.2 xs.2.1.1 A1 c1 xs.2.1.2 r1 r2 w hC0 hc0 hC1 hc1 hb).mono fun e w' he => ?_
  obtain ⟨v, rfl, hR, hw⟩ := he
  exact ⟨_, rfl, hw, Rep.map (fun k c e z hk hh => ⟨.inr hk, hh⟩) (whole_rep hR)⟩

def w_Neg (k : Nat) (x : Ty.den TW) : Option (HL [TW]) := (whole_Neg.f k x.1 x.2).map fun r => (r, ())
theorem w_Neg.ok (k : Nat) : SpecOK Try.prog 31 ⟨[TW], [TW], fun x => w_Neg k x.1⟩ := by
  refine ⟨⟨_, _, Try.func31, by kernel_rfl, rfl⟩, fun w ok xs vs r hxs hr => ?_⟩
  obtain ⟨v0, q0, rfl, h0, rfl⟩ := hxs
  obtain ⟨A0, c0, rfl, hc0, hC0⟩ := rep_whole h0
  obtain ⟨⟨r1, r2⟩, hb, rfl⟩ := Option.map_eq_some_iff.1 hr
  refine (whole_Neg.calls k xs.1.1 A0 c0 xs.1.2 r1 r2 w hC0 hc0 hb).mono fun e w' he => ?_
  obtain ⟨v, rfl, hR, hw⟩ := he
  exact ⟨_, rfl, hw, Rep.map (fun k c e z hk hh => ⟨.inr hk, hh⟩) (whole_rep hR)⟩

def w_Sign (k : Nat) (x : Ty.den TW) : Option (HL [.int .i64]) := (whole_Sign.f k x.1 x.2).map fun r => (r, ())
theorem w_Sign.ok (k : Nat) : SpecOK Try.prog 24 ⟨[TW], [.int .i64], fun x => w_Sign k x.1⟩ := by
  refine ⟨⟨_, _, Try.func24, by kernel_rfl, rfl⟩, fun w ok xs vs r hxs hr => ?_⟩
  obtain ⟨v0, q0, rfl, h0, rfl⟩ := hxs
  obtain ⟨A0, c0, rfl, hc0, hC0⟩ := rep_whole h0
  obtain ⟨r1, hb, rfl⟩ := Option.map_eq_some_iff.1 hr
  refine (whole_Sign.calls k xs.1.1 A0 c0 xs.1.2 r1 w hC0 hc0 hb).mono fun e w' he => ?_
  obtain ⟨rfl, hw⟩ := he
  exact ⟨_, rfl, hw, Rep.of_int⟩

def w_May (k : Nat) (x : Ty.den TW) : Option (HL [.bool]) := (whole_May.f x.1 x.2).map fun r => (r, ())
theorem w_May.ok (k : Nat) : SpecOK Try.prog 22 ⟨[TW], [.bool], fun x => w_May k x.1⟩ := by
  refine ⟨⟨_, _, Try.func22, by kernel_rfl, rfl⟩, fun w ok xs vs r hxs hr => ?_⟩
  obtain ⟨v0, q0, rfl, h0, rfl⟩ := hxs
  obtain ⟨A0, c0, rfl, hc0, hC0⟩ := rep_whole h0
  obtain ⟨r1, hb, rfl⟩ := Option.map_eq_some_iff.1 hr
  refine (whole_May.calls xs.1.1 A0 c0 xs.1.2 r1 w hC0 hc0 hb).mono fun e w' he => ?_
  obtain ⟨rfl, hw⟩ := he
  exact ⟨_, rfl, hw, Rep.of_bool⟩

def w_awake (k : Nat) : Option (HL [.bool]) := match peloruslaw02_awake.f k with
  | some true => some (true, ())
  | _ => none
theorem w_awake.ok (k : Nat) : SpecOK Try.prog 9 ⟨[], [.bool], fun _ => w_awake k⟩ := by
  refine ⟨⟨_, _, Try.func9, by kernel_rfl, rfl⟩, fun w ok xs vs r hxs hr => ?_⟩
  obtain rfl : vs = [] := hxs
  have hr' : w_awake k = some r := hr
  unfold w_awake at hr'
  split at hr'
  · rename_i hf
    cases hr'
    refine (peloruslaw02_awake.calls k true w rfl hf).mono fun e w' he => ?_
    obtain ⟨rfl, hw⟩ := he
    exact ⟨_, rfl, hw, Rep.of_bool⟩
  · cases hr'

/-- A sign and limbs, at the law's own door. -/
theorem whole_of {w : World} {A : Option Addr} {c : Nat} {b : Bool} {l : List Int} (h : Kd.C (Kd.int .u32) w A l.length l) (hc : l.length ≤ c) : Rep w (fun _ => True) TW (b, l) (.agg #[.bool b, .slice A l.length c]) := by
  obtain ⟨cs, hh, hv⟩ := C_rep h hc
  obtain ⟨A', cap, css, e, r⟩ := hh
  subst e
  refine ⟨[.bool b, .slice A' l.length cap], ⟨[.bool b], _, rfl, rfl, A', cap, css, rfl, r⟩, ?_⟩
  rw [hv]
  rfl
end
abbrev T7 : Ty := (.pair (.int .i64) (.pair (.int .i64) (.pair .bool (.int .u8))))
abbrev T22 : Ty := (.list (.int .u32))
abbrev T23 : Ty := (.pair .bool T22)
abbrev T25 : Ty := (.list T23)
def tyL : List (Nat × Ty) := [(2, (.int .i64)), (3, (.int .i64)), (4, .bool), (5, (.int .u8)), (6, (.int .u8)), (7, T7), (8, T7), (12, (.int .u64)), (21, (.int .i32)), (22, T22), (23, T23), (24, T23), (25, T25), (47, (.int .u32)), (50, (.int .u64)), (51, (.int .u64)), (76, (.int .u8)), (77, (.int .u8)), (80, (.int .i32)), (81, (.int .i32))]
def eqL : List Nat := [7, 8]
def strL : List Nat := [9, 10, 11]
def fldL : List (Nat × List (Nat × (Nat × Ty))) := [(7, [(0, (0, (.int .i64))), (1, (1, (.int .i64))), (2, (2, .bool)), (3, (3, (.int .u8)))]), (8, [(0, (0, (.int .i64))), (1, (1, (.int .i64))), (2, (2, .bool)), (3, (3, (.int .u8)))]), (23, [(0, (0, .bool)), (1, (1, T22))]), (24, [(0, (0, .bool)), (1, (1, T22))])]
def e0 (_k : Nat) : Env := baseE tyL eqL strL fldL
theorem e0.ok (k : Nat) : (e0 k).OK Try.prog := Env.OK.base (by kernel_rfl)
def e1 (k : Nat) : Env := (e0 k).add 9 ⟨[], [.bool], fun x => w_awake k⟩
theorem e1.ok (k : Nat) : (e1 k).OK Try.prog := (e0.ok k).add (w_awake.ok k)
def e2 (k : Nat) : Env := (e1 k).add 14 ⟨[T25], [T23], fun x => w_Mul k x.1⟩
theorem e2.ok (k : Nat) : (e2 k).OK Try.prog := (e1.ok k).add (w_Mul.ok k)
def e3 (k : Nat) : Env := (e2 k).add 22 ⟨[T23], [.bool], fun x => w_May k x.1⟩
theorem e3.ok (k : Nat) : (e3 k).OK Try.prog := (e2.ok k).add (w_May.ok k)
def e4 (k : Nat) : Env := (e3 k).add 24 ⟨[T23], [(.int .i64)], fun x => w_Sign k x.1⟩
theorem e4.ok (k : Nat) : (e4 k).OK Try.prog := (e3.ok k).add (w_Sign.ok k)
def e5 (k : Nat) : Env := (e4 k).add 26 ⟨[T23, T23], [.bool], fun x => w_Same k x.1 x.2.1⟩
theorem e5.ok (k : Nat) : (e5 k).OK Try.prog := (e4.ok k).add (w_Same.ok k)
def e6 (k : Nat) : Env := (e5 k).add 27 ⟨[T23, T23], [T23], fun x => w_Add k x.1 x.2.1⟩
theorem e6.ok (k : Nat) : (e6 k).OK Try.prog := (e5.ok k).add (w_Add.ok k)
def e7 (k : Nat) : Env := (e6 k).add 31 ⟨[T23], [T23], fun x => w_Neg k x.1⟩
theorem e7.ok (k : Nat) : (e7 k).OK Try.prog := (e6.ok k).add (w_Neg.ok k)
def peloruslaw02_WholeRing (k : Nat) (x0 : Ty.den T23) (x1 : Ty.den T23) (x2 : Ty.den T23) : Option (HL [.bool]) :=
 (w_awake k).bind fun r1 =>
 bif (!r1.1) then
  some (r1.1, ())
 else
  bif (decide ((x0.2.length : Int) > 15)) then
   some (r1.1, ())
  else
   bif (decide ((x1.2.length : Int) > 15)) then
    some (r1.1, ())
   else
    bif (decide ((x2.2.length : Int) > 15)) then
     some (r1.1, ())
    else
     (w_Add k x0 x1).bind fun r2 =>
     (w_Add k r2.1 x2).bind fun r3 =>
     (w_Add k x2 x1).bind fun r4 =>
     (w_Add k x0 r4.1).bind fun r5 =>
     (w_Add k x1 x2).bind fun r6 =>
     (w_Mul k [x0, r6.1]).bind fun r7 =>
     (w_Mul k [x0, x1]).bind fun r8 =>
     (w_Mul k [x2, x0]).bind fun r9 =>
     (w_Add k r8.1 r9.1).bind fun r10 =>
     (w_Same k r3.1 r5.1).bind fun r11 =>
     bif r11.1 then
      (w_Same k r7.1 r10.1).bind fun r12 =>
      bif r12.1 then
       (w_Neg k x0).bind fun r13 =>
       (w_Add k x0 r13.1).bind fun r14 =>
       (w_Sign k r14.1).bind fun r15 =>
       bif (r15.1 == 0) then
        (w_Mul k [x0, x1, x2]).bind fun r16 =>
        (w_Mul k [x1, x0]).bind fun r17 =>
        (w_Mul k [x2, r17.1]).bind fun r18 =>
        (w_Same k r16.1 r18.1).bind fun r19 =>
        bif r19.1 then
         (w_May k r7.1).bind fun r20 =>
         some (r20.1, ())
        else
         some (false, ())
       else
        some (false, ())
      else
       some (false, ())
     else
      some (false, ())
set_option maxHeartbeats 4000000 in
theorem peloruslaw02_WholeRing.ok (k : Nat) : SpecOK Try.prog 8 ⟨[T23, T23, T23], [.bool], fun x => peloruslaw02_WholeRing k x.1 x.2.1 x.2.2.1⟩ :=
 evF_sound (E := (e7 k)) (e7.ok k) (by kernel_rfl) Try.func8 (by kernel_rfl) (by kernel_rfl) (by kernel_rfl) .n trivial (fun xs => by kernel_rfl)
def e8 (k : Nat) : Env := (e7 k).add 8 ⟨[T23, T23, T23], [.bool], fun x => peloruslaw02_WholeRing k x.1 x.2.1 x.2.2.1⟩
theorem e8.ok (k : Nat) : (e8 k).OK Try.prog := (e7.ok k).add (peloruslaw02_WholeRing.ok k)
open Go.RowKit Go.Proofs.YtbejmpocgnldnaaW.PrintWords in
theorem ring_calls (k : Nat) (b0 : Bool) (l0 : List Int) (b1 : Bool) (l1 : List Int) (b2 : Bool) (l2 : List Int) (A0 A1 A2 : Option Addr) (c0 c1 c2 : Nat) (w : World)
    (h0 : Kd.C (Kd.int .u32) w A0 l0.length l0) (hc0 : l0.length ≤ c0) (h1 : Kd.C (Kd.int .u32) w A1 l1.length l1) (hc1 : l1.length ≤ c1) (h2 : Kd.C (Kd.int .u32) w A2 l2.length l2) (hc2 : l2.length ≤ c2)
    (h : peloruslaw02_WholeRing k (b0, l0) (b1, l1) (b2, l2) = some (true, ())) :
    Calls Try.prog 8 #[.agg #[.bool b0, .slice A0 l0.length c0], .agg #[.bool b1, .slice A1 l1.length c1], .agg #[.bool b2, .slice A2 l2.length c2]] w fun e w' => e = .returned (.bool true) ∧ Below w.heap.size w w' := by
  refine ((peloruslaw02_WholeRing.ok k).2 w (fun _ => True) ((b0, l0), (b1, l1), (b2, l2), ()) _ (true, ()) ⟨_, _, rfl, whole_of h0 hc0, _, _, rfl, whole_of h1 hc1, _, _, rfl, whole_of h2 hc2, rfl⟩ h).mono fun e w' he => ?_
  obtain ⟨v, rfl, hb, hr⟩ := he
  exact ⟨by rw [Rep.bool hr], hb⟩
end Go.Proofs.Ytbejmpocgnldnaa.Rf
