/- What each function of the program answers upon plain values, and that it does (part 1). No condition. -/
import Derived.Test.YtjjhfhhoefdjaaaGreatDoorProg
import Derived.Test.YtjjhfhhoefdjaaaGreatDoorE3
import Derived.KernelRfl
import Derived.Deep.Draws
import Derived.Tactics
import Derived.Tactics2
import Derived.WalkKit
import Derived.RowKit3
import Derived.Deep.QuietTactic
import Derived.WideLaws
import Derived.Laws.BitsLemmas
import Derived.OrdersHeld
import Derived.OwnWalk
import Derived.BigQuiet
namespace Go.Proofs.YtjjhfhhoefdjaaaGreatDoor.Rf
open Go Go.Proofs Go.Proofs.YtjjhfhhoefdjaaaGreatDoor
set_option linter.unusedVariables false
set_option linter.unusedSimpArgs false
set_option maxRecDepth 100000
noncomputable section
abbrev T7 : Ty := (.pair (.int .i64) (.pair (.int .i64) (.pair .bool (.int .u8))))
abbrev T23 : Ty := (.pair (.int .i64) (.pair .bool (.pair (.int .u64) (.int .i64))))
abbrev T25 : Ty := (.pair .bool (.pair T23 T23))
abbrev T43 : Ty := (.pair T23 (.pair T25 T25))
abbrev T27 : Ty := (.list T43)
abbrev T28 : Ty := (.pair T23 (.pair T25 T27))
abbrev T30 : Ty := (.list T25)
abbrev T31 : Ty := (.list T23)
abbrev T36 : Ty := (.list (.int .u32))
abbrev T37 : Ty := (.pair .bool T36)
abbrev T39 : Ty := (.pair T37 (.int .i64))
abbrev T94 : Ty := (.list T39)
abbrev T102 : Ty := (.pair T23 T25)
abbrev T114 : Ty := (.list T37)
abbrev T130 : Ty := (.pair (.int .u64) (.pair (.int .u64) .bool))
noncomputable def bytes0 : ByteArray := ⟨#[0, 1, 2, 2, 3, 3, 3, 3, 4, 4, 4, 4, 4, 4, 4, 4, 5, 5, 5, 5, 5, 5, 5, 5, 5, 5, 5, 5, 5, 5, 5, 5, 6, 6, 6, 6, 6, 6, 6, 6, 6, 6, 6, 6, 6, 6, 6, 6, 6, 6, 6, 6, 6, 6, 6, 6, 6, 6, 6, 6, 6, 6, 6, 6, 7, 7, 7, 7, 7, 7, 7, 7, 7, 7, 7, 7, 7, 7, 7, 7, 7, 7, 7, 7, 7, 7, 7, 7, 7, 7, 7, 7, 7, 7, 7, 7, 7, 7, 7, 7, 7, 7, 7, 7, 7, 7, 7, 7, 7, 7, 7, 7, 7, 7, 7, 7, 7, 7, 7, 7, 7, 7, 7, 7, 7, 7, 7, 7, 8, 8, 8, 8, 8, 8, 8, 8, 8, 8, 8, 8, 8, 8, 8, 8, 8, 8, 8, 8, 8, 8, 8, 8, 8, 8, 8, 8, 8, 8, 8, 8, 8, 8, 8, 8, 8, 8, 8, 8, 8, 8, 8, 8, 8, 8, 8, 8, 8, 8, 8, 8, 8, 8, 8, 8, 8, 8, 8, 8, 8, 8, 8, 8, 8, 8, 8, 8, 8, 8, 8, 8, 8, 8, 8, 8, 8, 8, 8, 8, 8, 8, 8, 8, 8, 8, 8, 8, 8, 8, 8, 8, 8, 8, 8, 8, 8, 8, 8, 8, 8, 8, 8, 8, 8, 8, 8, 8, 8, 8, 8, 8, 8, 8, 8, 8, 8, 8, 8, 8, 8, 8, 8, 8, 8, 8, 8, 8]⟩
def tabs : Tables where
  ty := [(2, (.int .i64)), (3, (.int .i64)), (4, .bool), (5, (.int .u8)), (6, (.int .u8)), (7, T7), (8, T7), (12, (.int .u64)), (21, (.int .i32)), (22, (.int .u64)), (23, T23), (24, T23), (25, T25), (26, T25), (27, T27), (28, T28), (29, T28), (30, T30), (31, T31), (36, T36), (37, T37), (38, T37), (39, T39), (40, T39), (43, T43), (44, T43), (47, (.int .i64)), (62, (.int .u32)), (63, (.int .u64)), (94, T94), (102, T102), (103, T102), (114, T114), (130, T130), (131, T130), (145, (.int .u8)), (146, (.int .u8)), (149, (.int .i32)), (150, (.int .i32))]
  lay := [(72, 1, false, Value.pointer none), (73, 1, false, Value.pointer none), (109, 1, false, Value.nilFunc)]
  el := [(27, 44, 176), (30, 26, 72), (31, 24, 32), (36, 62, 4), (94, 40, 40), (114, 38, 32)]
  eq := [7, 8, 23, 24, 25, 26, 43, 44, 102, 103, 130, 131]
  str := [9, 10, 11]
  pt := []
  fld := [(7, [(0, 0, 2), (1, 1, 3), (2, 2, 4), (3, 3, 6)]), (8, [(0, 0, 2), (1, 1, 3), (2, 2, 4), (3, 3, 6)]), (23, [(0, 0, 3), (1, 1, 4), (2, 2, 22), (3, 3, 3)]), (24, [(0, 0, 3), (1, 1, 4), (2, 2, 22), (3, 3, 3)]), (25, [(0, 0, 4), (1, 1, 24), (2, 5, 24)]), (26, [(0, 0, 4), (1, 1, 24), (2, 5, 24)]), (28, [(0, 0, 24), (1, 4, 26), (2, 13, 27)]), (29, [(0, 0, 24), (1, 4, 26), (2, 13, 27)]), (37, [(0, 0, 4), (1, 1, 36)]), (38, [(0, 0, 4), (1, 1, 36)]), (39, [(0, 0, 38), (1, 2, 3)]), (40, [(0, 0, 38), (1, 2, 3)]), (43, [(0, 0, 24), (1, 4, 26), (2, 13, 26)]), (44, [(0, 0, 24), (1, 4, 26), (2, 13, 26)]), (75, [(0, 0, 73), (1, 1, 73), (2, 2, 73), (3, 3, 26), (4, 12, 26)]), (102, [(0, 0, 24), (1, 4, 26)]), (103, [(0, 0, 24), (1, 4, 26)]), (130, [(0, 0, 22), (1, 1, 22), (2, 2, 4)]), (131, [(0, 0, 22), (1, 1, 22), (2, 2, 4)])]
  arr := []
  st := [(75, (.pr (.cst (Value.pointer none)) (.pr (.cst (Value.pointer none)) (.pr (.cst (Value.pointer none)) (.pr (.plain T25) (.plain T25))))))]
noncomputable def fnL : List (Nat × Func) := [(21, Tryz.f21), (17, Tryz.f17), (42, Tryz.f42), (43, Tryz.f43), (44, Tryz.f44), (19, Tryz.f19), (35, Tryz.f35), (41, Tryz.f41), (18, Tryz.f18), (6, Tryz.f6), (57, Tryz.f57), (29, Tryz.f29), (58, Tryz.f58), (59, Tryz.f59), (96, Tryz.f96), (84, Tryz.f84), (60, Tryz.f60), (61, Tryz.f61), (30, Tryz.f30), (31, Tryz.f31), (45, Tryz.f45), (73, Tryz.f73), (40, Tryz.f40), (65, Tryz.f65), (66, Tryz.f66), (67, Tryz.f67), (32, Tryz.f32), (68, Tryz.f68), (89, Tryz.f89), (107, Tryz.f107), (108, Tryz.f108), (106, Tryz.f106), (99, Tryz.f99), (100, Tryz.f100), (90, Tryz.f90), (72, Tryz.f72), (39, Tryz.f39), (91, Tryz.f91), (69, Tryz.f69), (33, Tryz.f33), (70, Tryz.f70), (34, Tryz.f34), (11, Tryz.f11), (36, Tryz.f36), (71, Tryz.f71), (37, Tryz.f37), (38, Tryz.f38), (13, Tryz.f13), (14, Tryz.f14), (15, Tryz.f15), (4, Tryz.f4), (16, Tryz.f16), (5, Tryz.f5), (20, Tryz.f20), (7, Tryz.f7), (76, Tryz.f76), (77, Tryz.f77), (50, Tryz.f50), (23, Tryz.f23), (92, Tryz.f92), (74, Tryz.f74), (46, Tryz.f46), (47, Tryz.f47), (75, Tryz.f75), (48, Tryz.f48), (49, Tryz.f49), (22, Tryz.f22), (8, Tryz.f8), (78, Tryz.f78), (103, Tryz.f103), (93, Tryz.f93), (104, Tryz.f104), (105, Tryz.f105), (94, Tryz.f94), (79, Tryz.f79), (52, Tryz.f52), (95, Tryz.f95), (80, Tryz.f80), (53, Tryz.f53), (54, Tryz.f54), (25, Tryz.f25), (56, Tryz.f56), (27, Tryz.f27), (10, Tryz.f10), (51, Tryz.f51), (24, Tryz.f24), (81, Tryz.f81), (55, Tryz.f55), (26, Tryz.f26), (9, Tryz.f9), (12, Tryz.f12), (3, Tryz.f3), (28, Tryz.f28), (62, Tryz.f62), (82, Tryz.f82), (83, Tryz.f83), (63, Tryz.f63), (64, Tryz.f64), (85, Tryz.f85), (86, Tryz.f86), (87, Tryz.f87), (88, Tryz.f88), (97, Tryz.f97), (98, Tryz.f98)]
theorem fnL.ok : FnsOK Tryz.prog fnL := ⟨⟨Tryz.func21, by kernel_rfl⟩, ⟨Tryz.func17, by kernel_rfl⟩, ⟨Tryz.func42, by kernel_rfl⟩, ⟨Tryz.func43, by kernel_rfl⟩, ⟨Tryz.func44, by kernel_rfl⟩, ⟨Tryz.func19, by kernel_rfl⟩, ⟨Tryz.func35, by kernel_rfl⟩, ⟨Tryz.func41, by kernel_rfl⟩, ⟨Tryz.func18, by kernel_rfl⟩, ⟨Tryz.func6, by kernel_rfl⟩, ⟨Tryz.func57, by kernel_rfl⟩, ⟨Tryz.func29, by kernel_rfl⟩, ⟨Tryz.func58, by kernel_rfl⟩, ⟨Tryz.func59, by kernel_rfl⟩, ⟨Tryz.func96, by kernel_rfl⟩, ⟨Tryz.func84, by kernel_rfl⟩, ⟨Tryz.func60, by kernel_rfl⟩, ⟨Tryz.func61, by kernel_rfl⟩, ⟨Tryz.func30, by kernel_rfl⟩, ⟨Tryz.func31, by kernel_rfl⟩, ⟨Tryz.func45, by kernel_rfl⟩, ⟨Tryz.func73, by kernel_rfl⟩, ⟨Tryz.func40, by kernel_rfl⟩, ⟨Tryz.func65, by kernel_rfl⟩, ⟨Tryz.func66, by kernel_rfl⟩, ⟨Tryz.func67, by kernel_rfl⟩, ⟨Tryz.func32, by kernel_rfl⟩, ⟨Tryz.func68, by kernel_rfl⟩, ⟨Tryz.func89, by kernel_rfl⟩, ⟨Tryz.func107, by kernel_rfl⟩, ⟨Tryz.func108, by kernel_rfl⟩, ⟨Tryz.func106, by kernel_rfl⟩, ⟨Tryz.func99, by kernel_rfl⟩, ⟨Tryz.func100, by kernel_rfl⟩, ⟨Tryz.func90, by kernel_rfl⟩, ⟨Tryz.func72, by kernel_rfl⟩, ⟨Tryz.func39, by kernel_rfl⟩, ⟨Tryz.func91, by kernel_rfl⟩, ⟨Tryz.func69, by kernel_rfl⟩, ⟨Tryz.func33, by kernel_rfl⟩, ⟨Tryz.func70, by kernel_rfl⟩, ⟨Tryz.func34, by kernel_rfl⟩, ⟨Tryz.func11, by kernel_rfl⟩, ⟨Tryz.func36, by kernel_rfl⟩, ⟨Tryz.func71, by kernel_rfl⟩, ⟨Tryz.func37, by kernel_rfl⟩, ⟨Tryz.func38, by kernel_rfl⟩, ⟨Tryz.func13, by kernel_rfl⟩, ⟨Tryz.func14, by kernel_rfl⟩, ⟨Tryz.func15, by kernel_rfl⟩, ⟨Tryz.func4, by kernel_rfl⟩, ⟨Tryz.func16, by kernel_rfl⟩, ⟨Tryz.func5, by kernel_rfl⟩, ⟨Tryz.func20, by kernel_rfl⟩, ⟨Tryz.func7, by kernel_rfl⟩, ⟨Tryz.func76, by kernel_rfl⟩, ⟨Tryz.func77, by kernel_rfl⟩, ⟨Tryz.func50, by kernel_rfl⟩, ⟨Tryz.func23, by kernel_rfl⟩, ⟨Tryz.func92, by kernel_rfl⟩, ⟨Tryz.func74, by kernel_rfl⟩, ⟨Tryz.func46, by kernel_rfl⟩, ⟨Tryz.func47, by kernel_rfl⟩, ⟨Tryz.func75, by kernel_rfl⟩, ⟨Tryz.func48, by kernel_rfl⟩, ⟨Tryz.func49, by kernel_rfl⟩, ⟨Tryz.func22, by kernel_rfl⟩, ⟨Tryz.func8, by kernel_rfl⟩, ⟨Tryz.func78, by kernel_rfl⟩, ⟨Tryz.func103, by kernel_rfl⟩, ⟨Tryz.func93, by kernel_rfl⟩, ⟨Tryz.func104, by kernel_rfl⟩, ⟨Tryz.func105, by kernel_rfl⟩, ⟨Tryz.func94, by kernel_rfl⟩, ⟨Tryz.func79, by kernel_rfl⟩, ⟨Tryz.func52, by kernel_rfl⟩, ⟨Tryz.func95, by kernel_rfl⟩, ⟨Tryz.func80, by kernel_rfl⟩, ⟨Tryz.func53, by kernel_rfl⟩, ⟨Tryz.func54, by kernel_rfl⟩, ⟨Tryz.func25, by kernel_rfl⟩, ⟨Tryz.func56, by kernel_rfl⟩, ⟨Tryz.func27, by kernel_rfl⟩, ⟨Tryz.func10, by kernel_rfl⟩, ⟨Tryz.func51, by kernel_rfl⟩, ⟨Tryz.func24, by kernel_rfl⟩, ⟨Tryz.func81, by kernel_rfl⟩, ⟨Tryz.func55, by kernel_rfl⟩, ⟨Tryz.func26, by kernel_rfl⟩, ⟨Tryz.func9, by kernel_rfl⟩, ⟨Tryz.func12, by kernel_rfl⟩, ⟨Tryz.func3, by kernel_rfl⟩, ⟨Tryz.func28, by kernel_rfl⟩, ⟨Tryz.func62, by kernel_rfl⟩, ⟨Tryz.func82, by kernel_rfl⟩, ⟨Tryz.func83, by kernel_rfl⟩, ⟨Tryz.func63, by kernel_rfl⟩, ⟨Tryz.func64, by kernel_rfl⟩, ⟨Tryz.func85, by kernel_rfl⟩, ⟨Tryz.func86, by kernel_rfl⟩, ⟨Tryz.func87, by kernel_rfl⟩, ⟨Tryz.func88, by kernel_rfl⟩, ⟨Tryz.func97, by kernel_rfl⟩, ⟨Tryz.func98, by kernel_rfl⟩, trivial⟩
def clL : List (Nat × TypeId) := [(58, 27), (77, 36)]
theorem clL.ok : ClsOK Tryz.prog clL := ⟨clone_ok (tb := 4) Tryz.func58 (by kernel_rfl) (by kernel_rfl) (by kernel_rfl) (by kernel_rfl), clone_ok (tb := 4) Tryz.func77 (by kernel_rfl) (by kernel_rfl) (by kernel_rfl) (by kernel_rfl), trivial⟩
/-! ### math/bits.TrailingZeros32: a contract where the library's table lies (Tryz: the seat's alias; 75: the function's number) -/
section
open Go.RowKit
/-- What the library's table holds. -/
def tz32tab : List Int := [0, 1, 28, 2, 29, 14, 24, 3, 30, 22, 20, 15, 25, 17, 4, 8, 31, 27, 13, 23, 21, 19, 16, 7, 26, 12, 18, 6, 11, 5, 10, 9]
/-- The table that lies there. -/
def tzG (w : World) : Prop := ∀ i : Nat, i < 32 → w.cell? ⟨0, i, none⟩ = some (.int .u8 (tz32tab.getD i 0))
structure Drwn (w w' : World) : Prop where mk :: (out : ∃ n, w' = w.drewN n)
theorem Drwn.refl (w : World) : Drwn w w := ⟨⟨0, rfl⟩⟩
theorem Drwn.step {w w' : World} (h : Drwn w w') (n : Nat) : Drwn w (w'.drewN n) := by
  obtain ⟨m, rfl⟩ := h
  exact ⟨⟨m + n, World.drewN_drewN ..⟩⟩
theorem Drwn.below {w w' : World} (h : Drwn w w') : Below w.heap.size w w' := by
  obtain ⟨n, rfl⟩ := h
  induction n with
  | zero => exact Below.refl _ _
  | succ n ih => rw [← World.drew_drewN]; exact ih.drew
def tz32ix (a0 : Int) : Int := Go.bits .and .u32 a0 (-a0 % 4294967296) * 125613361 % 4294967296 / 134217728
def tz32 (a0 : Int) : Option Int := if a0 = 0 then some 32 else if 0 ≤ tz32ix a0 ∧ tz32ix a0 < 32 then some (wrap64 (tz32tab.getD (tz32ix a0).toNat 0)) else none
theorem tz32.calls (a0 : Int) (r : Int) (w : World) (h : tz32 a0 = some r) (htab_ : tzG w) :
    Calls Tryz.prog 75 #[.int .u32 a0] w fun e w' => e = .returned (.int .i64 r) ∧ Drwn w w' := by
  by_cases c0 : a0 = 0
  · have e0 : (some 32 : Option Int) = some r := by simpa [tz32, c0] using h
    obtain rfl := Option.some.inj e0
    subst c0
    clear h htab_
    go_enter Tryz.func75, Tryz.ntmps75
    go_wp2
    go_ret
    exact ⟨rfl, by repeat (first | exact Drwn.refl _ | apply Drwn.step)⟩
  · unfold tz32 at h
    rw [if_neg c0] at h
    by_cases hq : 0 ≤ tz32ix a0 ∧ tz32ix a0 < 32
    · rw [if_pos hq] at h
      obtain rfl := Option.some.inj h
      have hc := htab_ (tz32ix a0).toNat (by omega)
      have hcb : (a0 == 0) = false := beq_eq_false_iff_ne.mpr c0
      obtain ⟨h0, h1⟩ := hq
      clear h htab_ c0
      generalize hr : tz32tab.getD (tz32ix a0).toNat 0 = r at hc ⊢
      clear hr
      unfold tz32ix at hc h0 h1
      replace h0 := eq_true h0
      replace h1 := eq_true h1
      go_enter Tryz.func75, Tryz.ntmps75
      go_wp2
      go_ret
      exact ⟨rfl, by repeat (first | exact Drwn.refl _ | apply Drwn.step)⟩
    · rw [if_neg hq] at h; exact absurd h (by simp)
def w_tz (_k : Nat) (x : Int) : Option (HL [(.int .i64)]) := (tz32 x).map fun r => (r, ())
theorem w_tz.ok (k : Nat) : SpecOK Tryz.prog tzG 75 ⟨[(.int .u32)], [(.int .i64)], fun x => w_tz k x.1⟩ := by
  refine ⟨⟨_, _, Tryz.func75, by kernel_rfl, rfl⟩, fun w ok xs vs r hg hxs hr => ?_⟩
  obtain ⟨v0, q0, rfl, h0, rfl⟩ := hxs
  obtain ⟨r1, hb, rfl⟩ := Option.map_eq_some_iff.1 hr
  rw [Rep.int h0]
  refine (tz32.calls xs.1 r1 w hb (hg w (Below.refl _ _))).mono fun e w' he => ?_
  obtain ⟨rfl, hw⟩ := he
  exact ⟨_, rfl, hw.below, [.int .i64 r1], rfl, rfl⟩
end
abbrev G0 : World → Prop := tzG
def xtL : List (Nat × Spec) := [(101, ⟨[(.int .u64), (.int .u64), (.int .u64)], [(.int .u64), (.int .u64)], add64F⟩), (102, ⟨[(.int .u64), (.int .u64), (.int .u64)], [(.int .u64), (.int .u64)], sub64F⟩)]
theorem xtL.ok : XtsOK Tryz.prog xtL := ⟨add64_ok Tryz.func101 (by kernel_rfl) (by kernel_rfl) (by kernel_rfl) (by kernel_rfl), sub64_ok Tryz.func102 (by kernel_rfl) (by kernel_rfl) (by kernel_rfl) (by kernel_rfl), trivial⟩
def e0 (_k : Nat) : Env := baseE G0 tabs fnL clL xtL
theorem e0.ok (k : Nat) : (e0 k).OK Tryz.prog := Env.OK.base (by kernel_rfl) fnL.ok clL.ok xtL.ok
def e1 (k : Nat) : Env := (e0 k).add 75 ⟨[(.int .u32)], [(.int .i64)], fun x => w_tz k x.1⟩
theorem e1.ok (k : Nat) : (e1 k).OK Tryz.prog := (e0.ok k).add (w_tz.ok k)
def num_May (k : Nat) (x0 : Ty.den T23) : Option (HL [.bool]) :=
 bif (x0.1 == 0) then
  some ((beqT T23 x0 (0, false, 0, 0)), ())
 else
  bif (x0.1 == 1) then
   bif (decide (x0.2.2.1 ≥ 9223372036854775808)) then
    bif (decide (x0.2.2.2 ≥ (-1048576))) then
     some ((decide (x0.2.2.2 ≤ 1048576)), ())
    else
     some (false, ())
   else
    some (false, ())
  else
   bif (x0.1 == 2) then
    bif (x0.2.2.1 == 0) then
     some ((x0.2.2.2 == 0), ())
    else
     some (false, ())
   else
    some (false, ())
theorem num_May.ok (k : Nat) : SpecOK Tryz.prog G0 21 ⟨[T23], [.bool], fun x => num_May k x.1⟩ :=
 evF_sound (E := (e1 k)) (fn := Tryz.f21) (e1.ok k) (by kernel_rfl) (by kernel_rfl) (by kernel_rfl) 8 .n trivial (fun xs => by kernel_rfl)
def e2 (k : Nat) : Env := (e1 k).add 21 ⟨[T23], [.bool], fun x => num_May k x.1⟩
theorem e2.ok (k : Nat) : (e2 k).OK Tryz.prog := (e1.ok k).add (num_May.ok k)
def tube_finite (k : Nat) (x0 : Ty.den T23) : Option (HL [.bool]) :=
 (num_May k x0).bind fun r1 =>
 bif r1.1 then
  some ((x0.1 != 2), ())
 else
  some (false, ())
theorem tube_finite.ok (k : Nat) : SpecOK Tryz.prog G0 17 ⟨[T23], [.bool], fun x => tube_finite k x.1⟩ :=
 evF_sound (E := (e2 k)) (fn := Tryz.f17) (e2.ok k) (by kernel_rfl) (by kernel_rfl) (by kernel_rfl) 8 .n trivial (fun xs => by kernel_rfl)
def e3 (k : Nat) : Env := (e2 k).add 17 ⟨[T23], [.bool], fun x => tube_finite k x.1⟩
theorem e3.ok (k : Nat) : (e3 k).OK Tryz.prog := (e2.ok k).add (tube_finite.ok k)
def num_fair (k : Nat) (x0 : Ty.den T23) : Option (HL [T23]) :=
 (num_May k x0).bind fun r1 =>
 bif (!r1.1) then
  some ((0, false, 0, 0), ())
 else
  some (x0, ())
theorem num_fair.ok (k : Nat) : SpecOK Tryz.prog G0 42 ⟨[T23], [T23], fun x => num_fair k x.1⟩ :=
 evF_sound (E := (e3 k)) (fn := Tryz.f42) (e3.ok k) (by kernel_rfl) (by kernel_rfl) (by kernel_rfl) 8 .n trivial (fun xs => by kernel_rfl)
def e4 (k : Nat) : Env := (e3 k).add 42 ⟨[T23], [T23], fun x => num_fair k x.1⟩
theorem e4.ok (k : Nat) : (e4 k).OK Tryz.prog := (e3.ok k).add (num_fair.ok k)
def num_Sign (k : Nat) (x0 : Ty.den T23) : Option (HL [(.int .i64)]) :=
 (num_fair k x0).bind fun r1 =>
 bif (r1.1.1 == 0) then
  some (0, ())
 else
  bif r1.1.2.1 then
   some ((-1), ())
  else
   some (1, ())
theorem num_Sign.ok (k : Nat) : SpecOK Tryz.prog G0 43 ⟨[T23], [(.int .i64)], fun x => num_Sign k x.1⟩ :=
 evF_sound (E := (e4 k)) (fn := Tryz.f43) (e4.ok k) (by kernel_rfl) (by kernel_rfl) (by kernel_rfl) 8 .n trivial (fun xs => by kernel_rfl)
def e5 (k : Nat) : Env := (e4 k).add 43 ⟨[T23], [(.int .i64)], fun x => num_Sign k x.1⟩
theorem e5.ok (k : Nat) : (e5 k).OK Tryz.prog := (e4.ok k).add (num_Sign.ok k)
def num_farther (k : Nat) (x0 : Ty.den T23) (x1 : Ty.den T23) : Option (HL [.bool]) :=
 bif (x0.1 != x1.1) then
  some ((decide (x0.1 > x1.1)), ())
 else
  bif (x0.2.2.2 != x1.2.2.2) then
   some ((decide (x0.2.2.2 > x1.2.2.2)), ())
  else
   some ((decide (x0.2.2.1 > x1.2.2.1)), ())
theorem num_farther.ok (k : Nat) : SpecOK Tryz.prog G0 44 ⟨[T23, T23], [.bool], fun x => num_farther k x.1 x.2.1⟩ :=
 evF_sound (E := (e5 k)) (fn := Tryz.f44) (e5.ok k) (by kernel_rfl) (by kernel_rfl) (by kernel_rfl) 8 .n trivial (fun xs => by kernel_rfl)
def e6 (k : Nat) : Env := (e5 k).add 44 ⟨[T23, T23], [.bool], fun x => num_farther k x.1 x.2.1⟩
theorem e6.ok (k : Nat) : (e6 k).OK Tryz.prog := (e5.ok k).add (num_farther.ok k)
def num_Cmp (k : Nat) (x0 : Ty.den T23) (x1 : Ty.den T23) : Option (HL [(.int .i64)]) :=
 (num_fair k x0).bind fun r1 =>
 (num_fair k x1).bind fun r2 =>
 (num_Sign k r1.1).bind fun r3 =>
 (num_Sign k r2.1).bind fun r4 =>
 bif (decide (r3.1 < r4.1)) then
  some ((-1), ())
 else
  bif (decide (r3.1 > r4.1)) then
   some (1, ())
  else
   (num_farther k r1.1 r2.1).bind fun r5 =>
   bif r5.1 then
    some (r3.1, ())
   else
    (num_farther k r2.1 r1.1).bind fun r6 =>
    bif r6.1 then
     some ((IntKind.i64.wrap (0 - r3.1)), ())
    else
     some (0, ())
theorem num_Cmp.ok (k : Nat) : SpecOK Tryz.prog G0 19 ⟨[T23, T23], [(.int .i64)], fun x => num_Cmp k x.1 x.2.1⟩ :=
 evF_sound (E := (e6 k)) (fn := Tryz.f19) (e6.ok k) (by kernel_rfl) (by kernel_rfl) (by kernel_rfl) 8 .n trivial (fun xs => by kernel_rfl)
def e7 (k : Nat) : Env := (e6 k).add 19 ⟨[T23, T23], [(.int .i64)], fun x => num_Cmp k x.1 x.2.1⟩
theorem e7.ok (k : Nat) : (e7 k).OK Tryz.prog := (e6.ok k).add (num_Cmp.ok k)
def iv_None (k : Nat) : Option (HL [T25]) :=
 some ((true, (0, false, 0, 0), 0, false, 0, 0), ())
theorem iv_None.ok (k : Nat) : SpecOK Tryz.prog G0 35 ⟨[], [T25], fun x => iv_None k⟩ :=
 evF_sound (E := (e7 k)) (fn := Tryz.f35) (e7.ok k) (by kernel_rfl) (by kernel_rfl) (by kernel_rfl) 8 .n trivial (fun xs => by kernel_rfl)
def e8 (k : Nat) : Env := (e7 k).add 35 ⟨[], [T25], fun x => iv_None k⟩
theorem e8.ok (k : Nat) : (e8 k).OK Tryz.prog := (e7.ok k).add (iv_None.ok k)
def num_Infinite (k : Nat) (x0 : Ty.den .bool) : Option (HL [T23]) :=
 some ((2, x0, 0, 0), ())
theorem num_Infinite.ok (k : Nat) : SpecOK Tryz.prog G0 41 ⟨[.bool], [T23], fun x => num_Infinite k x.1⟩ :=
 evF_sound (E := (e8 k)) (fn := Tryz.f41) (e8.ok k) (by kernel_rfl) (by kernel_rfl) (by kernel_rfl) 8 .n trivial (fun xs => by kernel_rfl)
def e9 (k : Nat) : Env := (e8 k).add 41 ⟨[.bool], [T23], fun x => num_Infinite k x.1⟩
theorem e9.ok (k : Nat) : (e9 k).OK Tryz.prog := (e8.ok k).add (num_Infinite.ok k)
def iv_May (k : Nat) (x0 : Ty.den T25) : Option (HL [.bool]) :=
 bif x0.1 then
  (iv_None k).bind fun r1 =>
  some ((beqT T25 x0 r1.1), ())
 else
  (num_May k x0.2.1).bind fun r2 =>
  bif r2.1 then
   (num_May k x0.2.2).bind fun r3 =>
   bif r3.1 then
    (num_Cmp k x0.2.1 x0.2.2).bind fun r4 =>
    bif (decide (r4.1 ≤ 0)) then
     (num_Infinite k false).bind fun r5 =>
     bif (!(beqT T23 x0.2.1 r5.1)) then
      (num_Infinite k true).bind fun r6 =>
      some ((!(beqT T23 x0.2.2 r6.1)), ())
     else
      some (false, ())
    else
     some (false, ())
   else
    some (false, ())
  else
   some (false, ())
theorem iv_May.ok (k : Nat) : SpecOK Tryz.prog G0 18 ⟨[T25], [.bool], fun x => iv_May k x.1⟩ :=
 evF_sound (E := (e9 k)) (fn := Tryz.f18) (e9.ok k) (by kernel_rfl) (by kernel_rfl) (by kernel_rfl) 8 .n trivial (fun xs => by kernel_rfl)
def e10 (k : Nat) : Env := (e9 k).add 18 ⟨[T25], [.bool], fun x => iv_May k x.1⟩
theorem e10.ok (k : Nat) : (e10 k).OK Tryz.prog := (e9.ok k).add (iv_May.ok k)
abbrev tube_May_l0_i : Mask := ⟨[(0, 3, (.k (.ptr 3 0 0))), (0, 25, (.v T27)), (0, 26, (.v (.int .i64))), (0, 27, (.v (.int .i64)))], [(3, .cells (.v T23))], [], 0⟩
abbrev tube_May_l0_o : List Out := [⟨.ret, ⟨[(0, 2, (.v .bool))], [], [], 0⟩⟩, ⟨.exit 0, ⟨[], [], [], 0⟩⟩]
def tube_May_l0 (k : Nat) : Nat → Mask.den tube_May_l0_i → Option (denS tube_May_l0_o)
 | 0, _ => none
 | m + 1, x =>
  bif (decide (x.1.2.2.2.1 < x.1.2.2.1)) then
   if 0 ≤ x.1.2.2.2.1 then (x.1.2.1[Int.toNat x.1.2.2.2.1]?).bind fun y3 =>
    (tube_finite k y3.1).bind fun r4 =>
    bif (!r4.1) then
     some (Sum.inl ((false, ()), ()))
    else
     (num_Cmp k y3.1 x.2.1).bind fun r5 =>
     bif (decide (r5.1 ≤ 0)) then
      some (Sum.inl ((false, ()), ()))
     else
      (iv_May k y3.2.1).bind fun r6 =>
      bif (!r6.1) then
       some (Sum.inl ((false, ()), ()))
      else
       (iv_May k y3.2.2).bind fun r7 =>
       bif (!r7.1) then
        some (Sum.inl ((false, ()), ()))
       else
        tube_May_l0 k m (((), x.1.2.1, x.1.2.2.1, (IntKind.i64.wrap (x.1.2.2.2.1 + 1)), ()), (y3.1, ()))
   else none
  else
   some (Sum.inr (Sum.inl ((), ())))
abbrev tube_May_l0_seg (k : Nat) : Seg := ⟨⟨0, 57, false, [], []⟩, 6, [.b, .s2, .s1, .s2, .s2, .s2], tube_May_l0_i, tube_May_l0_o, tube_May_l0 k k⟩
theorem tube_May_l0_seg.ok (k : Nat) : SegOK Tryz.prog (e10 k) (tube_May_l0_seg k) :=
 SegOK.loop (e10.ok k) (by kernel_rfl) (S := tube_May_l0_seg k) (c := atR (codeOf (e10 k) 6) [.l, .b, .s2, .s1, .s2, .s2, .s2]) (by kernel_rfl) (tube_May_l0 k) k rfl (fun _ => rfl) 8 .n trivial (fun k' x => by kernel_rfl)
def tube_May (k : Nat) (x0 : Ty.den T28) : Option (HL [.bool]) :=
 (tube_finite k x0.1).bind fun r1 =>
 bif (!r1.1) then
  some (false, ())
 else
  (iv_May k x0.2.1).bind fun r2 =>
  bif (!r2.1) then
   some (false, ())
  else
   bif (decide ((x0.2.2.length : Int) > 64)) then
    some (false, ())
   else
    (tube_May_l0 k k (((), x0.2.2, (x0.2.2.length : Int), 0, ()), (x0.1, ()))).bind fun q8 =>
    Sum.elim (fun z9 =>
      some (z9.1.1, ()))
     (fun q8' =>
      Sum.elim (fun z10 =>
        some (true, ()))
       (fun q8'' =>
        none) q8') q8
theorem tube_May.ok (k : Nat) : SpecOK Tryz.prog G0 6 ⟨[T28], [.bool], fun x => tube_May k x.1⟩ :=
 evF_sound (E := (e10 k)) (fn := Tryz.f6) (e10.ok k) (by kernel_rfl) (by kernel_rfl) (by kernel_rfl) 8 (.two .n (.two .n (.two .n (.two (.two .n (.two (.use (tube_May_l0_seg k)) .n)) .n)))) ⟨trivial, ⟨trivial, ⟨trivial, ⟨⟨trivial, ⟨(tube_May_l0_seg.ok k), trivial⟩⟩, trivial⟩⟩⟩⟩ (fun xs => by kernel_rfl)
def e11 (k : Nat) : Env := (e10 k).add 6 ⟨[T28], [.bool], fun x => tube_May k x.1⟩
theorem e11.ok (k : Nat) : (e11 k).OK Tryz.prog := (e10.ok k).add (tube_May.ok k)
abbrev tube_void_l0_i : Mask := ⟨[(0, 1, (.k (.ptr 1 0 0))), (0, 2, (.k (.ptr 2 0 0))), (0, 3, (.k (.ptr 3 0 0))), (0, 14, (.v (.int .i64))), (0, 15, (.v (.int .i64)))], [(1, .cells (.pr (.v T23) (.pr (.v T25) (.k (.arr 10 0))))), (2, .cells (.pr (.v T23) (.pr (.v T25) (.v T27)))), (3, .cells (.v T25)), (10, .arr 44 T43)], [], 0⟩
abbrev tube_void_l0_o : List Out := [⟨.exit 0, ⟨[(0, 1, (.k (.ptr 1 0 0))), (0, 2, (.k (.ptr 2 0 0)))], [(1, .cells (.pr (.v T23) (.pr (.v T25) (.k (.arr 10 0))))), (2, .cells (.pr (.v T23) (.pr (.v T25) (.v T27)))), (10, .arr 44 T43)], [], 0⟩⟩]
def tube_void_l0 (k : Nat) : Nat → Mask.den tube_void_l0_i → Option (denS tube_void_l0_o)
 | 0, _ => none
 | m + 1, x =>
  bif (decide (x.1.2.2.2.2.1 < x.1.2.2.2.1)) then
   if 0 ≤ x.1.2.2.2.2.1 then (x.2.2.2.2.1[Int.toNat x.1.2.2.2.2.1]?).bind fun _ =>
    (x.2.2.2.2.1[(Int.toNat x.1.2.2.2.2.1)]?).bind fun y3 =>
    if 0 ≤ x.1.2.2.2.2.1 then ((x.2.2.2.2.1.set (Int.toNat x.1.2.2.2.2.1) (y3.1, x.2.2.2.1, y3.2.2))[Int.toNat x.1.2.2.2.2.1]?).bind fun _ =>
     ((x.2.2.2.2.1.set (Int.toNat x.1.2.2.2.2.1) (y3.1, x.2.2.2.1, y3.2.2))[(Int.toNat x.1.2.2.2.2.1)]?).bind fun y5 =>
     tube_void_l0 k m (((), (), (), x.1.2.2.2.1, (IntKind.i64.wrap (x.1.2.2.2.2.1 + 1)), ()), ((x.2.1.1, (x.2.1.2.1, ())), (x.2.2.1.1, (x.2.2.1.2.1, x.2.2.1.2.2)), x.2.2.2.1, ((x.2.2.2.2.1.set (Int.toNat x.1.2.2.2.2.1) (y3.1, x.2.2.2.1, y3.2.2)).set (Int.toNat x.1.2.2.2.2.1) (y5.1, y5.2.1, x.2.2.2.1)), ()))
    else none
   else none
  else
   some (Sum.inl (((), (), ()), ((x.2.1.1, (x.2.1.2.1, ())), (x.2.2.1.1, (x.2.2.1.2.1, x.2.2.1.2.2)), x.2.2.2.2.1, ())))
abbrev tube_void_l0_seg (k : Nat) : Seg := ⟨⟨0, 32, false, [], []⟩, 61, [.b, .s2, .s1, .s2, .s2, .s2, .s2], tube_void_l0_i, tube_void_l0_o, tube_void_l0 k k⟩
theorem tube_void_l0_seg.ok (k : Nat) : SegOK Tryz.prog (e11 k) (tube_void_l0_seg k) :=
 SegOK.loop (e11.ok k) (by kernel_rfl) (S := tube_void_l0_seg k) (c := atR (codeOf (e11 k) 61) [.l, .b, .s2, .s1, .s2, .s2, .s2, .s2]) (by kernel_rfl) (tube_void_l0 k) k rfl (fun _ => rfl) 8 .n trivial (fun k' x => by kernel_rfl)
def tube_void (k : Nat) (x0 : Ty.den T28) : Option (HL [T28]) :=
 (iv_None k).bind fun r1 =>
 if x0.2.2.length * 176 ≤ 140737488355328 then
  (tube_void_l0 k k (((), (), (), (x0.2.2.length : Int), 0, ()), ((x0.1, (r1.1, ())), ((0, false, 0, 0), ((false, (0, false, 0, 0), 0, false, 0, 0), [])), r1.1, x0.2.2, ()))).bind fun q6 =>
  Sum.elim (fun z7 =>
    some ((z7.2.1.1, z7.2.1.2.1, z7.2.2.2.1), ()))
   (fun q6' =>
    none) q6
 else none
theorem tube_void.ok (k : Nat) : SpecOK Tryz.prog G0 61 ⟨[T28], [T28], fun x => tube_void k x.1⟩ :=
 evF_sound (E := (e11 k)) (fn := Tryz.f61) (e11.ok k) (by kernel_rfl) (by kernel_rfl) (by kernel_rfl) 8 (.two .n (.two .n (.two .n (.two .n (.two (.two .n (.two (.use (tube_void_l0_seg k)) .n)) .n))))) ⟨trivial, ⟨trivial, ⟨trivial, ⟨trivial, ⟨⟨trivial, ⟨(tube_void_l0_seg.ok k), trivial⟩⟩, trivial⟩⟩⟩⟩⟩ (fun xs => by kernel_rfl)
def e12 (k : Nat) : Env := (e11 k).add 61 ⟨[T28], [T28], fun x => tube_void k x.1⟩
theorem e12.ok (k : Nat) : (e12 k).OK Tryz.prog := (e11.ok k).add (tube_void.ok k)
def iv_fair (k : Nat) (x0 : Ty.den T25) : Option (HL [T25]) :=
 (iv_May k x0).bind fun r1 =>
 bif (!r1.1) then
  (iv_None k).bind fun r2 =>
  some (r2.1, ())
 else
  some (x0, ())
theorem iv_fair.ok (k : Nat) : SpecOK Tryz.prog G0 45 ⟨[T25], [T25], fun x => iv_fair k x.1⟩ :=
 evF_sound (E := (e12 k)) (fn := Tryz.f45) (e12.ok k) (by kernel_rfl) (by kernel_rfl) (by kernel_rfl) 8 .n trivial (fun xs => by kernel_rfl)
def e13 (k : Nat) : Env := (e12 k).add 45 ⟨[T25], [T25], fun x => iv_fair k x.1⟩
theorem e13.ok (k : Nat) : (e13 k).OK Tryz.prog := (e12.ok k).add (iv_fair.ok k)
def num_Neg (k : Nat) (x0 : Ty.den T23) : Option (HL [T23]) :=
 (num_fair k x0).bind fun r1 =>
 bif (r1.1.1 != 0) then
  some ((r1.1.1, (!r1.1.2.1), r1.1.2.2), ())
 else
  some ((r1.1.1, false, r1.1.2.2), ())
theorem num_Neg.ok (k : Nat) : SpecOK Tryz.prog G0 73 ⟨[T23], [T23], fun x => num_Neg k x.1⟩ :=
 evF_sound (E := (e13 k)) (fn := Tryz.f73) (e13.ok k) (by kernel_rfl) (by kernel_rfl) (by kernel_rfl) 8 .n trivial (fun xs => by kernel_rfl)
def e14 (k : Nat) : Env := (e13 k).add 73 ⟨[T23], [T23], fun x => num_Neg k x.1⟩
theorem e14.ok (k : Nat) : (e14 k).OK Tryz.prog := (e13.ok k).add (num_Neg.ok k)
def iv_Make (k : Nat) (x0 : Ty.den T23) (x1 : Ty.den T23) : Option (HL [T25]) :=
 (num_Neg k x0).bind fun r1 =>
 (num_Neg k r1.1).bind fun r2 =>
 (num_Neg k x1).bind fun r3 =>
 (num_Neg k r3.1).bind fun r4 =>
 (iv_fair k (false, r2.1, r4.1)).bind fun r5 =>
 some (r5.1, ())
theorem iv_Make.ok (k : Nat) : SpecOK Tryz.prog G0 40 ⟨[T23, T23], [T25], fun x => iv_Make k x.1 x.2.1⟩ :=
 evF_sound (E := (e14 k)) (fn := Tryz.f40) (e14.ok k) (by kernel_rfl) (by kernel_rfl) (by kernel_rfl) 8 .n trivial (fun xs => by kernel_rfl)
def e15 (k : Nat) : Env := (e14 k).add 40 ⟨[T23, T23], [T25], fun x => iv_Make k x.1 x.2.1⟩
theorem e15.ok (k : Nat) : (e15 k).OK Tryz.prog := (e14.ok k).add (iv_Make.ok k)
abbrev iv_ends_l0_i : Mask := ⟨[(0, 2, (.k (.arr 21 0))), (0, 3, (.k (.arr 26 0))), (0, 4, (.v .bool)), (0, 7, (.v T30)), (0, 8, (.v (.int .i64))), (0, 9, (.v (.int .i64)))], [(21, .arr 24 T23), (26, .arr 24 T23)], [], 0⟩
abbrev iv_ends_l0_o : List Out := [⟨.exit 0, ⟨[(0, 2, (.k (.arr 21 0))), (0, 3, (.k (.arr 26 0))), (0, 4, (.v .bool))], [(21, .arr 24 T23), (26, .arr 24 T23)], [], 0⟩⟩]
def iv_ends_l0 (k : Nat) : Nat → Mask.den iv_ends_l0_i → Option (denS iv_ends_l0_o)
 | 0, _ => none
 | m + 1, x =>
  bif (decide (x.1.2.2.2.2.2.1 < x.1.2.2.2.2.1)) then
   if 0 ≤ x.1.2.2.2.2.2.1 then (x.1.2.2.2.1[Int.toNat x.1.2.2.2.2.2.1]?).bind fun y5 =>
    (iv_fair k y5).bind fun r6 =>
    bif r6.1.1 then
     iv_ends_l0 k m (((), (), false, x.1.2.2.2.1, x.1.2.2.2.2.1, (IntKind.i64.wrap (x.1.2.2.2.2.2.1 + 1)), ()), (x.2.1, x.2.2.1, ()))
    else
     if (x.2.1.length + [r6.1.2.1].length) * 32 ≤ 140737488355328 then
      if (x.2.2.1.length + [r6.1.2.2].length) * 32 ≤ 140737488355328 then
       iv_ends_l0 k m (((), (), x.1.2.2.1, x.1.2.2.2.1, x.1.2.2.2.2.1, (IntKind.i64.wrap (x.1.2.2.2.2.2.1 + 1)), ()), ((x.2.1 ++ [r6.1.2.1]), (x.2.2.1 ++ [r6.1.2.2]), ()))
      else none
     else none
   else none
  else
   some (Sum.inl (((), (), x.1.2.2.1, ()), (x.2.1, x.2.2.1, ())))
abbrev iv_ends_l0_seg (k : Nat) : Seg := ⟨⟨0, 31, false, [], []⟩, 65, [.b, .s2, .s1, .s2, .s2], iv_ends_l0_i, iv_ends_l0_o, iv_ends_l0 k k⟩
theorem iv_ends_l0_seg.ok (k : Nat) : SegOK Tryz.prog (e15 k) (iv_ends_l0_seg k) :=
 SegOK.loop (e15.ok k) (by kernel_rfl) (S := iv_ends_l0_seg k) (c := atR (codeOf (e15 k) 65) [.l, .b, .s2, .s1, .s2, .s2]) (by kernel_rfl) (iv_ends_l0 k) k rfl (fun _ => rfl) 8 .n trivial (fun k' x => by kernel_rfl)
def iv_ends (k : Nat) (x0 : Ty.den T30) : Option (HL [T31, T31, .bool]) :=
 (iv_ends_l0 k k (((), (), true, x0, (x0.length : Int), 0, ()), ([], [], ()))).bind fun q7 =>
 Sum.elim (fun z8 =>
   some (z8.2.1, z8.2.2.1, z8.1.2.2.1, ()))
  (fun q7' =>
   none) q7
theorem iv_ends.ok (k : Nat) : SpecOK Tryz.prog G0 65 ⟨[T30], [T31, T31, .bool], fun x => iv_ends k x.1⟩ :=
 evF_sound (E := (e15 k)) (fn := Tryz.f65) (e15.ok k) (by kernel_rfl) (by kernel_rfl) (by kernel_rfl) 8 (.two .n (.two .n (.two (.two .n (.two (.use (iv_ends_l0_seg k)) .n)) .n))) ⟨trivial, ⟨trivial, ⟨⟨trivial, ⟨(iv_ends_l0_seg.ok k), trivial⟩⟩, trivial⟩⟩⟩ (fun xs => by kernel_rfl)
def e16 (k : Nat) : Env := (e15 k).add 65 ⟨[T30], [T31, T31, .bool], fun x => iv_ends k x.1⟩
theorem e16.ok (k : Nat) : (e16 k).OK Tryz.prog := (e15.ok k).add (iv_ends.ok k)
abbrev num_Most_l0_i : Mask := ⟨[(0, 2, (.k (.ptr 2 0 0))), (0, 3, (.k (.ptr 3 0 0))), (0, 7, (.v T31)), (0, 8, (.v (.int .i64))), (0, 9, (.v (.int .i64)))], [(2, .cells (.v T23)), (3, .cells (.v T23))], [], 0⟩
abbrev num_Most_l0_o : List Out := [⟨.exit 0, ⟨[(0, 2, (.k (.ptr 2 0 0))), (0, 3, (.k (.ptr 3 0 0)))], [(2, .cells (.v T23)), (3, .cells (.v T23))], [], 0⟩⟩]
def num_Most_l0 (k : Nat) : Nat → Mask.den num_Most_l0_i → Option (denS num_Most_l0_o)
 | 0, _ => none
 | m + 1, x =>
  bif (decide (x.1.2.2.2.2.1 < x.1.2.2.2.1)) then
   if 0 ≤ x.1.2.2.2.2.1 then (x.1.2.2.1[Int.toNat x.1.2.2.2.2.1]?).bind fun y2 =>
    (num_Cmp k y2 x.2.2.1).bind fun r3 =>
    bif (decide (r3.1 > 0)) then
     (num_fair k y2).bind fun r4 =>
     num_Most_l0 k m (((), (), x.1.2.2.1, x.1.2.2.2.1, (IntKind.i64.wrap (x.1.2.2.2.2.1 + 1)), ()), (x.2.1, r4.1, ()))
    else
     num_Most_l0 k m (((), (), x.1.2.2.1, x.1.2.2.2.1, (IntKind.i64.wrap (x.1.2.2.2.2.1 + 1)), ()), (x.2.1, x.2.2.1, ()))
   else none
  else
   some (Sum.inl (((), (), ()), (x.2.1, x.2.2.1, ())))
abbrev num_Most_l0_seg (k : Nat) : Seg := ⟨⟨0, 21, false, [], []⟩, 66, [.b, .s2, .s1, .s2, .s2], num_Most_l0_i, num_Most_l0_o, num_Most_l0 k k⟩
theorem num_Most_l0_seg.ok (k : Nat) : SegOK Tryz.prog (e16 k) (num_Most_l0_seg k) :=
 SegOK.loop (e16.ok k) (by kernel_rfl) (S := num_Most_l0_seg k) (c := atR (codeOf (e16 k) 66) [.l, .b, .s2, .s1, .s2, .s2]) (by kernel_rfl) (num_Most_l0 k) k rfl (fun _ => rfl) 8 .n trivial (fun k' x => by kernel_rfl)
def num_Most (k : Nat) (x0 : Ty.den T31) : Option (HL [T23]) :=
 (num_Infinite k true).bind fun r1 =>
 (num_Most_l0 k k (((), (), x0, (x0.length : Int), 0, ()), ((0, false, 0, 0), r1.1, ()))).bind fun q5 =>
 Sum.elim (fun z6 =>
   some (z6.2.2.1, ()))
  (fun q5' =>
   none) q5
theorem num_Most.ok (k : Nat) : SpecOK Tryz.prog G0 66 ⟨[T31], [T23], fun x => num_Most k x.1⟩ :=
 evF_sound (E := (e16 k)) (fn := Tryz.f66) (e16.ok k) (by kernel_rfl) (by kernel_rfl) (by kernel_rfl) 8 (.two .n (.two .n (.two (.two .n (.two (.use (num_Most_l0_seg k)) .n)) .n))) ⟨trivial, ⟨trivial, ⟨⟨trivial, ⟨(num_Most_l0_seg.ok k), trivial⟩⟩, trivial⟩⟩⟩ (fun xs => by kernel_rfl)
def e17 (k : Nat) : Env := (e16 k).add 66 ⟨[T31], [T23], fun x => num_Most k x.1⟩
theorem e17.ok (k : Nat) : (e17 k).OK Tryz.prog := (e16.ok k).add (num_Most.ok k)
abbrev num_Least_l0_i : Mask := ⟨[(0, 2, (.k (.ptr 2 0 0))), (0, 3, (.k (.ptr 3 0 0))), (0, 7, (.v T31)), (0, 8, (.v (.int .i64))), (0, 9, (.v (.int .i64)))], [(2, .cells (.v T23)), (3, .cells (.v T23))], [], 0⟩
abbrev num_Least_l0_o : List Out := [⟨.exit 0, ⟨[(0, 2, (.k (.ptr 2 0 0))), (0, 3, (.k (.ptr 3 0 0)))], [(2, .cells (.v T23)), (3, .cells (.v T23))], [], 0⟩⟩]
def num_Least_l0 (k : Nat) : Nat → Mask.den num_Least_l0_i → Option (denS num_Least_l0_o)
 | 0, _ => none
 | m + 1, x =>
  bif (decide (x.1.2.2.2.2.1 < x.1.2.2.2.1)) then
   if 0 ≤ x.1.2.2.2.2.1 then (x.1.2.2.1[Int.toNat x.1.2.2.2.2.1]?).bind fun y2 =>
    (num_Cmp k y2 x.2.2.1).bind fun r3 =>
    bif (decide (r3.1 < 0)) then
     (num_fair k y2).bind fun r4 =>
     num_Least_l0 k m (((), (), x.1.2.2.1, x.1.2.2.2.1, (IntKind.i64.wrap (x.1.2.2.2.2.1 + 1)), ()), (x.2.1, r4.1, ()))
    else
     num_Least_l0 k m (((), (), x.1.2.2.1, x.1.2.2.2.1, (IntKind.i64.wrap (x.1.2.2.2.2.1 + 1)), ()), (x.2.1, x.2.2.1, ()))
   else none
  else
   some (Sum.inl (((), (), ()), (x.2.1, x.2.2.1, ())))
abbrev num_Least_l0_seg (k : Nat) : Seg := ⟨⟨0, 21, false, [], []⟩, 67, [.b, .s2, .s1, .s2, .s2], num_Least_l0_i, num_Least_l0_o, num_Least_l0 k k⟩
theorem num_Least_l0_seg.ok (k : Nat) : SegOK Tryz.prog (e17 k) (num_Least_l0_seg k) :=
 SegOK.loop (e17.ok k) (by kernel_rfl) (S := num_Least_l0_seg k) (c := atR (codeOf (e17 k) 67) [.l, .b, .s2, .s1, .s2, .s2]) (by kernel_rfl) (num_Least_l0 k) k rfl (fun _ => rfl) 8 .n trivial (fun k' x => by kernel_rfl)
def num_Least (k : Nat) (x0 : Ty.den T31) : Option (HL [T23]) :=
 (num_Infinite k false).bind fun r1 =>
 (num_Least_l0 k k (((), (), x0, (x0.length : Int), 0, ()), ((0, false, 0, 0), r1.1, ()))).bind fun q5 =>
 Sum.elim (fun z6 =>
   some (z6.2.2.1, ()))
  (fun q5' =>
   none) q5
theorem num_Least.ok (k : Nat) : SpecOK Tryz.prog G0 67 ⟨[T31], [T23], fun x => num_Least k x.1⟩ :=
 evF_sound (E := (e17 k)) (fn := Tryz.f67) (e17.ok k) (by kernel_rfl) (by kernel_rfl) (by kernel_rfl) 8 (.two .n (.two .n (.two (.two .n (.two (.use (num_Least_l0_seg k)) .n)) .n))) ⟨trivial, ⟨trivial, ⟨⟨trivial, ⟨(num_Least_l0_seg.ok k), trivial⟩⟩, trivial⟩⟩⟩ (fun xs => by kernel_rfl)
def e18 (k : Nat) : Env := (e17 k).add 67 ⟨[T31], [T23], fun x => num_Least k x.1⟩
theorem e18.ok (k : Nat) : (e18 k).OK Tryz.prog := (e17.ok k).add (num_Least.ok k)
def iv_Meet (k : Nat) (x0 : Ty.den T30) : Option (HL [T25]) :=
 (iv_ends k x0).bind fun r1 =>
 bif (!r1.2.2.1) then
  (iv_None k).bind fun r2 =>
  some (r2.1, ())
 else
  (num_Most k r1.1).bind fun r3 =>
  (num_Least k r1.2.1).bind fun r4 =>
  (iv_Make k r3.1 r4.1).bind fun r5 =>
  some (r5.1, ())
theorem iv_Meet.ok (k : Nat) : SpecOK Tryz.prog G0 32 ⟨[T30], [T25], fun x => iv_Meet k x.1⟩ :=
 evF_sound (E := (e18 k)) (fn := Tryz.f32) (e18.ok k) (by kernel_rfl) (by kernel_rfl) (by kernel_rfl) 8 .n trivial (fun xs => by kernel_rfl)
def e19 (k : Nat) : Env := (e18 k).add 32 ⟨[T30], [T25], fun x => iv_Meet k x.1⟩
theorem e19.ok (k : Nat) : (e19 k).OK Tryz.prog := (e18.ok k).add (iv_Meet.ok k)
abbrev ivop_none_l0_i : Mask := ⟨[(0, 5, (.v T30)), (0, 6, (.v (.int .i64))), (0, 7, (.v (.int .i64)))], [], [], 0⟩
abbrev ivop_none_l0_o : List Out := [⟨.ret, ⟨[(0, 2, (.v .bool))], [], [], 0⟩⟩, ⟨.exit 0, ⟨[], [], [], 0⟩⟩]
def ivop_none_l0 (k : Nat) : Nat → Mask.den ivop_none_l0_i → Option (denS ivop_none_l0_o)
 | 0, _ => none
 | m + 1, x =>
  bif (decide (x.1.2.2.1 < x.1.2.1)) then
   if 0 ≤ x.1.2.2.1 then (x.1.1[Int.toNat x.1.2.2.1]?).bind fun y1 =>
    bif y1.1 then
     some (Sum.inl ((true, ()), ()))
    else
     (iv_May k y1).bind fun r2 =>
     bif (!r2.1) then
      some (Sum.inl ((true, ()), ()))
     else
      ivop_none_l0 k m ((x.1.1, x.1.2.1, (IntKind.i64.wrap (x.1.2.2.1 + 1)), ()), ())
   else none
  else
   some (Sum.inr (Sum.inl ((), ())))
abbrev ivop_none_l0_seg (k : Nat) : Seg := ⟨⟨0, 19, false, [], []⟩, 68, [.b, .s2, .s1, .s2], ivop_none_l0_i, ivop_none_l0_o, ivop_none_l0 k k⟩
theorem ivop_none_l0_seg.ok (k : Nat) : SegOK Tryz.prog (e19 k) (ivop_none_l0_seg k) :=
 SegOK.loop (e19.ok k) (by kernel_rfl) (S := ivop_none_l0_seg k) (c := atR (codeOf (e19 k) 68) [.l, .b, .s2, .s1, .s2]) (by kernel_rfl) (ivop_none_l0 k) k rfl (fun _ => rfl) 8 .n trivial (fun k' x => by kernel_rfl)
def ivop_none (k : Nat) (x0 : Ty.den T30) : Option (HL [.bool]) :=
 (ivop_none_l0 k k ((x0, (x0.length : Int), 0, ()), ())).bind fun q3 =>
 Sum.elim (fun z4 =>
   some (z4.1.1, ()))
  (fun q3' =>
   Sum.elim (fun z5 =>
     some (false, ()))
    (fun q3'' =>
     none) q3') q3
theorem ivop_none.ok (k : Nat) : SpecOK Tryz.prog G0 68 ⟨[T30], [.bool], fun x => ivop_none k x.1⟩ :=
 evF_sound (E := (e19 k)) (fn := Tryz.f68) (e19.ok k) (by kernel_rfl) (by kernel_rfl) (by kernel_rfl) 8 (.two .n (.two (.two .n (.two (.use (ivop_none_l0_seg k)) .n)) .n)) ⟨trivial, ⟨⟨trivial, ⟨(ivop_none_l0_seg.ok k), trivial⟩⟩, trivial⟩⟩ (fun xs => by kernel_rfl)
def e20 (k : Nat) : Env := (e19 k).add 68 ⟨[T30], [.bool], fun x => ivop_none k x.1⟩
theorem e20.ok (k : Nat) : (e20 k).OK Tryz.prog := (e19.ok k).add (ivop_none.ok k)
def arith_fair (k : Nat) (x0 : Ty.den T23) : Option (HL [T23]) :=
 (num_May k x0).bind fun r1 =>
 bif (!r1.1) then
  some ((0, false, 0, 0), ())
 else
  some (x0, ())
theorem arith_fair.ok (k : Nat) : SpecOK Tryz.prog G0 89 ⟨[T23], [T23], fun x => arith_fair k x.1⟩ :=
 evF_sound (E := (e20 k)) (fn := Tryz.f89) (e20.ok k) (by kernel_rfl) (by kernel_rfl) (by kernel_rfl) 8 .n trivial (fun xs => by kernel_rfl)
def e21 (k : Nat) : Env := (e20 k).add 89 ⟨[T23], [T23], fun x => arith_fair k x.1⟩
theorem e21.ok (k : Nat) : (e21 k).OK Tryz.prog := (e20.ok k).add (arith_fair.ok k)
def num_huge (k : Nat) (x0 : Ty.den .bool) : Option (HL [T23]) :=
 some ((1, x0, 18446744073709551615, 1048576), ())
theorem num_huge.ok (k : Nat) : SpecOK Tryz.prog G0 107 ⟨[.bool], [T23], fun x => num_huge k x.1⟩ :=
 evF_sound (E := (e21 k)) (fn := Tryz.f107) (e21.ok k) (by kernel_rfl) (by kernel_rfl) (by kernel_rfl) 8 .n trivial (fun xs => by kernel_rfl)
def e22 (k : Nat) : Env := (e21 k).add 107 ⟨[.bool], [T23], fun x => num_huge k x.1⟩
theorem e22.ok (k : Nat) : (e22 k).OK Tryz.prog := (e21.ok k).add (num_huge.ok k)
def num_tiny (k : Nat) (x0 : Ty.den .bool) : Option (HL [T23]) :=
 some ((1, x0, 9223372036854775808, (-1048576)), ())
theorem num_tiny.ok (k : Nat) : SpecOK Tryz.prog G0 108 ⟨[.bool], [T23], fun x => num_tiny k x.1⟩ :=
 evF_sound (E := (e22 k)) (fn := Tryz.f108) (e22.ok k) (by kernel_rfl) (by kernel_rfl) (by kernel_rfl) 8 .n trivial (fun xs => by kernel_rfl)
def e23 (k : Nat) : Env := (e22 k).add 108 ⟨[.bool], [T23], fun x => num_tiny k x.1⟩
theorem e23.ok (k : Nat) : (e23 k).OK Tryz.prog := (e22.ok k).add (num_tiny.ok k)
def num_Bound (k : Nat) (x0 : Ty.den .bool) (x1 : Ty.den (.int .u64)) (x2 : Ty.den (.int .i64)) (x3 : Ty.den .bool) : Option (HL [T23]) :=
 bif (decide (x2 > 1048576)) then
  bif x3 then
   (num_Infinite k x0).bind fun r1 =>
   some (r1.1, ())
  else
   bif (decide (x2 > 1048576)) then
    (num_huge k x0).bind fun r2 =>
    some (r2.1, ())
   else
    bif (decide (x2 < (-1048576))) then
     bif x3 then
      (num_tiny k x0).bind fun r3 =>
      some (r3.1, ())
     else
      bif (decide (x2 < (-1048576))) then
       some ((0, false, 0, 0), ())
      else
       some ((1, x0, x1, x2), ())
    else
     bif (decide (x2 < (-1048576))) then
      some ((0, false, 0, 0), ())
     else
      some ((1, x0, x1, x2), ())
 else
  bif (decide (x2 > 1048576)) then
   (num_huge k x0).bind fun r4 =>
   some (r4.1, ())
  else
   bif (decide (x2 < (-1048576))) then
    bif x3 then
     (num_tiny k x0).bind fun r5 =>
     some (r5.1, ())
    else
     bif (decide (x2 < (-1048576))) then
      some ((0, false, 0, 0), ())
     else
      some ((1, x0, x1, x2), ())
   else
    bif (decide (x2 < (-1048576))) then
     some ((0, false, 0, 0), ())
    else
     some ((1, x0, x1, x2), ())
theorem num_Bound.ok (k : Nat) : SpecOK Tryz.prog G0 106 ⟨[.bool, (.int .u64), (.int .i64), .bool], [T23], fun x => num_Bound k x.1 x.2.1 x.2.2.1 x.2.2.2.1⟩ :=
 evF_sound (E := (e23 k)) (fn := Tryz.f106) (e23.ok k) (by kernel_rfl) (by kernel_rfl) (by kernel_rfl) 8 .n trivial (fun xs => by kernel_rfl)
def e24 (k : Nat) : Env := (e23 k).add 106 ⟨[.bool, (.int .u64), (.int .i64), .bool], [T23], fun x => num_Bound k x.1 x.2.1 x.2.2.1 x.2.2.2.1⟩
theorem e24.ok (k : Nat) : (e24 k).OK Tryz.prog := (e23.ok k).add (num_Bound.ok k)
def num_Grow (k : Nat) (x0 : Ty.den .bool) (x1 : Ty.den (.int .u64)) (x2 : Ty.den (.int .i64)) (x3 : Ty.den .bool) (x4 : Ty.den .bool) : Option (HL [T23]) :=
 bif x3 then
  bif x4 then
   bif ((IntKind.u64.wrap (x1 + 1)) == 0) then
    (num_Bound k x0 9223372036854775808 (IntKind.i64.wrap (x2 + 1)) x4).bind fun r1 =>
    some (r1.1, ())
   else
    (num_Bound k x0 (IntKind.u64.wrap (x1 + 1)) x2 x4).bind fun r2 =>
    some (r2.1, ())
  else
   (num_Bound k x0 x1 x2 x4).bind fun r3 =>
   some (r3.1, ())
 else
  (num_Bound k x0 x1 x2 x4).bind fun r4 =>
  some (r4.1, ())
theorem num_Grow.ok (k : Nat) : SpecOK Tryz.prog G0 99 ⟨[.bool, (.int .u64), (.int .i64), .bool, .bool], [T23], fun x => num_Grow k x.1 x.2.1 x.2.2.1 x.2.2.2.1 x.2.2.2.2.1⟩ :=
 evF_sound (E := (e24 k)) (fn := Tryz.f99) (e24.ok k) (by kernel_rfl) (by kernel_rfl) (by kernel_rfl) 8 .n trivial (fun xs => by kernel_rfl)
def e25 (k : Nat) : Env := (e24 k).add 99 ⟨[.bool, (.int .u64), (.int .i64), .bool, .bool], [T23], fun x => num_Grow k x.1 x.2.1 x.2.2.1 x.2.2.2.1 x.2.2.2.2.1⟩
theorem e25.ok (k : Nat) : (e25 k).OK Tryz.prog := (e24.ok k).add (num_Grow.ok k)
def arith_lower (k : Nat) (x0 : Ty.den (.int .u64)) (x1 : Ty.den (.int .i64)) : Option (HL [T130]) :=
 bif (decide (x1 < 64)) then
  if x1 < 0 then none else
  if (IntKind.i64.wrap (64 - x1)) < 0 then none else
  some (((Int.fdiv x0 (2 ^ min (Int.toNat x1) IntKind.u64.bits)), (IntKind.u64.wrap (x0 * 2 ^ min (Int.toNat (IntKind.i64.wrap (64 - x1))) IntKind.u64.bits)), false), ())
 else
  bif (decide (x1 < 128)) then
   if (IntKind.i64.wrap (x1 - 64)) < 0 then none else
   if (IntKind.i64.wrap (64 - (IntKind.i64.wrap (x1 - 64)))) < 0 then none else
   some ((0, (Int.fdiv x0 (2 ^ min (Int.toNat (IntKind.i64.wrap (x1 - 64))) IntKind.u64.bits)), ((IntKind.u64.wrap (x0 * 2 ^ min (Int.toNat (IntKind.i64.wrap (64 - (IntKind.i64.wrap (x1 - 64))))) IntKind.u64.bits)) != 0)), ())
  else
   some ((0, 0, true), ())
theorem arith_lower.ok (k : Nat) : SpecOK Tryz.prog G0 100 ⟨[(.int .u64), (.int .i64)], [T130], fun x => arith_lower k x.1 x.2.1⟩ :=
 evF_sound (E := (e25 k)) (fn := Tryz.f100) (e25.ok k) (by kernel_rfl) (by kernel_rfl) (by kernel_rfl) 8 .n trivial (fun xs => by kernel_rfl)
def e26 (k : Nat) : Env := (e25 k).add 100 ⟨[(.int .u64), (.int .i64)], [T130], fun x => arith_lower k x.1 x.2.1⟩
theorem e26.ok (k : Nat) : (e26 k).OK Tryz.prog := (e25.ok k).add (arith_lower.ok k)
def arith_plus (k : Nat) (x0 : Ty.den T23) (x1 : Ty.den T23) (x2 : Ty.den .bool) : Option (HL [T23]) :=
 (arith_lower k x1.2.2.1 (IntKind.i64.wrap (x0.2.2.2 - x1.2.2.2))).bind fun r1 =>
 (add64F (x0.2.2.1, r1.1.1, 0, ())).bind fun r2 =>
 bif r1.1.2.2 then
  bif (r2.2.1 != 0) then
   (num_Grow k x0.2.1 (IntKind.u64.wrap (BitVec.toNat (BitVec.ofInt IntKind.u64.bits (Int.fdiv r2.1 (2 ^ min (Int.toNat 1) IntKind.u64.bits)) ||| BitVec.ofInt IntKind.u64.bits 9223372036854775808))) (IntKind.i64.wrap (x0.2.2.2 + 1)) true (!(x2 == x0.2.1))).bind fun r3 =>
   some (r3.1, ())
  else
   (num_Grow k x0.2.1 r2.1 x0.2.2.2 true (!(x2 == x0.2.1))).bind fun r4 =>
   some (r4.1, ())
 else
  bif (r2.2.1 != 0) then
   bif (r1.1.2.1 != 0) then
    (num_Grow k x0.2.1 (IntKind.u64.wrap (BitVec.toNat (BitVec.ofInt IntKind.u64.bits (Int.fdiv r2.1 (2 ^ min (Int.toNat 1) IntKind.u64.bits)) ||| BitVec.ofInt IntKind.u64.bits 9223372036854775808))) (IntKind.i64.wrap (x0.2.2.2 + 1)) true (!(x2 == x0.2.1))).bind fun r5 =>
    some (r5.1, ())
   else
    (num_Grow k x0.2.1 (IntKind.u64.wrap (BitVec.toNat (BitVec.ofInt IntKind.u64.bits (Int.fdiv r2.1 (2 ^ min (Int.toNat 1) IntKind.u64.bits)) ||| BitVec.ofInt IntKind.u64.bits 9223372036854775808))) (IntKind.i64.wrap (x0.2.2.2 + 1)) ((IntKind.u64.wrap (BitVec.toNat (BitVec.ofInt IntKind.u64.bits r2.1 &&& BitVec.ofInt IntKind.u64.bits 1))) != 0) (!(x2 == x0.2.1))).bind fun r6 =>
    some (r6.1, ())
  else
   (num_Grow k x0.2.1 r2.1 x0.2.2.2 (r1.1.2.1 != 0) (!(x2 == x0.2.1))).bind fun r7 =>
   some (r7.1, ())
theorem arith_plus.ok (k : Nat) : SpecOK Tryz.prog G0 90 ⟨[T23, T23, .bool], [T23], fun x => arith_plus k x.1 x.2.1 x.2.2.1⟩ :=
 evF_sound (E := (e26 k)) (fn := Tryz.f90) (e26.ok k) (by kernel_rfl) (by kernel_rfl) (by kernel_rfl) 8 .n trivial (fun xs => by kernel_rfl)
def e27 (k : Nat) : Env := (e26 k).add 90 ⟨[T23, T23, .bool], [T23], fun x => arith_plus k x.1 x.2.1 x.2.2.1⟩
theorem e27.ok (k : Nat) : (e27 k).OK Tryz.prog := (e26.ok k).add (arith_plus.ok k)
def bits_Len64 (k : Nat) (x0 : Ty.den (.int .u64)) : Option (HL [(.int .i64)]) :=
 bif (decide (x0 ≥ 4294967296)) then
  bif (decide ((Int.fdiv x0 (2 ^ min (Int.toNat 32) IntKind.u64.bits)) ≥ 65536)) then
   bif (decide ((Int.fdiv (Int.fdiv x0 (2 ^ min (Int.toNat 32) IntKind.u64.bits)) (2 ^ min (Int.toNat 16) IntKind.u64.bits)) ≥ 256)) then
    if 0 ≤ (IntKind.u8.wrap (Int.fdiv (Int.fdiv (Int.fdiv x0 (2 ^ min (Int.toNat 32) IntKind.u64.bits)) (2 ^ min (Int.toNat 16) IntKind.u64.bits)) (2 ^ min (Int.toNat 8) IntKind.u64.bits))) then (bytes0[Int.toNat (IntKind.u8.wrap (Int.fdiv (Int.fdiv (Int.fdiv x0 (2 ^ min (Int.toNat 32) IntKind.u64.bits)) (2 ^ min (Int.toNat 16) IntKind.u64.bits)) (2 ^ min (Int.toNat 8) IntKind.u64.bits)))]?).bind fun y1 =>
     some ((IntKind.i64.wrap ((IntKind.i64.wrap ((IntKind.i64.wrap (32 + 16)) + 8)) + (IntKind.i64.wrap (y1.toNat : Int)))), ())
    else none
   else
    if 0 ≤ (IntKind.u8.wrap (Int.fdiv (Int.fdiv x0 (2 ^ min (Int.toNat 32) IntKind.u64.bits)) (2 ^ min (Int.toNat 16) IntKind.u64.bits))) then (bytes0[Int.toNat (IntKind.u8.wrap (Int.fdiv (Int.fdiv x0 (2 ^ min (Int.toNat 32) IntKind.u64.bits)) (2 ^ min (Int.toNat 16) IntKind.u64.bits)))]?).bind fun y2 =>
     some ((IntKind.i64.wrap ((IntKind.i64.wrap (32 + 16)) + (IntKind.i64.wrap (y2.toNat : Int)))), ())
    else none
  else
   bif (decide ((Int.fdiv x0 (2 ^ min (Int.toNat 32) IntKind.u64.bits)) ≥ 256)) then
    if 0 ≤ (IntKind.u8.wrap (Int.fdiv (Int.fdiv x0 (2 ^ min (Int.toNat 32) IntKind.u64.bits)) (2 ^ min (Int.toNat 8) IntKind.u64.bits))) then (bytes0[Int.toNat (IntKind.u8.wrap (Int.fdiv (Int.fdiv x0 (2 ^ min (Int.toNat 32) IntKind.u64.bits)) (2 ^ min (Int.toNat 8) IntKind.u64.bits)))]?).bind fun y3 =>
     some ((IntKind.i64.wrap ((IntKind.i64.wrap (32 + 8)) + (IntKind.i64.wrap (y3.toNat : Int)))), ())
    else none
   else
    if 0 ≤ (IntKind.u8.wrap (Int.fdiv x0 (2 ^ min (Int.toNat 32) IntKind.u64.bits))) then (bytes0[Int.toNat (IntKind.u8.wrap (Int.fdiv x0 (2 ^ min (Int.toNat 32) IntKind.u64.bits)))]?).bind fun y4 =>
     some ((IntKind.i64.wrap (32 + (IntKind.i64.wrap (y4.toNat : Int)))), ())
    else none
 else
  bif (decide (x0 ≥ 65536)) then
   bif (decide ((Int.fdiv x0 (2 ^ min (Int.toNat 16) IntKind.u64.bits)) ≥ 256)) then
    if 0 ≤ (IntKind.u8.wrap (Int.fdiv (Int.fdiv x0 (2 ^ min (Int.toNat 16) IntKind.u64.bits)) (2 ^ min (Int.toNat 8) IntKind.u64.bits))) then (bytes0[Int.toNat (IntKind.u8.wrap (Int.fdiv (Int.fdiv x0 (2 ^ min (Int.toNat 16) IntKind.u64.bits)) (2 ^ min (Int.toNat 8) IntKind.u64.bits)))]?).bind fun y5 =>
     some ((IntKind.i64.wrap ((IntKind.i64.wrap ((IntKind.i64.wrap (0 + 16)) + 8)) + (IntKind.i64.wrap (y5.toNat : Int)))), ())
    else none
   else
    if 0 ≤ (IntKind.u8.wrap (Int.fdiv x0 (2 ^ min (Int.toNat 16) IntKind.u64.bits))) then (bytes0[Int.toNat (IntKind.u8.wrap (Int.fdiv x0 (2 ^ min (Int.toNat 16) IntKind.u64.bits)))]?).bind fun y6 =>
     some ((IntKind.i64.wrap ((IntKind.i64.wrap (0 + 16)) + (IntKind.i64.wrap (y6.toNat : Int)))), ())
    else none
  else
   bif (decide (x0 ≥ 256)) then
    if 0 ≤ (IntKind.u8.wrap (Int.fdiv x0 (2 ^ min (Int.toNat 8) IntKind.u64.bits))) then (bytes0[Int.toNat (IntKind.u8.wrap (Int.fdiv x0 (2 ^ min (Int.toNat 8) IntKind.u64.bits)))]?).bind fun y7 =>
     some ((IntKind.i64.wrap ((IntKind.i64.wrap (0 + 8)) + (IntKind.i64.wrap (y7.toNat : Int)))), ())
    else none
   else
    if 0 ≤ (IntKind.u8.wrap x0) then (bytes0[Int.toNat (IntKind.u8.wrap x0)]?).bind fun y8 =>
     some ((IntKind.i64.wrap (0 + (IntKind.i64.wrap (y8.toNat : Int)))), ())
    else none
theorem bits_Len64.ok (k : Nat) : SpecOK Tryz.prog G0 72 ⟨[(.int .u64)], [(.int .i64)], fun x => bits_Len64 k x.1⟩ :=
 evF_sound (E := (e27 k)) (fn := Tryz.f72) (e27.ok k) (by kernel_rfl) (by kernel_rfl) (by kernel_rfl) 8 .n trivial (fun xs => by kernel_rfl)
def e28 (k : Nat) : Env := (e27 k).add 72 ⟨[(.int .u64)], [(.int .i64)], fun x => bits_Len64 k x.1⟩
theorem e28.ok (k : Nat) : (e28 k).OK Tryz.prog := (e27.ok k).add (bits_Len64.ok k)
def bits_LeadingZeros64 (k : Nat) (x0 : Ty.den (.int .u64)) : Option (HL [(.int .i64)]) :=
 (bits_Len64 k x0).bind fun r1 =>
 some ((IntKind.i64.wrap (64 - r1.1)), ())
theorem bits_LeadingZeros64.ok (k : Nat) : SpecOK Tryz.prog G0 39 ⟨[(.int .u64)], [(.int .i64)], fun x => bits_LeadingZeros64 k x.1⟩ :=
 evF_sound (E := (e28 k)) (fn := Tryz.f39) (e28.ok k) (by kernel_rfl) (by kernel_rfl) (by kernel_rfl) 8 .n trivial (fun xs => by kernel_rfl)
def e29 (k : Nat) : Env := (e28 k).add 39 ⟨[(.int .u64)], [(.int .i64)], fun x => bits_LeadingZeros64 k x.1⟩
theorem e29.ok (k : Nat) : (e29 k).OK Tryz.prog := (e28.ok k).add (bits_LeadingZeros64.ok k)
def arith_minus (k : Nat) (x0 : Ty.den T23) (x1 : Ty.den T23) (x2 : Ty.den .bool) : Option (HL [T23]) :=
 (arith_lower k x1.2.2.1 (IntKind.i64.wrap (x0.2.2.2 - x1.2.2.2))).bind fun r1 =>
 bif r1.1.2.2 then
  (sub64F (0, r1.1.2.1, 1, ())).bind fun r2 =>
  (sub64F (x0.2.2.1, r1.1.1, r2.2.1, ())).bind fun r3 =>
  bif (r3.1 == 0) then
   (bits_LeadingZeros64 k r2.1).bind fun r4 =>
   bif (decide (r4.1 > 0)) then
    if r4.1 < 0 then none else
    if (IntKind.i64.wrap (64 - r4.1)) < 0 then none else
    if r4.1 < 0 then none else
    bif r1.1.2.2 then
     (num_Grow k x0.2.1 (IntKind.u64.wrap (BitVec.toNat (BitVec.ofInt IntKind.u64.bits (IntKind.u64.wrap (r2.1 * 2 ^ min (Int.toNat r4.1) IntKind.u64.bits)) ||| BitVec.ofInt IntKind.u64.bits (Int.fdiv 0 (2 ^ min (Int.toNat (IntKind.i64.wrap (64 - r4.1))) IntKind.u64.bits))))) (IntKind.i64.wrap ((IntKind.i64.wrap (x0.2.2.2 - 64)) - r4.1)) true (!(x2 == x0.2.1))).bind fun r5 =>
     some (r5.1, ())
    else
     (num_Grow k x0.2.1 (IntKind.u64.wrap (BitVec.toNat (BitVec.ofInt IntKind.u64.bits (IntKind.u64.wrap (r2.1 * 2 ^ min (Int.toNat r4.1) IntKind.u64.bits)) ||| BitVec.ofInt IntKind.u64.bits (Int.fdiv 0 (2 ^ min (Int.toNat (IntKind.i64.wrap (64 - r4.1))) IntKind.u64.bits))))) (IntKind.i64.wrap ((IntKind.i64.wrap (x0.2.2.2 - 64)) - r4.1)) ((IntKind.u64.wrap (0 * 2 ^ min (Int.toNat r4.1) IntKind.u64.bits)) != 0) (!(x2 == x0.2.1))).bind fun r6 =>
     some (r6.1, ())
   else
    bif r1.1.2.2 then
     (num_Grow k x0.2.1 r2.1 (IntKind.i64.wrap (x0.2.2.2 - 64)) true (!(x2 == x0.2.1))).bind fun r7 =>
     some (r7.1, ())
    else
     (num_Grow k x0.2.1 r2.1 (IntKind.i64.wrap (x0.2.2.2 - 64)) false (!(x2 == x0.2.1))).bind fun r8 =>
     some (r8.1, ())
  else
   (bits_LeadingZeros64 k r3.1).bind fun r9 =>
   bif (decide (r9.1 > 0)) then
    if r9.1 < 0 then none else
    if (IntKind.i64.wrap (64 - r9.1)) < 0 then none else
    if r9.1 < 0 then none else
    bif r1.1.2.2 then
     (num_Grow k x0.2.1 (IntKind.u64.wrap (BitVec.toNat (BitVec.ofInt IntKind.u64.bits (IntKind.u64.wrap (r3.1 * 2 ^ min (Int.toNat r9.1) IntKind.u64.bits)) ||| BitVec.ofInt IntKind.u64.bits (Int.fdiv r2.1 (2 ^ min (Int.toNat (IntKind.i64.wrap (64 - r9.1))) IntKind.u64.bits))))) (IntKind.i64.wrap (x0.2.2.2 - r9.1)) true (!(x2 == x0.2.1))).bind fun r10 =>
     some (r10.1, ())
    else
     (num_Grow k x0.2.1 (IntKind.u64.wrap (BitVec.toNat (BitVec.ofInt IntKind.u64.bits (IntKind.u64.wrap (r3.1 * 2 ^ min (Int.toNat r9.1) IntKind.u64.bits)) ||| BitVec.ofInt IntKind.u64.bits (Int.fdiv r2.1 (2 ^ min (Int.toNat (IntKind.i64.wrap (64 - r9.1))) IntKind.u64.bits))))) (IntKind.i64.wrap (x0.2.2.2 - r9.1)) ((IntKind.u64.wrap (r2.1 * 2 ^ min (Int.toNat r9.1) IntKind.u64.bits)) != 0) (!(x2 == x0.2.1))).bind fun r11 =>
     some (r11.1, ())
   else
    bif r1.1.2.2 then
     (num_Grow k x0.2.1 r3.1 x0.2.2.2 true (!(x2 == x0.2.1))).bind fun r12 =>
     some (r12.1, ())
    else
     (num_Grow k x0.2.1 r3.1 x0.2.2.2 (r2.1 != 0) (!(x2 == x0.2.1))).bind fun r13 =>
     some (r13.1, ())
 else
  (sub64F (0, r1.1.2.1, 0, ())).bind fun r14 =>
  (sub64F (x0.2.2.1, r1.1.1, r14.2.1, ())).bind fun r15 =>
  bif (r15.1 == 0) then
   (bits_LeadingZeros64 k r14.1).bind fun r16 =>
   bif (decide (r16.1 > 0)) then
    if r16.1 < 0 then none else
    if (IntKind.i64.wrap (64 - r16.1)) < 0 then none else
    if r16.1 < 0 then none else
    bif r1.1.2.2 then
     (num_Grow k x0.2.1 (IntKind.u64.wrap (BitVec.toNat (BitVec.ofInt IntKind.u64.bits (IntKind.u64.wrap (r14.1 * 2 ^ min (Int.toNat r16.1) IntKind.u64.bits)) ||| BitVec.ofInt IntKind.u64.bits (Int.fdiv 0 (2 ^ min (Int.toNat (IntKind.i64.wrap (64 - r16.1))) IntKind.u64.bits))))) (IntKind.i64.wrap ((IntKind.i64.wrap (x0.2.2.2 - 64)) - r16.1)) true (!(x2 == x0.2.1))).bind fun r17 =>
     some (r17.1, ())
    else
     (num_Grow k x0.2.1 (IntKind.u64.wrap (BitVec.toNat (BitVec.ofInt IntKind.u64.bits (IntKind.u64.wrap (r14.1 * 2 ^ min (Int.toNat r16.1) IntKind.u64.bits)) ||| BitVec.ofInt IntKind.u64.bits (Int.fdiv 0 (2 ^ min (Int.toNat (IntKind.i64.wrap (64 - r16.1))) IntKind.u64.bits))))) (IntKind.i64.wrap ((IntKind.i64.wrap (x0.2.2.2 - 64)) - r16.1)) ((IntKind.u64.wrap (0 * 2 ^ min (Int.toNat r16.1) IntKind.u64.bits)) != 0) (!(x2 == x0.2.1))).bind fun r18 =>
     some (r18.1, ())
   else
    bif r1.1.2.2 then
     (num_Grow k x0.2.1 r14.1 (IntKind.i64.wrap (x0.2.2.2 - 64)) true (!(x2 == x0.2.1))).bind fun r19 =>
     some (r19.1, ())
    else
     (num_Grow k x0.2.1 r14.1 (IntKind.i64.wrap (x0.2.2.2 - 64)) false (!(x2 == x0.2.1))).bind fun r20 =>
     some (r20.1, ())
  else
   (bits_LeadingZeros64 k r15.1).bind fun r21 =>
   bif (decide (r21.1 > 0)) then
    if r21.1 < 0 then none else
    if (IntKind.i64.wrap (64 - r21.1)) < 0 then none else
    if r21.1 < 0 then none else
    bif r1.1.2.2 then
     (num_Grow k x0.2.1 (IntKind.u64.wrap (BitVec.toNat (BitVec.ofInt IntKind.u64.bits (IntKind.u64.wrap (r15.1 * 2 ^ min (Int.toNat r21.1) IntKind.u64.bits)) ||| BitVec.ofInt IntKind.u64.bits (Int.fdiv r14.1 (2 ^ min (Int.toNat (IntKind.i64.wrap (64 - r21.1))) IntKind.u64.bits))))) (IntKind.i64.wrap (x0.2.2.2 - r21.1)) true (!(x2 == x0.2.1))).bind fun r22 =>
     some (r22.1, ())
    else
     (num_Grow k x0.2.1 (IntKind.u64.wrap (BitVec.toNat (BitVec.ofInt IntKind.u64.bits (IntKind.u64.wrap (r15.1 * 2 ^ min (Int.toNat r21.1) IntKind.u64.bits)) ||| BitVec.ofInt IntKind.u64.bits (Int.fdiv r14.1 (2 ^ min (Int.toNat (IntKind.i64.wrap (64 - r21.1))) IntKind.u64.bits))))) (IntKind.i64.wrap (x0.2.2.2 - r21.1)) ((IntKind.u64.wrap (r14.1 * 2 ^ min (Int.toNat r21.1) IntKind.u64.bits)) != 0) (!(x2 == x0.2.1))).bind fun r23 =>
     some (r23.1, ())
   else
    bif r1.1.2.2 then
     (num_Grow k x0.2.1 r15.1 x0.2.2.2 true (!(x2 == x0.2.1))).bind fun r24 =>
     some (r24.1, ())
    else
     (num_Grow k x0.2.1 r15.1 x0.2.2.2 (r14.1 != 0) (!(x2 == x0.2.1))).bind fun r25 =>
     some (r25.1, ())
theorem arith_minus.ok (k : Nat) : SpecOK Tryz.prog G0 91 ⟨[T23, T23, .bool], [T23], fun x => arith_minus k x.1 x.2.1 x.2.2.1⟩ :=
 evF_sound (E := (e29 k)) (fn := Tryz.f91) (e29.ok k) (by kernel_rfl) (by kernel_rfl) (by kernel_rfl) 8 .n trivial (fun xs => by kernel_rfl)
def e30 (k : Nat) : Env := (e29 k).add 91 ⟨[T23, T23, .bool], [T23], fun x => arith_minus k x.1 x.2.1 x.2.2.1⟩
theorem e30.ok (k : Nat) : (e30 k).OK Tryz.prog := (e29.ok k).add (arith_minus.ok k)
def arith_Add (k : Nat) (x0 : Ty.den T23) (x1 : Ty.den T23) (x2 : Ty.den .bool) : Option (HL [T23]) :=
 (arith_fair k x0).bind fun r1 =>
 (arith_fair k x1).bind fun r2 =>
 bif (r1.1.1 == 2) then
  bif (r2.1.1 == 2) then
   bif (!(r1.1.2.1 == r2.1.2.1)) then
    (num_Infinite k (!x2)).bind fun r3 =>
    some (r3.1, ())
   else
    bif (r1.1.1 == 2) then
     some (r1.1, ())
    else
     bif (r2.1.1 == 0) then
      some (r1.1, ())
     else
      bif (r2.1.1 == 2) then
       some (r2.1, ())
      else
       bif (r1.1.1 == 0) then
        some (r2.1, ())
       else
        bif (decide (r2.1.2.2.2 > r1.1.2.2.2)) then
         bif (r2.1.2.1 == r1.1.2.1) then
          (arith_plus k r2.1 r1.1 x2).bind fun r4 =>
          some (r4.1, ())
         else
          bif (r2.1.2.2.2 == r1.1.2.2.2) then
           bif (r2.1.2.2.1 == r1.1.2.2.1) then
            some ((0, false, 0, 0), ())
           else
            (arith_minus k r2.1 r1.1 x2).bind fun r5 =>
            some (r5.1, ())
          else
           (arith_minus k r2.1 r1.1 x2).bind fun r6 =>
           some (r6.1, ())
        else
         bif (r2.1.2.2.2 == r1.1.2.2.2) then
          bif (decide (r2.1.2.2.1 > r1.1.2.2.1)) then
           bif (r2.1.2.1 == r1.1.2.1) then
            (arith_plus k r2.1 r1.1 x2).bind fun r7 =>
            some (r7.1, ())
           else
            bif (r2.1.2.2.2 == r1.1.2.2.2) then
             bif (r2.1.2.2.1 == r1.1.2.2.1) then
              some ((0, false, 0, 0), ())
             else
              (arith_minus k r2.1 r1.1 x2).bind fun r8 =>
              some (r8.1, ())
            else
             (arith_minus k r2.1 r1.1 x2).bind fun r9 =>
             some (r9.1, ())
          else
           bif (r1.1.2.1 == r2.1.2.1) then
            (arith_plus k r1.1 r2.1 x2).bind fun r10 =>
            some (r10.1, ())
           else
            bif (r1.1.2.2.2 == r2.1.2.2.2) then
             bif (r1.1.2.2.1 == r2.1.2.2.1) then
              some ((0, false, 0, 0), ())
             else
              (arith_minus k r1.1 r2.1 x2).bind fun r11 =>
              some (r11.1, ())
            else
             (arith_minus k r1.1 r2.1 x2).bind fun r12 =>
             some (r12.1, ())
         else
          bif (r1.1.2.1 == r2.1.2.1) then
           (arith_plus k r1.1 r2.1 x2).bind fun r13 =>
           some (r13.1, ())
          else
           bif (r1.1.2.2.2 == r2.1.2.2.2) then
            bif (r1.1.2.2.1 == r2.1.2.2.1) then
             some ((0, false, 0, 0), ())
            else
             (arith_minus k r1.1 r2.1 x2).bind fun r14 =>
             some (r14.1, ())
           else
            (arith_minus k r1.1 r2.1 x2).bind fun r15 =>
            some (r15.1, ())
  else
   bif (r1.1.1 == 2) then
    some (r1.1, ())
   else
    bif (r2.1.1 == 0) then
     some (r1.1, ())
    else
     bif (r2.1.1 == 2) then
      some (r2.1, ())
     else
      bif (r1.1.1 == 0) then
       some (r2.1, ())
      else
       bif (decide (r2.1.2.2.2 > r1.1.2.2.2)) then
        bif (r2.1.2.1 == r1.1.2.1) then
         (arith_plus k r2.1 r1.1 x2).bind fun r16 =>
         some (r16.1, ())
        else
         bif (r2.1.2.2.2 == r1.1.2.2.2) then
          bif (r2.1.2.2.1 == r1.1.2.2.1) then
           some ((0, false, 0, 0), ())
          else
           (arith_minus k r2.1 r1.1 x2).bind fun r17 =>
           some (r17.1, ())
         else
          (arith_minus k r2.1 r1.1 x2).bind fun r18 =>
          some (r18.1, ())
       else
        bif (r2.1.2.2.2 == r1.1.2.2.2) then
         bif (decide (r2.1.2.2.1 > r1.1.2.2.1)) then
          bif (r2.1.2.1 == r1.1.2.1) then
           (arith_plus k r2.1 r1.1 x2).bind fun r19 =>
           some (r19.1, ())
          else
           bif (r2.1.2.2.2 == r1.1.2.2.2) then
            bif (r2.1.2.2.1 == r1.1.2.2.1) then
             some ((0, false, 0, 0), ())
            else
             (arith_minus k r2.1 r1.1 x2).bind fun r20 =>
             some (r20.1, ())
           else
            (arith_minus k r2.1 r1.1 x2).bind fun r21 =>
            some (r21.1, ())
         else
          bif (r1.1.2.1 == r2.1.2.1) then
           (arith_plus k r1.1 r2.1 x2).bind fun r22 =>
           some (r22.1, ())
          else
           bif (r1.1.2.2.2 == r2.1.2.2.2) then
            bif (r1.1.2.2.1 == r2.1.2.2.1) then
             some ((0, false, 0, 0), ())
            else
             (arith_minus k r1.1 r2.1 x2).bind fun r23 =>
             some (r23.1, ())
           else
            (arith_minus k r1.1 r2.1 x2).bind fun r24 =>
            some (r24.1, ())
        else
         bif (r1.1.2.1 == r2.1.2.1) then
          (arith_plus k r1.1 r2.1 x2).bind fun r25 =>
          some (r25.1, ())
         else
          bif (r1.1.2.2.2 == r2.1.2.2.2) then
           bif (r1.1.2.2.1 == r2.1.2.2.1) then
            some ((0, false, 0, 0), ())
           else
            (arith_minus k r1.1 r2.1 x2).bind fun r26 =>
            some (r26.1, ())
          else
           (arith_minus k r1.1 r2.1 x2).bind fun r27 =>
           some (r27.1, ())
 else
  bif (r1.1.1 == 2) then
   some (r1.1, ())
  else
   bif (r2.1.1 == 0) then
    some (r1.1, ())
   else
    bif (r2.1.1 == 2) then
     some (r2.1, ())
    else
     bif (r1.1.1 == 0) then
      some (r2.1, ())
     else
      bif (decide (r2.1.2.2.2 > r1.1.2.2.2)) then
       bif (r2.1.2.1 == r1.1.2.1) then
        (arith_plus k r2.1 r1.1 x2).bind fun r28 =>
        some (r28.1, ())
       else
        bif (r2.1.2.2.2 == r1.1.2.2.2) then
         bif (r2.1.2.2.1 == r1.1.2.2.1) then
          some ((0, false, 0, 0), ())
         else
          (arith_minus k r2.1 r1.1 x2).bind fun r29 =>
          some (r29.1, ())
        else
         (arith_minus k r2.1 r1.1 x2).bind fun r30 =>
         some (r30.1, ())
      else
       bif (r2.1.2.2.2 == r1.1.2.2.2) then
        bif (decide (r2.1.2.2.1 > r1.1.2.2.1)) then
         bif (r2.1.2.1 == r1.1.2.1) then
          (arith_plus k r2.1 r1.1 x2).bind fun r31 =>
          some (r31.1, ())
         else
          bif (r2.1.2.2.2 == r1.1.2.2.2) then
           bif (r2.1.2.2.1 == r1.1.2.2.1) then
            some ((0, false, 0, 0), ())
           else
            (arith_minus k r2.1 r1.1 x2).bind fun r32 =>
            some (r32.1, ())
          else
           (arith_minus k r2.1 r1.1 x2).bind fun r33 =>
           some (r33.1, ())
        else
         bif (r1.1.2.1 == r2.1.2.1) then
          (arith_plus k r1.1 r2.1 x2).bind fun r34 =>
          some (r34.1, ())
         else
          bif (r1.1.2.2.2 == r2.1.2.2.2) then
           bif (r1.1.2.2.1 == r2.1.2.2.1) then
            some ((0, false, 0, 0), ())
           else
            (arith_minus k r1.1 r2.1 x2).bind fun r35 =>
            some (r35.1, ())
          else
           (arith_minus k r1.1 r2.1 x2).bind fun r36 =>
           some (r36.1, ())
       else
        bif (r1.1.2.1 == r2.1.2.1) then
         (arith_plus k r1.1 r2.1 x2).bind fun r37 =>
         some (r37.1, ())
        else
         bif (r1.1.2.2.2 == r2.1.2.2.2) then
          bif (r1.1.2.2.1 == r2.1.2.2.1) then
           some ((0, false, 0, 0), ())
          else
           (arith_minus k r1.1 r2.1 x2).bind fun r38 =>
           some (r38.1, ())
         else
          (arith_minus k r1.1 r2.1 x2).bind fun r39 =>
          some (r39.1, ())
theorem arith_Add.ok (k : Nat) : SpecOK Tryz.prog G0 69 ⟨[T23, T23, .bool], [T23], fun x => arith_Add k x.1 x.2.1 x.2.2.1⟩ :=
 evF_sound (E := (e30 k)) (fn := Tryz.f69) (e30.ok k) (by kernel_rfl) (by kernel_rfl) (by kernel_rfl) 8 .n trivial (fun xs => by kernel_rfl)
def e31 (k : Nat) : Env := (e30 k).add 69 ⟨[T23, T23, .bool], [T23], fun x => arith_Add k x.1 x.2.1 x.2.2.1⟩
theorem e31.ok (k : Nat) : (e31 k).OK Tryz.prog := (e30.ok k).add (arith_Add.ok k)
abbrev ivop_Add_l0_i : Mask := ⟨[(0, 2, (.k (.ptr 2 0 0))), (0, 3, (.k (.ptr 3 0 0))), (0, 4, (.k (.ptr 4 0 0))), (0, 10, (.v T30)), (0, 11, (.v (.int .i64))), (0, 12, (.v (.int .i64)))], [(2, .cells (.v T25)), (3, .cells (.v T23)), (4, .cells (.v T23))], [], 0⟩
abbrev ivop_Add_l0_o : List Out := [⟨.exit 0, ⟨[(0, 2, (.k (.ptr 2 0 0))), (0, 3, (.k (.ptr 3 0 0))), (0, 4, (.k (.ptr 4 0 0)))], [(2, .cells (.v T25)), (3, .cells (.v T23)), (4, .cells (.v T23))], [], 0⟩⟩]
def ivop_Add_l0 (k : Nat) : Nat → Mask.den ivop_Add_l0_i → Option (denS ivop_Add_l0_o)
 | 0, _ => none
 | m + 1, x =>
  bif (decide (x.1.2.2.2.2.2.1 < x.1.2.2.2.2.1)) then
   if 0 ≤ x.1.2.2.2.2.2.1 then (x.1.2.2.2.1[Int.toNat x.1.2.2.2.2.2.1]?).bind fun y3 =>
    bif (x.1.2.2.2.2.2.1 == 0) then
     ivop_Add_l0 k m (((), (), (), x.1.2.2.2.1, x.1.2.2.2.2.1, (IntKind.i64.wrap (x.1.2.2.2.2.2.1 + 1)), ()), (x.2.1, y3.2.1, y3.2.2, ()))
    else
     (arith_Add k x.2.2.1 y3.2.1 false).bind fun r4 =>
     (arith_Add k x.2.2.2.1 y3.2.2 true).bind fun r5 =>
     ivop_Add_l0 k m (((), (), (), x.1.2.2.2.1, x.1.2.2.2.2.1, (IntKind.i64.wrap (x.1.2.2.2.2.2.1 + 1)), ()), (x.2.1, r4.1, r5.1, ()))
   else none
  else
   some (Sum.inl (((), (), (), ()), (x.2.1, x.2.2.1, x.2.2.2.1, ())))
abbrev ivop_Add_l0_seg (k : Nat) : Seg := ⟨⟨0, 35, false, [], []⟩, 33, [.b, .s2, .s1, .s2, .s2, .s2], ivop_Add_l0_i, ivop_Add_l0_o, ivop_Add_l0 k k⟩
theorem ivop_Add_l0_seg.ok (k : Nat) : SegOK Tryz.prog (e31 k) (ivop_Add_l0_seg k) :=
 SegOK.loop (e31.ok k) (by kernel_rfl) (S := ivop_Add_l0_seg k) (c := atR (codeOf (e31 k) 33) [.l, .b, .s2, .s1, .s2, .s2, .s2]) (by kernel_rfl) (ivop_Add_l0 k) k rfl (fun _ => rfl) 8 .n trivial (fun k' x => by kernel_rfl)
def ivop_Add (k : Nat) (x0 : Ty.den T30) : Option (HL [T25]) :=
 (ivop_none k x0).bind fun r1 =>
 bif r1.1 then
  (iv_None k).bind fun r2 =>
  some (r2.1, ())
 else
  (ivop_Add_l0 k k (((), (), (), x0, (x0.length : Int), 0, ()), ((false, (0, false, 0, 0), 0, false, 0, 0), (0, false, 0, 0), (0, false, 0, 0), ()))).bind fun q6 =>
  Sum.elim (fun z7 =>
    (iv_Make k z7.2.2.1 z7.2.2.2.1).bind fun r8 =>
    some (r8.1, ()))
   (fun q6' =>
    none) q6
theorem ivop_Add.ok (k : Nat) : SpecOK Tryz.prog G0 33 ⟨[T30], [T25], fun x => ivop_Add k x.1⟩ :=
 evF_sound (E := (e31 k)) (fn := Tryz.f33) (e31.ok k) (by kernel_rfl) (by kernel_rfl) (by kernel_rfl) 8 (.two .n (.two .n (.two .n (.two (.two .n (.two (.use (ivop_Add_l0_seg k)) .n)) .n)))) ⟨trivial, ⟨trivial, ⟨trivial, ⟨⟨trivial, ⟨(ivop_Add_l0_seg.ok k), trivial⟩⟩, trivial⟩⟩⟩⟩ (fun xs => by kernel_rfl)
def e32 (k : Nat) : Env := (e31 k).add 33 ⟨[T30], [T25], fun x => ivop_Add k x.1⟩
theorem e32.ok (k : Nat) : (e32 k).OK Tryz.prog := (e31.ok k).add (ivop_Add.ok k)
def ivop_Neg (k : Nat) (x0 : Ty.den T25) : Option (HL [T25]) :=
 (ivop_none k [x0]).bind fun r1 =>
 bif r1.1 then
  (iv_None k).bind fun r2 =>
  some (r2.1, ())
 else
  (num_Neg k x0.2.2).bind fun r3 =>
  (num_Neg k x0.2.1).bind fun r4 =>
  (iv_Make k r3.1 r4.1).bind fun r5 =>
  some (r5.1, ())
theorem ivop_Neg.ok (k : Nat) : SpecOK Tryz.prog G0 70 ⟨[T25], [T25], fun x => ivop_Neg k x.1⟩ :=
 evF_sound (E := (e32 k)) (fn := Tryz.f70) (e32.ok k) (by kernel_rfl) (by kernel_rfl) (by kernel_rfl) 8 .n trivial (fun xs => by kernel_rfl)
def e33 (k : Nat) : Env := (e32 k).add 70 ⟨[T25], [T25], fun x => ivop_Neg k x.1⟩
theorem e33.ok (k : Nat) : (e33 k).OK Tryz.prog := (e32.ok k).add (ivop_Neg.ok k)
def ivop_Sub (k : Nat) (x0 : Ty.den T25) (x1 : Ty.den T25) : Option (HL [T25]) :=
 (ivop_Neg k x1).bind fun r1 =>
 (ivop_Add k [x0, r1.1]).bind fun r2 =>
 some (r2.1, ())
theorem ivop_Sub.ok (k : Nat) : SpecOK Tryz.prog G0 34 ⟨[T25, T25], [T25], fun x => ivop_Sub k x.1 x.2.1⟩ :=
 evF_sound (E := (e33 k)) (fn := Tryz.f34) (e33.ok k) (by kernel_rfl) (by kernel_rfl) (by kernel_rfl) 8 .n trivial (fun xs => by kernel_rfl)
def e34 (k : Nat) : Env := (e33 k).add 34 ⟨[T25, T25], [T25], fun x => ivop_Sub k x.1 x.2.1⟩
theorem e34.ok (k : Nat) : (e34 k).OK Tryz.prog := (e33.ok k).add (ivop_Sub.ok k)
def tube_New (k : Nat) (x0 : Ty.den T23) (x1 : Ty.den T25) : Option (HL [T28, (.int .i64)]) :=
 (tube_May k (x0, x1, [])).bind fun r1 =>
 bif (!r1.1) then
  some (((0, false, 0, 0), (false, (0, false, 0, 0), 0, false, 0, 0), []), 1, ())
 else
  some ((x0, x1, []), 0, ())
theorem tube_New.ok (k : Nat) : SpecOK Tryz.prog G0 36 ⟨[T23, T25], [T28, (.int .i64)], fun x => tube_New k x.1 x.2.1⟩ :=
 evF_sound (E := (e34 k)) (fn := Tryz.f36) (e34.ok k) (by kernel_rfl) (by kernel_rfl) (by kernel_rfl) 8 .n trivial (fun xs => by kernel_rfl)
def e35 (k : Nat) : Env := (e34 k).add 36 ⟨[T23, T25], [T28, (.int .i64)], fun x => tube_New k x.1 x.2.1⟩
theorem e35.ok (k : Nat) : (e35 k).OK Tryz.prog := (e34.ok k).add (tube_New.ok k)
def tube_end (k : Nat) (x0 : Ty.den T28) : Option (HL [T23]) :=
 bif (decide ((x0.2.2.length : Int) > 0)) then
  if 0 ≤ (IntKind.i64.wrap ((x0.2.2.length : Int) - 1)) then (x0.2.2[Int.toNat (IntKind.i64.wrap ((x0.2.2.length : Int) - 1))]?).bind fun y1 =>
   some (y1.1, ())
  else none
 else
  some (x0.1, ())
theorem tube_end.ok (k : Nat) : SpecOK Tryz.prog G0 71 ⟨[T28], [T23], fun x => tube_end k x.1⟩ :=
 evF_sound (E := (e35 k)) (fn := Tryz.f71) (e35.ok k) (by kernel_rfl) (by kernel_rfl) (by kernel_rfl) 8 .n trivial (fun xs => by kernel_rfl)
def e36 (k : Nat) : Env := (e35 k).add 71 ⟨[T28], [T23], fun x => tube_end k x.1⟩
theorem e36.ok (k : Nat) : (e36 k).OK Tryz.prog := (e35.ok k).add (tube_end.ok k)
def tube_Append (k : Nat) (x0 : Ty.den T28) (x1 : Ty.den T23) (x2 : Ty.den T25) (x3 : Ty.den T25) : Option (HL [T28, (.int .i64)]) :=
 (tube_May k x0).bind fun r1 =>
 bif (!r1.1) then
  some (((0, false, 0, 0), (false, (0, false, 0, 0), 0, false, 0, 0), []), 1, ())
 else
  (tube_finite k x1).bind fun r2 =>
  bif (!r2.1) then
   some (((0, false, 0, 0), (false, (0, false, 0, 0), 0, false, 0, 0), []), 1, ())
  else
   (iv_May k x2).bind fun r3 =>
   bif (!r3.1) then
    some (((0, false, 0, 0), (false, (0, false, 0, 0), 0, false, 0, 0), []), 1, ())
   else
    (iv_May k x3).bind fun r4 =>
    bif (!r4.1) then
     some (((0, false, 0, 0), (false, (0, false, 0, 0), 0, false, 0, 0), []), 1, ())
    else
     bif (decide ((x0.2.2.length : Int) ≥ 64)) then
      some (((0, false, 0, 0), (false, (0, false, 0, 0), 0, false, 0, 0), []), 3, ())
     else
      (tube_end k x0).bind fun r5 =>
      (num_Cmp k x1 r5.1).bind fun r6 =>
      bif (decide (r6.1 ≤ 0)) then
       some (((0, false, 0, 0), (false, (0, false, 0, 0), 0, false, 0, 0), []), 6, ())
      else
       if x0.2.2.length * 176 ≤ 140737488355328 then
        if (x0.2.2.length + [(x1, x2, x3)].length) * 176 ≤ 140737488355328 then
         some ((x0.1, x0.2.1, (x0.2.2 ++ [(x1, x2, x3)])), 0, ())
        else none
       else none
theorem tube_Append.ok (k : Nat) : SpecOK Tryz.prog G0 37 ⟨[T28, T23, T25, T25], [T28, (.int .i64)], fun x => tube_Append k x.1 x.2.1 x.2.2.1 x.2.2.2.1⟩ :=
 evF_sound (E := (e36 k)) (fn := Tryz.f37) (e36.ok k) (by kernel_rfl) (by kernel_rfl) (by kernel_rfl) 8 .n trivial (fun xs => by kernel_rfl)
def e37 (k : Nat) : Env := (e36 k).add 37 ⟨[T28, T23, T25, T25], [T28, (.int .i64)], fun x => tube_Append k x.1 x.2.1 x.2.2.1 x.2.2.2.1⟩
theorem e37.ok (k : Nat) : (e37 k).OK Tryz.prog := (e36.ok k).add (tube_Append.ok k)
def iv_All (k : Nat) : Option (HL [T25]) :=
 (num_Infinite k true).bind fun r1 =>
 (num_Infinite k false).bind fun r2 =>
 some ((false, r1.1, r2.1), ())
theorem iv_All.ok (k : Nat) : SpecOK Tryz.prog G0 38 ⟨[], [T25], fun x => iv_All k⟩ :=
 evF_sound (E := (e37 k)) (fn := Tryz.f38) (e37.ok k) (by kernel_rfl) (by kernel_rfl) (by kernel_rfl) 8 .n trivial (fun xs => by kernel_rfl)
def e38 (k : Nat) : Env := (e37 k).add 38 ⟨[], [T25], fun x => iv_All k⟩
theorem e38.ok (k : Nat) : (e38 k).OK Tryz.prog := (e37.ok k).add (iv_All.ok k)
def num_Of (k : Nat) (x0 : Ty.den (.int .i64)) : Option (HL [T23]) :=
 bif (decide (x0 < 0)) then
  (bits_LeadingZeros64 k (IntKind.u64.wrap (0 - (IntKind.u64.wrap x0)))).bind fun r1 =>
  bif ((IntKind.u64.wrap (0 - (IntKind.u64.wrap x0))) == 0) then
   some ((0, false, 0, 0), ())
  else
   if r1.1 < 0 then none else
   some ((1, (decide (x0 < 0)), (IntKind.u64.wrap ((IntKind.u64.wrap (0 - (IntKind.u64.wrap x0))) * 2 ^ min (Int.toNat r1.1) IntKind.u64.bits)), (IntKind.i64.wrap (0 - r1.1))), ())
 else
  (bits_LeadingZeros64 k (IntKind.u64.wrap x0)).bind fun r2 =>
  bif ((IntKind.u64.wrap x0) == 0) then
   some ((0, false, 0, 0), ())
  else
   if r2.1 < 0 then none else
   some ((1, (decide (x0 < 0)), (IntKind.u64.wrap ((IntKind.u64.wrap x0) * 2 ^ min (Int.toNat r2.1) IntKind.u64.bits)), (IntKind.i64.wrap (0 - r2.1))), ())
theorem num_Of.ok (k : Nat) : SpecOK Tryz.prog G0 14 ⟨[(.int .i64)], [T23], fun x => num_Of k x.1⟩ :=
 evF_sound (E := (e38 k)) (fn := Tryz.f14) (e38.ok k) (by kernel_rfl) (by kernel_rfl) (by kernel_rfl) 8 .n trivial (fun xs => by kernel_rfl)
def e39 (k : Nat) : Env := (e38 k).add 14 ⟨[(.int .i64)], [T23], fun x => num_Of k x.1⟩
theorem e39.ok (k : Nat) : (e39 k).OK Tryz.prog := (e38.ok k).add (num_Of.ok k)
def peloruslaw08_Of (k : Nat) (x0 : Ty.den (.int .i64)) (x1 : Ty.den (.int .i64)) : Option (HL [T25]) :=
 (num_Of k x0).bind fun r1 =>
 (num_Of k x1).bind fun r2 =>
 (iv_Make k r1.1 r2.1).bind fun r3 =>
 some (r3.1, ())
theorem peloruslaw08_Of.ok (k : Nat) : SpecOK Tryz.prog G0 15 ⟨[(.int .i64), (.int .i64)], [T25], fun x => peloruslaw08_Of k x.1 x.2.1⟩ :=
 evF_sound (E := (e39 k)) (fn := Tryz.f15) (e39.ok k) (by kernel_rfl) (by kernel_rfl) (by kernel_rfl) 8 .n trivial (fun xs => by kernel_rfl)
def e40 (k : Nat) : Env := (e39 k).add 15 ⟨[(.int .i64), (.int .i64)], [T25], fun x => peloruslaw08_Of k x.1 x.2.1⟩
theorem e40.ok (k : Nat) : (e40 k).OK Tryz.prog := (e39.ok k).add (peloruslaw08_Of.ok k)
def iv_Point (k : Nat) (x0 : Ty.den T23) : Option (HL [T25]) :=
 (iv_Make k x0 x0).bind fun r1 =>
 some (r1.1, ())
theorem iv_Point.ok (k : Nat) : SpecOK Tryz.prog G0 16 ⟨[T23], [T25], fun x => iv_Point k x.1⟩ :=
 evF_sound (E := (e40 k)) (fn := Tryz.f16) (e40.ok k) (by kernel_rfl) (by kernel_rfl) (by kernel_rfl) 8 .n trivial (fun xs => by kernel_rfl)
def e41 (k : Nat) : Env := (e40 k).add 16 ⟨[T23], [T25], fun x => iv_Point k x.1⟩
theorem e41.ok (k : Nat) : (e41 k).OK Tryz.prog := (e40.ok k).add (iv_Point.ok k)
abbrev peloruslaw18_Plain_l0_i : Mask := ⟨[(0, 1, (.v T30)), (0, 2, (.k (.ptr 2 0 0))), (0, 5, (.k (.arr 13 0))), (0, 6, (.v (.int .i64)))], [(2, .cells (.v T28)), (13, .arr 26 T25)], [], 0⟩
abbrev peloruslaw18_Plain_l0_o : List Out := [⟨.exit 0, ⟨[(0, 1, (.v T30)), (0, 5, (.k (.arr 13 0)))], [(13, .arr 26 T25)], [], 0⟩⟩]
def peloruslaw18_Plain_l0 (k : Nat) : Nat → Mask.den peloruslaw18_Plain_l0_i → Option (denS peloruslaw18_Plain_l0_o)
 | 0, _ => none
 | m + 1, x =>
  bif (decide (x.1.2.2.2.1 < (x.2.1.2.2.length : Int))) then
   if 0 ≤ x.1.2.2.2.1 then (x.2.1.2.2[Int.toNat x.1.2.2.2.1]?).bind fun y2 =>
    if (x.2.2.1.length + [y2.2.1].length) * 72 ≤ 140737488355328 then
     if 0 ≤ x.1.2.2.2.1 then (x.2.1.2.2[Int.toNat x.1.2.2.2.1]?).bind fun y3 =>
      if ((x.2.2.1 ++ [y2.2.1]).length + [y3.2.2].length) * 72 ≤ 140737488355328 then
       if 0 ≤ x.1.2.2.2.1 then (x.2.1.2.2[Int.toNat x.1.2.2.2.1]?).bind fun y4 =>
        (iv_Point k y4.1).bind fun r5 =>
        if (((x.2.2.1 ++ [y2.2.1]) ++ [y3.2.2]).length + [r5.1].length) * 72 ≤ 140737488355328 then
         peloruslaw18_Plain_l0 k m ((x.1.1, (), (), (IntKind.i64.wrap (x.1.2.2.2.1 + 1)), ()), (x.2.1, (((x.2.2.1 ++ [y2.2.1]) ++ [y3.2.2]) ++ [r5.1]), ()))
        else none
       else none
      else none
     else none
    else none
   else none
  else
   some (Sum.inl ((x.1.1, (), ()), (x.2.2.1, ())))
abbrev peloruslaw18_Plain_l0_seg (k : Nat) : Seg := ⟨⟨0, 101, false, [], []⟩, 5, [.b, .s2, .s1, .s2, .s2, .s2], peloruslaw18_Plain_l0_i, peloruslaw18_Plain_l0_o, peloruslaw18_Plain_l0 k k⟩
theorem peloruslaw18_Plain_l0_seg.ok (k : Nat) : SegOK Tryz.prog (e41 k) (peloruslaw18_Plain_l0_seg k) :=
 SegOK.loop (e41.ok k) (by kernel_rfl) (S := peloruslaw18_Plain_l0_seg k) (c := atR (codeOf (e41 k) 5) [.l, .b, .s2, .s1, .s2, .s2, .s2]) (by kernel_rfl) (peloruslaw18_Plain_l0 k) k rfl (fun _ => rfl) 8 .n trivial (fun k' x => by kernel_rfl)
abbrev peloruslaw18_Plain_l1_i : Mask := ⟨[(0, 5, (.k (.arr 13 0))), (0, 7, (.v (.int .i64)))], [(13, .arr 26 T25)], [], 0⟩
abbrev peloruslaw18_Plain_l1_o : List Out := [⟨.ret, ⟨[(0, 4, (.v .bool))], [], [], 0⟩⟩, ⟨.exit 2, ⟨[], [], [], 0⟩⟩]
def peloruslaw18_Plain_l1 (k : Nat) : Nat → Mask.den peloruslaw18_Plain_l1_i → Option (denS peloruslaw18_Plain_l1_o)
 | 0, _ => none
 | m + 1, x =>
  bif (decide (x.1.2.1 < (x.2.1.length : Int))) then
   if 0 ≤ x.1.2.1 then (x.2.1[Int.toNat x.1.2.1]?).bind fun _ =>
    (x.2.1[(Int.toNat x.1.2.1)]?).bind fun y9 =>
    bif (decide (y9.2.1.2.2.2 > 300)) then
     some (Sum.inl ((false, ()), ()))
    else
     if 0 ≤ x.1.2.1 then (x.2.1[Int.toNat x.1.2.1]?).bind fun _ =>
      (x.2.1[(Int.toNat x.1.2.1)]?).bind fun y11 =>
      bif (decide (y11.2.1.2.2.2 < (-300))) then
       some (Sum.inl ((false, ()), ()))
      else
       if 0 ≤ x.1.2.1 then (x.2.1[Int.toNat x.1.2.1]?).bind fun _ =>
        (x.2.1[(Int.toNat x.1.2.1)]?).bind fun y13 =>
        bif (decide (y13.2.2.2.2.2 > 300)) then
         some (Sum.inl ((false, ()), ()))
        else
         if 0 ≤ x.1.2.1 then (x.2.1[Int.toNat x.1.2.1]?).bind fun _ =>
          (x.2.1[(Int.toNat x.1.2.1)]?).bind fun y15 =>
          bif (decide (y15.2.2.2.2.2 < (-300))) then
           some (Sum.inl ((false, ()), ()))
          else
           peloruslaw18_Plain_l1 k m (((), (IntKind.i64.wrap (x.1.2.1 + 1)), ()), (x.2.1, ()))
         else none
       else none
     else none
   else none
  else
   some (Sum.inr (Sum.inl ((), ())))
abbrev peloruslaw18_Plain_l1_seg (k : Nat) : Seg := ⟨⟨0, 101, false, [], []⟩, 5, [.b, .s2, .s1, .s2, .s2, .s2, .s2, .s2], peloruslaw18_Plain_l1_i, peloruslaw18_Plain_l1_o, peloruslaw18_Plain_l1 k k⟩
theorem peloruslaw18_Plain_l1_seg.ok (k : Nat) : SegOK Tryz.prog (e41 k) (peloruslaw18_Plain_l1_seg k) :=
 SegOK.loop (e41.ok k) (by kernel_rfl) (S := peloruslaw18_Plain_l1_seg k) (c := atR (codeOf (e41 k) 5) [.l, .b, .s2, .s1, .s2, .s2, .s2, .s2, .s2]) (by kernel_rfl) (peloruslaw18_Plain_l1 k) k rfl (fun _ => rfl) 8 .n trivial (fun k' x => by kernel_rfl)
def peloruslaw18_Plain (k : Nat) (x0 : Ty.den T28) (x1 : Ty.den T30) : Option (HL [.bool]) :=
 (iv_Point k x0.1).bind fun r1 =>
 bif (decide ((x0.2.2.length : Int) > 20)) then
  some (false, ())
 else
  bif (decide ((x1.length : Int) > 20)) then
   some (false, ())
  else
   (peloruslaw18_Plain_l0 k k ((x1, (), (), 0, ()), (x0, [x0.2.1, r1.1], ()))).bind fun q6 =>
   Sum.elim (fun z7 =>
     if (z7.2.1.length + z7.1.1.length) * 72 ≤ 140737488355328 then
      (peloruslaw18_Plain_l1 k k (((), 0, ()), ((z7.2.1 ++ z7.1.1), ()))).bind fun q16 =>
      Sum.elim (fun z17 =>
        some (z17.1.1, ()))
       (fun q16' =>
        Sum.elim (fun z18 =>
          some (true, ()))
         (fun q16'' =>
          none) q16') q16
     else none)
    (fun q6' =>
     none) q6
theorem peloruslaw18_Plain.ok (k : Nat) : SpecOK Tryz.prog G0 5 ⟨[T28, T30], [.bool], fun x => peloruslaw18_Plain k x.1 x.2.1⟩ :=
 evF_sound (E := (e41 k)) (fn := Tryz.f5) (e41.ok k) (by kernel_rfl) (by kernel_rfl) (by kernel_rfl) 8 (.two .n (.two (.own 5 .n) (.two .n (.two (.two .n (.two (.use (peloruslaw18_Plain_l0_seg k)) .n)) (.two .n (.two (.two .n (.two (.use (peloruslaw18_Plain_l1_seg k)) .n)) .n)))))) ⟨trivial, ⟨trivial, ⟨trivial, ⟨⟨trivial, ⟨(peloruslaw18_Plain_l0_seg.ok k), trivial⟩⟩, ⟨trivial, ⟨⟨trivial, ⟨(peloruslaw18_Plain_l1_seg.ok k), trivial⟩⟩, trivial⟩⟩⟩⟩⟩⟩ (fun xs => by kernel_rfl)
def e42 (k : Nat) : Env := (e41 k).add 5 ⟨[T28, T30], [.bool], fun x => peloruslaw18_Plain k x.1 x.2.1⟩
theorem e42.ok (k : Nat) : (e42 k).OK Tryz.prog := (e41.ok k).add (peloruslaw18_Plain.ok k)
def iv_Within (k : Nat) (x0 : Ty.den T25) (x1 : Ty.den T25) : Option (HL [.bool]) :=
 (iv_fair k x0).bind fun r1 =>
 (iv_fair k x1).bind fun r2 =>
 bif r1.1.1 then
  some (true, ())
 else
  bif (!r2.1.1) then
   (num_Cmp k r2.1.2.1 r1.1.2.1).bind fun r3 =>
   bif (decide (r3.1 ≤ 0)) then
    (num_Cmp k r1.1.2.2 r2.1.2.2).bind fun r4 =>
    some ((decide (r4.1 ≤ 0)), ())
   else
    some (false, ())
  else
   some (false, ())
theorem iv_Within.ok (k : Nat) : SpecOK Tryz.prog G0 20 ⟨[T25, T25], [.bool], fun x => iv_Within k x.1 x.2.1⟩ :=
 evF_sound (E := (e42 k)) (fn := Tryz.f20) (e42.ok k) (by kernel_rfl) (by kernel_rfl) (by kernel_rfl) 8 .n trivial (fun xs => by kernel_rfl)
def e43 (k : Nat) : Env := (e42 k).add 20 ⟨[T25, T25], [.bool], fun x => iv_Within k x.1 x.2.1⟩
theorem e43.ok (k : Nat) : (e43 k).OK Tryz.prog := (e42.ok k).add (iv_Within.ok k)
def iv_Has (k : Nat) (x0 : Ty.den T25) (x1 : Ty.den T23) : Option (HL [.bool]) :=
 (iv_Point k x1).bind fun r1 =>
 bif (!r1.1.1) then
  (iv_Within k r1.1 x0).bind fun r2 =>
  some (r2.1, ())
 else
  some (false, ())
theorem iv_Has.ok (k : Nat) : SpecOK Tryz.prog G0 7 ⟨[T25, T23], [.bool], fun x => iv_Has k x.1 x.2.1⟩ :=
 evF_sound (E := (e43 k)) (fn := Tryz.f7) (e43.ok k) (by kernel_rfl) (by kernel_rfl) (by kernel_rfl) 8 .n trivial (fun xs => by kernel_rfl)
def e44 (k : Nat) : Env := (e43 k).add 7 ⟨[T25, T23], [.bool], fun x => iv_Has k x.1 x.2.1⟩
theorem e44.ok (k : Nat) : (e44 k).OK Tryz.prog := (e43.ok k).add (iv_Has.ok k)
abbrev nat_cut_l0_i : Mask := ⟨[(0, 0, (.v T36))], [], [], 0⟩
abbrev nat_cut_l0_o : List Out := [⟨.exit 0, ⟨[(0, 0, (.v T36))], [], [], 0⟩⟩]
def nat_cut_l0 (k : Nat) : Nat → Mask.den nat_cut_l0_i → Option (denS nat_cut_l0_o)
 | 0, _ => none
 | m + 1, x =>
  bif (decide ((x.1.1.length : Int) > 0)) then
   if 0 ≤ (IntKind.i64.wrap ((x.1.1.length : Int) - 1)) then (x.1.1[Int.toNat (IntKind.i64.wrap ((x.1.1.length : Int) - 1))]?).bind fun y1 =>
    bif (y1 == 0) then
     if (0 : Int) ≤ 0 ∧ 0 ≤ (IntKind.i64.wrap ((x.1.1.length : Int) - 1)) ∧ (IntKind.i64.wrap ((x.1.1.length : Int) - 1)) ≤ (x.1.1.length : Int) then
      nat_cut_l0 k m (((List.drop (Int.toNat 0) (List.take (Int.toNat (IntKind.i64.wrap ((x.1.1.length : Int) - 1))) x.1.1)), ()), ())
     else none
    else
     some (Sum.inl ((x.1.1, ()), ()))
   else none
  else
   some (Sum.inl ((x.1.1, ()), ()))
abbrev nat_cut_l0_seg (k : Nat) : Seg := ⟨⟨0, 21, false, [], []⟩, 76, [.b, .s1, .s2], nat_cut_l0_i, nat_cut_l0_o, nat_cut_l0 k k⟩
theorem nat_cut_l0_seg.ok (k : Nat) : SegOK Tryz.prog (e44 k) (nat_cut_l0_seg k) :=
 SegOK.loop (e44.ok k) (by kernel_rfl) (S := nat_cut_l0_seg k) (c := atR (codeOf (e44 k) 76) [.l, .b, .s1, .s2]) (by kernel_rfl) (nat_cut_l0 k) k rfl (fun _ => rfl) 8 .n trivial (fun k' x => by kernel_rfl)
def nat_cut (k : Nat) (x0 : Ty.den T36) : Option (HL [T36]) :=
 (nat_cut_l0 k k ((x0, ()), ())).bind fun q2 =>
 Sum.elim (fun z3 =>
   some (z3.1.1, ()))
  (fun q2' =>
   none) q2
theorem nat_cut.ok (k : Nat) : SpecOK Tryz.prog G0 76 ⟨[T36], [T36], fun x => nat_cut k x.1⟩ :=
 evF_sound (E := (e44 k)) (fn := Tryz.f76) (e44.ok k) (by kernel_rfl) (by kernel_rfl) (by kernel_rfl) 8 (.two .n (.two (.two (.use (nat_cut_l0_seg k)) .n) .n)) ⟨trivial, ⟨⟨(nat_cut_l0_seg.ok k), trivial⟩, trivial⟩⟩ (fun xs => by kernel_rfl)
def e45 (k : Nat) : Env := (e44 k).add 76 ⟨[T36], [T36], fun x => nat_cut k x.1⟩
theorem e45.ok (k : Nat) : (e45 k).OK Tryz.prog := (e44.ok k).add (nat_cut.ok k)
def nat_Trim (k : Nat) (x0 : Ty.den T36) : Option (HL [T36]) :=
 (nat_cut k x0).bind fun r1 =>
 if r1.1.length * 4 ≤ 140737488355328 then
  some (r1.1, ())
 else none
theorem nat_Trim.ok (k : Nat) : SpecOK Tryz.prog G0 50 ⟨[T36], [T36], fun x => nat_Trim k x.1⟩ :=
 evF_sound (E := (e45 k)) (fn := Tryz.f50) (e45.ok k) (by kernel_rfl) (by kernel_rfl) (by kernel_rfl) 8 .n trivial (fun xs => by kernel_rfl)
def e46 (k : Nat) : Env := (e45 k).add 50 ⟨[T36], [T36], fun x => nat_Trim k x.1⟩
theorem e46.ok (k : Nat) : (e46 k).OK Tryz.prog := (e45.ok k).add (nat_Trim.ok k)
def whole_Make (k : Nat) (x0 : Ty.den .bool) (x1 : Ty.den T36) : Option (HL [T37]) :=
 (nat_Trim k x1).bind fun r1 =>
 bif x0 then
  some (((decide ((r1.1.length : Int) > 0)), r1.1), ())
 else
  some ((false, r1.1), ())
theorem whole_Make.ok (k : Nat) : SpecOK Tryz.prog G0 23 ⟨[.bool, T36], [T37], fun x => whole_Make k x.1 x.2.1⟩ :=
 evF_sound (E := (e46 k)) (fn := Tryz.f23) (e46.ok k) (by kernel_rfl) (by kernel_rfl) (by kernel_rfl) 8 .n trivial (fun xs => by kernel_rfl)
def e47 (k : Nat) : Env := (e46 k).add 23 ⟨[.bool, T36], [T37], fun x => whole_Make k x.1 x.2.1⟩
theorem e47.ok (k : Nat) : (e47 k).OK Tryz.prog := (e46.ok k).add (whole_Make.ok k)
def bits_Len32 (k : Nat) (x0 : Ty.den (.int .u32)) : Option (HL [(.int .i64)]) :=
 bif (decide (x0 ≥ 65536)) then
  bif (decide ((Int.fdiv x0 (2 ^ min (Int.toNat 16) IntKind.u32.bits)) ≥ 256)) then
   if 0 ≤ (IntKind.u8.wrap (Int.fdiv (Int.fdiv x0 (2 ^ min (Int.toNat 16) IntKind.u32.bits)) (2 ^ min (Int.toNat 8) IntKind.u32.bits))) then (bytes0[Int.toNat (IntKind.u8.wrap (Int.fdiv (Int.fdiv x0 (2 ^ min (Int.toNat 16) IntKind.u32.bits)) (2 ^ min (Int.toNat 8) IntKind.u32.bits)))]?).bind fun y1 =>
    some ((IntKind.i64.wrap ((IntKind.i64.wrap (16 + 8)) + (IntKind.i64.wrap (y1.toNat : Int)))), ())
   else none
  else
   if 0 ≤ (IntKind.u8.wrap (Int.fdiv x0 (2 ^ min (Int.toNat 16) IntKind.u32.bits))) then (bytes0[Int.toNat (IntKind.u8.wrap (Int.fdiv x0 (2 ^ min (Int.toNat 16) IntKind.u32.bits)))]?).bind fun y2 =>
    some ((IntKind.i64.wrap (16 + (IntKind.i64.wrap (y2.toNat : Int)))), ())
   else none
 else
  bif (decide (x0 ≥ 256)) then
   if 0 ≤ (IntKind.u8.wrap (Int.fdiv x0 (2 ^ min (Int.toNat 8) IntKind.u32.bits))) then (bytes0[Int.toNat (IntKind.u8.wrap (Int.fdiv x0 (2 ^ min (Int.toNat 8) IntKind.u32.bits)))]?).bind fun y3 =>
    some ((IntKind.i64.wrap ((IntKind.i64.wrap (0 + 8)) + (IntKind.i64.wrap (y3.toNat : Int)))), ())
   else none
  else
   if 0 ≤ (IntKind.u8.wrap x0) then (bytes0[Int.toNat (IntKind.u8.wrap x0)]?).bind fun y4 =>
    some ((IntKind.i64.wrap (0 + (IntKind.i64.wrap (y4.toNat : Int)))), ())
   else none
theorem bits_Len32.ok (k : Nat) : SpecOK Tryz.prog G0 92 ⟨[(.int .u32)], [(.int .i64)], fun x => bits_Len32 k x.1⟩ :=
 evF_sound (E := (e47 k)) (fn := Tryz.f92) (e47.ok k) (by kernel_rfl) (by kernel_rfl) (by kernel_rfl) 8 .n trivial (fun xs => by kernel_rfl)
def e48 (k : Nat) : Env := (e47 k).add 92 ⟨[(.int .u32)], [(.int .i64)], fun x => bits_Len32 k x.1⟩
theorem e48.ok (k : Nat) : (e48 k).OK Tryz.prog := (e47.ok k).add (bits_Len32.ok k)
def nat_Len (k : Nat) (x0 : Ty.den T36) : Option (HL [(.int .i64)]) :=
 (nat_cut k x0).bind fun r1 =>
 bif ((r1.1.length : Int) == 0) then
  some (0, ())
 else
  if 0 ≤ (IntKind.i64.wrap ((r1.1.length : Int) - 1)) then (r1.1[Int.toNat (IntKind.i64.wrap ((r1.1.length : Int) - 1))]?).bind fun y2 =>
   (bits_Len32 k y2).bind fun r3 =>
   some ((IntKind.i64.wrap ((IntKind.i64.wrap (32 * (IntKind.i64.wrap ((r1.1.length : Int) - 1)))) + r3.1)), ())
  else none
theorem nat_Len.ok (k : Nat) : SpecOK Tryz.prog G0 74 ⟨[T36], [(.int .i64)], fun x => nat_Len k x.1⟩ :=
 evF_sound (E := (e48 k)) (fn := Tryz.f74) (e48.ok k) (by kernel_rfl) (by kernel_rfl) (by kernel_rfl) 8 .n trivial (fun xs => by kernel_rfl)
def e49 (k : Nat) : Env := (e48 k).add 74 ⟨[T36], [(.int .i64)], fun x => nat_Len k x.1⟩
theorem e49.ok (k : Nat) : (e49 k).OK Tryz.prog := (e48.ok k).add (nat_Len.ok k)
def whole_Sign (k : Nat) (x0 : Ty.den T37) : Option (HL [(.int .i64)]) :=
 (nat_Len k x0.2).bind fun r1 =>
 bif (r1.1 == 0) then
  some (0, ())
 else
  bif x0.1 then
   some ((-1), ())
  else
   some (1, ())
theorem whole_Sign.ok (k : Nat) : SpecOK Tryz.prog G0 46 ⟨[T37], [(.int .i64)], fun x => whole_Sign k x.1⟩ :=
 evF_sound (E := (e49 k)) (fn := Tryz.f46) (e49.ok k) (by kernel_rfl) (by kernel_rfl) (by kernel_rfl) 8 .n trivial (fun xs => by kernel_rfl)
def e50 (k : Nat) : Env := (e49 k).add 46 ⟨[T37], [(.int .i64)], fun x => whole_Sign k x.1⟩
theorem e50.ok (k : Nat) : (e50 k).OK Tryz.prog := (e49.ok k).add (whole_Sign.ok k)
def dy_within (k : Nat) (x0 : Ty.den (.int .i64)) : Option (HL [.bool]) :=
 bif (decide (x0 ≥ (-4194304))) then
  some ((decide (x0 ≤ 4194304)), ())
 else
  some (false, ())
theorem dy_within.ok (k : Nat) : SpecOK Tryz.prog G0 47 ⟨[(.int .i64)], [.bool], fun x => dy_within k x.1⟩ :=
 evF_sound (E := (e50 k)) (fn := Tryz.f47) (e50.ok k) (by kernel_rfl) (by kernel_rfl) (by kernel_rfl) 8 .n trivial (fun xs => by kernel_rfl)
def e51 (k : Nat) : Env := (e50 k).add 47 ⟨[(.int .i64)], [.bool], fun x => dy_within k x.1⟩
theorem e51.ok (k : Nat) : (e51 k).OK Tryz.prog := (e50.ok k).add (dy_within.ok k)
abbrev dy_trailing_l0_i : Mask := ⟨[(0, 3, (.v (.int .i64))), (0, 6, (.v T36)), (0, 7, (.v (.int .i64))), (0, 8, (.v (.int .i64)))], [], [], 0⟩
abbrev dy_trailing_l0_o : List Out := [⟨.ret, ⟨[(0, 2, (.v (.int .i64)))], [], [], 0⟩⟩, ⟨.exit 0, ⟨[(0, 3, (.v (.int .i64)))], [], [], 0⟩⟩]
def dy_trailing_l0 (k : Nat) : Nat → Mask.den dy_trailing_l0_i → Option (denS dy_trailing_l0_o)
 | 0, _ => none
 | m + 1, x =>
  bif (decide (x.1.2.2.2.1 < x.1.2.2.1)) then
   if 0 ≤ x.1.2.2.2.1 then (x.1.2.1[Int.toNat x.1.2.2.2.1]?).bind fun y1 =>
    bif (y1 != 0) then
     (w_tz k y1).bind fun r2 =>
     some (Sum.inl (((IntKind.i64.wrap (x.1.1 + r2.1)), ()), ()))
    else
     dy_trailing_l0 k m (((IntKind.i64.wrap (x.1.1 + 32)), x.1.2.1, x.1.2.2.1, (IntKind.i64.wrap (x.1.2.2.2.1 + 1)), ()), ())
   else none
  else
   some (Sum.inr (Sum.inl ((x.1.1, ()), ())))
abbrev dy_trailing_l0_seg (k : Nat) : Seg := ⟨⟨0, 22, false, [], []⟩, 48, [.b, .s2, .s1, .s2, .s2], dy_trailing_l0_i, dy_trailing_l0_o, dy_trailing_l0 k k⟩
theorem dy_trailing_l0_seg.ok (k : Nat) : SegOK Tryz.prog (e51 k) (dy_trailing_l0_seg k) :=
 SegOK.loop (e51.ok k) (by kernel_rfl) (S := dy_trailing_l0_seg k) (c := atR (codeOf (e51 k) 48) [.l, .b, .s2, .s1, .s2, .s2]) (by kernel_rfl) (dy_trailing_l0 k) k rfl (fun _ => rfl) 8 .n trivial (fun k' x => by kernel_rfl)
def dy_trailing (k : Nat) (x0 : Ty.den T36) : Option (HL [(.int .i64)]) :=
 (dy_trailing_l0 k k ((0, x0, (x0.length : Int), 0, ()), ())).bind fun q3 =>
 Sum.elim (fun z4 =>
   some (z4.1.1, ()))
  (fun q3' =>
   Sum.elim (fun z5 =>
     some (z5.1.1, ()))
    (fun q3'' =>
     none) q3') q3
theorem dy_trailing.ok (k : Nat) : SpecOK Tryz.prog G0 48 ⟨[T36], [(.int .i64)], fun x => dy_trailing k x.1⟩ :=
 evF_sound (E := (e51 k)) (fn := Tryz.f48) (e51.ok k) (by kernel_rfl) (by kernel_rfl) (by kernel_rfl) 8 (.two .n (.two .n (.two (.two .n (.two (.use (dy_trailing_l0_seg k)) .n)) .n))) ⟨trivial, ⟨trivial, ⟨⟨trivial, ⟨(dy_trailing_l0_seg.ok k), trivial⟩⟩, trivial⟩⟩⟩ (fun xs => by kernel_rfl)
def e52 (k : Nat) : Env := (e51 k).add 48 ⟨[T36], [(.int .i64)], fun x => dy_trailing k x.1⟩
theorem e52.ok (k : Nat) : (e52 k).OK Tryz.prog := (e51.ok k).add (dy_trailing.ok k)
abbrev nat_Shr_l0_i : Mask := ⟨[(0, 0, (.v T36)), (0, 5, (.v (.int .i64))), (0, 6, (.v (.int .i64))), (0, 7, (.k (.arr 31 0))), (0, 33, (.v (.int .i64))), (0, 34, (.v (.int .i64)))], [(31, .arr 62 (.int .u32))], [], 0⟩
abbrev nat_Shr_l0_o : List Out := [⟨.exit 1, ⟨[(0, 7, (.k (.arr 31 0)))], [(31, .arr 62 (.int .u32))], [], 0⟩⟩]
def nat_Shr_l0 (k : Nat) : Nat → Mask.den nat_Shr_l0_i → Option (denS nat_Shr_l0_o)
 | 0, _ => none
 | m + 1, x =>
  bif (decide (x.1.2.2.2.2.2.1 < x.1.2.2.2.2.1)) then
   if 0 ≤ (IntKind.i64.wrap (x.1.2.2.2.2.2.1 + x.1.2.1)) then (x.1.1[Int.toNat (IntKind.i64.wrap (x.1.2.2.2.2.2.1 + x.1.2.1))]?).bind fun y2 =>
    bif (decide ((IntKind.i64.wrap ((IntKind.i64.wrap (x.1.2.2.2.2.2.1 + x.1.2.1)) + 1)) < (x.1.1.length : Int))) then
     if 0 ≤ (IntKind.i64.wrap ((IntKind.i64.wrap (x.1.2.2.2.2.2.1 + x.1.2.1)) + 1)) then (x.1.1[Int.toNat (IntKind.i64.wrap ((IntKind.i64.wrap (x.1.2.2.2.2.2.1 + x.1.2.1)) + 1))]?).bind fun y3 =>
      if x.1.2.2.1 < 0 then none else
      if 0 ≤ x.1.2.2.2.2.2.1 then (x.2.1[Int.toNat x.1.2.2.2.2.2.1]?).bind fun _ =>
       (x.2.1[(Int.toNat x.1.2.2.2.2.2.1)]?).bind fun y5 =>
       nat_Shr_l0 k m ((x.1.1, x.1.2.1, x.1.2.2.1, (), x.1.2.2.2.2.1, (IntKind.i64.wrap (x.1.2.2.2.2.2.1 + 1)), ()), ((x.2.1.set (Int.toNat x.1.2.2.2.2.2.1) (IntKind.u32.wrap (Int.fdiv (IntKind.u64.wrap (BitVec.toNat (BitVec.ofInt IntKind.u64.bits (IntKind.u64.wrap y2) ||| BitVec.ofInt IntKind.u64.bits (IntKind.u64.wrap ((IntKind.u64.wrap y3) * 2 ^ min (Int.toNat 32) IntKind.u64.bits))))) (2 ^ min (Int.toNat x.1.2.2.1) IntKind.u64.bits)))), ()))
      else none
     else none
    else
     if x.1.2.2.1 < 0 then none else
     if 0 ≤ x.1.2.2.2.2.2.1 then (x.2.1[Int.toNat x.1.2.2.2.2.2.1]?).bind fun _ =>
      (x.2.1[(Int.toNat x.1.2.2.2.2.2.1)]?).bind fun y7 =>
      nat_Shr_l0 k m ((x.1.1, x.1.2.1, x.1.2.2.1, (), x.1.2.2.2.2.1, (IntKind.i64.wrap (x.1.2.2.2.2.2.1 + 1)), ()), ((x.2.1.set (Int.toNat x.1.2.2.2.2.2.1) (IntKind.u32.wrap (Int.fdiv (IntKind.u64.wrap y2) (2 ^ min (Int.toNat x.1.2.2.1) IntKind.u64.bits)))), ()))
     else none
   else none
  else
   some (Sum.inl (((), ()), (x.2.1, ())))
abbrev nat_Shr_l0_seg (k : Nat) : Seg := ⟨⟨0, 72, false, [], []⟩, 49, [.b, .s2, .s1, .s2, .s2, .s2, .s2, .s2], nat_Shr_l0_i, nat_Shr_l0_o, nat_Shr_l0 k k⟩
theorem nat_Shr_l0_seg.ok (k : Nat) : SegOK Tryz.prog (e52 k) (nat_Shr_l0_seg k) :=
 SegOK.loop (e52.ok k) (by kernel_rfl) (S := nat_Shr_l0_seg k) (c := atR (codeOf (e52 k) 49) [.l, .b, .s2, .s1, .s2, .s2, .s2, .s2, .s2]) (by kernel_rfl) (nat_Shr_l0 k) k rfl (fun _ => rfl) 8 .n trivial (fun k' x => by kernel_rfl)
def nat_Shr (k : Nat) (x0 : Ty.den T36) (x1 : Ty.den (.int .i64)) : Option (HL [T36]) :=
 (nat_cut k x0).bind fun r1 =>
 bif (decide (x1 < 1)) then
  if r1.1.length * 4 ≤ 140737488355328 then
   some (r1.1, ())
  else none
 else
  bif (decide (x1 ≥ (IntKind.i64.wrap (32 * (r1.1.length : Int))))) then
   some ([], ())
  else
   if (IntKind.i64.wrap ((r1.1.length : Int) - (IntKind.i64.wrap (Int.tdiv x1 32)))) = (IntKind.i64.wrap ((r1.1.length : Int) - (IntKind.i64.wrap (Int.tdiv x1 32)))) ∧ 0 ≤ (IntKind.i64.wrap ((r1.1.length : Int) - (IntKind.i64.wrap (Int.tdiv x1 32)))) ∧ Int.toNat (IntKind.i64.wrap ((r1.1.length : Int) - (IntKind.i64.wrap (Int.tdiv x1 32)))) * 4 ≤ 140737488355328 then
    (nat_Shr_l0 k k ((r1.1, (IntKind.i64.wrap (Int.tdiv x1 32)), (Int.tmod x1 32), (), ((List.replicate (Int.toNat (IntKind.i64.wrap ((r1.1.length : Int) - (IntKind.i64.wrap (Int.tdiv x1 32))))) (0 : Int)).length : Int), 0, ()), ((List.replicate (Int.toNat (IntKind.i64.wrap ((r1.1.length : Int) - (IntKind.i64.wrap (Int.tdiv x1 32))))) (0 : Int)), ()))).bind fun q8 =>
    Sum.elim (fun z9 =>
      (nat_cut k z9.2.1).bind fun r10 =>
      some (r10.1, ()))
     (fun q8' =>
      none) q8
   else none
theorem nat_Shr.ok (k : Nat) : SpecOK Tryz.prog G0 49 ⟨[T36, (.int .i64)], [T36], fun x => nat_Shr k x.1 x.2.1⟩ :=
 evF_sound (E := (e52 k)) (fn := Tryz.f49) (e52.ok k) (by kernel_rfl) (by kernel_rfl) (by kernel_rfl) 8 (.two .n (.two .n (.two .n (.two .n (.two .n (.two (.two .n (.two (.use (nat_Shr_l0_seg k)) .n)) (.two (.own 1 .n) .n))))))) ⟨trivial, ⟨trivial, ⟨trivial, ⟨trivial, ⟨trivial, ⟨⟨trivial, ⟨(nat_Shr_l0_seg.ok k), trivial⟩⟩, ⟨trivial, trivial⟩⟩⟩⟩⟩⟩⟩ (fun xs => by kernel_rfl)
def e53 (k : Nat) : Env := (e52 k).add 49 ⟨[T36, (.int .i64)], [T36], fun x => nat_Shr k x.1 x.2.1⟩
theorem e53.ok (k : Nat) : (e53 k).OK Tryz.prog := (e52.ok k).add (nat_Shr.ok k)
def dy_Make (k : Nat) (x0 : Ty.den T37) (x1 : Ty.den (.int .i64)) : Option (HL [T39]) :=
 (whole_Sign k x0).bind fun r1 =>
 bif (r1.1 == 0) then
  some (((false, []), 0), ())
 else
  (dy_within k x1).bind fun r2 =>
  bif (!r2.1) then
   some (((false, []), 0), ())
  else
   (dy_trailing k x0.2).bind fun r3 =>
   (dy_within k (IntKind.i64.wrap (x1 + r3.1))).bind fun r4 =>
   bif (!r4.1) then
    some (((false, []), 0), ())
   else
    (nat_Shr k x0.2 r3.1).bind fun r5 =>
    (whole_Make k x0.1 r5.1).bind fun r6 =>
    some ((r6.1, (IntKind.i64.wrap (x1 + r3.1))), ())
theorem dy_Make.ok (k : Nat) : SpecOK Tryz.prog G0 22 ⟨[T37, (.int .i64)], [T39], fun x => dy_Make k x.1 x.2.1⟩ :=
 evF_sound (E := (e53 k)) (fn := Tryz.f22) (e53.ok k) (by kernel_rfl) (by kernel_rfl) (by kernel_rfl) 8 .n trivial (fun xs => by kernel_rfl)
def e54 (k : Nat) : Env := (e53 k).add 22 ⟨[T37, (.int .i64)], [T39], fun x => dy_Make k x.1 x.2.1⟩
theorem e54.ok (k : Nat) : (e54 k).OK Tryz.prog := (e53.ok k).add (dy_Make.ok k)
def num_Exact (k : Nat) (x0 : Ty.den T23) : Option (HL [T39, .bool]) :=
 (num_May k x0).bind fun r1 =>
 bif (!r1.1) then
  some (((false, []), 0), false, ())
 else
  bif (x0.1 == 2) then
   some (((false, []), 0), false, ())
  else
   (whole_Make k x0.2.1 [(IntKind.u32.wrap x0.2.2.1), (IntKind.u32.wrap (Int.fdiv x0.2.2.1 (2 ^ min (Int.toNat 32) IntKind.u64.bits)))]).bind fun r2 =>
   (dy_Make k r2.1 x0.2.2.2).bind fun r3 =>
   some (r3.1, true, ())
theorem num_Exact.ok (k : Nat) : SpecOK Tryz.prog G0 8 ⟨[T23], [T39, .bool], fun x => num_Exact k x.1⟩ :=
 evF_sound (E := (e54 k)) (fn := Tryz.f8) (e54.ok k) (by kernel_rfl) (by kernel_rfl) (by kernel_rfl) 8 .n trivial (fun xs => by kernel_rfl)
def e55 (k : Nat) : Env := (e54 k).add 8 ⟨[T23], [T39, .bool], fun x => num_Exact k x.1⟩
theorem e55.ok (k : Nat) : (e55 k).OK Tryz.prog := (e54.ok k).add (num_Exact.ok k)
abbrev nat_Shl_l0_i : Mask := ⟨[(0, 5, (.v (.int .i64))), (0, 6, (.v (.int .i64))), (0, 7, (.k (.arr 35 0))), (0, 36, (.v T36)), (0, 37, (.v (.int .i64))), (0, 38, (.v (.int .i64)))], [(35, .arr 62 (.int .u32))], [], 0⟩
abbrev nat_Shl_l0_o : List Out := [⟨.exit 1, ⟨[(0, 7, (.k (.arr 35 0)))], [(35, .arr 62 (.int .u32))], [], 0⟩⟩]
def nat_Shl_l0 (k : Nat) : Nat → Mask.den nat_Shl_l0_i → Option (denS nat_Shl_l0_o)
 | 0, _ => none
 | m + 1, x =>
  bif (decide (x.1.2.2.2.2.2.1 < x.1.2.2.2.2.1)) then
   if 0 ≤ x.1.2.2.2.2.2.1 then (x.1.2.2.2.1[Int.toNat x.1.2.2.2.2.2.1]?).bind fun y2 =>
    if x.1.2.1 < 0 then none else
    if 0 ≤ (IntKind.i64.wrap (x.1.2.2.2.2.2.1 + x.1.1)) then (x.2.1[Int.toNat (IntKind.i64.wrap (x.1.2.2.2.2.2.1 + x.1.1))]?).bind fun _ =>
     (x.2.1[(Int.toNat (IntKind.i64.wrap (x.1.2.2.2.2.2.1 + x.1.1)))]?).bind fun y4 =>
     if 0 ≤ (IntKind.i64.wrap (x.1.2.2.2.2.2.1 + x.1.1)) then (x.2.1[Int.toNat (IntKind.i64.wrap (x.1.2.2.2.2.2.1 + x.1.1))]?).bind fun _ =>
      (x.2.1[(Int.toNat (IntKind.i64.wrap (x.1.2.2.2.2.2.1 + x.1.1)))]?).bind fun y6 =>
      if 0 ≤ (IntKind.i64.wrap ((IntKind.i64.wrap (x.1.2.2.2.2.2.1 + x.1.1)) + 1)) then ((x.2.1.set (Int.toNat (IntKind.i64.wrap (x.1.2.2.2.2.2.1 + x.1.1))) (IntKind.u32.wrap (BitVec.toNat (BitVec.ofInt IntKind.u32.bits y4 ||| BitVec.ofInt IntKind.u32.bits (IntKind.u32.wrap (IntKind.u64.wrap ((IntKind.u64.wrap y2) * 2 ^ min (Int.toNat x.1.2.1) IntKind.u64.bits)))))))[Int.toNat (IntKind.i64.wrap ((IntKind.i64.wrap (x.1.2.2.2.2.2.1 + x.1.1)) + 1))]?).bind fun _ =>
       ((x.2.1.set (Int.toNat (IntKind.i64.wrap (x.1.2.2.2.2.2.1 + x.1.1))) (IntKind.u32.wrap (BitVec.toNat (BitVec.ofInt IntKind.u32.bits y4 ||| BitVec.ofInt IntKind.u32.bits (IntKind.u32.wrap (IntKind.u64.wrap ((IntKind.u64.wrap y2) * 2 ^ min (Int.toNat x.1.2.1) IntKind.u64.bits)))))))[(Int.toNat (IntKind.i64.wrap ((IntKind.i64.wrap (x.1.2.2.2.2.2.1 + x.1.1)) + 1)))]?).bind fun y8 =>
       if 0 ≤ (IntKind.i64.wrap ((IntKind.i64.wrap (x.1.2.2.2.2.2.1 + x.1.1)) + 1)) then ((x.2.1.set (Int.toNat (IntKind.i64.wrap (x.1.2.2.2.2.2.1 + x.1.1))) (IntKind.u32.wrap (BitVec.toNat (BitVec.ofInt IntKind.u32.bits y4 ||| BitVec.ofInt IntKind.u32.bits (IntKind.u32.wrap (IntKind.u64.wrap ((IntKind.u64.wrap y2) * 2 ^ min (Int.toNat x.1.2.1) IntKind.u64.bits)))))))[Int.toNat (IntKind.i64.wrap ((IntKind.i64.wrap (x.1.2.2.2.2.2.1 + x.1.1)) + 1))]?).bind fun _ =>
        ((x.2.1.set (Int.toNat (IntKind.i64.wrap (x.1.2.2.2.2.2.1 + x.1.1))) (IntKind.u32.wrap (BitVec.toNat (BitVec.ofInt IntKind.u32.bits y4 ||| BitVec.ofInt IntKind.u32.bits (IntKind.u32.wrap (IntKind.u64.wrap ((IntKind.u64.wrap y2) * 2 ^ min (Int.toNat x.1.2.1) IntKind.u64.bits)))))))[(Int.toNat (IntKind.i64.wrap ((IntKind.i64.wrap (x.1.2.2.2.2.2.1 + x.1.1)) + 1)))]?).bind fun y10 =>
        nat_Shl_l0 k m ((x.1.1, x.1.2.1, (), x.1.2.2.2.1, x.1.2.2.2.2.1, (IntKind.i64.wrap (x.1.2.2.2.2.2.1 + 1)), ()), (((x.2.1.set (Int.toNat (IntKind.i64.wrap (x.1.2.2.2.2.2.1 + x.1.1))) (IntKind.u32.wrap (BitVec.toNat (BitVec.ofInt IntKind.u32.bits y4 ||| BitVec.ofInt IntKind.u32.bits (IntKind.u32.wrap (IntKind.u64.wrap ((IntKind.u64.wrap y2) * 2 ^ min (Int.toNat x.1.2.1) IntKind.u64.bits))))))).set (Int.toNat (IntKind.i64.wrap ((IntKind.i64.wrap (x.1.2.2.2.2.2.1 + x.1.1)) + 1))) (IntKind.u32.wrap (BitVec.toNat (BitVec.ofInt IntKind.u32.bits y8 ||| BitVec.ofInt IntKind.u32.bits (IntKind.u32.wrap (Int.fdiv (IntKind.u64.wrap ((IntKind.u64.wrap y2) * 2 ^ min (Int.toNat x.1.2.1) IntKind.u64.bits)) (2 ^ min (Int.toNat 32) IntKind.u64.bits))))))), ()))
       else none
      else none
     else none
    else none
   else none
  else
   some (Sum.inl (((), ()), (x.2.1, ())))
abbrev nat_Shl_l0_seg (k : Nat) : Seg := ⟨⟨0, 72, false, [], []⟩, 78, [.b, .s2, .s1, .s2, .s2, .s2, .s2, .s2], nat_Shl_l0_i, nat_Shl_l0_o, nat_Shl_l0 k k⟩
theorem nat_Shl_l0_seg.ok (k : Nat) : SegOK Tryz.prog (e55 k) (nat_Shl_l0_seg k) :=
 SegOK.loop (e55.ok k) (by kernel_rfl) (S := nat_Shl_l0_seg k) (c := atR (codeOf (e55 k) 78) [.l, .b, .s2, .s1, .s2, .s2, .s2, .s2, .s2]) (by kernel_rfl) (nat_Shl_l0 k) k rfl (fun _ => rfl) 8 .n trivial (fun k' x => by kernel_rfl)
def nat_Shl (k : Nat) (x0 : Ty.den T36) (x1 : Ty.den (.int .i64)) : Option (HL [T36]) :=
 (nat_cut k x0).bind fun r1 =>
 bif (decide (x1 < 1)) then
  if r1.1.length * 4 ≤ 140737488355328 then
   some (r1.1, ())
  else none
 else
  bif (decide (x1 > 16777216)) then
   some ([], ())
  else
   bif ((r1.1.length : Int) == 0) then
    some ([], ())
   else
    if (IntKind.i64.wrap ((IntKind.i64.wrap ((r1.1.length : Int) + (IntKind.i64.wrap (Int.tdiv x1 32)))) + 1)) = (IntKind.i64.wrap ((IntKind.i64.wrap ((r1.1.length : Int) + (IntKind.i64.wrap (Int.tdiv x1 32)))) + 1)) ∧ 0 ≤ (IntKind.i64.wrap ((IntKind.i64.wrap ((r1.1.length : Int) + (IntKind.i64.wrap (Int.tdiv x1 32)))) + 1)) ∧ Int.toNat (IntKind.i64.wrap ((IntKind.i64.wrap ((r1.1.length : Int) + (IntKind.i64.wrap (Int.tdiv x1 32)))) + 1)) * 4 ≤ 140737488355328 then
     (nat_Shl_l0 k k (((IntKind.i64.wrap (Int.tdiv x1 32)), (Int.tmod x1 32), (), r1.1, (r1.1.length : Int), 0, ()), ((List.replicate (Int.toNat (IntKind.i64.wrap ((IntKind.i64.wrap ((r1.1.length : Int) + (IntKind.i64.wrap (Int.tdiv x1 32)))) + 1))) (0 : Int)), ()))).bind fun q11 =>
     Sum.elim (fun z12 =>
       (nat_cut k z12.2.1).bind fun r13 =>
       some (r13.1, ()))
      (fun q11' =>
       none) q11
    else none
theorem nat_Shl.ok (k : Nat) : SpecOK Tryz.prog G0 78 ⟨[T36, (.int .i64)], [T36], fun x => nat_Shl k x.1 x.2.1⟩ :=
 evF_sound (E := (e55 k)) (fn := Tryz.f78) (e55.ok k) (by kernel_rfl) (by kernel_rfl) (by kernel_rfl) 8 (.two .n (.two .n (.two .n (.two .n (.two .n (.two (.two .n (.two (.use (nat_Shl_l0_seg k)) .n)) (.two (.own 1 .n) .n))))))) ⟨trivial, ⟨trivial, ⟨trivial, ⟨trivial, ⟨trivial, ⟨⟨trivial, ⟨(nat_Shl_l0_seg.ok k), trivial⟩⟩, ⟨trivial, trivial⟩⟩⟩⟩⟩⟩⟩ (fun xs => by kernel_rfl)
def e56 (k : Nat) : Env := (e55 k).add 78 ⟨[T36, (.int .i64)], [T36], fun x => nat_Shl k x.1 x.2.1⟩
theorem e56.ok (k : Nat) : (e56 k).OK Tryz.prog := (e55.ok k).add (nat_Shl.ok k)
def bits_Add32 (k : Nat) (x0 : Ty.den (.int .u32)) (x1 : Ty.den (.int .u32)) (x2 : Ty.den (.int .u32)) : Option (HL [(.int .u32), (.int .u32)]) :=
 some ((IntKind.u32.wrap (IntKind.u64.wrap ((IntKind.u64.wrap ((IntKind.u64.wrap x0) + (IntKind.u64.wrap x1))) + (IntKind.u64.wrap x2)))), (IntKind.u32.wrap (Int.fdiv (IntKind.u64.wrap ((IntKind.u64.wrap ((IntKind.u64.wrap x0) + (IntKind.u64.wrap x1))) + (IntKind.u64.wrap x2))) (2 ^ min (Int.toNat 32) IntKind.u64.bits))), ())
theorem bits_Add32.ok (k : Nat) : SpecOK Tryz.prog G0 103 ⟨[(.int .u32), (.int .u32), (.int .u32)], [(.int .u32), (.int .u32)], fun x => bits_Add32 k x.1 x.2.1 x.2.2.1⟩ :=
 evF_sound (E := (e56 k)) (fn := Tryz.f103) (e56.ok k) (by kernel_rfl) (by kernel_rfl) (by kernel_rfl) 8 .n trivial (fun xs => by kernel_rfl)
def e57 (k : Nat) : Env := (e56 k).add 103 ⟨[(.int .u32), (.int .u32), (.int .u32)], [(.int .u32), (.int .u32)], fun x => bits_Add32 k x.1 x.2.1 x.2.2.1⟩
theorem e57.ok (k : Nat) : (e57 k).OK Tryz.prog := (e56.ok k).add (bits_Add32.ok k)
abbrev nat_Add_l0_i : Mask := ⟨[(0, 0, (.v T36)), (0, 1, (.v T36)), (0, 5, (.k (.arr 19 0))), (0, 6, (.v (.int .u32))), (0, 21, (.v (.int .i64))), (0, 22, (.v (.int .i64)))], [(19, .arr 62 (.int .u32))], [], 0⟩
abbrev nat_Add_l0_o : List Out := [⟨.exit 0, ⟨[(0, 0, (.v T36)), (0, 5, (.k (.arr 19 0))), (0, 6, (.v (.int .u32)))], [(19, .arr 62 (.int .u32))], [], 0⟩⟩]
def nat_Add_l0 (k : Nat) : Nat → Mask.den nat_Add_l0_i → Option (denS nat_Add_l0_o)
 | 0, _ => none
 | m + 1, x =>
  bif (decide (x.1.2.2.2.2.2.1 < x.1.2.2.2.2.1)) then
   bif (decide (x.1.2.2.2.2.2.1 < (x.1.2.1.length : Int))) then
    if 0 ≤ x.1.2.2.2.2.2.1 then (x.1.2.1[Int.toNat x.1.2.2.2.2.2.1]?).bind fun y1 =>
     if 0 ≤ x.1.2.2.2.2.2.1 then (x.1.1[Int.toNat x.1.2.2.2.2.2.1]?).bind fun y2 =>
      (bits_Add32 k y2 y1 x.1.2.2.2.1).bind fun r3 =>
      if 0 ≤ x.1.2.2.2.2.2.1 then (x.2.1[Int.toNat x.1.2.2.2.2.2.1]?).bind fun _ =>
       (x.2.1[(Int.toNat x.1.2.2.2.2.2.1)]?).bind fun y5 =>
       nat_Add_l0 k m ((x.1.1, x.1.2.1, (), r3.2.1, x.1.2.2.2.2.1, (IntKind.i64.wrap (x.1.2.2.2.2.2.1 + 1)), ()), ((x.2.1.set (Int.toNat x.1.2.2.2.2.2.1) r3.1), ()))
      else none
     else none
    else none
   else
    if 0 ≤ x.1.2.2.2.2.2.1 then (x.1.1[Int.toNat x.1.2.2.2.2.2.1]?).bind fun y6 =>
     (bits_Add32 k y6 0 x.1.2.2.2.1).bind fun r7 =>
     if 0 ≤ x.1.2.2.2.2.2.1 then (x.2.1[Int.toNat x.1.2.2.2.2.2.1]?).bind fun _ =>
      (x.2.1[(Int.toNat x.1.2.2.2.2.2.1)]?).bind fun y9 =>
      nat_Add_l0 k m ((x.1.1, x.1.2.1, (), r7.2.1, x.1.2.2.2.2.1, (IntKind.i64.wrap (x.1.2.2.2.2.2.1 + 1)), ()), ((x.2.1.set (Int.toNat x.1.2.2.2.2.2.1) r7.1), ()))
     else none
    else none
  else
   some (Sum.inl ((x.1.1, (), x.1.2.2.2.1, ()), (x.2.1, ())))
abbrev nat_Add_l0_seg (k : Nat) : Seg := ⟨⟨0, 54, false, [], []⟩, 93, [.b, .s2, .s1, .s2, .s2, .s2, .s2], nat_Add_l0_i, nat_Add_l0_o, nat_Add_l0 k k⟩
theorem nat_Add_l0_seg.ok (k : Nat) : SegOK Tryz.prog (e57 k) (nat_Add_l0_seg k) :=
 SegOK.loop (e57.ok k) (by kernel_rfl) (S := nat_Add_l0_seg k) (c := atR (codeOf (e57 k) 93) [.l, .b, .s2, .s1, .s2, .s2, .s2, .s2]) (by kernel_rfl) (nat_Add_l0 k) k rfl (fun _ => rfl) 8 .n trivial (fun k' x => by kernel_rfl)
def nat_Add (k : Nat) (x0 : Ty.den T36) (x1 : Ty.den T36) : Option (HL [T36]) :=
 bif (decide ((x0.length : Int) < (x1.length : Int))) then
  if (IntKind.i64.wrap ((x1.length : Int) + 1)) = (IntKind.i64.wrap ((x1.length : Int) + 1)) ∧ 0 ≤ (IntKind.i64.wrap ((x1.length : Int) + 1)) ∧ Int.toNat (IntKind.i64.wrap ((x1.length : Int) + 1)) * 4 ≤ 140737488355328 then
   (nat_Add_l0 k k ((x1, x0, (), 0, (x1.length : Int), 0, ()), ((List.replicate (Int.toNat (IntKind.i64.wrap ((x1.length : Int) + 1))) (0 : Int)), ()))).bind fun q10 =>
   Sum.elim (fun z12 =>
     if 0 ≤ (z12.1.1.length : Int) then (z12.2.1[Int.toNat (z12.1.1.length : Int)]?).bind fun _ =>
      (z12.2.1[(Int.toNat (z12.1.1.length : Int))]?).bind fun y14 =>
      (nat_cut k (z12.2.1.set (Int.toNat (z12.1.1.length : Int)) z12.1.2.2.1)).bind fun r15 =>
      some (r15.1, ())
     else none)
    (fun q10' =>
     none) q10
  else none
 else
  if (IntKind.i64.wrap ((x0.length : Int) + 1)) = (IntKind.i64.wrap ((x0.length : Int) + 1)) ∧ 0 ≤ (IntKind.i64.wrap ((x0.length : Int) + 1)) ∧ Int.toNat (IntKind.i64.wrap ((x0.length : Int) + 1)) * 4 ≤ 140737488355328 then
   (nat_Add_l0 k k ((x0, x1, (), 0, (x0.length : Int), 0, ()), ((List.replicate (Int.toNat (IntKind.i64.wrap ((x0.length : Int) + 1))) (0 : Int)), ()))).bind fun q11 =>
   Sum.elim (fun z16 =>
     if 0 ≤ (z16.1.1.length : Int) then (z16.2.1[Int.toNat (z16.1.1.length : Int)]?).bind fun _ =>
      (z16.2.1[(Int.toNat (z16.1.1.length : Int))]?).bind fun y18 =>
      (nat_cut k (z16.2.1.set (Int.toNat (z16.1.1.length : Int)) z16.1.2.2.1)).bind fun r19 =>
      some (r19.1, ())
     else none)
    (fun q11' =>
     none) q11
  else none
theorem nat_Add.ok (k : Nat) : SpecOK Tryz.prog G0 93 ⟨[T36, T36], [T36], fun x => nat_Add k x.1 x.2.1⟩ :=
 evF_sound (E := (e57 k)) (fn := Tryz.f93) (e57.ok k) (by kernel_rfl) (by kernel_rfl) (by kernel_rfl) 8 (.two .n (.two .n (.two .n (.two .n (.two (.two .n (.two (.use (nat_Add_l0_seg k)) .n)) (.two .n (.two (.own 1 .n) .n))))))) ⟨trivial, ⟨trivial, ⟨trivial, ⟨trivial, ⟨⟨trivial, ⟨(nat_Add_l0_seg.ok k), trivial⟩⟩, ⟨trivial, ⟨trivial, trivial⟩⟩⟩⟩⟩⟩⟩ (fun xs => by kernel_rfl)
def e58 (k : Nat) : Env := (e57 k).add 93 ⟨[T36, T36], [T36], fun x => nat_Add k x.1 x.2.1⟩
theorem e58.ok (k : Nat) : (e58 k).OK Tryz.prog := (e57.ok k).add (nat_Add.ok k)
abbrev nat_Cmp_l0_i : Mask := ⟨[(0, 0, (.v T36)), (0, 1, (.v T36)), (0, 24, (.v (.int .i64))), (0, 25, (.v (.int .i64)))], [], [], 0⟩
abbrev nat_Cmp_l0_o : List Out := [⟨.ret, ⟨[(0, 4, (.v (.int .i64)))], [], [], 0⟩⟩, ⟨.exit 1, ⟨[], [], [], 0⟩⟩]
def nat_Cmp_l0 (k : Nat) : Nat → Mask.den nat_Cmp_l0_i → Option (denS nat_Cmp_l0_o)
 | 0, _ => none
 | m + 1, x =>
  bif (decide (x.1.2.2.2.1 < x.1.2.2.1)) then
   if 0 ≤ (IntKind.i64.wrap ((IntKind.i64.wrap ((x.1.1.length : Int) - 1)) - x.1.2.2.2.1)) then (x.1.1[Int.toNat (IntKind.i64.wrap ((IntKind.i64.wrap ((x.1.1.length : Int) - 1)) - x.1.2.2.2.1))]?).bind fun y3 =>
    if 0 ≤ (IntKind.i64.wrap ((IntKind.i64.wrap ((x.1.1.length : Int) - 1)) - x.1.2.2.2.1)) then (x.1.2.1[Int.toNat (IntKind.i64.wrap ((IntKind.i64.wrap ((x.1.1.length : Int) - 1)) - x.1.2.2.2.1))]?).bind fun y4 =>
     bif (decide (y3 < y4)) then
      some (Sum.inl (((-1), ()), ()))
     else
      if 0 ≤ (IntKind.i64.wrap ((IntKind.i64.wrap ((x.1.1.length : Int) - 1)) - x.1.2.2.2.1)) then (x.1.1[Int.toNat (IntKind.i64.wrap ((IntKind.i64.wrap ((x.1.1.length : Int) - 1)) - x.1.2.2.2.1))]?).bind fun y5 =>
       if 0 ≤ (IntKind.i64.wrap ((IntKind.i64.wrap ((x.1.1.length : Int) - 1)) - x.1.2.2.2.1)) then (x.1.2.1[Int.toNat (IntKind.i64.wrap ((IntKind.i64.wrap ((x.1.1.length : Int) - 1)) - x.1.2.2.2.1))]?).bind fun y6 =>
        bif (decide (y5 > y6)) then
         some (Sum.inl ((1, ()), ()))
        else
         nat_Cmp_l0 k m ((x.1.1, x.1.2.1, x.1.2.2.1, (IntKind.i64.wrap (x.1.2.2.2.1 + 1)), ()), ())
       else none
      else none
    else none
   else none
  else
   some (Sum.inr (Sum.inl ((), ())))
abbrev nat_Cmp_l0_seg (k : Nat) : Seg := ⟨⟨0, 54, false, [], []⟩, 104, [.b, .s2, .s1, .s2, .s2, .s2], nat_Cmp_l0_i, nat_Cmp_l0_o, nat_Cmp_l0 k k⟩
theorem nat_Cmp_l0_seg.ok (k : Nat) : SegOK Tryz.prog (e58 k) (nat_Cmp_l0_seg k) :=
 SegOK.loop (e58.ok k) (by kernel_rfl) (S := nat_Cmp_l0_seg k) (c := atR (codeOf (e58 k) 104) [.l, .b, .s2, .s1, .s2, .s2, .s2]) (by kernel_rfl) (nat_Cmp_l0 k) k rfl (fun _ => rfl) 8 .n trivial (fun k' x => by kernel_rfl)
def nat_Cmp (k : Nat) (x0 : Ty.den T36) (x1 : Ty.den T36) : Option (HL [(.int .i64)]) :=
 (nat_cut k x0).bind fun r1 =>
 (nat_cut k x1).bind fun r2 =>
 bif (decide ((r1.1.length : Int) < (r2.1.length : Int))) then
  some ((-1), ())
 else
  bif (decide ((r1.1.length : Int) > (r2.1.length : Int))) then
   some (1, ())
  else
   (nat_Cmp_l0 k k ((r1.1, r2.1, (r1.1.length : Int), 0, ()), ())).bind fun q7 =>
   Sum.elim (fun z8 =>
     some (z8.1.1, ()))
    (fun q7' =>
     Sum.elim (fun z9 =>
       some (0, ()))
      (fun q7'' =>
       none) q7') q7
theorem nat_Cmp.ok (k : Nat) : SpecOK Tryz.prog G0 104 ⟨[T36, T36], [(.int .i64)], fun x => nat_Cmp k x.1 x.2.1⟩ :=
 evF_sound (E := (e58 k)) (fn := Tryz.f104) (e58.ok k) (by kernel_rfl) (by kernel_rfl) (by kernel_rfl) 8 (.two .n (.two .n (.two .n (.two (.two .n (.two (.use (nat_Cmp_l0_seg k)) .n)) .n)))) ⟨trivial, ⟨trivial, ⟨trivial, ⟨⟨trivial, ⟨(nat_Cmp_l0_seg.ok k), trivial⟩⟩, trivial⟩⟩⟩⟩ (fun xs => by kernel_rfl)
def e59 (k : Nat) : Env := (e58 k).add 104 ⟨[T36, T36], [(.int .i64)], fun x => nat_Cmp k x.1 x.2.1⟩
theorem e59.ok (k : Nat) : (e59 k).OK Tryz.prog := (e58.ok k).add (nat_Cmp.ok k)
def bits_Sub32 (k : Nat) (x0 : Ty.den (.int .u32)) (x1 : Ty.den (.int .u32)) (x2 : Ty.den (.int .u32)) : Option (HL [(.int .u32), (.int .u32)]) :=
 some ((IntKind.u32.wrap ((IntKind.u32.wrap (x0 - x1)) - x2)), (Int.fdiv (IntKind.u32.wrap (BitVec.toNat (BitVec.ofInt IntKind.u32.bits (IntKind.u32.wrap (BitVec.toNat (BitVec.ofInt IntKind.u32.bits (IntKind.u32.wrap (BitVec.toNat (BitVec.ofInt IntKind.u32.bits (if IntKind.u32.signed then -1 else IntKind.u32.max) ^^^ BitVec.ofInt IntKind.u32.bits x0))) &&& BitVec.ofInt IntKind.u32.bits x1))) ||| BitVec.ofInt IntKind.u32.bits (IntKind.u32.wrap (BitVec.toNat (BitVec.ofInt IntKind.u32.bits (IntKind.u32.wrap (BitVec.toNat (BitVec.ofInt IntKind.u32.bits (if IntKind.u32.signed then -1 else IntKind.u32.max) ^^^ BitVec.ofInt IntKind.u32.bits (IntKind.u32.wrap (BitVec.toNat (BitVec.ofInt IntKind.u32.bits x0 ^^^ BitVec.ofInt IntKind.u32.bits x1)))))) &&& BitVec.ofInt IntKind.u32.bits (IntKind.u32.wrap ((IntKind.u32.wrap (x0 - x1)) - x2)))))))) (2 ^ min (Int.toNat 31) IntKind.u32.bits)), ())
theorem bits_Sub32.ok (k : Nat) : SpecOK Tryz.prog G0 105 ⟨[(.int .u32), (.int .u32), (.int .u32)], [(.int .u32), (.int .u32)], fun x => bits_Sub32 k x.1 x.2.1 x.2.2.1⟩ :=
 evF_sound (E := (e59 k)) (fn := Tryz.f105) (e59.ok k) (by kernel_rfl) (by kernel_rfl) (by kernel_rfl) 8 .n trivial (fun xs => by kernel_rfl)
def e60 (k : Nat) : Env := (e59 k).add 105 ⟨[(.int .u32), (.int .u32), (.int .u32)], [(.int .u32), (.int .u32)], fun x => bits_Sub32 k x.1 x.2.1 x.2.2.1⟩
theorem e60.ok (k : Nat) : (e60 k).OK Tryz.prog := (e59.ok k).add (bits_Sub32.ok k)
abbrev nat_Sub_l0_i : Mask := ⟨[(0, 0, (.v T36)), (0, 1, (.v T36)), (0, 6, (.k (.arr 20 0))), (0, 7, (.v (.int .u32))), (0, 22, (.v (.int .i64))), (0, 23, (.v (.int .i64)))], [(20, .arr 62 (.int .u32))], [], 0⟩
abbrev nat_Sub_l0_o : List Out := [⟨.exit 0, ⟨[(0, 6, (.k (.arr 20 0)))], [(20, .arr 62 (.int .u32))], [], 0⟩⟩]
def nat_Sub_l0 (k : Nat) : Nat → Mask.den nat_Sub_l0_i → Option (denS nat_Sub_l0_o)
 | 0, _ => none
 | m + 1, x =>
  bif (decide (x.1.2.2.2.2.2.1 < x.1.2.2.2.2.1)) then
   bif (decide (x.1.2.2.2.2.2.1 < (x.1.2.1.length : Int))) then
    if 0 ≤ x.1.2.2.2.2.2.1 then (x.1.2.1[Int.toNat x.1.2.2.2.2.2.1]?).bind fun y4 =>
     if 0 ≤ x.1.2.2.2.2.2.1 then (x.1.1[Int.toNat x.1.2.2.2.2.2.1]?).bind fun y5 =>
      (bits_Sub32 k y5 y4 x.1.2.2.2.1).bind fun r6 =>
      if 0 ≤ x.1.2.2.2.2.2.1 then (x.2.1[Int.toNat x.1.2.2.2.2.2.1]?).bind fun _ =>
       (x.2.1[(Int.toNat x.1.2.2.2.2.2.1)]?).bind fun y8 =>
       nat_Sub_l0 k m ((x.1.1, x.1.2.1, (), r6.2.1, x.1.2.2.2.2.1, (IntKind.i64.wrap (x.1.2.2.2.2.2.1 + 1)), ()), ((x.2.1.set (Int.toNat x.1.2.2.2.2.2.1) r6.1), ()))
      else none
     else none
    else none
   else
    if 0 ≤ x.1.2.2.2.2.2.1 then (x.1.1[Int.toNat x.1.2.2.2.2.2.1]?).bind fun y9 =>
     (bits_Sub32 k y9 0 x.1.2.2.2.1).bind fun r10 =>
     if 0 ≤ x.1.2.2.2.2.2.1 then (x.2.1[Int.toNat x.1.2.2.2.2.2.1]?).bind fun _ =>
      (x.2.1[(Int.toNat x.1.2.2.2.2.2.1)]?).bind fun y12 =>
      nat_Sub_l0 k m ((x.1.1, x.1.2.1, (), r10.2.1, x.1.2.2.2.2.1, (IntKind.i64.wrap (x.1.2.2.2.2.2.1 + 1)), ()), ((x.2.1.set (Int.toNat x.1.2.2.2.2.2.1) r10.1), ()))
     else none
    else none
  else
   some (Sum.inl (((), ()), (x.2.1, ())))
abbrev nat_Sub_l0_seg (k : Nat) : Seg := ⟨⟨0, 50, false, [], []⟩, 94, [.b, .s2, .s1, .s2, .s2, .s2, .s2, .s2], nat_Sub_l0_i, nat_Sub_l0_o, nat_Sub_l0 k k⟩
theorem nat_Sub_l0_seg.ok (k : Nat) : SegOK Tryz.prog (e60 k) (nat_Sub_l0_seg k) :=
 SegOK.loop (e60.ok k) (by kernel_rfl) (S := nat_Sub_l0_seg k) (c := atR (codeOf (e60 k) 94) [.l, .b, .s2, .s1, .s2, .s2, .s2, .s2, .s2]) (by kernel_rfl) (nat_Sub_l0 k) k rfl (fun _ => rfl) 8 .n trivial (fun k' x => by kernel_rfl)
def nat_Sub (k : Nat) (x0 : Ty.den T36) (x1 : Ty.den T36) : Option (HL [T36, .bool]) :=
 (nat_cut k x0).bind fun r1 =>
 (nat_cut k x1).bind fun r2 =>
 (nat_Cmp k r1.1 r2.1).bind fun r3 =>
 bif (decide (r3.1 < 0)) then
  some ([], false, ())
 else
  if (r1.1.length : Int) = (r1.1.length : Int) ∧ 0 ≤ (r1.1.length : Int) ∧ Int.toNat (r1.1.length : Int) * 4 ≤ 140737488355328 then
   (nat_Sub_l0 k k ((r1.1, r2.1, (), 0, (r1.1.length : Int), 0, ()), ((List.replicate (Int.toNat (r1.1.length : Int)) (0 : Int)), ()))).bind fun q13 =>
   Sum.elim (fun z14 =>
     (nat_cut k z14.2.1).bind fun r15 =>
     some (r15.1, true, ()))
    (fun q13' =>
     none) q13
  else none
theorem nat_Sub.ok (k : Nat) : SpecOK Tryz.prog G0 94 ⟨[T36, T36], [T36, .bool], fun x => nat_Sub k x.1 x.2.1⟩ :=
 evF_sound (E := (e60 k)) (fn := Tryz.f94) (e60.ok k) (by kernel_rfl) (by kernel_rfl) (by kernel_rfl) 8 (.two .n (.two .n (.two .n (.two .n (.two .n (.two (.two .n (.two (.use (nat_Sub_l0_seg k)) .n)) (.two (.own 1 .n) .n))))))) ⟨trivial, ⟨trivial, ⟨trivial, ⟨trivial, ⟨trivial, ⟨⟨trivial, ⟨(nat_Sub_l0_seg.ok k), trivial⟩⟩, ⟨trivial, trivial⟩⟩⟩⟩⟩⟩⟩ (fun xs => by kernel_rfl)
def e61 (k : Nat) : Env := (e60 k).add 94 ⟨[T36, T36], [T36, .bool], fun x => nat_Sub k x.1 x.2.1⟩
theorem e61.ok (k : Nat) : (e61 k).OK Tryz.prog := (e60.ok k).add (nat_Sub.ok k)
def whole_Add (k : Nat) (x0 : Ty.den T37) (x1 : Ty.den T37) : Option (HL [T37]) :=
 bif (x0.1 == x1.1) then
  (nat_Add k x0.2 x1.2).bind fun r1 =>
  (whole_Make k x0.1 r1.1).bind fun r2 =>
  some (r2.1, ())
 else
  (nat_Sub k x0.2 x1.2).bind fun r3 =>
  bif r3.2.1 then
   (whole_Make k x0.1 r3.1).bind fun r4 =>
   some (r4.1, ())
  else
   (nat_Sub k x1.2 x0.2).bind fun r5 =>
   (whole_Make k x1.1 r5.1).bind fun r6 =>
   some (r6.1, ())
theorem whole_Add.ok (k : Nat) : SpecOK Tryz.prog G0 79 ⟨[T37, T37], [T37], fun x => whole_Add k x.1 x.2.1⟩ :=
 evF_sound (E := (e61 k)) (fn := Tryz.f79) (e61.ok k) (by kernel_rfl) (by kernel_rfl) (by kernel_rfl) 8 .n trivial (fun xs => by kernel_rfl)
def e62 (k : Nat) : Env := (e61 k).add 79 ⟨[T37, T37], [T37], fun x => whole_Add k x.1 x.2.1⟩
theorem e62.ok (k : Nat) : (e62 k).OK Tryz.prog := (e61.ok k).add (whole_Add.ok k)
def dy_add (k : Nat) (x0 : Ty.den T39) (x1 : Ty.den T39) : Option (HL [T39]) :=
 bif ((x0.1.2.length : Int) == 0) then
  some (x1, ())
 else
  bif ((x1.1.2.length : Int) == 0) then
   some (x0, ())
  else
   bif (decide (x0.2 > x1.2)) then
    (nat_Shl k x0.1.2 (IntKind.i64.wrap (x0.2 - x1.2))).bind fun r1 =>
    (whole_Add k x1.1 (x0.1.1, r1.1)).bind fun r2 =>
    (dy_Make k r2.1 x1.2).bind fun r3 =>
    some (r3.1, ())
   else
    (nat_Shl k x1.1.2 (IntKind.i64.wrap (x1.2 - x0.2))).bind fun r4 =>
    (whole_Add k x0.1 (x1.1.1, r4.1)).bind fun r5 =>
    (dy_Make k r5.1 x0.2).bind fun r6 =>
    some (r6.1, ())
theorem dy_add.ok (k : Nat) : SpecOK Tryz.prog G0 52 ⟨[T39, T39], [T39], fun x => dy_add k x.1 x.2.1⟩ :=
 evF_sound (E := (e62 k)) (fn := Tryz.f52) (e62.ok k) (by kernel_rfl) (by kernel_rfl) (by kernel_rfl) 8 .n trivial (fun xs => by kernel_rfl)
def e63 (k : Nat) : Env := (e62 k).add 52 ⟨[T39, T39], [T39], fun x => dy_add k x.1 x.2.1⟩
theorem e63.ok (k : Nat) : (e63 k).OK Tryz.prog := (e62.ok k).add (dy_add.ok k)
def whole_May (k : Nat) (x0 : Ty.den T37) : Option (HL [.bool]) :=
 bif ((x0.2.length : Int) == 0) then
  some ((!x0.1), ())
 else
  if 0 ≤ (IntKind.i64.wrap ((x0.2.length : Int) - 1)) then (x0.2[Int.toNat (IntKind.i64.wrap ((x0.2.length : Int) - 1))]?).bind fun y1 =>
   some ((y1 != 0), ())
  else none
theorem whole_May.ok (k : Nat) : SpecOK Tryz.prog G0 95 ⟨[T37], [.bool], fun x => whole_May k x.1⟩ :=
 evF_sound (E := (e63 k)) (fn := Tryz.f95) (e63.ok k) (by kernel_rfl) (by kernel_rfl) (by kernel_rfl) 8 .n trivial (fun xs => by kernel_rfl)
def e64 (k : Nat) : Env := (e63 k).add 95 ⟨[T37], [.bool], fun x => whole_May k x.1⟩
theorem e64.ok (k : Nat) : (e64 k).OK Tryz.prog := (e63.ok k).add (whole_May.ok k)
def dy_May (k : Nat) (x0 : Ty.den T39) : Option (HL [.bool]) :=
 bif ((x0.1.2.length : Int) == 0) then
  bif (!x0.1.1) then
   some ((x0.2 == 0), ())
  else
   some (false, ())
 else
  (whole_May k x0.1).bind fun r1 =>
  bif r1.1 then
   if 0 ≤ 0 then (x0.1.2[Int.toNat 0]?).bind fun y2 =>
    bif ((IntKind.u32.wrap (BitVec.toNat (BitVec.ofInt IntKind.u32.bits y2 &&& BitVec.ofInt IntKind.u32.bits 1))) == 1) then
     (dy_within k x0.2).bind fun r3 =>
     some (r3.1, ())
    else
     some (false, ())
   else none
  else
   some (false, ())
theorem dy_May.ok (k : Nat) : SpecOK Tryz.prog G0 80 ⟨[T39], [.bool], fun x => dy_May k x.1⟩ :=
 evF_sound (E := (e64 k)) (fn := Tryz.f80) (e64.ok k) (by kernel_rfl) (by kernel_rfl) (by kernel_rfl) 8 .n trivial (fun xs => by kernel_rfl)
def e65 (k : Nat) : Env := (e64 k).add 80 ⟨[T39], [.bool], fun x => dy_May k x.1⟩
theorem e65.ok (k : Nat) : (e65 k).OK Tryz.prog := (e64.ok k).add (dy_May.ok k)
def dy_fair (k : Nat) (x0 : Ty.den T39) : Option (HL [T39]) :=
 (dy_May k x0).bind fun r1 =>
 bif r1.1 then
  some (x0, ())
 else
  (dy_Make k x0.1 x0.2).bind fun r2 =>
  some (r2.1, ())
theorem dy_fair.ok (k : Nat) : SpecOK Tryz.prog G0 53 ⟨[T39], [T39], fun x => dy_fair k x.1⟩ :=
 evF_sound (E := (e65 k)) (fn := Tryz.f53) (e65.ok k) (by kernel_rfl) (by kernel_rfl) (by kernel_rfl) 8 .n trivial (fun xs => by kernel_rfl)
def e66 (k : Nat) : Env := (e65 k).add 53 ⟨[T39], [T39], fun x => dy_fair k x.1⟩
theorem e66.ok (k : Nat) : (e66 k).OK Tryz.prog := (e65.ok k).add (dy_fair.ok k)
def dy_own (k : Nat) (x0 : Ty.den T39) : Option (HL [T39]) :=
 (dy_Make k x0.1 x0.2).bind fun r1 =>
 some (r1.1, ())
theorem dy_own.ok (k : Nat) : SpecOK Tryz.prog G0 54 ⟨[T39], [T39], fun x => dy_own k x.1⟩ :=
 evF_sound (E := (e66 k)) (fn := Tryz.f54) (e66.ok k) (by kernel_rfl) (by kernel_rfl) (by kernel_rfl) 8 .n trivial (fun xs => by kernel_rfl)
def e67 (k : Nat) : Env := (e66 k).add 54 ⟨[T39], [T39], fun x => dy_own k x.1⟩
theorem e67.ok (k : Nat) : (e67 k).OK Tryz.prog := (e66.ok k).add (dy_own.ok k)
abbrev dy_Add_l0_i : Mask := ⟨[(0, 2, (.k (.ptr 2 0 0))), (0, 3, (.k (.ptr 3 0 0))), (0, 6, (.v T94)), (0, 7, (.v (.int .i64))), (0, 8, (.v (.int .i64)))], [(2, .cells (.pr (.pr (.v .bool) (.v T36)) (.v (.int .i64)))), (3, .cells (.v T39))], [], 0⟩
abbrev dy_Add_l0_o : List Out := [⟨.exit 0, ⟨[(0, 2, (.k (.ptr 2 0 0))), (0, 3, (.k (.ptr 3 0 0)))], [(2, .cells (.pr (.pr (.v .bool) (.v T36)) (.v (.int .i64)))), (3, .cells (.v T39))], [], 0⟩⟩]
def dy_Add_l0 (k : Nat) : Nat → Mask.den dy_Add_l0_i → Option (denS dy_Add_l0_o)
 | 0, _ => none
 | m + 1, x =>
  bif (decide (x.1.2.2.2.2.1 < x.1.2.2.2.1)) then
   if 0 ≤ x.1.2.2.2.2.1 then (x.1.2.2.1[Int.toNat x.1.2.2.2.2.1]?).bind fun y4 =>
    (dy_fair k y4).bind fun r5 =>
    (dy_add k x.2.2.1 r5.1).bind fun r6 =>
    dy_Add_l0 k m (((), (), x.1.2.2.1, x.1.2.2.2.1, (IntKind.i64.wrap (x.1.2.2.2.2.1 + 1)), ()), (((x.2.1.1.1, x.2.1.1.2), x.2.1.2), r6.1, ()))
   else none
  else
   some (Sum.inl (((), (), ()), (((x.2.1.1.1, x.2.1.1.2), x.2.1.2), x.2.2.1, ())))
abbrev dy_Add_l0_seg (k : Nat) : Seg := ⟨⟨0, 19, false, [], []⟩, 25, [.b, .s2, .s1, .s2, .s2], dy_Add_l0_i, dy_Add_l0_o, dy_Add_l0 k k⟩
theorem dy_Add_l0_seg.ok (k : Nat) : SegOK Tryz.prog (e67 k) (dy_Add_l0_seg k) :=
 SegOK.loop (e67.ok k) (by kernel_rfl) (S := dy_Add_l0_seg k) (c := atR (codeOf (e67 k) 25) [.l, .b, .s2, .s1, .s2, .s2]) (by kernel_rfl) (dy_Add_l0 k) k rfl (fun _ => rfl) 8 .n trivial (fun k' x => by kernel_rfl)
def dy_Add (k : Nat) (x0 : Ty.den T94) : Option (HL [T39]) :=
 (dy_Add_l0 k k (((), (), x0, (x0.length : Int), 0, ()), (((false, []), 0), ((false, []), 0), ()))).bind fun q7 =>
 Sum.elim (fun z8 =>
   (dy_own k z8.2.2.1).bind fun r9 =>
   some (r9.1, ()))
  (fun q7' =>
   none) q7
theorem dy_Add.ok (k : Nat) : SpecOK Tryz.prog G0 25 ⟨[T94], [T39], fun x => dy_Add k x.1⟩ :=
 evF_sound (E := (e67 k)) (fn := Tryz.f25) (e67.ok k) (by kernel_rfl) (by kernel_rfl) (by kernel_rfl) 8 (.two .n (.two .n (.two (.two .n (.two (.use (dy_Add_l0_seg k)) .n)) .n))) ⟨trivial, ⟨trivial, ⟨⟨trivial, ⟨(dy_Add_l0_seg.ok k), trivial⟩⟩, trivial⟩⟩⟩ (fun xs => by kernel_rfl)
def e68 (k : Nat) : Env := (e67 k).add 25 ⟨[T94], [T39], fun x => dy_Add k x.1⟩
theorem e68.ok (k : Nat) : (e68 k).OK Tryz.prog := (e67.ok k).add (dy_Add.ok k)
def whole_Neg (k : Nat) (x0 : Ty.den T37) : Option (HL [T37]) :=
 (whole_Make k (!x0.1) x0.2).bind fun r1 =>
 some (r1.1, ())
theorem whole_Neg.ok (k : Nat) : SpecOK Tryz.prog G0 56 ⟨[T37], [T37], fun x => whole_Neg k x.1⟩ :=
 evF_sound (E := (e68 k)) (fn := Tryz.f56) (e68.ok k) (by kernel_rfl) (by kernel_rfl) (by kernel_rfl) 8 .n trivial (fun xs => by kernel_rfl)
def e69 (k : Nat) : Env := (e68 k).add 56 ⟨[T37], [T37], fun x => whole_Neg k x.1⟩
theorem e69.ok (k : Nat) : (e69 k).OK Tryz.prog := (e68.ok k).add (whole_Neg.ok k)
def dy_Neg (k : Nat) (x0 : Ty.den T39) : Option (HL [T39]) :=
 (whole_Neg k x0.1).bind fun r1 =>
 (dy_Make k r1.1 x0.2).bind fun r2 =>
 some (r2.1, ())
theorem dy_Neg.ok (k : Nat) : SpecOK Tryz.prog G0 27 ⟨[T39], [T39], fun x => dy_Neg k x.1⟩ :=
 evF_sound (E := (e69 k)) (fn := Tryz.f27) (e69.ok k) (by kernel_rfl) (by kernel_rfl) (by kernel_rfl) 8 .n trivial (fun xs => by kernel_rfl)
def e70 (k : Nat) : Env := (e69 k).add 27 ⟨[T39], [T39], fun x => dy_Neg k x.1⟩
theorem e70.ok (k : Nat) : (e70 k).OK Tryz.prog := (e69.ok k).add (dy_Neg.ok k)
def dy_Sub (k : Nat) (x0 : Ty.den T39) (x1 : Ty.den T39) : Option (HL [T39]) :=
 (dy_Neg k x1).bind fun r1 =>
 (dy_Add k [x0, r1.1]).bind fun r2 =>
 some (r2.1, ())
theorem dy_Sub.ok (k : Nat) : SpecOK Tryz.prog G0 10 ⟨[T39, T39], [T39], fun x => dy_Sub k x.1 x.2.1⟩ :=
 evF_sound (E := (e70 k)) (fn := Tryz.f10) (e70.ok k) (by kernel_rfl) (by kernel_rfl) (by kernel_rfl) 8 .n trivial (fun xs => by kernel_rfl)
def e71 (k : Nat) : Env := (e70 k).add 10 ⟨[T39, T39], [T39], fun x => dy_Sub k x.1 x.2.1⟩
theorem e71.ok (k : Nat) : (e71 k).OK Tryz.prog := (e70.ok k).add (dy_Sub.ok k)
def dy_Sign (k : Nat) (x0 : Ty.den T39) : Option (HL [(.int .i64)]) :=
 (dy_fair k x0).bind fun r1 =>
 (whole_Sign k r1.1.1).bind fun r2 =>
 some (r2.1, ())
theorem dy_Sign.ok (k : Nat) : SpecOK Tryz.prog G0 51 ⟨[T39], [(.int .i64)], fun x => dy_Sign k x.1⟩ :=
 evF_sound (E := (e71 k)) (fn := Tryz.f51) (e71.ok k) (by kernel_rfl) (by kernel_rfl) (by kernel_rfl) 8 .n trivial (fun xs => by kernel_rfl)
def e72 (k : Nat) : Env := (e71 k).add 51 ⟨[T39], [(.int .i64)], fun x => dy_Sign k x.1⟩
theorem e72.ok (k : Nat) : (e72 k).OK Tryz.prog := (e71.ok k).add (dy_Sign.ok k)
def dy_Cmp (k : Nat) (x0 : Ty.den T39) (x1 : Ty.den T39) : Option (HL [(.int .i64)]) :=
 (dy_Sub k x0 x1).bind fun r1 =>
 (dy_Sign k r1.1).bind fun r2 =>
 some (r2.1, ())
theorem dy_Cmp.ok (k : Nat) : SpecOK Tryz.prog G0 24 ⟨[T39, T39], [(.int .i64)], fun x => dy_Cmp k x.1 x.2.1⟩ :=
 evF_sound (E := (e72 k)) (fn := Tryz.f24) (e72.ok k) (by kernel_rfl) (by kernel_rfl) (by kernel_rfl) 8 .n trivial (fun xs => by kernel_rfl)
def e73 (k : Nat) : Env := (e72 k).add 24 ⟨[T39, T39], [(.int .i64)], fun x => dy_Cmp k x.1 x.2.1⟩
theorem e73.ok (k : Nat) : (e73 k).OK Tryz.prog := (e72.ok k).add (dy_Cmp.ok k)
abbrev nat_Mul_l1_i : Mask := ⟨[(0, 1, (.v T36)), (0, 5, (.k (.arr 17 0))), (0, 6, (.v (.int .i64))), (0, 7, (.v (.int .u32))), (0, 8, (.v (.int .u64))), (0, 18, (.v T36)), (0, 19, (.v (.int .i64))), (0, 20, (.v (.int .i64))), (0, 25, (.v T36)), (0, 26, (.v (.int .i64))), (0, 27, (.v (.int .i64)))], [(17, .arr 62 (.int .u32))], [], 0⟩
abbrev nat_Mul_l1_o : List Out := [⟨.exit 2, ⟨[(0, 1, (.v T36)), (0, 5, (.k (.arr 17 0))), (0, 6, (.v (.int .i64))), (0, 8, (.v (.int .u64))), (0, 18, (.v T36)), (0, 19, (.v (.int .i64))), (0, 20, (.v (.int .i64)))], [(17, .arr 62 (.int .u32))], [], 0⟩⟩]
def nat_Mul_l1 (k : Nat) : Nat → Mask.den nat_Mul_l1_i → Option (denS nat_Mul_l1_o)
 | 0, _ => none
 | m + 1, x =>
  bif (decide (x.1.2.2.2.2.2.2.2.2.2.2.1 < x.1.2.2.2.2.2.2.2.2.2.1)) then
   if 0 ≤ x.1.2.2.2.2.2.2.2.2.2.2.1 then (x.1.2.2.2.2.2.2.2.2.1[Int.toNat x.1.2.2.2.2.2.2.2.2.2.2.1]?).bind fun y2 =>
    if 0 ≤ (IntKind.i64.wrap (x.1.2.2.1 + x.1.2.2.2.2.2.2.2.2.2.2.1)) then (x.2.1[Int.toNat (IntKind.i64.wrap (x.1.2.2.1 + x.1.2.2.2.2.2.2.2.2.2.2.1))]?).bind fun _ =>
     (x.2.1[(Int.toNat (IntKind.i64.wrap (x.1.2.2.1 + x.1.2.2.2.2.2.2.2.2.2.2.1)))]?).bind fun y4 =>
     if 0 ≤ (IntKind.i64.wrap (x.1.2.2.1 + x.1.2.2.2.2.2.2.2.2.2.2.1)) then (x.2.1[Int.toNat (IntKind.i64.wrap (x.1.2.2.1 + x.1.2.2.2.2.2.2.2.2.2.2.1))]?).bind fun _ =>
      (x.2.1[(Int.toNat (IntKind.i64.wrap (x.1.2.2.1 + x.1.2.2.2.2.2.2.2.2.2.2.1)))]?).bind fun y6 =>
      nat_Mul_l1 k m ((x.1.1, (), x.1.2.2.1, x.1.2.2.2.1, (Int.fdiv (IntKind.u64.wrap ((IntKind.u64.wrap ((IntKind.u64.wrap ((IntKind.u64.wrap x.1.2.2.2.1) * (IntKind.u64.wrap y2))) + (IntKind.u64.wrap y4))) + x.1.2.2.2.2.1)) (2 ^ min (Int.toNat 32) IntKind.u64.bits)), x.1.2.2.2.2.2.1, x.1.2.2.2.2.2.2.1, x.1.2.2.2.2.2.2.2.1, x.1.2.2.2.2.2.2.2.2.1, x.1.2.2.2.2.2.2.2.2.2.1, (IntKind.i64.wrap (x.1.2.2.2.2.2.2.2.2.2.2.1 + 1)), ()), ((x.2.1.set (Int.toNat (IntKind.i64.wrap (x.1.2.2.1 + x.1.2.2.2.2.2.2.2.2.2.2.1))) (IntKind.u32.wrap (IntKind.u64.wrap ((IntKind.u64.wrap ((IntKind.u64.wrap ((IntKind.u64.wrap x.1.2.2.2.1) * (IntKind.u64.wrap y2))) + (IntKind.u64.wrap y4))) + x.1.2.2.2.2.1)))), ()))
     else none
    else none
   else none
  else
   some (Sum.inl ((x.1.1, (), x.1.2.2.1, x.1.2.2.2.2.1, x.1.2.2.2.2.2.1, x.1.2.2.2.2.2.2.1, x.1.2.2.2.2.2.2.2.1, ()), (x.2.1, ())))
abbrev nat_Mul_l1_seg (k : Nat) : Seg := ⟨⟨0, 68, false, [], []⟩, 81, [.b, .s2, .s1, .s2, .s2, .b, .s1, .s2, .s2, .l, .b, .s2, .s1, .s2, .s2], nat_Mul_l1_i, nat_Mul_l1_o, nat_Mul_l1 k k⟩
theorem nat_Mul_l1_seg.ok (k : Nat) : SegOK Tryz.prog (e73 k) (nat_Mul_l1_seg k) :=
 SegOK.loop (e73.ok k) (by kernel_rfl) (S := nat_Mul_l1_seg k) (c := atR (codeOf (e73 k) 81) [.l, .b, .s2, .s1, .s2, .s2, .b, .s1, .s2, .s2, .l, .b, .s2, .s1, .s2, .s2]) (by kernel_rfl) (nat_Mul_l1 k) k rfl (fun _ => rfl) 8 .n trivial (fun k' x => by kernel_rfl)
abbrev nat_Mul_l0_i : Mask := ⟨[(0, 1, (.v T36)), (0, 5, (.k (.arr 17 0))), (0, 18, (.v T36)), (0, 19, (.v (.int .i64))), (0, 20, (.v (.int .i64)))], [(17, .arr 62 (.int .u32))], [], 0⟩
abbrev nat_Mul_l0_o : List Out := [⟨.exit 0, ⟨[(0, 5, (.k (.arr 17 0)))], [(17, .arr 62 (.int .u32))], [], 0⟩⟩]
def nat_Mul_l0 (k : Nat) : Nat → Mask.den nat_Mul_l0_i → Option (denS nat_Mul_l0_o)
 | 0, _ => none
 | m + 1, x =>
  bif (decide (x.1.2.2.2.2.1 < x.1.2.2.2.1)) then
   if 0 ≤ x.1.2.2.2.2.1 then (x.1.2.2.1[Int.toNat x.1.2.2.2.2.1]?).bind fun y1 =>
    (nat_Mul_l1 k k ((x.1.1, (), x.1.2.2.2.2.1, y1, 0, x.1.2.2.1, x.1.2.2.2.1, x.1.2.2.2.2.1, x.1.1, (x.1.1.length : Int), 0, ()), (x.2.1, ()))).bind fun q7 =>
    Sum.elim (fun z11 =>
      if 0 ≤ (IntKind.i64.wrap (z11.1.2.2.1 + (z11.1.1.length : Int))) then (z11.2.1[Int.toNat (IntKind.i64.wrap (z11.1.2.2.1 + (z11.1.1.length : Int)))]?).bind fun _ =>
       (z11.2.1[(Int.toNat (IntKind.i64.wrap (z11.1.2.2.1 + (z11.1.1.length : Int))))]?).bind fun y13 =>
       nat_Mul_l0 k m ((z11.1.1, (), z11.1.2.2.2.2.1, z11.1.2.2.2.2.2.1, (IntKind.i64.wrap (z11.1.2.2.2.2.2.2.1 + 1)), ()), ((z11.2.1.set (Int.toNat (IntKind.i64.wrap (z11.1.2.2.1 + (z11.1.1.length : Int)))) (IntKind.u32.wrap z11.1.2.2.2.1)), ()))
      else none)
     (fun q7' =>
      none) q7
   else none
  else
   some (Sum.inl (((), ()), (x.2.1, ())))
abbrev nat_Mul_l0_seg (k : Nat) : Seg := ⟨⟨0, 68, false, [], []⟩, 81, [.b, .s2, .s1, .s2, .s2], nat_Mul_l0_i, nat_Mul_l0_o, nat_Mul_l0 k k⟩
theorem nat_Mul_l0_seg.ok (k : Nat) : SegOK Tryz.prog (e73 k) (nat_Mul_l0_seg k) :=
 SegOK.loop (e73.ok k) (by kernel_rfl) (S := nat_Mul_l0_seg k) (c := atR (codeOf (e73 k) 81) [.l, .b, .s2, .s1, .s2, .s2]) (by kernel_rfl) (nat_Mul_l0 k) k rfl (fun _ => rfl) 8 (.two .n (.two .n (.two (.two (.two .n (.two .n (.two (.two .n (.two (.use (nat_Mul_l1_seg k)) .n)) .n))) .n) .n))) ⟨trivial, ⟨trivial, ⟨⟨⟨trivial, ⟨trivial, ⟨⟨trivial, ⟨(nat_Mul_l1_seg.ok k), trivial⟩⟩, trivial⟩⟩⟩, trivial⟩, trivial⟩⟩⟩ (fun k' x => by kernel_rfl)
def nat_Mul (k : Nat) (x0 : Ty.den T36) (x1 : Ty.den T36) : Option (HL [T36]) :=
 if (IntKind.i64.wrap ((x0.length : Int) + (x1.length : Int))) = (IntKind.i64.wrap ((x0.length : Int) + (x1.length : Int))) ∧ 0 ≤ (IntKind.i64.wrap ((x0.length : Int) + (x1.length : Int))) ∧ Int.toNat (IntKind.i64.wrap ((x0.length : Int) + (x1.length : Int))) * 4 ≤ 140737488355328 then
  (nat_Mul_l0 k k ((x1, (), x0, (x0.length : Int), 0, ()), ((List.replicate (Int.toNat (IntKind.i64.wrap ((x0.length : Int) + (x1.length : Int)))) (0 : Int)), ()))).bind fun q8 =>
  Sum.elim (fun z9 =>
    (nat_cut k z9.2.1).bind fun r10 =>
    some (r10.1, ()))
   (fun q8' =>
    none) q8
 else none
theorem nat_Mul.ok (k : Nat) : SpecOK Tryz.prog G0 81 ⟨[T36, T36], [T36], fun x => nat_Mul k x.1 x.2.1⟩ :=
 evF_sound (E := (e73 k)) (fn := Tryz.f81) (e73.ok k) (by kernel_rfl) (by kernel_rfl) (by kernel_rfl) 8 (.two .n (.two .n (.two (.two .n (.two (.use (nat_Mul_l0_seg k)) .n)) (.two (.own 1 .n) .n)))) ⟨trivial, ⟨trivial, ⟨⟨trivial, ⟨(nat_Mul_l0_seg.ok k), trivial⟩⟩, ⟨trivial, trivial⟩⟩⟩⟩ (fun xs => by kernel_rfl)
def e74 (k : Nat) : Env := (e73 k).add 81 ⟨[T36, T36], [T36], fun x => nat_Mul k x.1 x.2.1⟩
theorem e74.ok (k : Nat) : (e74 k).OK Tryz.prog := (e73.ok k).add (nat_Mul.ok k)
abbrev whole_Mul_l0_i : Mask := ⟨[(0, 2, (.k (.ptr 2 0 0))), (0, 3, (.v .bool)), (0, 4, (.v T36)), (0, 8, (.v T114)), (0, 9, (.v (.int .i64))), (0, 10, (.v (.int .i64)))], [(2, .cells (.pr (.v .bool) (.v T36)))], [], 0⟩
abbrev whole_Mul_l0_o : List Out := [⟨.exit 0, ⟨[(0, 2, (.k (.ptr 2 0 0))), (0, 3, (.v .bool)), (0, 4, (.v T36))], [(2, .cells (.pr (.v .bool) (.v T36)))], [], 0⟩⟩]
def whole_Mul_l0 (k : Nat) : Nat → Mask.den whole_Mul_l0_i → Option (denS whole_Mul_l0_o)
 | 0, _ => none
 | m + 1, x =>
  bif (decide (x.1.2.2.2.2.2.1 < x.1.2.2.2.2.1)) then
   if 0 ≤ x.1.2.2.2.2.2.1 then (x.1.2.2.2.1[Int.toNat x.1.2.2.2.2.2.1]?).bind fun y1 =>
    (nat_Mul k x.1.2.2.1 y1.2).bind fun r2 =>
    whole_Mul_l0 k m (((), (!(x.1.2.1 == y1.1)), r2.1, x.1.2.2.2.1, x.1.2.2.2.2.1, (IntKind.i64.wrap (x.1.2.2.2.2.2.1 + 1)), ()), ((x.2.1.1, x.2.1.2), ()))
   else none
  else
   some (Sum.inl (((), x.1.2.1, x.1.2.2.1, ()), ((x.2.1.1, x.2.1.2), ())))
abbrev whole_Mul_l0_seg (k : Nat) : Seg := ⟨⟨0, 26, false, [], []⟩, 55, [.b, .s2, .s1, .s2, .s2], whole_Mul_l0_i, whole_Mul_l0_o, whole_Mul_l0 k k⟩
theorem whole_Mul_l0_seg.ok (k : Nat) : SegOK Tryz.prog (e74 k) (whole_Mul_l0_seg k) :=
 SegOK.loop (e74.ok k) (by kernel_rfl) (S := whole_Mul_l0_seg k) (c := atR (codeOf (e74 k) 55) [.l, .b, .s2, .s1, .s2, .s2]) (by kernel_rfl) (whole_Mul_l0 k) k rfl (fun _ => rfl) 8 .n trivial (fun k' x => by kernel_rfl)
def whole_Mul (k : Nat) (x0 : Ty.den T114) : Option (HL [T37]) :=
 (whole_Mul_l0 k k (((), false, [1], x0, (x0.length : Int), 0, ()), ((false, []), ()))).bind fun q3 =>
 Sum.elim (fun z4 =>
   (whole_Make k z4.1.2.1 z4.1.2.2.1).bind fun r5 =>
   some (r5.1, ()))
  (fun q3' =>
   none) q3
theorem whole_Mul.ok (k : Nat) : SpecOK Tryz.prog G0 55 ⟨[T114], [T37], fun x => whole_Mul k x.1⟩ :=
 evF_sound (E := (e74 k)) (fn := Tryz.f55) (e74.ok k) (by kernel_rfl) (by kernel_rfl) (by kernel_rfl) 8 (.two .n (.two .n (.two (.two .n (.two (.use (whole_Mul_l0_seg k)) .n)) .n))) ⟨trivial, ⟨trivial, ⟨⟨trivial, ⟨(whole_Mul_l0_seg.ok k), trivial⟩⟩, trivial⟩⟩⟩ (fun xs => by kernel_rfl)
def e75 (k : Nat) : Env := (e74 k).add 55 ⟨[T114], [T37], fun x => whole_Mul k x.1⟩
theorem e75.ok (k : Nat) : (e75 k).OK Tryz.prog := (e74.ok k).add (whole_Mul.ok k)
def dy_Mul (k : Nat) (x0 : Ty.den T39) (x1 : Ty.den T39) : Option (HL [T39]) :=
 (dy_fair k x0).bind fun r1 =>
 (dy_fair k x1).bind fun r2 =>
 (whole_Mul k [r1.1.1, r2.1.1]).bind fun r3 =>
 (dy_Make k r3.1 (IntKind.i64.wrap (r1.1.2 + r2.1.2))).bind fun r4 =>
 some (r4.1, ())
theorem dy_Mul.ok (k : Nat) : SpecOK Tryz.prog G0 26 ⟨[T39, T39], [T39], fun x => dy_Mul k x.1 x.2.1⟩ :=
 evF_sound (E := (e75 k)) (fn := Tryz.f26) (e75.ok k) (by kernel_rfl) (by kernel_rfl) (by kernel_rfl) 8 .n trivial (fun xs => by kernel_rfl)
def e76 (k : Nat) : Env := (e75 k).add 26 ⟨[T39, T39], [T39], fun x => dy_Mul k x.1 x.2.1⟩
theorem e76.ok (k : Nat) : (e76 k).OK Tryz.prog := (e75.ok k).add (dy_Mul.ok k)
def peloruslaw18_lies (k : Nat) (x0 : Ty.den T23) (x1 : Ty.den T23) (x2 : Ty.den T39) (x3 : Ty.den T23) : Option (HL [.bool]) :=
 (num_Exact k x0).bind fun r1 =>
 (num_Exact k x1).bind fun r2 =>
 (num_Exact k x3).bind fun r3 =>
 bif r1.2.1 then
  bif r2.2.1 then
   bif r3.2.1 then
    (dy_Mul k r2.1 x2).bind fun r4 =>
    (dy_Add k [r1.1, r4.1]).bind fun r5 =>
    (dy_Cmp k r5.1 r3.1).bind fun r6 =>
    some ((r6.1 == 0), ())
   else
    some (false, ())
  else
   some (false, ())
 else
  some (false, ())
theorem peloruslaw18_lies.ok (k : Nat) : SpecOK Tryz.prog G0 9 ⟨[T23, T23, T39, T23], [.bool], fun x => peloruslaw18_lies k x.1 x.2.1 x.2.2.1 x.2.2.2.1⟩ :=
 evF_sound (E := (e76 k)) (fn := Tryz.f9) (e76.ok k) (by kernel_rfl) (by kernel_rfl) (by kernel_rfl) 8 .n trivial (fun xs => by kernel_rfl)
def e77 (k : Nat) : Env := (e76 k).add 9 ⟨[T23, T23, T39, T23], [.bool], fun x => peloruslaw18_lies k x.1 x.2.1 x.2.2.1 x.2.2.2.1⟩
theorem e77.ok (k : Nat) : (e77 k).OK Tryz.prog := (e76.ok k).add (peloruslaw18_lies.ok k)
def tube_Gate (k : Nat) (x0 : Ty.den T28) (x1 : Ty.den (.int .i64)) : Option (HL [T25]) :=
 (tube_May k x0).bind fun r1 =>
 bif (!r1.1) then
  (iv_None k).bind fun r2 =>
  some (r2.1, ())
 else
  bif (decide (x1 < 0)) then
   (iv_None k).bind fun r3 =>
   some (r3.1, ())
  else
   bif (decide (x1 > (x0.2.2.length : Int))) then
    (iv_None k).bind fun r4 =>
    some (r4.1, ())
   else
    bif (x1 == 0) then
     some (x0.2.1, ())
    else
     if 0 ≤ (IntKind.i64.wrap (x1 - 1)) then (x0.2.2[Int.toNat (IntKind.i64.wrap (x1 - 1))]?).bind fun y5 =>
      some (y5.2.2, ())
     else none
theorem tube_Gate.ok (k : Nat) : SpecOK Tryz.prog G0 12 ⟨[T28, (.int .i64)], [T25], fun x => tube_Gate k x.1 x.2.1⟩ :=
 evF_sound (E := (e77 k)) (fn := Tryz.f12) (e77.ok k) (by kernel_rfl) (by kernel_rfl) (by kernel_rfl) 8 .n trivial (fun xs => by kernel_rfl)
def e78 (k : Nat) : Env := (e77 k).add 12 ⟨[T28, (.int .i64)], [T25], fun x => tube_Gate k x.1 x.2.1⟩
theorem e78.ok (k : Nat) : (e78 k).OK Tryz.prog := (e77.ok k).add (tube_Gate.ok k)
def flow_Contract_1 (k : Nat) (x0 : Ty.den T25) : Option (HL [.bool]) :=
 (iv_May k x0).bind fun r1 =>
 some ((!r1.1), ())
theorem flow_Contract_1.ok (k : Nat) : SpecOK Tryz.prog G0 28 ⟨[T25], [.bool], fun x => flow_Contract_1 k x.1⟩ :=
 evF_sound (E := (e78 k)) (fn := Tryz.f28) (e78.ok k) (by kernel_rfl) (by kernel_rfl) (by kernel_rfl) 8 .n trivial (fun xs => by kernel_rfl)
def e79 (k : Nat) : Env := (e78 k).add 28 ⟨[T25], [.bool], fun x => flow_Contract_1 k x.1⟩
theorem e79.ok (k : Nat) : (e79 k).OK Tryz.prog := (e78.ok k).add (flow_Contract_1.ok k)
def tube_Empty_1 (k : Nat) (x0 : Ty.den T43) : Option (HL [.bool]) :=
 bif x0.2.1.1 then
  some (true, ())
 else
  some (x0.2.2.1, ())
theorem tube_Empty_1.ok (k : Nat) : SpecOK Tryz.prog G0 83 ⟨[T43], [.bool], fun x => tube_Empty_1 k x.1⟩ :=
 evF_sound (E := (e79 k)) (fn := Tryz.f83) (e79.ok k) (by kernel_rfl) (by kernel_rfl) (by kernel_rfl) 8 .n trivial (fun xs => by kernel_rfl)
def e80 (k : Nat) : Env := (e79 k).add 83 ⟨[T43], [.bool], fun x => tube_Empty_1 k x.1⟩
theorem e80.ok (k : Nat) : (e80 k).OK Tryz.prog := (e79.ok k).add (tube_Empty_1.ok k)
def flow_when (k : Nat) (x0 : Ty.den T28) (x1 : Ty.den (.int .i64)) : Option (HL [T23]) :=
 bif (x1 == 0) then
  some (x0.1, ())
 else
  if 0 ≤ (IntKind.i64.wrap (x1 - 1)) then (x0.2.2[Int.toNat (IntKind.i64.wrap (x1 - 1))]?).bind fun y1 =>
   some (y1.1, ())
  else none
theorem flow_when.ok (k : Nat) : SpecOK Tryz.prog G0 85 ⟨[T28, (.int .i64)], [T23], fun x => flow_when k x.1 x.2.1⟩ :=
 evF_sound (E := (e80 k)) (fn := Tryz.f85) (e80.ok k) (by kernel_rfl) (by kernel_rfl) (by kernel_rfl) 8 .n trivial (fun xs => by kernel_rfl)
def e81 (k : Nat) : Env := (e80 k).add 85 ⟨[T28, (.int .i64)], [T23], fun x => flow_when k x.1 x.2.1⟩
theorem e81.ok (k : Nat) : (e81 k).OK Tryz.prog := (e80.ok k).add (flow_when.ok k)
def arith_Sub (k : Nat) (x0 : Ty.den T23) (x1 : Ty.den T23) (x2 : Ty.den .bool) : Option (HL [T23]) :=
 (num_Neg k x1).bind fun r1 =>
 (arith_Add k x0 r1.1 x2).bind fun r2 =>
 some (r2.1, ())
theorem arith_Sub.ok (k : Nat) : SpecOK Tryz.prog G0 86 ⟨[T23, T23, .bool], [T23], fun x => arith_Sub k x.1 x.2.1 x.2.2.1⟩ :=
 evF_sound (E := (e81 k)) (fn := Tryz.f86) (e81.ok k) (by kernel_rfl) (by kernel_rfl) (by kernel_rfl) 8 .n trivial (fun xs => by kernel_rfl)
def e82 (k : Nat) : Env := (e81 k).add 86 ⟨[T23, T23, .bool], [T23], fun x => arith_Sub k x.1 x.2.1 x.2.2.1⟩
theorem e82.ok (k : Nat) : (e82 k).OK Tryz.prog := (e81.ok k).add (arith_Sub.ok k)
def bits_Mul64 (k : Nat) (x0 : Ty.den (.int .u64)) (x1 : Ty.den (.int .u64)) : Option (HL [(.int .u64), (.int .u64)]) :=
 some ((IntKind.u64.wrap ((IntKind.u64.wrap ((IntKind.u64.wrap ((Int.fdiv x0 (2 ^ min (Int.toNat 32) IntKind.u64.bits)) * (Int.fdiv x1 (2 ^ min (Int.toNat 32) IntKind.u64.bits)))) + (Int.fdiv (IntKind.u64.wrap ((IntKind.u64.wrap ((Int.fdiv x0 (2 ^ min (Int.toNat 32) IntKind.u64.bits)) * (IntKind.u64.wrap (BitVec.toNat (BitVec.ofInt IntKind.u64.bits x1 &&& BitVec.ofInt IntKind.u64.bits 4294967295))))) + (Int.fdiv (IntKind.u64.wrap ((IntKind.u64.wrap (BitVec.toNat (BitVec.ofInt IntKind.u64.bits x0 &&& BitVec.ofInt IntKind.u64.bits 4294967295))) * (IntKind.u64.wrap (BitVec.toNat (BitVec.ofInt IntKind.u64.bits x1 &&& BitVec.ofInt IntKind.u64.bits 4294967295))))) (2 ^ min (Int.toNat 32) IntKind.u64.bits)))) (2 ^ min (Int.toNat 32) IntKind.u64.bits)))) + (Int.fdiv (IntKind.u64.wrap ((IntKind.u64.wrap (BitVec.toNat (BitVec.ofInt IntKind.u64.bits (IntKind.u64.wrap ((IntKind.u64.wrap ((Int.fdiv x0 (2 ^ min (Int.toNat 32) IntKind.u64.bits)) * (IntKind.u64.wrap (BitVec.toNat (BitVec.ofInt IntKind.u64.bits x1 &&& BitVec.ofInt IntKind.u64.bits 4294967295))))) + (Int.fdiv (IntKind.u64.wrap ((IntKind.u64.wrap (BitVec.toNat (BitVec.ofInt IntKind.u64.bits x0 &&& BitVec.ofInt IntKind.u64.bits 4294967295))) * (IntKind.u64.wrap (BitVec.toNat (BitVec.ofInt IntKind.u64.bits x1 &&& BitVec.ofInt IntKind.u64.bits 4294967295))))) (2 ^ min (Int.toNat 32) IntKind.u64.bits)))) &&& BitVec.ofInt IntKind.u64.bits 4294967295))) + (IntKind.u64.wrap ((IntKind.u64.wrap (BitVec.toNat (BitVec.ofInt IntKind.u64.bits x0 &&& BitVec.ofInt IntKind.u64.bits 4294967295))) * (Int.fdiv x1 (2 ^ min (Int.toNat 32) IntKind.u64.bits)))))) (2 ^ min (Int.toNat 32) IntKind.u64.bits)))), (IntKind.u64.wrap (x0 * x1)), ())
theorem bits_Mul64.ok (k : Nat) : SpecOK Tryz.prog G0 98 ⟨[(.int .u64), (.int .u64)], [(.int .u64), (.int .u64)], fun x => bits_Mul64 k x.1 x.2.1⟩ :=
 evF_sound (E := (e82 k)) (fn := Tryz.f98) (e82.ok k) (by kernel_rfl) (by kernel_rfl) (by kernel_rfl) 8 .n trivial (fun xs => by kernel_rfl)
def e83 (k : Nat) : Env := (e82 k).add 98 ⟨[(.int .u64), (.int .u64)], [(.int .u64), (.int .u64)], fun x => bits_Mul64 k x.1 x.2.1⟩
theorem e83.ok (k : Nat) : (e83 k).OK Tryz.prog := (e82.ok k).add (bits_Mul64.ok k)
abbrev tube_Empty_l0_i : Mask := ⟨[(0, 12, (.v .bool)), (2, 0, (.v T27)), (2, 1, (.k (.clo 83 .nl))), (2, 7, (.v (.int .i64))), (2, 8, (.v (.int .i64)))], [], [], 0⟩
abbrev tube_Empty_l0_o : List Out := [⟨.ret, ⟨[(0, 12, (.v .bool)), (2, 4, (.v (.int .i64)))], [], [], 0⟩⟩, ⟨.exit 0, ⟨[(0, 12, (.v .bool))], [], [], 0⟩⟩]
def tube_Empty_l0 (k : Nat) : Nat → Mask.den tube_Empty_l0_i → Option (denS tube_Empty_l0_o)
 | 0, _ => none
 | m + 1, x =>
  bif (decide (x.1.2.2.2.2.1 < x.1.2.2.2.1)) then
   if 0 ≤ x.1.2.2.2.2.1 then (x.1.2.1[Int.toNat x.1.2.2.2.2.1]?).bind fun y2 =>
    (tube_Empty_1 k y2).bind fun r3 =>
    bif r3.1 then
     some (Sum.inl ((x.1.1, x.1.2.2.2.2.1, ()), ()))
    else
     tube_Empty_l0 k m ((x.1.1, x.1.2.1, (), x.1.2.2.2.1, (IntKind.i64.wrap (x.1.2.2.2.2.1 + 1)), ()), ())
   else none
  else
   some (Sum.inr (Sum.inl ((x.1.1, ()), ())))
abbrev tube_Empty_l0_seg (k : Nat) : Seg := ⟨⟨2, 19, false, [1, 0], []⟩, 96, [.b, .s2, .s1, .s2], tube_Empty_l0_i, tube_Empty_l0_o, tube_Empty_l0 k k⟩
theorem tube_Empty_l0_seg.ok (k : Nat) : SegOK Tryz.prog (e83 k) (tube_Empty_l0_seg k) :=
 SegOK.loop (e83.ok k) (by kernel_rfl) (S := tube_Empty_l0_seg k) (c := atR (codeOf (e83 k) 96) [.l, .b, .s2, .s1, .s2]) (by kernel_rfl) (tube_Empty_l0 k) k rfl (fun _ => rfl) 8 .n trivial (fun k' x => by kernel_rfl)
def tube_Empty (k : Nat) (x0 : Ty.den T28) : Option (HL [.bool]) :=
 (tube_May k x0).bind fun r1 =>
 bif (!r1.1) then
  some (true, ())
 else
  bif x0.2.1.1 then
   some (true, ())
  else
   (tube_Empty_l0 k k ((false, x0.2.2, (), (x0.2.2.length : Int), 0, ()), ())).bind fun q4 =>
   Sum.elim (fun z5 =>
     bif z5.1.1 then
      some (true, ())
     else
      some ((decide (z5.1.2.1 ≥ 0)), ()))
    (fun q4' =>
     Sum.elim (fun z6 =>
       bif z6.1.1 then
        some (true, ())
       else
        some (false, ()))
      (fun q4'' =>
       none) q4') q4
theorem tube_Empty.ok (k : Nat) : SpecOK Tryz.prog G0 60 ⟨[T28], [.bool], fun x => tube_Empty k x.1⟩ :=
 evF_sound (E := (e83 k)) (fn := Tryz.f60) (e83.ok k) (by kernel_rfl) (by kernel_rfl) (by kernel_rfl) 8 (.two .n (.two .n (.two (.call 12 1 (.two .n (.two (.call 2 2 (.two .n (.two (.two .n (.two (.use (tube_Empty_l0_seg k)) .n)) .n)) .n) .n)) .n) .n))) ⟨trivial, ⟨trivial, ⟨⟨⟨trivial, ⟨⟨⟨trivial, ⟨⟨trivial, ⟨(tube_Empty_l0_seg.ok k), trivial⟩⟩, trivial⟩⟩, trivial⟩, trivial⟩⟩, trivial⟩, trivial⟩⟩⟩ (fun xs => by kernel_rfl)
def e84 (k : Nat) : Env := (e83 k).add 60 ⟨[T28], [.bool], fun x => tube_Empty k x.1⟩
theorem e84.ok (k : Nat) : (e84 k).OK Tryz.prog := (e83.ok k).add (tube_Empty.ok k)
abbrev tube_Fit_l0_i : Mask := ⟨[(0, 2, (.k (.ptr 2 0 0))), (0, 3, (.k (.ptr 3 0 0))), (2, 0, (.k (.yld 0))), (2, 1, (.k (.ptr 2101249 0 0))), (2, 3, (.k (.ptr 8195 0 0))), (2, 14, (.v (.int .i64))), (2, 15, (.v (.int .i64)))], [(2, .cells (.pr (.v T23) (.pr (.v T25) (.v T27)))), (3, .cells (.pr (.v T23) (.pr (.v T25) (.k (.arr 13 0))))), (13, .arr 44 T43), (8195, .cells (.pr (.v T23) (.v T25))), (2101249, .cells (.v T28))], [], 1⟩
abbrev tube_Fit_l0_o : List Out := [⟨.exit 0, ⟨[(0, 2, (.k (.ptr 2 0 0))), (0, 3, (.k (.ptr 3 0 0)))], [(2, .cells (.pr (.v T23) (.pr (.v T25) (.v T27)))), (3, .cells (.pr (.v T23) (.pr (.v T25) (.k (.arr 13 0))))), (13, .arr 44 T43)], [], 1⟩⟩]
def tube_Fit_l0 (k : Nat) : Nat → Mask.den tube_Fit_l0_i → Option (denS tube_Fit_l0_o)
 | 0, _ => none
 | m + 1, x =>
  bif (decide (x.1.2.2.2.2.2.2.1 < x.1.2.2.2.2.2.1)) then
   bif (decide (x.1.2.2.2.2.2.2.1 > 0)) then
    if 0 ≤ (IntKind.i64.wrap (x.1.2.2.2.2.2.2.1 - 1)) then (x.2.2.2.2.2.1.2.2[Int.toNat (IntKind.i64.wrap (x.1.2.2.2.2.2.2.1 - 1))]?).bind fun y2 =>
     (iv_Meet k [y2.2.2, y2.2.1]).bind fun r3 =>
     bif (decide (x.1.2.2.2.2.2.2.1 < (x.2.2.2.2.2.1.2.2.length : Int))) then
      if 0 ≤ x.1.2.2.2.2.2.2.1 then (x.2.2.2.2.2.1.2.2[Int.toNat x.1.2.2.2.2.2.2.1]?).bind fun y4 =>
       (iv_Meet k [r3.1, y4.2.1]).bind fun r5 =>
       bif (x.1.2.2.2.2.2.2.1 == 0) then
        tube_Fit_l0 k m (((), (), (), (), (), x.1.2.2.2.2.2.1, (IntKind.i64.wrap (x.1.2.2.2.2.2.2.1 + 1)), ()), ((x.2.1.1, (x.2.1.2.1, x.2.1.2.2)), (x.2.2.1.1, (r5.1, ())), x.2.2.2.1, (y2.1, r5.1), x.2.2.2.2.2.1, ()))
       else
        if 0 ≤ (IntKind.i64.wrap (x.1.2.2.2.2.2.2.1 - 1)) then (x.2.2.2.1[Int.toNat (IntKind.i64.wrap (x.1.2.2.2.2.2.2.1 - 1))]?).bind fun _ =>
         (x.2.2.2.1[(Int.toNat (IntKind.i64.wrap (x.1.2.2.2.2.2.2.1 - 1)))]?).bind fun y7 =>
         tube_Fit_l0 k m (((), (), (), (), (), x.1.2.2.2.2.2.1, (IntKind.i64.wrap (x.1.2.2.2.2.2.2.1 + 1)), ()), ((x.2.1.1, (x.2.1.2.1, x.2.1.2.2)), (x.2.2.1.1, (x.2.2.1.2.1, ())), (x.2.2.2.1.set (Int.toNat (IntKind.i64.wrap (x.1.2.2.2.2.2.2.1 - 1))) (y7.1, y7.2.1, r5.1)), (y2.1, r5.1), x.2.2.2.2.2.1, ()))
        else none
      else none
     else
      bif (x.1.2.2.2.2.2.2.1 == 0) then
       tube_Fit_l0 k m (((), (), (), (), (), x.1.2.2.2.2.2.1, (IntKind.i64.wrap (x.1.2.2.2.2.2.2.1 + 1)), ()), ((x.2.1.1, (x.2.1.2.1, x.2.1.2.2)), (x.2.2.1.1, (r3.1, ())), x.2.2.2.1, (y2.1, r3.1), x.2.2.2.2.2.1, ()))
      else
       if 0 ≤ (IntKind.i64.wrap (x.1.2.2.2.2.2.2.1 - 1)) then (x.2.2.2.1[Int.toNat (IntKind.i64.wrap (x.1.2.2.2.2.2.2.1 - 1))]?).bind fun _ =>
        (x.2.2.2.1[(Int.toNat (IntKind.i64.wrap (x.1.2.2.2.2.2.2.1 - 1)))]?).bind fun y9 =>
        tube_Fit_l0 k m (((), (), (), (), (), x.1.2.2.2.2.2.1, (IntKind.i64.wrap (x.1.2.2.2.2.2.2.1 + 1)), ()), ((x.2.1.1, (x.2.1.2.1, x.2.1.2.2)), (x.2.2.1.1, (x.2.2.1.2.1, ())), (x.2.2.2.1.set (Int.toNat (IntKind.i64.wrap (x.1.2.2.2.2.2.2.1 - 1))) (y9.1, y9.2.1, r3.1)), (y2.1, r3.1), x.2.2.2.2.2.1, ()))
       else none
    else none
   else
    bif (decide (x.1.2.2.2.2.2.2.1 < (x.2.2.2.2.2.1.2.2.length : Int))) then
     if 0 ≤ x.1.2.2.2.2.2.2.1 then (x.2.2.2.2.2.1.2.2[Int.toNat x.1.2.2.2.2.2.2.1]?).bind fun y10 =>
      (iv_Meet k [x.2.2.2.2.1.2, y10.2.1]).bind fun r11 =>
      bif (x.1.2.2.2.2.2.2.1 == 0) then
       tube_Fit_l0 k m (((), (), (), (), (), x.1.2.2.2.2.2.1, (IntKind.i64.wrap (x.1.2.2.2.2.2.2.1 + 1)), ()), ((x.2.1.1, (x.2.1.2.1, x.2.1.2.2)), (x.2.2.1.1, (r11.1, ())), x.2.2.2.1, (x.2.2.2.2.1.1, r11.1), x.2.2.2.2.2.1, ()))
      else
       if 0 ≤ (IntKind.i64.wrap (x.1.2.2.2.2.2.2.1 - 1)) then (x.2.2.2.1[Int.toNat (IntKind.i64.wrap (x.1.2.2.2.2.2.2.1 - 1))]?).bind fun _ =>
        (x.2.2.2.1[(Int.toNat (IntKind.i64.wrap (x.1.2.2.2.2.2.2.1 - 1)))]?).bind fun y13 =>
        tube_Fit_l0 k m (((), (), (), (), (), x.1.2.2.2.2.2.1, (IntKind.i64.wrap (x.1.2.2.2.2.2.2.1 + 1)), ()), ((x.2.1.1, (x.2.1.2.1, x.2.1.2.2)), (x.2.2.1.1, (x.2.2.1.2.1, ())), (x.2.2.2.1.set (Int.toNat (IntKind.i64.wrap (x.1.2.2.2.2.2.2.1 - 1))) (y13.1, y13.2.1, r11.1)), (x.2.2.2.2.1.1, r11.1), x.2.2.2.2.2.1, ()))
       else none
     else none
    else
     bif (x.1.2.2.2.2.2.2.1 == 0) then
      tube_Fit_l0 k m (((), (), (), (), (), x.1.2.2.2.2.2.1, (IntKind.i64.wrap (x.1.2.2.2.2.2.2.1 + 1)), ()), ((x.2.1.1, (x.2.1.2.1, x.2.1.2.2)), (x.2.2.1.1, (x.2.2.2.2.1.2, ())), x.2.2.2.1, (x.2.2.2.2.1.1, x.2.2.2.2.1.2), x.2.2.2.2.2.1, ()))
     else
      if 0 ≤ (IntKind.i64.wrap (x.1.2.2.2.2.2.2.1 - 1)) then (x.2.2.2.1[Int.toNat (IntKind.i64.wrap (x.1.2.2.2.2.2.2.1 - 1))]?).bind fun _ =>
       (x.2.2.2.1[(Int.toNat (IntKind.i64.wrap (x.1.2.2.2.2.2.2.1 - 1)))]?).bind fun y15 =>
       tube_Fit_l0 k m (((), (), (), (), (), x.1.2.2.2.2.2.1, (IntKind.i64.wrap (x.1.2.2.2.2.2.2.1 + 1)), ()), ((x.2.1.1, (x.2.1.2.1, x.2.1.2.2)), (x.2.2.1.1, (x.2.2.1.2.1, ())), (x.2.2.2.1.set (Int.toNat (IntKind.i64.wrap (x.1.2.2.2.2.2.2.1 - 1))) (y15.1, y15.2.1, x.2.2.2.2.1.2)), (x.2.2.2.2.1.1, x.2.2.2.2.1.2), x.2.2.2.2.2.1, ()))
      else none
  else
   some (Sum.inl (((), (), ()), ((x.2.1.1, (x.2.1.2.1, x.2.1.2.2)), (x.2.2.1.1, (x.2.2.1.2.1, ())), x.2.2.2.1, ())))
abbrev tube_Fit_l0_seg (k : Nat) : Seg := ⟨⟨2, 57, false, [0], [⟨0, 0, 37, 30, [.b, .s2, .s1, .s2, .s2, .s2, .s2]⟩]⟩, 82, [.b, .s2, .s2], tube_Fit_l0_i, tube_Fit_l0_o, tube_Fit_l0 k k⟩
theorem tube_Fit_l0_seg.ok (k : Nat) : SegOK Tryz.prog (e84 k) (tube_Fit_l0_seg k) :=
 SegOK.loop (e84.ok k) (by kernel_rfl) (S := tube_Fit_l0_seg k) (c := atR (codeOf (e84 k) 82) [.l, .b, .s2, .s2]) (by kernel_rfl) (tube_Fit_l0 k) k rfl (fun _ => rfl) 8 (.two .n (.two .n (.two (.two (.two .n (.two .n (.two .n (.two (.call 3 3 .n .n) .n)))) .n) .n))) ⟨trivial, ⟨trivial, ⟨⟨⟨trivial, ⟨trivial, ⟨trivial, ⟨⟨trivial, trivial⟩, trivial⟩⟩⟩⟩, trivial⟩, trivial⟩⟩⟩ (fun k' x => by kernel_rfl)
def tube_Fit (k : Nat) (x0 : Ty.den T28) : Option (HL [T28]) :=
 (tube_May k x0).bind fun r1 =>
 bif (!r1.1) then
  some (x0, ())
 else
  if x0.2.2.length * 176 ≤ 140737488355328 then
   (tube_Fit_l0 k k (((), (), (), (), (), (IntKind.i64.wrap ((x0.2.2.length : Int) + 1)), 0, ()), (((0, false, 0, 0), ((false, (0, false, 0, 0), 0, false, 0, 0), [])), (x0.1, (x0.2.1, ())), x0.2.2, (x0.1, x0.2.1), x0, ()))).bind fun q16 =>
   Sum.elim (fun z17 =>
     (tube_Empty k (z17.2.2.1.1, z17.2.2.1.2.1, z17.2.2.2.1)).bind fun r18 =>
     bif r18.1 then
      (tube_void k (z17.2.2.1.1, z17.2.2.1.2.1, z17.2.2.2.1)).bind fun r19 =>
      some (r19.1, ())
     else
      some ((z17.2.2.1.1, z17.2.2.1.2.1, z17.2.2.2.1), ()))
    (fun q16' =>
     none) q16
  else none
theorem tube_Fit.ok (k : Nat) : SpecOK Tryz.prog G0 30 ⟨[T28], [T28], fun x => tube_Fit k x.1⟩ :=
 evF_sound (E := (e84 k)) (fn := Tryz.f30) (e84.ok k) (by kernel_rfl) (by kernel_rfl) (by kernel_rfl) 8 (.two .n (.two .n (.two .n (.two .n (.two (.two (.call 1 513 .n .n) (.two (.rf 0 2 (.two .n (.two .n (.two (.use (tube_Fit_l0_seg k)) .n)))) .n)) (.two (.two .n (.two (.two (.own 1 .n) .n) .n)) .n)))))) ⟨trivial, ⟨trivial, ⟨trivial, ⟨trivial, ⟨⟨⟨trivial, trivial⟩, ⟨⟨trivial, ⟨trivial, ⟨(tube_Fit_l0_seg.ok k), trivial⟩⟩⟩, trivial⟩⟩, ⟨⟨trivial, ⟨⟨trivial, trivial⟩, trivial⟩⟩, trivial⟩⟩⟩⟩⟩⟩ (fun xs => by kernel_rfl)
def e85 (k : Nat) : Env := (e84 k).add 30 ⟨[T28], [T28], fun x => tube_Fit k x.1⟩
theorem e85.ok (k : Nat) : (e85 k).OK Tryz.prog := (e84.ok k).add (tube_Fit.ok k)
def flow_Time (k : Nat) (x0 : Ty.den T28) (x1 : Ty.den (.int .i64)) : Option (HL [T25]) :=
 (tube_May k x0).bind fun r1 =>
 bif (!r1.1) then
  (iv_None k).bind fun r2 =>
  some (r2.1, ())
 else
  bif (decide (x1 < 0)) then
   (iv_None k).bind fun r3 =>
   some (r3.1, ())
  else
   bif (decide (x1 ≥ (x0.2.2.length : Int))) then
    (iv_None k).bind fun r4 =>
    some (r4.1, ())
   else
    (flow_when k x0 x1).bind fun r5 =>
    (flow_when k x0 (IntKind.i64.wrap (x1 + 1))).bind fun r6 =>
    (arith_Sub k r6.1 r5.1 false).bind fun r7 =>
    (arith_Sub k r6.1 r5.1 true).bind fun r8 =>
    (iv_Make k r7.1 r8.1).bind fun r9 =>
    some (r9.1, ())
theorem flow_Time.ok (k : Nat) : SpecOK Tryz.prog G0 63 ⟨[T28, (.int .i64)], [T25], fun x => flow_Time k x.1 x.2.1⟩ :=
 evF_sound (E := (e85 k)) (fn := Tryz.f63) (e85.ok k) (by kernel_rfl) (by kernel_rfl) (by kernel_rfl) 8 .n trivial (fun xs => by kernel_rfl)
def e86 (k : Nat) : Env := (e85 k).add 63 ⟨[T28, (.int .i64)], [T25], fun x => flow_Time k x.1 x.2.1⟩
theorem e86.ok (k : Nat) : (e86 k).OK Tryz.prog := (e85.ok k).add (flow_Time.ok k)
def arith_Mul (k : Nat) (x0 : Ty.den T23) (x1 : Ty.den T23) (x2 : Ty.den .bool) : Option (HL [T23]) :=
 (arith_fair k x0).bind fun r1 =>
 (arith_fair k x1).bind fun r2 =>
 bif (r1.1.1 == 0) then
  some ((0, false, 0, 0), ())
 else
  bif (r2.1.1 == 0) then
   some ((0, false, 0, 0), ())
  else
   bif (r1.1.1 == 2) then
    (num_Infinite k (!(r1.1.2.1 == r2.1.2.1))).bind fun r3 =>
    some (r3.1, ())
   else
    bif (r2.1.1 == 2) then
     (num_Infinite k (!(r1.1.2.1 == r2.1.2.1))).bind fun r4 =>
     some (r4.1, ())
    else
     (bits_Mul64 k r1.1.2.2.1 r2.1.2.2.1).bind fun r5 =>
     bif (decide (r5.1 < 9223372036854775808)) then
      (num_Grow k (!(r1.1.2.1 == r2.1.2.1)) (IntKind.u64.wrap (BitVec.toNat (BitVec.ofInt IntKind.u64.bits (IntKind.u64.wrap (r5.1 * 2 ^ min (Int.toNat 1) IntKind.u64.bits)) ||| BitVec.ofInt IntKind.u64.bits (Int.fdiv r5.2.1 (2 ^ min (Int.toNat 63) IntKind.u64.bits))))) (IntKind.i64.wrap ((IntKind.i64.wrap ((IntKind.i64.wrap (r1.1.2.2.2 + r2.1.2.2.2)) + 64)) - 1)) ((IntKind.u64.wrap (r5.2.1 * 2 ^ min (Int.toNat 1) IntKind.u64.bits)) != 0) (!(x2 == (!(r1.1.2.1 == r2.1.2.1))))).bind fun r6 =>
      some (r6.1, ())
     else
      (num_Grow k (!(r1.1.2.1 == r2.1.2.1)) r5.1 (IntKind.i64.wrap ((IntKind.i64.wrap (r1.1.2.2.2 + r2.1.2.2.2)) + 64)) (r5.2.1 != 0) (!(x2 == (!(r1.1.2.1 == r2.1.2.1))))).bind fun r7 =>
      some (r7.1, ())
theorem arith_Mul.ok (k : Nat) : SpecOK Tryz.prog G0 88 ⟨[T23, T23, .bool], [T23], fun x => arith_Mul k x.1 x.2.1 x.2.2.1⟩ :=
 evF_sound (E := (e86 k)) (fn := Tryz.f88) (e86.ok k) (by kernel_rfl) (by kernel_rfl) (by kernel_rfl) 8 .n trivial (fun xs => by kernel_rfl)
def e87 (k : Nat) : Env := (e86 k).add 88 ⟨[T23, T23, .bool], [T23], fun x => arith_Mul k x.1 x.2.1 x.2.2.1⟩
theorem e87.ok (k : Nat) : (e87 k).OK Tryz.prog := (e86.ok k).add (arith_Mul.ok k)
def ivop_Mul (k : Nat) (x0 : Ty.den T25) (x1 : Ty.den T25) : Option (HL [T25]) :=
 (ivop_none k [x0, x1]).bind fun r1 =>
 bif r1.1 then
  (iv_None k).bind fun r2 =>
  some (r2.1, ())
 else
  (arith_Mul k x0.2.1 x1.2.1 false).bind fun r3 =>
  (arith_Mul k x0.2.1 x1.2.2 false).bind fun r4 =>
  (arith_Mul k x0.2.2 x1.2.1 false).bind fun r5 =>
  (arith_Mul k x0.2.2 x1.2.2 false).bind fun r6 =>
  (num_Least k [r3.1, r4.1, r5.1, r6.1]).bind fun r7 =>
  (arith_Mul k x0.2.1 x1.2.1 true).bind fun r8 =>
  (arith_Mul k x0.2.1 x1.2.2 true).bind fun r9 =>
  (arith_Mul k x0.2.2 x1.2.1 true).bind fun r10 =>
  (arith_Mul k x0.2.2 x1.2.2 true).bind fun r11 =>
  (num_Most k [r8.1, r9.1, r10.1, r11.1]).bind fun r12 =>
  (iv_Make k r7.1 r12.1).bind fun r13 =>
  some (r13.1, ())
theorem ivop_Mul.ok (k : Nat) : SpecOK Tryz.prog G0 64 ⟨[T25, T25], [T25], fun x => ivop_Mul k x.1 x.2.1⟩ :=
 evF_sound (E := (e87 k)) (fn := Tryz.f64) (e87.ok k) (by kernel_rfl) (by kernel_rfl) (by kernel_rfl) 8 (.two .n (.two .n (.two (.call 2 1 (.two .n (.two .n (.two (.call 1 514 .n (.call 4 515 .n .n)) .n))) .n) .n))) ⟨trivial, ⟨trivial, ⟨⟨⟨trivial, ⟨trivial, ⟨⟨trivial, ⟨trivial, trivial⟩⟩, trivial⟩⟩⟩, trivial⟩, trivial⟩⟩⟩ (fun xs => by kernel_rfl)
def e88 (k : Nat) : Env := (e87 k).add 64 ⟨[T25, T25], [T25], fun x => ivop_Mul k x.1 x.2.1⟩
theorem e88.ok (k : Nat) : (e88 k).OK Tryz.prog := (e87.ok k).add (ivop_Mul.ok k)
abbrev flow_Contract_l0_i : Mask := ⟨[(0, 1, (.v T30)), (0, 2, (.k (.ptr 2 0 0))), (0, 4, (.k (.ptr 4 0 0))), (0, 20, (.v .bool)), (2, 0, (.v T30)), (2, 1, (.k (.clo 28 .nl))), (2, 7, (.v (.int .i64))), (2, 8, (.v (.int .i64)))], [(2, .cells (.v T28)), (4, .cells (.pr (.v T23) (.pr (.v T25) (.v T27))))], [], 0⟩
abbrev flow_Contract_l0_o : List Out := [⟨.ret, ⟨[(0, 1, (.v T30)), (0, 2, (.k (.ptr 2 0 0))), (0, 4, (.k (.ptr 4 0 0))), (0, 20, (.v .bool)), (2, 4, (.v (.int .i64)))], [(2, .cells (.v T28)), (4, .cells (.pr (.v T23) (.pr (.v T25) (.v T27))))], [], 0⟩⟩, ⟨.exit 0, ⟨[(0, 1, (.v T30)), (0, 2, (.k (.ptr 2 0 0))), (0, 4, (.k (.ptr 4 0 0))), (0, 20, (.v .bool))], [(2, .cells (.v T28)), (4, .cells (.pr (.v T23) (.pr (.v T25) (.v T27))))], [], 0⟩⟩]
def flow_Contract_l0 (k : Nat) : Nat → Mask.den flow_Contract_l0_i → Option (denS flow_Contract_l0_o)
 | 0, _ => none
 | m + 1, x =>
  bif (decide (x.1.2.2.2.2.2.2.2.1 < x.1.2.2.2.2.2.2.1)) then
   if 0 ≤ x.1.2.2.2.2.2.2.2.1 then (x.1.2.2.2.2.1[Int.toNat x.1.2.2.2.2.2.2.2.1]?).bind fun y2 =>
    (flow_Contract_1 k y2).bind fun r3 =>
    bif r3.1 then
     some (Sum.inl ((x.1.1, (), (), x.1.2.2.2.1, x.1.2.2.2.2.2.2.2.1, ()), (x.2.1, (x.2.2.1.1, (x.2.2.1.2.1, x.2.2.1.2.2)), ())))
    else
     flow_Contract_l0 k m ((x.1.1, (), (), x.1.2.2.2.1, x.1.2.2.2.2.1, (), x.1.2.2.2.2.2.2.1, (IntKind.i64.wrap (x.1.2.2.2.2.2.2.2.1 + 1)), ()), (x.2.1, (x.2.2.1.1, (x.2.2.1.2.1, x.2.2.1.2.2)), ()))
   else none
  else
   some (Sum.inr (Sum.inl ((x.1.1, (), (), x.1.2.2.2.1, ()), (x.2.1, (x.2.2.1.1, (x.2.2.1.2.1, x.2.2.1.2.2)), ()))))
abbrev flow_Contract_l0_seg (k : Nat) : Seg := ⟨⟨2, 19, false, [1, 0], []⟩, 57, [.b, .s2, .s1, .s2], flow_Contract_l0_i, flow_Contract_l0_o, flow_Contract_l0 k k⟩
theorem flow_Contract_l0_seg.ok (k : Nat) : SegOK Tryz.prog (e88 k) (flow_Contract_l0_seg k) :=
 SegOK.loop (e88.ok k) (by kernel_rfl) (S := flow_Contract_l0_seg k) (c := atR (codeOf (e88 k) 57) [.l, .b, .s2, .s1, .s2]) (by kernel_rfl) (flow_Contract_l0 k) k rfl (fun _ => rfl) 8 .n trivial (fun k' x => by kernel_rfl)
abbrev flow_Contract_l2_i : Mask := ⟨[(0, 1, (.v T30)), (0, 2, (.k (.ptr 2 0 0))), (0, 4, (.k (.ptr 4 0 0))), (8, 0, (.k (.yld 0))), (8, 1, (.k (.ptr 2125825 0 0))), (8, 3, (.k (.ptr 32771 0 0))), (8, 14, (.v (.int .i64))), (8, 15, (.v (.int .i64))), (515, 2, (.k (.ptr 2109442 0 0))), (515, 3, (.k (.ptr 2109443 0 0)))], [(2, .cells (.v T28)), (4, .cells (.pr (.v T23) (.pr (.v T25) (.v T27)))), (32771, .cells (.pr (.v T23) (.v T25))), (2109442, .cells (.pr (.v T23) (.pr (.v T25) (.v T27)))), (2109443, .cells (.pr (.v T23) (.pr (.v T25) (.k (.arr 2109453 0))))), (2109453, .arr 44 T43), (2125825, .cells (.v T28))], [], 1⟩
abbrev flow_Contract_l2_o : List Out := [⟨.exit 0, ⟨[(0, 1, (.v T30)), (0, 2, (.k (.ptr 2 0 0))), (0, 4, (.k (.ptr 4 0 0))), (515, 2, (.k (.ptr 2109442 0 0))), (515, 3, (.k (.ptr 2109443 0 0)))], [(2, .cells (.v T28)), (4, .cells (.pr (.v T23) (.pr (.v T25) (.v T27)))), (2109442, .cells (.pr (.v T23) (.pr (.v T25) (.v T27)))), (2109443, .cells (.pr (.v T23) (.pr (.v T25) (.k (.arr 2109453 0))))), (2109453, .arr 44 T43)], [], 1⟩⟩]
def flow_Contract_l2 (k : Nat) : Nat → Mask.den flow_Contract_l2_i → Option (denS flow_Contract_l2_o)
 | 0, _ => none
 | m + 1, x =>
  bif (decide (x.1.2.2.2.2.2.2.2.1 < x.1.2.2.2.2.2.2.1)) then
   bif (decide (x.1.2.2.2.2.2.2.2.1 > 0)) then
    if 0 ≤ (IntKind.i64.wrap (x.1.2.2.2.2.2.2.2.1 - 1)) then (x.2.2.2.2.2.2.2.1.2.2[Int.toNat (IntKind.i64.wrap (x.1.2.2.2.2.2.2.2.1 - 1))]?).bind fun y18 =>
     (iv_Meet k [y18.2.2, y18.2.1]).bind fun r19 =>
     bif (decide (x.1.2.2.2.2.2.2.2.1 < (x.2.2.2.2.2.2.2.1.2.2.length : Int))) then
      if 0 ≤ x.1.2.2.2.2.2.2.2.1 then (x.2.2.2.2.2.2.2.1.2.2[Int.toNat x.1.2.2.2.2.2.2.2.1]?).bind fun y20 =>
       (iv_Meet k [r19.1, y20.2.1]).bind fun r21 =>
       bif (x.1.2.2.2.2.2.2.2.1 == 0) then
        flow_Contract_l2 k m ((x.1.1, (), (), (), (), (), x.1.2.2.2.2.2.2.1, (IntKind.i64.wrap (x.1.2.2.2.2.2.2.2.1 + 1)), (), (), ()), (x.2.1, (x.2.2.1.1, (x.2.2.1.2.1, x.2.2.1.2.2)), (y18.1, r21.1), (x.2.2.2.2.1.1, (x.2.2.2.2.1.2.1, x.2.2.2.2.1.2.2)), (x.2.2.2.2.2.1.1, (r21.1, ())), x.2.2.2.2.2.2.1, x.2.2.2.2.2.2.2.1, ()))
       else
        if 0 ≤ (IntKind.i64.wrap (x.1.2.2.2.2.2.2.2.1 - 1)) then (x.2.2.2.2.2.2.1[Int.toNat (IntKind.i64.wrap (x.1.2.2.2.2.2.2.2.1 - 1))]?).bind fun _ =>
         (x.2.2.2.2.2.2.1[(Int.toNat (IntKind.i64.wrap (x.1.2.2.2.2.2.2.2.1 - 1)))]?).bind fun y23 =>
         flow_Contract_l2 k m ((x.1.1, (), (), (), (), (), x.1.2.2.2.2.2.2.1, (IntKind.i64.wrap (x.1.2.2.2.2.2.2.2.1 + 1)), (), (), ()), (x.2.1, (x.2.2.1.1, (x.2.2.1.2.1, x.2.2.1.2.2)), (y18.1, r21.1), (x.2.2.2.2.1.1, (x.2.2.2.2.1.2.1, x.2.2.2.2.1.2.2)), (x.2.2.2.2.2.1.1, (x.2.2.2.2.2.1.2.1, ())), (x.2.2.2.2.2.2.1.set (Int.toNat (IntKind.i64.wrap (x.1.2.2.2.2.2.2.2.1 - 1))) (y23.1, y23.2.1, r21.1)), x.2.2.2.2.2.2.2.1, ()))
        else none
      else none
     else
      bif (x.1.2.2.2.2.2.2.2.1 == 0) then
       flow_Contract_l2 k m ((x.1.1, (), (), (), (), (), x.1.2.2.2.2.2.2.1, (IntKind.i64.wrap (x.1.2.2.2.2.2.2.2.1 + 1)), (), (), ()), (x.2.1, (x.2.2.1.1, (x.2.2.1.2.1, x.2.2.1.2.2)), (y18.1, r19.1), (x.2.2.2.2.1.1, (x.2.2.2.2.1.2.1, x.2.2.2.2.1.2.2)), (x.2.2.2.2.2.1.1, (r19.1, ())), x.2.2.2.2.2.2.1, x.2.2.2.2.2.2.2.1, ()))
      else
       if 0 ≤ (IntKind.i64.wrap (x.1.2.2.2.2.2.2.2.1 - 1)) then (x.2.2.2.2.2.2.1[Int.toNat (IntKind.i64.wrap (x.1.2.2.2.2.2.2.2.1 - 1))]?).bind fun _ =>
        (x.2.2.2.2.2.2.1[(Int.toNat (IntKind.i64.wrap (x.1.2.2.2.2.2.2.2.1 - 1)))]?).bind fun y25 =>
        flow_Contract_l2 k m ((x.1.1, (), (), (), (), (), x.1.2.2.2.2.2.2.1, (IntKind.i64.wrap (x.1.2.2.2.2.2.2.2.1 + 1)), (), (), ()), (x.2.1, (x.2.2.1.1, (x.2.2.1.2.1, x.2.2.1.2.2)), (y18.1, r19.1), (x.2.2.2.2.1.1, (x.2.2.2.2.1.2.1, x.2.2.2.2.1.2.2)), (x.2.2.2.2.2.1.1, (x.2.2.2.2.2.1.2.1, ())), (x.2.2.2.2.2.2.1.set (Int.toNat (IntKind.i64.wrap (x.1.2.2.2.2.2.2.2.1 - 1))) (y25.1, y25.2.1, r19.1)), x.2.2.2.2.2.2.2.1, ()))
       else none
    else none
   else
    bif (decide (x.1.2.2.2.2.2.2.2.1 < (x.2.2.2.2.2.2.2.1.2.2.length : Int))) then
     if 0 ≤ x.1.2.2.2.2.2.2.2.1 then (x.2.2.2.2.2.2.2.1.2.2[Int.toNat x.1.2.2.2.2.2.2.2.1]?).bind fun y26 =>
      (iv_Meet k [x.2.2.2.1.2, y26.2.1]).bind fun r27 =>
      bif (x.1.2.2.2.2.2.2.2.1 == 0) then
       flow_Contract_l2 k m ((x.1.1, (), (), (), (), (), x.1.2.2.2.2.2.2.1, (IntKind.i64.wrap (x.1.2.2.2.2.2.2.2.1 + 1)), (), (), ()), (x.2.1, (x.2.2.1.1, (x.2.2.1.2.1, x.2.2.1.2.2)), (x.2.2.2.1.1, r27.1), (x.2.2.2.2.1.1, (x.2.2.2.2.1.2.1, x.2.2.2.2.1.2.2)), (x.2.2.2.2.2.1.1, (r27.1, ())), x.2.2.2.2.2.2.1, x.2.2.2.2.2.2.2.1, ()))
      else
       if 0 ≤ (IntKind.i64.wrap (x.1.2.2.2.2.2.2.2.1 - 1)) then (x.2.2.2.2.2.2.1[Int.toNat (IntKind.i64.wrap (x.1.2.2.2.2.2.2.2.1 - 1))]?).bind fun _ =>
        (x.2.2.2.2.2.2.1[(Int.toNat (IntKind.i64.wrap (x.1.2.2.2.2.2.2.2.1 - 1)))]?).bind fun y29 =>
        flow_Contract_l2 k m ((x.1.1, (), (), (), (), (), x.1.2.2.2.2.2.2.1, (IntKind.i64.wrap (x.1.2.2.2.2.2.2.2.1 + 1)), (), (), ()), (x.2.1, (x.2.2.1.1, (x.2.2.1.2.1, x.2.2.1.2.2)), (x.2.2.2.1.1, r27.1), (x.2.2.2.2.1.1, (x.2.2.2.2.1.2.1, x.2.2.2.2.1.2.2)), (x.2.2.2.2.2.1.1, (x.2.2.2.2.2.1.2.1, ())), (x.2.2.2.2.2.2.1.set (Int.toNat (IntKind.i64.wrap (x.1.2.2.2.2.2.2.2.1 - 1))) (y29.1, y29.2.1, r27.1)), x.2.2.2.2.2.2.2.1, ()))
       else none
     else none
    else
     bif (x.1.2.2.2.2.2.2.2.1 == 0) then
      flow_Contract_l2 k m ((x.1.1, (), (), (), (), (), x.1.2.2.2.2.2.2.1, (IntKind.i64.wrap (x.1.2.2.2.2.2.2.2.1 + 1)), (), (), ()), (x.2.1, (x.2.2.1.1, (x.2.2.1.2.1, x.2.2.1.2.2)), (x.2.2.2.1.1, x.2.2.2.1.2), (x.2.2.2.2.1.1, (x.2.2.2.2.1.2.1, x.2.2.2.2.1.2.2)), (x.2.2.2.2.2.1.1, (x.2.2.2.1.2, ())), x.2.2.2.2.2.2.1, x.2.2.2.2.2.2.2.1, ()))
     else
      if 0 ≤ (IntKind.i64.wrap (x.1.2.2.2.2.2.2.2.1 - 1)) then (x.2.2.2.2.2.2.1[Int.toNat (IntKind.i64.wrap (x.1.2.2.2.2.2.2.2.1 - 1))]?).bind fun _ =>
       (x.2.2.2.2.2.2.1[(Int.toNat (IntKind.i64.wrap (x.1.2.2.2.2.2.2.2.1 - 1)))]?).bind fun y31 =>
       flow_Contract_l2 k m ((x.1.1, (), (), (), (), (), x.1.2.2.2.2.2.2.1, (IntKind.i64.wrap (x.1.2.2.2.2.2.2.2.1 + 1)), (), (), ()), (x.2.1, (x.2.2.1.1, (x.2.2.1.2.1, x.2.2.1.2.2)), (x.2.2.2.1.1, x.2.2.2.1.2), (x.2.2.2.2.1.1, (x.2.2.2.2.1.2.1, x.2.2.2.2.1.2.2)), (x.2.2.2.2.2.1.1, (x.2.2.2.2.2.1.2.1, ())), (x.2.2.2.2.2.2.1.set (Int.toNat (IntKind.i64.wrap (x.1.2.2.2.2.2.2.2.1 - 1))) (y31.1, y31.2.1, x.2.2.2.1.2)), x.2.2.2.2.2.2.2.1, ()))
      else none
  else
   some (Sum.inl ((x.1.1, (), (), (), (), ()), (x.2.1, (x.2.2.1.1, (x.2.2.1.2.1, x.2.2.1.2.2)), (x.2.2.2.2.1.1, (x.2.2.2.2.1.2.1, x.2.2.2.2.1.2.2)), (x.2.2.2.2.2.1.1, (x.2.2.2.2.2.1.2.1, ())), x.2.2.2.2.2.2.1, ())))
abbrev flow_Contract_l2_seg (k : Nat) : Seg := ⟨⟨8, 57, false, [515, 0], [⟨0, 515, 37, 30, [.b, .s2, .s1, .s2, .s2, .s2, .s2]⟩]⟩, 82, [.b, .s2, .s2], flow_Contract_l2_i, flow_Contract_l2_o, flow_Contract_l2 k k⟩
theorem flow_Contract_l2_seg.ok (k : Nat) : SegOK Tryz.prog (e88 k) (flow_Contract_l2_seg k) :=
 SegOK.loop (e88.ok k) (by kernel_rfl) (S := flow_Contract_l2_seg k) (c := atR (codeOf (e88 k) 82) [.l, .b, .s2, .s2]) (by kernel_rfl) (flow_Contract_l2 k) k rfl (fun _ => rfl) 8 (.two .n (.two .n (.two (.two (.two .n (.two .n (.two .n (.two (.call 3 9 .n .n) .n)))) .n) .n))) ⟨trivial, ⟨trivial, ⟨⟨⟨trivial, ⟨trivial, ⟨trivial, ⟨⟨trivial, trivial⟩, trivial⟩⟩⟩⟩, trivial⟩, trivial⟩⟩⟩ (fun k' x => by kernel_rfl)
abbrev flow_Contract_l3_i : Mask := ⟨[(0, 1, (.v T30)), (0, 2, (.k (.ptr 2 0 0))), (0, 4, (.k (.ptr 4 0 0))), (515, 2, (.k (.ptr 2109442 0 0))), (522, 1, (.k (.ptr 2138113 0 0))), (522, 2, (.k (.ptr 2138114 0 0))), (522, 3, (.k (.ptr 2138115 0 0))), (522, 14, (.v (.int .i64))), (522, 15, (.v (.int .i64)))], [(2, .cells (.v T28)), (4, .cells (.pr (.v T23) (.pr (.v T25) (.v T27)))), (2109442, .cells (.pr (.v T23) (.pr (.v T25) (.v T27)))), (2138113, .cells (.pr (.v T23) (.pr (.v T25) (.k (.arr 2138122 0))))), (2138114, .cells (.pr (.v T23) (.pr (.v T25) (.v T27)))), (2138115, .cells (.v T25)), (2138122, .arr 44 T43)], [], 1⟩
abbrev flow_Contract_l3_o : List Out := [⟨.exit 0, ⟨[(0, 1, (.v T30)), (0, 2, (.k (.ptr 2 0 0))), (0, 4, (.k (.ptr 4 0 0))), (515, 2, (.k (.ptr 2109442 0 0))), (522, 1, (.k (.ptr 2138113 0 0))), (522, 2, (.k (.ptr 2138114 0 0)))], [(2, .cells (.v T28)), (4, .cells (.pr (.v T23) (.pr (.v T25) (.v T27)))), (2109442, .cells (.pr (.v T23) (.pr (.v T25) (.v T27)))), (2138113, .cells (.pr (.v T23) (.pr (.v T25) (.k (.arr 2138122 0))))), (2138114, .cells (.pr (.v T23) (.pr (.v T25) (.v T27)))), (2138122, .arr 44 T43)], [], 1⟩⟩]
def flow_Contract_l3 (k : Nat) : Nat → Mask.den flow_Contract_l3_i → Option (denS flow_Contract_l3_o)
 | 0, _ => none
 | m + 1, x =>
  bif (decide (x.1.2.2.2.2.2.2.2.2.1 < x.1.2.2.2.2.2.2.2.1)) then
   if 0 ≤ x.1.2.2.2.2.2.2.2.2.1 then (x.2.2.2.2.2.2.2.1[Int.toNat x.1.2.2.2.2.2.2.2.2.1]?).bind fun _ =>
    (x.2.2.2.2.2.2.2.1[(Int.toNat x.1.2.2.2.2.2.2.2.2.1)]?).bind fun y37 =>
    if 0 ≤ x.1.2.2.2.2.2.2.2.2.1 then ((x.2.2.2.2.2.2.2.1.set (Int.toNat x.1.2.2.2.2.2.2.2.2.1) (y37.1, x.2.2.2.2.2.2.1, y37.2.2))[Int.toNat x.1.2.2.2.2.2.2.2.2.1]?).bind fun _ =>
     ((x.2.2.2.2.2.2.2.1.set (Int.toNat x.1.2.2.2.2.2.2.2.2.1) (y37.1, x.2.2.2.2.2.2.1, y37.2.2))[(Int.toNat x.1.2.2.2.2.2.2.2.2.1)]?).bind fun y39 =>
     flow_Contract_l3 k m ((x.1.1, (), (), (), (), (), (), x.1.2.2.2.2.2.2.2.1, (IntKind.i64.wrap (x.1.2.2.2.2.2.2.2.2.1 + 1)), ()), (x.2.1, (x.2.2.1.1, (x.2.2.1.2.1, x.2.2.1.2.2)), (x.2.2.2.1.1, (x.2.2.2.1.2.1, x.2.2.2.1.2.2)), (x.2.2.2.2.1.1, (x.2.2.2.2.1.2.1, ())), (x.2.2.2.2.2.1.1, (x.2.2.2.2.2.1.2.1, x.2.2.2.2.2.1.2.2)), x.2.2.2.2.2.2.1, ((x.2.2.2.2.2.2.2.1.set (Int.toNat x.1.2.2.2.2.2.2.2.2.1) (y37.1, x.2.2.2.2.2.2.1, y37.2.2)).set (Int.toNat x.1.2.2.2.2.2.2.2.2.1) (y39.1, y39.2.1, x.2.2.2.2.2.2.1)), ()))
    else none
   else none
  else
   some (Sum.inl ((x.1.1, (), (), (), (), (), ()), (x.2.1, (x.2.2.1.1, (x.2.2.1.2.1, x.2.2.1.2.2)), (x.2.2.2.1.1, (x.2.2.2.1.2.1, x.2.2.2.1.2.2)), (x.2.2.2.2.1.1, (x.2.2.2.2.1.2.1, ())), (x.2.2.2.2.2.1.1, (x.2.2.2.2.2.1.2.1, x.2.2.2.2.2.1.2.2)), x.2.2.2.2.2.2.2.1, ())))
abbrev flow_Contract_l3_seg (k : Nat) : Seg := ⟨⟨522, 32, false, [515, 0], []⟩, 61, [.b, .s2, .s1, .s2, .s2, .s2, .s2], flow_Contract_l3_i, flow_Contract_l3_o, flow_Contract_l3 k k⟩
theorem flow_Contract_l3_seg.ok (k : Nat) : SegOK Tryz.prog (e88 k) (flow_Contract_l3_seg k) :=
 SegOK.loop (e88.ok k) (by kernel_rfl) (S := flow_Contract_l3_seg k) (c := atR (codeOf (e88 k) 61) [.l, .b, .s2, .s1, .s2, .s2, .s2, .s2]) (by kernel_rfl) (flow_Contract_l3 k) k rfl (fun _ => rfl) 8 .n trivial (fun k' x => by kernel_rfl)
abbrev flow_Contract_l4_i : Mask := ⟨[(0, 1, (.v T30)), (0, 2, (.k (.ptr 2 0 0))), (0, 4, (.k (.ptr 4 0 0))), (5, 0, (.k (.yld 1))), (5, 1, (.k (.ptr 2113539 0 0))), (5, 2, (.k (.ptr 2113541 0 0))), (5, 3, (.k (.ptr 2113540 0 0))), (5, 13, (.v (.int .i64))), (5, 14, (.v (.int .i64)))], [(2, .cells (.pr (.v T23) (.pr (.v T25) (.k (.arr 27 0))))), (4, .cells (.pr (.v T23) (.pr (.v T25) (.v T27)))), (27, .arr 44 T43), (2113539, .cells (.k (.ptr 2 0 0))), (2113540, .cells (.v T30)), (2113541, .cells (.v .bool))], [], 2⟩
abbrev flow_Contract_l4_o : List Out := [⟨.exit 0, ⟨[(0, 1, (.v T30)), (0, 2, (.k (.ptr 2 0 0))), (0, 4, (.k (.ptr 4 0 0)))], [(2, .cells (.pr (.v T23) (.pr (.v T25) (.k (.arr 27 0))))), (4, .cells (.pr (.v T23) (.pr (.v T25) (.v T27)))), (27, .arr 44 T43)], [], 2⟩⟩]
def flow_Contract_l4 (k : Nat) : Nat → Mask.den flow_Contract_l4_i → Option (denS flow_Contract_l4_o)
 | 0, _ => none
 | m + 1, x =>
  bif (decide (x.1.2.2.2.2.2.2.2.2.1 < x.1.2.2.2.2.2.2.2.1)) then
   bif (!x.2.2.2.2.2.2.1) then
    (flow_Time k (x.2.1.1, x.2.1.2.1, x.2.2.2.1) (IntKind.i64.wrap ((IntKind.i64.wrap ((x.2.2.2.1.length : Int) - 1)) - x.1.2.2.2.2.2.2.2.2.1))).bind fun r41 =>
    if 0 ≤ (IntKind.i64.wrap ((IntKind.i64.wrap ((x.2.2.2.1.length : Int) - 1)) - x.1.2.2.2.2.2.2.2.2.1)) then (x.2.2.2.1[Int.toNat (IntKind.i64.wrap ((IntKind.i64.wrap ((x.2.2.2.1.length : Int) - 1)) - x.1.2.2.2.2.2.2.2.2.1))]?).bind fun _ =>
     if 0 ≤ (IntKind.i64.wrap ((IntKind.i64.wrap ((x.2.2.2.1.length : Int) - 1)) - x.1.2.2.2.2.2.2.2.2.1)) then (x.2.2.2.1[Int.toNat (IntKind.i64.wrap ((IntKind.i64.wrap ((x.2.2.2.1.length : Int) - 1)) - x.1.2.2.2.2.2.2.2.2.1))]?).bind fun _ =>
      if 0 ≤ (IntKind.i64.wrap ((IntKind.i64.wrap ((x.2.2.2.1.length : Int) - 1)) - x.1.2.2.2.2.2.2.2.2.1)) then (x.2.2.2.2.2.1[Int.toNat (IntKind.i64.wrap ((IntKind.i64.wrap ((x.2.2.2.1.length : Int) - 1)) - x.1.2.2.2.2.2.2.2.2.1))]?).bind fun y44 =>
       (ivop_Mul k y44 r41.1).bind fun r45 =>
       if 0 ≤ (IntKind.i64.wrap ((IntKind.i64.wrap ((x.2.2.2.1.length : Int) - 1)) - x.1.2.2.2.2.2.2.2.2.1)) then (x.2.2.2.2.2.1[Int.toNat (IntKind.i64.wrap ((IntKind.i64.wrap ((x.2.2.2.1.length : Int) - 1)) - x.1.2.2.2.2.2.2.2.2.1))]?).bind fun y46 =>
        (iv_Make k (0, false, 0, 0) r41.1.2.2).bind fun r47 =>
        (ivop_Mul k y46 r47.1).bind fun r48 =>
        bif (decide ((IntKind.i64.wrap ((IntKind.i64.wrap ((x.2.2.2.1.length : Int) - 1)) - x.1.2.2.2.2.2.2.2.2.1)) > 0)) then
         if 0 ≤ (IntKind.i64.wrap ((IntKind.i64.wrap ((IntKind.i64.wrap ((x.2.2.2.1.length : Int) - 1)) - x.1.2.2.2.2.2.2.2.2.1)) - 1)) then (x.2.2.2.1[Int.toNat (IntKind.i64.wrap ((IntKind.i64.wrap ((IntKind.i64.wrap ((x.2.2.2.1.length : Int) - 1)) - x.1.2.2.2.2.2.2.2.2.1)) - 1))]?).bind fun _ =>
          (x.2.2.2.1[(Int.toNat (IntKind.i64.wrap ((IntKind.i64.wrap ((x.2.2.2.1.length : Int) - 1)) - x.1.2.2.2.2.2.2.2.2.1)))]?).bind fun y50 =>
          (x.2.2.2.1[(Int.toNat (IntKind.i64.wrap ((IntKind.i64.wrap ((IntKind.i64.wrap ((x.2.2.2.1.length : Int) - 1)) - x.1.2.2.2.2.2.2.2.2.1)) - 1)))]?).bind fun y51 =>
          (ivop_Add k [y51.2.2, r45.1]).bind fun r52 =>
          (iv_Meet k [y50.2.2, r52.1]).bind fun r53 =>
          (x.2.2.2.1[(Int.toNat (IntKind.i64.wrap ((IntKind.i64.wrap ((x.2.2.2.1.length : Int) - 1)) - x.1.2.2.2.2.2.2.2.2.1)))]?).bind fun y54 =>
          ((x.2.2.2.1.set (Int.toNat (IntKind.i64.wrap ((IntKind.i64.wrap ((x.2.2.2.1.length : Int) - 1)) - x.1.2.2.2.2.2.2.2.2.1))) (y54.1, y54.2.1, r53.1))[(Int.toNat (IntKind.i64.wrap ((IntKind.i64.wrap ((x.2.2.2.1.length : Int) - 1)) - x.1.2.2.2.2.2.2.2.2.1)))]?).bind fun y55 =>
          ((x.2.2.2.1.set (Int.toNat (IntKind.i64.wrap ((IntKind.i64.wrap ((x.2.2.2.1.length : Int) - 1)) - x.1.2.2.2.2.2.2.2.2.1))) (y54.1, y54.2.1, r53.1))[(Int.toNat (IntKind.i64.wrap ((IntKind.i64.wrap ((IntKind.i64.wrap ((x.2.2.2.1.length : Int) - 1)) - x.1.2.2.2.2.2.2.2.2.1)) - 1)))]?).bind fun y56 =>
          (ivop_Add k [y56.2.2, r48.1]).bind fun r57 =>
          (iv_Meet k [y55.2.1, r57.1]).bind fun r58 =>
          ((x.2.2.2.1.set (Int.toNat (IntKind.i64.wrap ((IntKind.i64.wrap ((x.2.2.2.1.length : Int) - 1)) - x.1.2.2.2.2.2.2.2.2.1))) (y54.1, y54.2.1, r53.1))[(Int.toNat (IntKind.i64.wrap ((IntKind.i64.wrap ((x.2.2.2.1.length : Int) - 1)) - x.1.2.2.2.2.2.2.2.2.1)))]?).bind fun y59 =>
          flow_Contract_l4 k m ((x.1.1, (), (), (), (), (), (), x.1.2.2.2.2.2.2.2.1, (IntKind.i64.wrap (x.1.2.2.2.2.2.2.2.2.1 + 1)), ()), ((x.2.1.1, (x.2.1.2.1, ())), (x.2.2.1.1, (x.2.2.1.2.1, x.2.2.1.2.2)), ((x.2.2.2.1.set (Int.toNat (IntKind.i64.wrap ((IntKind.i64.wrap ((x.2.2.2.1.length : Int) - 1)) - x.1.2.2.2.2.2.2.2.2.1))) (y54.1, y54.2.1, r53.1)).set (Int.toNat (IntKind.i64.wrap ((IntKind.i64.wrap ((x.2.2.2.1.length : Int) - 1)) - x.1.2.2.2.2.2.2.2.2.1))) (y59.1, r58.1, y59.2.2)), (), x.2.2.2.2.2.1, x.2.2.2.2.2.2.1, ()))
         else none
        else
         (x.2.2.2.1[(Int.toNat (IntKind.i64.wrap ((IntKind.i64.wrap ((x.2.2.2.1.length : Int) - 1)) - x.1.2.2.2.2.2.2.2.2.1)))]?).bind fun y60 =>
         (ivop_Add k [x.2.1.2.1, r45.1]).bind fun r61 =>
         (iv_Meet k [y60.2.2, r61.1]).bind fun r62 =>
         (x.2.2.2.1[(Int.toNat (IntKind.i64.wrap ((IntKind.i64.wrap ((x.2.2.2.1.length : Int) - 1)) - x.1.2.2.2.2.2.2.2.2.1)))]?).bind fun y63 =>
         ((x.2.2.2.1.set (Int.toNat (IntKind.i64.wrap ((IntKind.i64.wrap ((x.2.2.2.1.length : Int) - 1)) - x.1.2.2.2.2.2.2.2.2.1))) (y63.1, y63.2.1, r62.1))[(Int.toNat (IntKind.i64.wrap ((IntKind.i64.wrap ((x.2.2.2.1.length : Int) - 1)) - x.1.2.2.2.2.2.2.2.2.1)))]?).bind fun y64 =>
         (ivop_Add k [x.2.1.2.1, r48.1]).bind fun r65 =>
         (iv_Meet k [y64.2.1, r65.1]).bind fun r66 =>
         ((x.2.2.2.1.set (Int.toNat (IntKind.i64.wrap ((IntKind.i64.wrap ((x.2.2.2.1.length : Int) - 1)) - x.1.2.2.2.2.2.2.2.2.1))) (y63.1, y63.2.1, r62.1))[(Int.toNat (IntKind.i64.wrap ((IntKind.i64.wrap ((x.2.2.2.1.length : Int) - 1)) - x.1.2.2.2.2.2.2.2.2.1)))]?).bind fun y67 =>
         flow_Contract_l4 k m ((x.1.1, (), (), (), (), (), (), x.1.2.2.2.2.2.2.2.1, (IntKind.i64.wrap (x.1.2.2.2.2.2.2.2.2.1 + 1)), ()), ((x.2.1.1, (x.2.1.2.1, ())), (x.2.2.1.1, (x.2.2.1.2.1, x.2.2.1.2.2)), ((x.2.2.2.1.set (Int.toNat (IntKind.i64.wrap ((IntKind.i64.wrap ((x.2.2.2.1.length : Int) - 1)) - x.1.2.2.2.2.2.2.2.2.1))) (y63.1, y63.2.1, r62.1)).set (Int.toNat (IntKind.i64.wrap ((IntKind.i64.wrap ((x.2.2.2.1.length : Int) - 1)) - x.1.2.2.2.2.2.2.2.2.1))) (y67.1, r66.1, y67.2.2)), (), x.2.2.2.2.2.1, x.2.2.2.2.2.2.1, ()))
       else none
      else none
     else none
    else none
   else
    (flow_Time k (x.2.1.1, x.2.1.2.1, x.2.2.2.1) x.1.2.2.2.2.2.2.2.2.1).bind fun r68 =>
    if 0 ≤ x.1.2.2.2.2.2.2.2.2.1 then (x.2.2.2.1[Int.toNat x.1.2.2.2.2.2.2.2.2.1]?).bind fun _ =>
     if 0 ≤ x.1.2.2.2.2.2.2.2.2.1 then (x.2.2.2.1[Int.toNat x.1.2.2.2.2.2.2.2.2.1]?).bind fun _ =>
      if 0 ≤ x.1.2.2.2.2.2.2.2.2.1 then (x.2.2.2.2.2.1[Int.toNat x.1.2.2.2.2.2.2.2.2.1]?).bind fun y71 =>
       (ivop_Mul k y71 r68.1).bind fun r72 =>
       if 0 ≤ x.1.2.2.2.2.2.2.2.2.1 then (x.2.2.2.2.2.1[Int.toNat x.1.2.2.2.2.2.2.2.2.1]?).bind fun y73 =>
        (iv_Make k (0, false, 0, 0) r68.1.2.2).bind fun r74 =>
        (ivop_Mul k y73 r74.1).bind fun r75 =>
        bif (decide (x.1.2.2.2.2.2.2.2.2.1 > 0)) then
         if 0 ≤ (IntKind.i64.wrap (x.1.2.2.2.2.2.2.2.2.1 - 1)) then (x.2.2.2.1[Int.toNat (IntKind.i64.wrap (x.1.2.2.2.2.2.2.2.2.1 - 1))]?).bind fun _ =>
          (x.2.2.2.1[(Int.toNat x.1.2.2.2.2.2.2.2.2.1)]?).bind fun y77 =>
          (x.2.2.2.1[(Int.toNat (IntKind.i64.wrap (x.1.2.2.2.2.2.2.2.2.1 - 1)))]?).bind fun y78 =>
          (ivop_Add k [y78.2.2, r72.1]).bind fun r79 =>
          (iv_Meet k [y77.2.2, r79.1]).bind fun r80 =>
          (x.2.2.2.1[(Int.toNat x.1.2.2.2.2.2.2.2.2.1)]?).bind fun y81 =>
          ((x.2.2.2.1.set (Int.toNat x.1.2.2.2.2.2.2.2.2.1) (y81.1, y81.2.1, r80.1))[(Int.toNat x.1.2.2.2.2.2.2.2.2.1)]?).bind fun y82 =>
          ((x.2.2.2.1.set (Int.toNat x.1.2.2.2.2.2.2.2.2.1) (y81.1, y81.2.1, r80.1))[(Int.toNat (IntKind.i64.wrap (x.1.2.2.2.2.2.2.2.2.1 - 1)))]?).bind fun y83 =>
          (ivop_Add k [y83.2.2, r75.1]).bind fun r84 =>
          (iv_Meet k [y82.2.1, r84.1]).bind fun r85 =>
          ((x.2.2.2.1.set (Int.toNat x.1.2.2.2.2.2.2.2.2.1) (y81.1, y81.2.1, r80.1))[(Int.toNat x.1.2.2.2.2.2.2.2.2.1)]?).bind fun y86 =>
          flow_Contract_l4 k m ((x.1.1, (), (), (), (), (), (), x.1.2.2.2.2.2.2.2.1, (IntKind.i64.wrap (x.1.2.2.2.2.2.2.2.2.1 + 1)), ()), ((x.2.1.1, (x.2.1.2.1, ())), (x.2.2.1.1, (x.2.2.1.2.1, x.2.2.1.2.2)), ((x.2.2.2.1.set (Int.toNat x.1.2.2.2.2.2.2.2.2.1) (y81.1, y81.2.1, r80.1)).set (Int.toNat x.1.2.2.2.2.2.2.2.2.1) (y86.1, r85.1, y86.2.2)), (), x.2.2.2.2.2.1, x.2.2.2.2.2.2.1, ()))
         else none
        else
         (x.2.2.2.1[(Int.toNat x.1.2.2.2.2.2.2.2.2.1)]?).bind fun y87 =>
         (ivop_Add k [x.2.1.2.1, r72.1]).bind fun r88 =>
         (iv_Meet k [y87.2.2, r88.1]).bind fun r89 =>
         (x.2.2.2.1[(Int.toNat x.1.2.2.2.2.2.2.2.2.1)]?).bind fun y90 =>
         ((x.2.2.2.1.set (Int.toNat x.1.2.2.2.2.2.2.2.2.1) (y90.1, y90.2.1, r89.1))[(Int.toNat x.1.2.2.2.2.2.2.2.2.1)]?).bind fun y91 =>
         (ivop_Add k [x.2.1.2.1, r75.1]).bind fun r92 =>
         (iv_Meet k [y91.2.1, r92.1]).bind fun r93 =>
         ((x.2.2.2.1.set (Int.toNat x.1.2.2.2.2.2.2.2.2.1) (y90.1, y90.2.1, r89.1))[(Int.toNat x.1.2.2.2.2.2.2.2.2.1)]?).bind fun y94 =>
         flow_Contract_l4 k m ((x.1.1, (), (), (), (), (), (), x.1.2.2.2.2.2.2.2.1, (IntKind.i64.wrap (x.1.2.2.2.2.2.2.2.2.1 + 1)), ()), ((x.2.1.1, (x.2.1.2.1, ())), (x.2.2.1.1, (x.2.2.1.2.1, x.2.2.1.2.2)), ((x.2.2.2.1.set (Int.toNat x.1.2.2.2.2.2.2.2.2.1) (y90.1, y90.2.1, r89.1)).set (Int.toNat x.1.2.2.2.2.2.2.2.2.1) (y94.1, r93.1, y94.2.2)), (), x.2.2.2.2.2.1, x.2.2.2.2.2.2.1, ()))
       else none
      else none
     else none
    else none
  else
   some (Sum.inl ((x.1.1, (), (), ()), ((x.2.1.1, (x.2.1.2.1, ())), (x.2.2.1.1, (x.2.2.1.2.1, x.2.2.1.2.2)), x.2.2.2.1, ())))
abbrev flow_Contract_l4_seg (k : Nat) : Seg := ⟨⟨5, 82, false, [0], [⟨1, 0, 102, 11, [.b, .s2, .s1, .s2, .s2, .s2, .s2]⟩]⟩, 62, [.b, .s2], flow_Contract_l4_i, flow_Contract_l4_o, flow_Contract_l4 k k⟩
theorem flow_Contract_l4_seg.ok (k : Nat) : SegOK Tryz.prog (e88 k) (flow_Contract_l4_seg k) :=
 SegOK.loop (e88.ok k) (by kernel_rfl) (S := flow_Contract_l4_seg k) (c := atR (codeOf (e88 k) 62) [.l, .b, .s2]) (by kernel_rfl) (flow_Contract_l4 k) k rfl (fun _ => rfl) 8 (.two .n (.two .n (.two (.two (.two .n (.two .n (.two .n (.two .n (.two .n (.two .n (.two (.call 2 11 .n .n) .n))))))) .n) .n))) ⟨trivial, ⟨trivial, ⟨⟨⟨trivial, ⟨trivial, ⟨trivial, ⟨trivial, ⟨trivial, ⟨trivial, ⟨⟨trivial, trivial⟩, trivial⟩⟩⟩⟩⟩⟩⟩, trivial⟩, trivial⟩⟩⟩ (fun k' x => by kernel_rfl)
abbrev flow_Contract_l5_i : Mask := ⟨[(0, 2, (.k (.ptr 2 0 0))), (0, 4, (.k (.ptr 4 0 0))), (13, 0, (.k (.yld 2))), (13, 1, (.k (.ptr 2146307 0 0))), (13, 2, (.k (.ptr 2146309 0 0))), (13, 3, (.k (.ptr 2146308 0 0))), (13, 13, (.v (.int .i64))), (13, 14, (.v (.int .i64)))], [(2, .cells (.pr (.v T23) (.pr (.v T25) (.k (.arr 27 0))))), (4, .cells (.pr (.v T23) (.pr (.v T25) (.v T27)))), (27, .arr 44 T43), (2146307, .cells (.k (.ptr 2 0 0))), (2146308, .cells (.v T30)), (2146309, .cells (.v .bool))], [], 3⟩
abbrev flow_Contract_l5_o : List Out := [⟨.exit 0, ⟨[(0, 2, (.k (.ptr 2 0 0))), (0, 4, (.k (.ptr 4 0 0)))], [(2, .cells (.pr (.v T23) (.pr (.v T25) (.k (.arr 27 0))))), (4, .cells (.pr (.v T23) (.pr (.v T25) (.v T27)))), (27, .arr 44 T43)], [], 3⟩⟩]
def flow_Contract_l5 (k : Nat) : Nat → Mask.den flow_Contract_l5_i → Option (denS flow_Contract_l5_o)
 | 0, _ => none
 | m + 1, x =>
  bif (decide (x.1.2.2.2.2.2.2.2.1 < x.1.2.2.2.2.2.2.1)) then
   bif (!x.2.2.2.2.2.2.1) then
    (flow_Time k (x.2.1.1, x.2.1.2.1, x.2.2.2.1) (IntKind.i64.wrap ((IntKind.i64.wrap ((x.2.2.2.1.length : Int) - 1)) - x.1.2.2.2.2.2.2.2.1))).bind fun r99 =>
    if 0 ≤ (IntKind.i64.wrap ((IntKind.i64.wrap ((x.2.2.2.1.length : Int) - 1)) - x.1.2.2.2.2.2.2.2.1)) then (x.2.2.2.1[Int.toNat (IntKind.i64.wrap ((IntKind.i64.wrap ((x.2.2.2.1.length : Int) - 1)) - x.1.2.2.2.2.2.2.2.1))]?).bind fun _ =>
     if 0 ≤ (IntKind.i64.wrap ((IntKind.i64.wrap ((x.2.2.2.1.length : Int) - 1)) - x.1.2.2.2.2.2.2.2.1)) then (x.2.2.2.1[Int.toNat (IntKind.i64.wrap ((IntKind.i64.wrap ((x.2.2.2.1.length : Int) - 1)) - x.1.2.2.2.2.2.2.2.1))]?).bind fun _ =>
      if 0 ≤ (IntKind.i64.wrap ((IntKind.i64.wrap ((x.2.2.2.1.length : Int) - 1)) - x.1.2.2.2.2.2.2.2.1)) then (x.2.2.2.2.2.1[Int.toNat (IntKind.i64.wrap ((IntKind.i64.wrap ((x.2.2.2.1.length : Int) - 1)) - x.1.2.2.2.2.2.2.2.1))]?).bind fun y102 =>
       (ivop_Mul k y102 r99.1).bind fun r103 =>
       if 0 ≤ (IntKind.i64.wrap ((IntKind.i64.wrap ((x.2.2.2.1.length : Int) - 1)) - x.1.2.2.2.2.2.2.2.1)) then (x.2.2.2.2.2.1[Int.toNat (IntKind.i64.wrap ((IntKind.i64.wrap ((x.2.2.2.1.length : Int) - 1)) - x.1.2.2.2.2.2.2.2.1))]?).bind fun y104 =>
        (iv_Make k (0, false, 0, 0) r99.1.2.2).bind fun r105 =>
        (ivop_Mul k y104 r105.1).bind fun r106 =>
        bif (decide ((IntKind.i64.wrap ((IntKind.i64.wrap ((x.2.2.2.1.length : Int) - 1)) - x.1.2.2.2.2.2.2.2.1)) > 0)) then
         if 0 ≤ (IntKind.i64.wrap ((IntKind.i64.wrap ((IntKind.i64.wrap ((x.2.2.2.1.length : Int) - 1)) - x.1.2.2.2.2.2.2.2.1)) - 1)) then (x.2.2.2.1[Int.toNat (IntKind.i64.wrap ((IntKind.i64.wrap ((IntKind.i64.wrap ((x.2.2.2.1.length : Int) - 1)) - x.1.2.2.2.2.2.2.2.1)) - 1))]?).bind fun _ =>
          (x.2.2.2.1[(Int.toNat (IntKind.i64.wrap ((IntKind.i64.wrap ((IntKind.i64.wrap ((x.2.2.2.1.length : Int) - 1)) - x.1.2.2.2.2.2.2.2.1)) - 1)))]?).bind fun y108 =>
          (x.2.2.2.1[(Int.toNat (IntKind.i64.wrap ((IntKind.i64.wrap ((x.2.2.2.1.length : Int) - 1)) - x.1.2.2.2.2.2.2.2.1)))]?).bind fun y109 =>
          (ivop_Sub k y109.2.2 r103.1).bind fun r110 =>
          (iv_Meet k [y108.2.2, r110.1]).bind fun r111 =>
          (x.2.2.2.1[(Int.toNat (IntKind.i64.wrap ((IntKind.i64.wrap ((IntKind.i64.wrap ((x.2.2.2.1.length : Int) - 1)) - x.1.2.2.2.2.2.2.2.1)) - 1)))]?).bind fun y112 =>
          ((x.2.2.2.1.set (Int.toNat (IntKind.i64.wrap ((IntKind.i64.wrap ((IntKind.i64.wrap ((x.2.2.2.1.length : Int) - 1)) - x.1.2.2.2.2.2.2.2.1)) - 1))) (y112.1, y112.2.1, r111.1))[(Int.toNat (IntKind.i64.wrap ((IntKind.i64.wrap ((x.2.2.2.1.length : Int) - 1)) - x.1.2.2.2.2.2.2.2.1)))]?).bind fun y113 =>
          ((x.2.2.2.1.set (Int.toNat (IntKind.i64.wrap ((IntKind.i64.wrap ((IntKind.i64.wrap ((x.2.2.2.1.length : Int) - 1)) - x.1.2.2.2.2.2.2.2.1)) - 1))) (y112.1, y112.2.1, r111.1))[(Int.toNat (IntKind.i64.wrap ((IntKind.i64.wrap ((x.2.2.2.1.length : Int) - 1)) - x.1.2.2.2.2.2.2.2.1)))]?).bind fun y114 =>
          (ivop_Sub k y114.2.2 r106.1).bind fun r115 =>
          (iv_Meet k [y113.2.1, r115.1]).bind fun r116 =>
          ((x.2.2.2.1.set (Int.toNat (IntKind.i64.wrap ((IntKind.i64.wrap ((IntKind.i64.wrap ((x.2.2.2.1.length : Int) - 1)) - x.1.2.2.2.2.2.2.2.1)) - 1))) (y112.1, y112.2.1, r111.1))[(Int.toNat (IntKind.i64.wrap ((IntKind.i64.wrap ((x.2.2.2.1.length : Int) - 1)) - x.1.2.2.2.2.2.2.2.1)))]?).bind fun y117 =>
          flow_Contract_l5 k m (((), (), (), (), (), (), x.1.2.2.2.2.2.2.1, (IntKind.i64.wrap (x.1.2.2.2.2.2.2.2.1 + 1)), ()), ((x.2.1.1, (x.2.1.2.1, ())), (x.2.2.1.1, (x.2.2.1.2.1, x.2.2.1.2.2)), ((x.2.2.2.1.set (Int.toNat (IntKind.i64.wrap ((IntKind.i64.wrap ((IntKind.i64.wrap ((x.2.2.2.1.length : Int) - 1)) - x.1.2.2.2.2.2.2.2.1)) - 1))) (y112.1, y112.2.1, r111.1)).set (Int.toNat (IntKind.i64.wrap ((IntKind.i64.wrap ((x.2.2.2.1.length : Int) - 1)) - x.1.2.2.2.2.2.2.2.1))) (y117.1, r116.1, y117.2.2)), (), x.2.2.2.2.2.1, x.2.2.2.2.2.2.1, ()))
         else none
        else
         (x.2.2.2.1[(Int.toNat (IntKind.i64.wrap ((IntKind.i64.wrap ((x.2.2.2.1.length : Int) - 1)) - x.1.2.2.2.2.2.2.2.1)))]?).bind fun y118 =>
         (ivop_Sub k y118.2.2 r103.1).bind fun r119 =>
         (iv_Meet k [x.2.1.2.1, r119.1]).bind fun r120 =>
         (x.2.2.2.1[(Int.toNat (IntKind.i64.wrap ((IntKind.i64.wrap ((x.2.2.2.1.length : Int) - 1)) - x.1.2.2.2.2.2.2.2.1)))]?).bind fun y121 =>
         (x.2.2.2.1[(Int.toNat (IntKind.i64.wrap ((IntKind.i64.wrap ((x.2.2.2.1.length : Int) - 1)) - x.1.2.2.2.2.2.2.2.1)))]?).bind fun y122 =>
         (ivop_Sub k y122.2.2 r106.1).bind fun r123 =>
         (iv_Meet k [y121.2.1, r123.1]).bind fun r124 =>
         (x.2.2.2.1[(Int.toNat (IntKind.i64.wrap ((IntKind.i64.wrap ((x.2.2.2.1.length : Int) - 1)) - x.1.2.2.2.2.2.2.2.1)))]?).bind fun y125 =>
         flow_Contract_l5 k m (((), (), (), (), (), (), x.1.2.2.2.2.2.2.1, (IntKind.i64.wrap (x.1.2.2.2.2.2.2.2.1 + 1)), ()), ((x.2.1.1, (r120.1, ())), (x.2.2.1.1, (x.2.2.1.2.1, x.2.2.1.2.2)), (x.2.2.2.1.set (Int.toNat (IntKind.i64.wrap ((IntKind.i64.wrap ((x.2.2.2.1.length : Int) - 1)) - x.1.2.2.2.2.2.2.2.1))) (y125.1, r124.1, y125.2.2)), (), x.2.2.2.2.2.1, x.2.2.2.2.2.2.1, ()))
       else none
      else none
     else none
    else none
   else
    (flow_Time k (x.2.1.1, x.2.1.2.1, x.2.2.2.1) x.1.2.2.2.2.2.2.2.1).bind fun r126 =>
    if 0 ≤ x.1.2.2.2.2.2.2.2.1 then (x.2.2.2.1[Int.toNat x.1.2.2.2.2.2.2.2.1]?).bind fun _ =>
     if 0 ≤ x.1.2.2.2.2.2.2.2.1 then (x.2.2.2.1[Int.toNat x.1.2.2.2.2.2.2.2.1]?).bind fun _ =>
      if 0 ≤ x.1.2.2.2.2.2.2.2.1 then (x.2.2.2.2.2.1[Int.toNat x.1.2.2.2.2.2.2.2.1]?).bind fun y129 =>
       (ivop_Mul k y129 r126.1).bind fun r130 =>
       if 0 ≤ x.1.2.2.2.2.2.2.2.1 then (x.2.2.2.2.2.1[Int.toNat x.1.2.2.2.2.2.2.2.1]?).bind fun y131 =>
        (iv_Make k (0, false, 0, 0) r126.1.2.2).bind fun r132 =>
        (ivop_Mul k y131 r132.1).bind fun r133 =>
        bif (decide (x.1.2.2.2.2.2.2.2.1 > 0)) then
         if 0 ≤ (IntKind.i64.wrap (x.1.2.2.2.2.2.2.2.1 - 1)) then (x.2.2.2.1[Int.toNat (IntKind.i64.wrap (x.1.2.2.2.2.2.2.2.1 - 1))]?).bind fun _ =>
          (x.2.2.2.1[(Int.toNat (IntKind.i64.wrap (x.1.2.2.2.2.2.2.2.1 - 1)))]?).bind fun y135 =>
          (x.2.2.2.1[(Int.toNat x.1.2.2.2.2.2.2.2.1)]?).bind fun y136 =>
          (ivop_Sub k y136.2.2 r130.1).bind fun r137 =>
          (iv_Meet k [y135.2.2, r137.1]).bind fun r138 =>
          (x.2.2.2.1[(Int.toNat (IntKind.i64.wrap (x.1.2.2.2.2.2.2.2.1 - 1)))]?).bind fun y139 =>
          ((x.2.2.2.1.set (Int.toNat (IntKind.i64.wrap (x.1.2.2.2.2.2.2.2.1 - 1))) (y139.1, y139.2.1, r138.1))[(Int.toNat x.1.2.2.2.2.2.2.2.1)]?).bind fun y140 =>
          ((x.2.2.2.1.set (Int.toNat (IntKind.i64.wrap (x.1.2.2.2.2.2.2.2.1 - 1))) (y139.1, y139.2.1, r138.1))[(Int.toNat x.1.2.2.2.2.2.2.2.1)]?).bind fun y141 =>
          (ivop_Sub k y141.2.2 r133.1).bind fun r142 =>
          (iv_Meet k [y140.2.1, r142.1]).bind fun r143 =>
          ((x.2.2.2.1.set (Int.toNat (IntKind.i64.wrap (x.1.2.2.2.2.2.2.2.1 - 1))) (y139.1, y139.2.1, r138.1))[(Int.toNat x.1.2.2.2.2.2.2.2.1)]?).bind fun y144 =>
          flow_Contract_l5 k m (((), (), (), (), (), (), x.1.2.2.2.2.2.2.1, (IntKind.i64.wrap (x.1.2.2.2.2.2.2.2.1 + 1)), ()), ((x.2.1.1, (x.2.1.2.1, ())), (x.2.2.1.1, (x.2.2.1.2.1, x.2.2.1.2.2)), ((x.2.2.2.1.set (Int.toNat (IntKind.i64.wrap (x.1.2.2.2.2.2.2.2.1 - 1))) (y139.1, y139.2.1, r138.1)).set (Int.toNat x.1.2.2.2.2.2.2.2.1) (y144.1, r143.1, y144.2.2)), (), x.2.2.2.2.2.1, x.2.2.2.2.2.2.1, ()))
         else none
        else
         (x.2.2.2.1[(Int.toNat x.1.2.2.2.2.2.2.2.1)]?).bind fun y145 =>
         (ivop_Sub k y145.2.2 r130.1).bind fun r146 =>
         (iv_Meet k [x.2.1.2.1, r146.1]).bind fun r147 =>
         (x.2.2.2.1[(Int.toNat x.1.2.2.2.2.2.2.2.1)]?).bind fun y148 =>
         (x.2.2.2.1[(Int.toNat x.1.2.2.2.2.2.2.2.1)]?).bind fun y149 =>
         (ivop_Sub k y149.2.2 r133.1).bind fun r150 =>
         (iv_Meet k [y148.2.1, r150.1]).bind fun r151 =>
         (x.2.2.2.1[(Int.toNat x.1.2.2.2.2.2.2.2.1)]?).bind fun y152 =>
         flow_Contract_l5 k m (((), (), (), (), (), (), x.1.2.2.2.2.2.2.1, (IntKind.i64.wrap (x.1.2.2.2.2.2.2.2.1 + 1)), ()), ((x.2.1.1, (r147.1, ())), (x.2.2.1.1, (x.2.2.1.2.1, x.2.2.1.2.2)), (x.2.2.2.1.set (Int.toNat x.1.2.2.2.2.2.2.2.1) (y152.1, r151.1, y152.2.2)), (), x.2.2.2.2.2.1, x.2.2.2.2.2.2.1, ()))
       else none
      else none
     else none
    else none
  else
   some (Sum.inl (((), (), ()), ((x.2.1.1, (x.2.1.2.1, ())), (x.2.2.1.1, (x.2.2.1.2.1, x.2.2.1.2.2)), x.2.2.2.1, ())))
abbrev flow_Contract_l5_seg (k : Nat) : Seg := ⟨⟨13, 82, false, [0], [⟨2, 0, 102, 11, [.b, .s2, .s1, .s2, .s2, .s2, .s2, .s2]⟩]⟩, 62, [.b, .s2], flow_Contract_l5_i, flow_Contract_l5_o, flow_Contract_l5 k k⟩
theorem flow_Contract_l5_seg.ok (k : Nat) : SegOK Tryz.prog (e88 k) (flow_Contract_l5_seg k) :=
 SegOK.loop (e88.ok k) (by kernel_rfl) (S := flow_Contract_l5_seg k) (c := atR (codeOf (e88 k) 62) [.l, .b, .s2]) (by kernel_rfl) (flow_Contract_l5 k) k rfl (fun _ => rfl) 8 (.two .n (.two .n (.two (.two (.two .n (.two .n (.two .n (.two .n (.two .n (.two .n (.two (.call 2 14 .n .n) .n))))))) .n) .n))) ⟨trivial, ⟨trivial, ⟨⟨⟨trivial, ⟨trivial, ⟨trivial, ⟨trivial, ⟨trivial, ⟨trivial, ⟨⟨trivial, trivial⟩, trivial⟩⟩⟩⟩⟩⟩⟩, trivial⟩, trivial⟩⟩⟩ (fun k' x => by kernel_rfl)
def flow_Contract (k : Nat) (x0 : Ty.den T28) (x1 : Ty.den T30) : Option (HL [T28, (.int .i64)]) :=
 (tube_May k x0).bind fun r1 =>
 bif (!r1.1) then
  some (((0, false, 0, 0), (false, (0, false, 0, 0), 0, false, 0, 0), []), 1, ())
 else
  bif ((x1.length : Int) != (x0.2.2.length : Int)) then
   some (((0, false, 0, 0), (false, (0, false, 0, 0), 0, false, 0, 0), []), 1, ())
  else
   (flow_Contract_l0 k k ((x1, (), (), false, x1, (), (x1.length : Int), 0, ()), (x0, ((0, false, 0, 0), ((false, (0, false, 0, 0), 0, false, 0, 0), [])), ()))).bind fun q4 =>
   Sum.elim (fun z5 =>
     bif z5.1.2.2.2.1 then
      some (((0, false, 0, 0), (false, (0, false, 0, 0), 0, false, 0, 0), []), 1, ())
     else
      bif (decide (z5.1.2.2.2.2.1 ≥ 0)) then
       some (((0, false, 0, 0), (false, (0, false, 0, 0), 0, false, 0, 0), []), 1, ())
      else
       (tube_May k z5.2.1).bind fun r6 =>
       bif (!r6.1) then
        none
       else
        if z5.2.1.2.2.length * 176 ≤ 140737488355328 then
         (flow_Contract_l2 k k ((z5.1.1, (), (), (), (), (), (IntKind.i64.wrap ((z5.2.1.2.2.length : Int) + 1)), 0, (), (), ()), (z5.2.1, (z5.2.2.1.1, (z5.2.2.1.2.1, z5.2.2.1.2.2)), (z5.2.1.1, z5.2.1.2.1), ((0, false, 0, 0), ((false, (0, false, 0, 0), 0, false, 0, 0), [])), (z5.2.1.1, (z5.2.1.2.1, ())), z5.2.1.2.2, z5.2.1, ()))).bind fun q32 =>
         Sum.elim (fun z33 =>
           (tube_Empty k (z33.2.2.2.2.1.1, z33.2.2.2.2.1.2.1, z33.2.2.2.2.2.1)).bind fun r34 =>
           bif r34.1 then
            (iv_None k).bind fun r35 =>
            if z33.2.2.2.2.2.1.length * 176 ≤ 140737488355328 then
             (flow_Contract_l3 k k ((z33.1.1, (), (), (), (), (), (), (z33.2.2.2.2.2.1.length : Int), 0, ()), (z33.2.1, (z33.2.2.1.1, (z33.2.2.1.2.1, z33.2.2.1.2.2)), (z33.2.2.2.1.1, (z33.2.2.2.1.2.1, z33.2.2.2.1.2.2)), (z33.2.2.2.2.1.1, (r35.1, ())), ((0, false, 0, 0), ((false, (0, false, 0, 0), 0, false, 0, 0), [])), r35.1, z33.2.2.2.2.2.1, ()))).bind fun q40 =>
             Sum.elim (fun z96 =>
               (flow_Contract_l4 k k ((z96.1.1, (), (), (), (), (), (), (z96.2.2.2.2.2.2.1.length : Int), 0, ()), ((z96.2.2.2.2.1.1, (z96.2.2.2.2.1.2.1, ())), (z96.2.2.1.1, (z96.2.2.1.2.1, z96.2.2.1.2.2)), z96.2.2.2.2.2.2.1, (), z96.1.1, true, ()))).bind fun q97 =>
               Sum.elim (fun z98 =>
                 (flow_Contract_l5 k k (((), (), (), (), (), (), (z98.2.2.2.1.length : Int), 0, ()), ((z98.2.1.1, (z98.2.1.2.1, ())), (z98.2.2.1.1, (z98.2.2.1.2.1, z98.2.2.1.2.2)), z98.2.2.2.1, (), z98.1.1, false, ()))).bind fun q153 =>
                 Sum.elim (fun z154 =>
                   (tube_Fit k (z154.2.1.1, z154.2.1.2.1, z154.2.2.2.1)).bind fun r155 =>
                   some (r155.1, 0, ()))
                  (fun q153' =>
                   none) q153)
                (fun q97' =>
                 none) q97)
              (fun q40' =>
               none) q40
            else none
           else
            (flow_Contract_l4 k k ((z33.1.1, (), (), (), (), (), (), (z33.2.2.2.2.2.1.length : Int), 0, ()), ((z33.2.2.2.2.1.1, (z33.2.2.2.2.1.2.1, ())), (z33.2.2.1.1, (z33.2.2.1.2.1, z33.2.2.1.2.2)), z33.2.2.2.2.2.1, (), z33.1.1, true, ()))).bind fun q95 =>
            Sum.elim (fun z156 =>
              (flow_Contract_l5 k k (((), (), (), (), (), (), (z156.2.2.2.1.length : Int), 0, ()), ((z156.2.1.1, (z156.2.1.2.1, ())), (z156.2.2.1.1, (z156.2.2.1.2.1, z156.2.2.1.2.2)), z156.2.2.2.1, (), z156.1.1, false, ()))).bind fun q157 =>
              Sum.elim (fun z158 =>
                (tube_Fit k (z158.2.1.1, z158.2.1.2.1, z158.2.2.2.1)).bind fun r159 =>
                some (r159.1, 0, ()))
               (fun q157' =>
                none) q157)
             (fun q95' =>
              none) q95)
          (fun q32' =>
           none) q32
        else none)
    (fun q4' =>
     Sum.elim (fun z160 =>
       bif z160.1.2.2.2.1 then
        some (((0, false, 0, 0), (false, (0, false, 0, 0), 0, false, 0, 0), []), 1, ())
       else
        (tube_May k z160.2.1).bind fun r161 =>
        bif (!r161.1) then
         none
        else
         if z160.2.1.2.2.length * 176 ≤ 140737488355328 then
          (flow_Contract_l2 k k ((z160.1.1, (), (), (), (), (), (IntKind.i64.wrap ((z160.2.1.2.2.length : Int) + 1)), 0, (), (), ()), (z160.2.1, (z160.2.2.1.1, (z160.2.2.1.2.1, z160.2.2.1.2.2)), (z160.2.1.1, z160.2.1.2.1), ((0, false, 0, 0), ((false, (0, false, 0, 0), 0, false, 0, 0), [])), (z160.2.1.1, (z160.2.1.2.1, ())), z160.2.1.2.2, z160.2.1, ()))).bind fun q163 =>
          Sum.elim (fun z164 =>
            (tube_Empty k (z164.2.2.2.2.1.1, z164.2.2.2.2.1.2.1, z164.2.2.2.2.2.1)).bind fun r165 =>
            bif r165.1 then
             (iv_None k).bind fun r166 =>
             if z164.2.2.2.2.2.1.length * 176 ≤ 140737488355328 then
              (flow_Contract_l3 k k ((z164.1.1, (), (), (), (), (), (), (z164.2.2.2.2.2.1.length : Int), 0, ()), (z164.2.1, (z164.2.2.1.1, (z164.2.2.1.2.1, z164.2.2.1.2.2)), (z164.2.2.2.1.1, (z164.2.2.2.1.2.1, z164.2.2.2.1.2.2)), (z164.2.2.2.2.1.1, (r166.1, ())), ((0, false, 0, 0), ((false, (0, false, 0, 0), 0, false, 0, 0), [])), r166.1, z164.2.2.2.2.2.1, ()))).bind fun q167 =>
              Sum.elim (fun z169 =>
                (flow_Contract_l4 k k ((z169.1.1, (), (), (), (), (), (), (z169.2.2.2.2.2.2.1.length : Int), 0, ()), ((z169.2.2.2.2.1.1, (z169.2.2.2.2.1.2.1, ())), (z169.2.2.1.1, (z169.2.2.1.2.1, z169.2.2.1.2.2)), z169.2.2.2.2.2.2.1, (), z169.1.1, true, ()))).bind fun q170 =>
                Sum.elim (fun z171 =>
                  (flow_Contract_l5 k k (((), (), (), (), (), (), (z171.2.2.2.1.length : Int), 0, ()), ((z171.2.1.1, (z171.2.1.2.1, ())), (z171.2.2.1.1, (z171.2.2.1.2.1, z171.2.2.1.2.2)), z171.2.2.2.1, (), z171.1.1, false, ()))).bind fun q172 =>
                  Sum.elim (fun z173 =>
                    (tube_Fit k (z173.2.1.1, z173.2.1.2.1, z173.2.2.2.1)).bind fun r174 =>
                    some (r174.1, 0, ()))
                   (fun q172' =>
                    none) q172)
                 (fun q170' =>
                  none) q170)
               (fun q167' =>
                none) q167
             else none
            else
             (flow_Contract_l4 k k ((z164.1.1, (), (), (), (), (), (), (z164.2.2.2.2.2.1.length : Int), 0, ()), ((z164.2.2.2.2.1.1, (z164.2.2.2.2.1.2.1, ())), (z164.2.2.1.1, (z164.2.2.1.2.1, z164.2.2.1.2.2)), z164.2.2.2.2.2.1, (), z164.1.1, true, ()))).bind fun q168 =>
             Sum.elim (fun z175 =>
               (flow_Contract_l5 k k (((), (), (), (), (), (), (z175.2.2.2.1.length : Int), 0, ()), ((z175.2.1.1, (z175.2.1.2.1, ())), (z175.2.2.1.1, (z175.2.2.1.2.1, z175.2.2.1.2.2)), z175.2.2.2.1, (), z175.1.1, false, ()))).bind fun q176 =>
               Sum.elim (fun z177 =>
                 (tube_Fit k (z177.2.1.1, z177.2.1.2.1, z177.2.2.2.1)).bind fun r178 =>
                 some (r178.1, 0, ()))
                (fun q176' =>
                 none) q176)
              (fun q168' =>
               none) q168)
           (fun q163' =>
            none) q163
         else none)
      (fun q4'' =>
       none) q4') q4
theorem flow_Contract.ok (k : Nat) : SpecOK Tryz.prog G0 11 ⟨[T28, T30], [T28, (.int .i64)], fun x => flow_Contract k x.1 x.2.1⟩ :=
 evF_sound (E := (e88 k)) (fn := Tryz.f11) (e88.ok k) (by kernel_rfl) (by kernel_rfl) (by kernel_rfl) 8 (.two .n (.two .n (.two (.two (.call 14 1 (.two .n (.two (.call 2 2 (.two .n (.two (.two .n (.two (.use (flow_Contract_l0_seg k)) .n)) .n)) .n) .n)) .n) .n) (.two (.call 1 515 (.two .n (.two .n (.two .n (.two .n (.two (.two (.call 1 519 .n .n) (.two (.rf 0 8 (.two .n (.two .n (.two (.use (flow_Contract_l2_seg k)) .n)))) .n)) (.two (.two .n (.two (.two (.call 1 522 (.two .n (.two .n (.two .n (.two .n (.two (.two .n (.two (.use (flow_Contract_l3_seg k)) .n)) .n))))) .n) .n) .n)) .n)))))) .n) (.two (.two (.call 1 516 .n .n) (.two (.rf 1 5 (.two .n (.two (.use (flow_Contract_l4_seg k)) .n))) .n)) (.two (.two (.call 1 524 .n .n) (.two (.rf 2 13 (.two .n (.two (.use (flow_Contract_l5_seg k)) .n))) .n)) (.two (.own 1 .n) .n))))))) ⟨trivial, ⟨trivial, ⟨⟨⟨⟨trivial, ⟨⟨⟨trivial, ⟨⟨trivial, ⟨(flow_Contract_l0_seg.ok k), trivial⟩⟩, trivial⟩⟩, trivial⟩, trivial⟩⟩, trivial⟩, trivial⟩, ⟨⟨⟨trivial, ⟨trivial, ⟨trivial, ⟨trivial, ⟨⟨⟨trivial, trivial⟩, ⟨⟨trivial, ⟨trivial, ⟨(flow_Contract_l2_seg.ok k), trivial⟩⟩⟩, trivial⟩⟩, ⟨⟨trivial, ⟨⟨⟨⟨trivial, ⟨trivial, ⟨trivial, ⟨trivial, ⟨⟨trivial, ⟨(flow_Contract_l3_seg.ok k), trivial⟩⟩, trivial⟩⟩⟩⟩⟩, trivial⟩, trivial⟩, trivial⟩⟩, trivial⟩⟩⟩⟩⟩⟩, trivial⟩, ⟨⟨⟨trivial, trivial⟩, ⟨⟨trivial, ⟨(flow_Contract_l4_seg.ok k), trivial⟩⟩, trivial⟩⟩, ⟨⟨⟨trivial, trivial⟩, ⟨⟨trivial, ⟨(flow_Contract_l5_seg.ok k), trivial⟩⟩, trivial⟩⟩, ⟨trivial, trivial⟩⟩⟩⟩⟩⟩⟩ (fun xs => by kernel_rfl)
def e89 (k : Nat) : Env := (e88 k).add 11 ⟨[T28, T30], [T28, (.int .i64)], fun x => flow_Contract k x.1 x.2.1⟩
theorem e89.ok (k : Nat) : (e89 k).OK Tryz.prog := (e88.ok k).add (flow_Contract.ok k)
abbrev flow_Reach_l0_i : Mask := ⟨[(0, 3, (.v T30)), (0, 8, (.k (.ptr 8 0 0))), (0, 10, (.k (.ptr 10 0 0))), (0, 11, (.v (.int .i64))), (0, 26, (.v T31)), (0, 27, (.v (.int .i64))), (0, 28, (.v (.int .i64)))], [(8, .cells (.pr (.v T23) (.pr (.v T25) (.v T27)))), (10, .cells (.v T28))], [], 0⟩
abbrev flow_Reach_l0_o : List Out := [⟨.exit 0, ⟨[(0, 3, (.v T30)), (0, 8, (.k (.ptr 8 0 0))), (0, 10, (.k (.ptr 10 0 0))), (0, 11, (.v (.int .i64)))], [(8, .cells (.pr (.v T23) (.pr (.v T25) (.v T27)))), (10, .cells (.v T28))], [], 0⟩⟩]
def flow_Reach_l0 (k : Nat) : Nat → Mask.den flow_Reach_l0_i → Option (denS flow_Reach_l0_o)
 | 0, _ => none
 | m + 1, x =>
  bif (decide (x.1.2.2.2.2.2.2.1 < x.1.2.2.2.2.2.1)) then
   if 0 ≤ x.1.2.2.2.2.2.2.1 then (x.1.2.2.2.2.1[Int.toNat x.1.2.2.2.2.2.2.1]?).bind fun y2 =>
    bif (x.1.2.2.2.1 == 0) then
     (iv_All k).bind fun r3 =>
     (iv_All k).bind fun r4 =>
     (tube_Append k x.2.2.1 y2 r3.1 r4.1).bind fun r5 =>
     flow_Reach_l0 k m ((x.1.1, (), (), r5.2.1, x.1.2.2.2.2.1, x.1.2.2.2.2.2.1, (IntKind.i64.wrap (x.1.2.2.2.2.2.2.1 + 1)), ()), ((x.2.1.1, (x.2.1.2.1, x.2.1.2.2)), r5.1, ()))
    else
     flow_Reach_l0 k m ((x.1.1, (), (), x.1.2.2.2.1, x.1.2.2.2.2.1, x.1.2.2.2.2.2.1, (IntKind.i64.wrap (x.1.2.2.2.2.2.2.1 + 1)), ()), ((x.2.1.1, (x.2.1.2.1, x.2.1.2.2)), x.2.2.1, ()))
   else none
  else
   some (Sum.inl ((x.1.1, (), (), x.1.2.2.2.1, ()), ((x.2.1.1, (x.2.1.2.1, x.2.1.2.2)), x.2.2.1, ())))
abbrev flow_Reach_l0_seg (k : Nat) : Seg := ⟨⟨0, 52, false, [], []⟩, 13, [.b, .s2, .s1, .s2, .s2, .s2], flow_Reach_l0_i, flow_Reach_l0_o, flow_Reach_l0 k k⟩
theorem flow_Reach_l0_seg.ok (k : Nat) : SegOK Tryz.prog (e89 k) (flow_Reach_l0_seg k) :=
 SegOK.loop (e89.ok k) (by kernel_rfl) (S := flow_Reach_l0_seg k) (c := atR (codeOf (e89 k) 13) [.l, .b, .s2, .s1, .s2, .s2, .s2]) (by kernel_rfl) (flow_Reach_l0 k) k rfl (fun _ => rfl) 8 .n trivial (fun k' x => by kernel_rfl)
def flow_Reach (k : Nat) (x0 : Ty.den T23) (x1 : Ty.den T25) (x2 : Ty.den T31) (x3 : Ty.den T30) : Option (HL [T28, (.int .i64)]) :=
 bif ((x2.length : Int) != (x3.length : Int)) then
  some (((0, false, 0, 0), (false, (0, false, 0, 0), 0, false, 0, 0), []), 1, ())
 else
  (tube_New k x0 x1).bind fun r1 =>
  (flow_Reach_l0 k k ((x3, (), (), r1.2.1, x2, (x2.length : Int), 0, ()), (((0, false, 0, 0), ((false, (0, false, 0, 0), 0, false, 0, 0), [])), r1.1, ()))).bind fun q6 =>
  Sum.elim (fun z7 =>
    bif (z7.1.2.2.2.1 != 0) then
     some (((0, false, 0, 0), (false, (0, false, 0, 0), 0, false, 0, 0), []), z7.1.2.2.2.1, ())
    else
     (flow_Contract k z7.2.2.1 z7.1.1).bind fun r8 =>
     some (r8.1, r8.2.1, ()))
   (fun q6' =>
    none) q6
theorem flow_Reach.ok (k : Nat) : SpecOK Tryz.prog G0 13 ⟨[T23, T25, T31, T30], [T28, (.int .i64)], fun x => flow_Reach k x.1 x.2.1 x.2.2.1 x.2.2.2.1⟩ :=
 evF_sound (E := (e89 k)) (fn := Tryz.f13) (e89.ok k) (by kernel_rfl) (by kernel_rfl) (by kernel_rfl) 8 (.two .n (.two .n (.two .n (.two (.two .n (.two (.use (flow_Reach_l0_seg k)) .n)) .n)))) ⟨trivial, ⟨trivial, ⟨trivial, ⟨⟨trivial, ⟨(flow_Reach_l0_seg.ok k), trivial⟩⟩, trivial⟩⟩⟩⟩ (fun xs => by kernel_rfl)
def e90 (k : Nat) : Env := (e89 k).add 13 ⟨[T23, T25, T31, T30], [T28, (.int .i64)], fun x => flow_Reach k x.1 x.2.1 x.2.2.1 x.2.2.2.1⟩
theorem e90.ok (k : Nat) : (e90 k).OK Tryz.prog := (e89.ok k).add (flow_Reach.ok k)
def peloruslaw18_awake (k : Nat) : Option (HL [.bool]) :=
 (num_Of k 0).bind fun r1 =>
 (peloruslaw08_Of k 0 0).bind fun r2 =>
 (num_Of k 1).bind fun r3 =>
 (num_Of k 2).bind fun r4 =>
 (peloruslaw08_Of k 1 2).bind fun r5 =>
 (peloruslaw08_Of k 0 0).bind fun r6 =>
 (flow_Reach k r1.1 r2.1 [r3.1, r4.1] [r5.1, r6.1]).bind fun r7 =>
 bif (r7.2.1 == 0) then
  bif ((r7.1.2.2.length : Int) == 2) then
   if 0 ≤ 0 then (r7.1.2.2[Int.toNat 0]?).bind fun y8 =>
    (peloruslaw08_Of k 1 2).bind fun r9 =>
    bif (beqT T25 y8.2.2 r9.1) then
     if 0 ≤ 1 then (r7.1.2.2[Int.toNat 1]?).bind fun y10 =>
      (peloruslaw08_Of k 1 2).bind fun r11 =>
      bif (beqT T25 y10.2.2 r11.1) then
       if 0 ≤ 0 then (r7.1.2.2[Int.toNat 0]?).bind fun y12 =>
        (peloruslaw08_Of k 0 2).bind fun r13 =>
        bif (beqT T25 y12.2.1 r13.1) then
         some ((!r7.1.2.1.1), ())
        else
         some (false, ())
       else none
      else
       some (false, ())
     else none
    else
     some (false, ())
   else none
  else
   some (false, ())
 else
  some (false, ())
theorem peloruslaw18_awake.ok (k : Nat) : SpecOK Tryz.prog G0 4 ⟨[], [.bool], fun x => peloruslaw18_awake k⟩ :=
 evF_sound (E := (e90 k)) (fn := Tryz.f4) (e90.ok k) (by kernel_rfl) (by kernel_rfl) (by kernel_rfl) 8 .n trivial (fun xs => by kernel_rfl)
def e91 (k : Nat) : Env := (e90 k).add 4 ⟨[], [.bool], fun x => peloruslaw18_awake k⟩
theorem e91.ok (k : Nat) : (e91 k).OK Tryz.prog := (e90.ok k).add (peloruslaw18_awake.ok k)
abbrev peloruslaw18_FlowKeeps_l0_i : Mask := ⟨[(0, 1, (.v T30)), (0, 2, (.v T31)), (0, 3, (.v T31)), (0, 4, (.k (.ptr 4 0 0))), (0, 11, (.k (.ptr 11 0 0))), (0, 13, (.v (.int .i64)))], [(4, .cells (.v T28)), (11, .cells (.v T39))], [], 0⟩
abbrev peloruslaw18_FlowKeeps_l0_o : List Out := [⟨.ret, ⟨[(0, 8, (.v .bool))], [], [], 0⟩⟩, ⟨.exit 0, ⟨[(0, 1, (.v T30)), (0, 2, (.v T31)), (0, 4, (.k (.ptr 4 0 0)))], [(4, .cells (.v T28))], [], 0⟩⟩]
def peloruslaw18_FlowKeeps_l0 (k : Nat) : Nat → Mask.den peloruslaw18_FlowKeeps_l0_i → Option (denS peloruslaw18_FlowKeeps_l0_o)
 | 0, _ => none
 | m + 1, x =>
  bif (decide (x.1.2.2.2.2.2.1 < (x.1.2.2.1.length : Int))) then
   if 0 ≤ x.1.2.2.2.2.2.1 then (x.2.1.2.2[Int.toNat x.1.2.2.2.2.2.1]?).bind fun y7 =>
    (num_Exact k y7.1).bind fun r8 =>
    if 0 ≤ x.1.2.2.2.2.2.1 then (x.1.2.1[Int.toNat x.1.2.2.2.2.2.1]?).bind fun y9 =>
     if 0 ≤ x.1.2.2.2.2.2.1 then (x.1.2.2.1[Int.toNat x.1.2.2.2.2.2.1]?).bind fun y10 =>
      (dy_Sub k r8.1 x.2.2.1).bind fun r11 =>
      if 0 ≤ (IntKind.i64.wrap (x.1.2.2.2.2.2.1 + 1)) then (x.1.2.1[Int.toNat (IntKind.i64.wrap (x.1.2.2.2.2.2.1 + 1))]?).bind fun y12 =>
       (peloruslaw18_lies k y9 y10 r11.1 y12).bind fun r13 =>
       bif (!r13.1) then
        some (Sum.inl ((true, ()), ()))
       else
        if 0 ≤ x.1.2.2.2.2.2.1 then (x.1.1[Int.toNat x.1.2.2.2.2.2.1]?).bind fun y14 =>
         if 0 ≤ x.1.2.2.2.2.2.1 then (x.1.2.2.1[Int.toNat x.1.2.2.2.2.2.1]?).bind fun y15 =>
          (iv_Has k y14 y15).bind fun r16 =>
          bif (!r16.1) then
           some (Sum.inl ((true, ()), ()))
          else
           if 0 ≤ x.1.2.2.2.2.2.1 then (x.1.2.1[Int.toNat x.1.2.2.2.2.2.1]?).bind fun y17 =>
            (iv_Has k y7.2.1 y17).bind fun r18 =>
            bif (!r18.1) then
             some (Sum.inl ((true, ()), ()))
            else
             if 0 ≤ (IntKind.i64.wrap (x.1.2.2.2.2.2.1 + 1)) then (x.1.2.1[Int.toNat (IntKind.i64.wrap (x.1.2.2.2.2.2.1 + 1))]?).bind fun y19 =>
              (iv_Has k y7.2.1 y19).bind fun r20 =>
              bif (!r20.1) then
               some (Sum.inl ((true, ()), ()))
              else
               if 0 ≤ (IntKind.i64.wrap (x.1.2.2.2.2.2.1 + 1)) then (x.1.2.1[Int.toNat (IntKind.i64.wrap (x.1.2.2.2.2.2.1 + 1))]?).bind fun y21 =>
                (iv_Has k y7.2.2 y21).bind fun r22 =>
                bif (!r22.1) then
                 some (Sum.inl ((true, ()), ()))
                else
                 peloruslaw18_FlowKeeps_l0 k m ((x.1.1, x.1.2.1, x.1.2.2.1, (), (), (IntKind.i64.wrap (x.1.2.2.2.2.2.1 + 1)), ()), (x.2.1, r8.1, ()))
               else none
             else none
           else none
         else none
        else none
      else none
     else none
    else none
   else none
  else
   some (Sum.inr (Sum.inl ((x.1.1, x.1.2.1, (), ()), (x.2.1, ()))))
abbrev peloruslaw18_FlowKeeps_l0_seg (k : Nat) : Seg := ⟨⟨0, 214, false, [], []⟩, 3, [.b, .s2, .s1, .s2, .s2, .s2, .s2, .s2], peloruslaw18_FlowKeeps_l0_i, peloruslaw18_FlowKeeps_l0_o, peloruslaw18_FlowKeeps_l0 k k⟩
theorem peloruslaw18_FlowKeeps_l0_seg.ok (k : Nat) : SegOK Tryz.prog (e91 k) (peloruslaw18_FlowKeeps_l0_seg k) :=
 SegOK.loop (e91.ok k) (by kernel_rfl) (S := peloruslaw18_FlowKeeps_l0_seg k) (c := atR (codeOf (e91 k) 3) [.l, .b, .s2, .s1, .s2, .s2, .s2, .s2, .s2]) (by kernel_rfl) (peloruslaw18_FlowKeeps_l0 k) k rfl (fun _ => rfl) 8 .n trivial (fun k' x => by kernel_rfl)
abbrev peloruslaw18_FlowKeeps_l1_i : Mask := ⟨[(0, 2, (.v T31)), (0, 18, (.k (.ptr 18 0 0))), (0, 20, (.v (.int .i64)))], [(18, .cells (.v T28))], [], 0⟩
abbrev peloruslaw18_FlowKeeps_l1_o : List Out := [⟨.ret, ⟨[(0, 8, (.v .bool))], [], [], 0⟩⟩, ⟨.exit 2, ⟨[], [], [], 0⟩⟩]
def peloruslaw18_FlowKeeps_l1 (k : Nat) : Nat → Mask.den peloruslaw18_FlowKeeps_l1_i → Option (denS peloruslaw18_FlowKeeps_l1_o)
 | 0, _ => none
 | m + 1, x =>
  bif (decide (x.1.2.2.1 < (x.1.1.length : Int))) then
   (tube_Gate k x.2.1 x.1.2.2.1).bind fun r27 =>
   if 0 ≤ x.1.2.2.1 then (x.1.1[Int.toNat x.1.2.2.1]?).bind fun y28 =>
    (iv_Has k r27.1 y28).bind fun r29 =>
    bif (!r29.1) then
     some (Sum.inl ((false, ()), ()))
    else
     bif (decide (x.1.2.2.1 > 0)) then
      if 0 ≤ (IntKind.i64.wrap (x.1.2.2.1 - 1)) then (x.2.1.2.2[Int.toNat (IntKind.i64.wrap (x.1.2.2.1 - 1))]?).bind fun y30 =>
       if 0 ≤ x.1.2.2.1 then (x.1.1[Int.toNat x.1.2.2.1]?).bind fun y31 =>
        (iv_Has k y30.2.1 y31).bind fun r32 =>
        bif (!r32.1) then
         some (Sum.inl ((false, ()), ()))
        else
         if 0 ≤ (IntKind.i64.wrap (x.1.2.2.1 - 1)) then (x.2.1.2.2[Int.toNat (IntKind.i64.wrap (x.1.2.2.1 - 1))]?).bind fun y33 =>
          if 0 ≤ (IntKind.i64.wrap (x.1.2.2.1 - 1)) then (x.1.1[Int.toNat (IntKind.i64.wrap (x.1.2.2.1 - 1))]?).bind fun y34 =>
           (iv_Has k y33.2.1 y34).bind fun r35 =>
           bif (!r35.1) then
            some (Sum.inl ((false, ()), ()))
           else
            peloruslaw18_FlowKeeps_l1 k m ((x.1.1, (), (IntKind.i64.wrap (x.1.2.2.1 + 1)), ()), (x.2.1, ()))
          else none
         else none
       else none
      else none
     else
      peloruslaw18_FlowKeeps_l1 k m ((x.1.1, (), (IntKind.i64.wrap (x.1.2.2.1 + 1)), ()), (x.2.1, ()))
   else none
  else
   some (Sum.inr (Sum.inl ((), ())))
abbrev peloruslaw18_FlowKeeps_l1_seg (k : Nat) : Seg := ⟨⟨0, 214, false, [], []⟩, 3, [.b, .s2, .s1, .s2, .s2, .s2, .s2, .s2, .s2, .s2, .s2], peloruslaw18_FlowKeeps_l1_i, peloruslaw18_FlowKeeps_l1_o, peloruslaw18_FlowKeeps_l1 k k⟩
theorem peloruslaw18_FlowKeeps_l1_seg.ok (k : Nat) : SegOK Tryz.prog (e91 k) (peloruslaw18_FlowKeeps_l1_seg k) :=
 SegOK.loop (e91.ok k) (by kernel_rfl) (S := peloruslaw18_FlowKeeps_l1_seg k) (c := atR (codeOf (e91 k) 3) [.l, .b, .s2, .s1, .s2, .s2, .s2, .s2, .s2, .s2, .s2, .s2]) (by kernel_rfl) (peloruslaw18_FlowKeeps_l1 k) k rfl (fun _ => rfl) 8 .n trivial (fun k' x => by kernel_rfl)
def peloruslaw18_FlowKeeps (k : Nat) (x0 : Ty.den T28) (x1 : Ty.den T30) (x2 : Ty.den T31) (x3 : Ty.den T31) : Option (HL [.bool]) :=
 (peloruslaw18_awake k).bind fun r1 =>
 (peloruslaw18_Plain k x0 x1).bind fun r2 =>
 bif (!r1.1) then
  some (r1.1, ())
 else
  bif (!r2.1) then
   some (r1.1, ())
  else
   (tube_May k x0).bind fun r3 =>
   bif (!r3.1) then
    some (r1.1, ())
   else
    bif ((x2.length : Int) != (IntKind.i64.wrap ((x0.2.2.length : Int) + 1))) then
     some (r1.1, ())
    else
     bif ((x3.length : Int) != (x0.2.2.length : Int)) then
      some (r1.1, ())
     else
      bif ((x1.length : Int) != (x0.2.2.length : Int)) then
       some (r1.1, ())
      else
       if 0 ≤ 0 then (x2[Int.toNat 0]?).bind fun y4 =>
        (iv_Has k x0.2.1 y4).bind fun r5 =>
        bif (!r5.1) then
         some (r1.1, ())
        else
         (num_Exact k x0.1).bind fun r6 =>
         (peloruslaw18_FlowKeeps_l0 k k ((x1, x2, x3, (), (), 0, ()), (x0, r6.1, ()))).bind fun q23 =>
         Sum.elim (fun z24 =>
           some (z24.1.1, ()))
          (fun q23' =>
           Sum.elim (fun z25 =>
             (flow_Contract k z25.2.1 z25.1.1).bind fun r26 =>
             bif (r26.2.1 != 0) then
              some (false, ())
             else
              (peloruslaw18_FlowKeeps_l1 k k ((z25.1.2.1, (), 0, ()), (r26.1, ()))).bind fun q36 =>
              Sum.elim (fun z37 =>
                some (z37.1.1, ()))
               (fun q36' =>
                Sum.elim (fun z38 =>
                  some (true, ()))
                 (fun q36'' =>
                  none) q36') q36)
            (fun q23'' =>
             none) q23') q23
       else none
theorem peloruslaw18_FlowKeeps.ok (k : Nat) : SpecOK Tryz.prog G0 3 ⟨[T28, T30, T31, T31], [.bool], fun x => peloruslaw18_FlowKeeps k x.1 x.2.1 x.2.2.1 x.2.2.2.1⟩ :=
 evF_sound (E := (e91 k)) (fn := Tryz.f3) (e91.ok k) (by kernel_rfl) (by kernel_rfl) (by kernel_rfl) 8 (.two .n (.two .n (.two .n (.two .n (.two .n (.two (.two .n (.two (.use (peloruslaw18_FlowKeeps_l0_seg k)) .n)) (.two .n (.two .n (.two (.two .n (.two (.use (peloruslaw18_FlowKeeps_l1_seg k)) .n)) .n))))))))) ⟨trivial, ⟨trivial, ⟨trivial, ⟨trivial, ⟨trivial, ⟨⟨trivial, ⟨(peloruslaw18_FlowKeeps_l0_seg.ok k), trivial⟩⟩, ⟨trivial, ⟨trivial, ⟨⟨trivial, ⟨(peloruslaw18_FlowKeeps_l1_seg.ok k), trivial⟩⟩, trivial⟩⟩⟩⟩⟩⟩⟩⟩⟩ (fun xs => by kernel_rfl)
def e92 (k : Nat) : Env := (e91 k).add 3 ⟨[T28, T30, T31, T31], [.bool], fun x => peloruslaw18_FlowKeeps k x.1 x.2.1 x.2.2.1 x.2.2.2.1⟩
theorem e92.ok (k : Nat) : (e92 k).OK Tryz.prog := (e91.ok k).add (peloruslaw18_FlowKeeps.ok k)
end
end Go.Proofs.YtjjhfhhoefdjaaaGreatDoor.Rf
