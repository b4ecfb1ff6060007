/- What each function of the program answers upon plain values, and that it does (part 1). No condition. -/
import Derived.Test.YtkcaiodemoalbaaProg
import Derived.Test.YtkcaiodemoalbaaE2
import Derived.KernelRfl
namespace Go.Proofs.Ytkcaiodemoalbaa.Rf
open Go Go.Proofs Go.Proofs.Ytkcaiodemoalbaa
set_option linter.unusedVariables false
set_option linter.unusedSimpArgs false
set_option maxRecDepth 100000
noncomputable section
abbrev T7 : Ty := (.pair (.int .i64) (.pair (.int .i64) (.pair .bool (.int .u8))))
abbrev T23 : Ty := (.pair (.int .i64) (.pair .bool (.pair (.int .u64) (.int .i64))))
abbrev T25 : Ty := (.pair .bool (.pair T23 T23))
abbrev T35 : Ty := (.pair T23 (.pair T25 T25))
abbrev T27 : Ty := (.list T35)
abbrev T28 : Ty := (.pair T23 (.pair T25 T27))
abbrev T56 : Ty := (.pair T23 T25)
abbrev T64 : Ty := (.list T25)
abbrev T72 : Ty := (.list T23)
def bytes0 : ByteArray := ⟨#[0, 1, 2, 2, 3, 3, 3, 3, 4, 4, 4, 4, 4, 4, 4, 4, 5, 5, 5, 5, 5, 5, 5, 5, 5, 5, 5, 5, 5, 5, 5, 5, 6, 6, 6, 6, 6, 6, 6, 6, 6, 6, 6, 6, 6, 6, 6, 6, 6, 6, 6, 6, 6, 6, 6, 6, 6, 6, 6, 6, 6, 6, 6, 6, 7, 7, 7, 7, 7, 7, 7, 7, 7, 7, 7, 7, 7, 7, 7, 7, 7, 7, 7, 7, 7, 7, 7, 7, 7, 7, 7, 7, 7, 7, 7, 7, 7, 7, 7, 7, 7, 7, 7, 7, 7, 7, 7, 7, 7, 7, 7, 7, 7, 7, 7, 7, 7, 7, 7, 7, 7, 7, 7, 7, 7, 7, 7, 7, 8, 8, 8, 8, 8, 8, 8, 8, 8, 8, 8, 8, 8, 8, 8, 8, 8, 8, 8, 8, 8, 8, 8, 8, 8, 8, 8, 8, 8, 8, 8, 8, 8, 8, 8, 8, 8, 8, 8, 8, 8, 8, 8, 8, 8, 8, 8, 8, 8, 8, 8, 8, 8, 8, 8, 8, 8, 8, 8, 8, 8, 8, 8, 8, 8, 8, 8, 8, 8, 8, 8, 8, 8, 8, 8, 8, 8, 8, 8, 8, 8, 8, 8, 8, 8, 8, 8, 8, 8, 8, 8, 8, 8, 8, 8, 8, 8, 8, 8, 8, 8, 8, 8, 8, 8, 8, 8, 8, 8, 8, 8, 8, 8, 8, 8, 8, 8, 8, 8, 8, 8, 8, 8, 8, 8, 8, 8, 8]⟩
def tabs : Tables where
  ty := [(2, (.int .i64)), (3, (.int .i64)), (4, .bool), (5, (.int .u8)), (6, (.int .u8)), (7, T7), (8, T7), (12, (.int .u64)), (21, (.int .i32)), (22, (.int .u64)), (23, T23), (24, T23), (25, T25), (26, T25), (27, T27), (28, T28), (29, T28), (35, T35), (36, T35), (37, (.int .i64)), (56, T56), (57, T56), (64, T64), (72, T72), (87, (.int .u64)), (95, (.int .u32)), (96, (.int .u8)), (97, (.int .u8)), (100, (.int .i32)), (101, (.int .i32))]
  lay := []
  el := [(27, 36, 176), (64, 26, 72), (72, 24, 32)]
  eq := [7, 8, 23, 24, 25, 26, 35, 36, 56, 57]
  str := [9, 10, 11]
  pt := []
  fld := [(7, [(0, 0, 2), (1, 1, 3), (2, 2, 4), (3, 3, 6)]), (8, [(0, 0, 2), (1, 1, 3), (2, 2, 4), (3, 3, 6)]), (23, [(0, 0, 3), (1, 1, 4), (2, 2, 22), (3, 3, 3)]), (24, [(0, 0, 3), (1, 1, 4), (2, 2, 22), (3, 3, 3)]), (25, [(0, 0, 4), (1, 1, 24), (2, 5, 24)]), (26, [(0, 0, 4), (1, 1, 24), (2, 5, 24)]), (28, [(0, 0, 24), (1, 4, 26), (2, 13, 27)]), (29, [(0, 0, 24), (1, 4, 26), (2, 13, 27)]), (35, [(0, 0, 24), (1, 4, 26), (2, 13, 26)]), (36, [(0, 0, 24), (1, 4, 26), (2, 13, 26)]), (56, [(0, 0, 24), (1, 4, 26)]), (57, [(0, 0, 24), (1, 4, 26)])]
  arr := []
def fnL : List (Nat × Func) := [(80, Try.f80), (74, Try.f74), (75, Try.f75), (76, Try.f76), (39, Try.f39), (37, Try.f37), (72, Try.f72), (47, Try.f47), (54, Try.f54), (22, Try.f22), (36, Try.f36), (38, Try.f38), (40, Try.f40), (9, Try.f9), (48, Try.f48), (55, Try.f55), (13, Try.f13), (17, Try.f17), (62, Try.f62), (24, Try.f24), (90, Try.f90), (71, Try.f71), (34, Try.f34), (66, Try.f66), (89, Try.f89), (68, Try.f68), (35, Try.f35), (7, Try.f7), (8, Try.f8), (86, Try.f86), (77, Try.f77), (78, Try.f78), (43, Try.f43), (56, Try.f56), (42, Try.f42), (79, Try.f79), (57, Try.f57), (23, Try.f23), (44, Try.f44), (51, Try.f51), (85, Try.f85), (82, Try.f82), (83, Try.f83), (84, Try.f84), (58, Try.f58), (45, Try.f45), (46, Try.f46), (10, Try.f10), (32, Try.f32), (81, Try.f81), (49, Try.f49), (67, Try.f67), (69, Try.f69), (70, Try.f70), (50, Try.f50), (11, Try.f11), (52, Try.f52), (53, Try.f53), (12, Try.f12), (3, Try.f3), (14, Try.f14), (59, Try.f59), (20, Try.f20), (33, Try.f33), (15, Try.f15), (60, Try.f60), (21, Try.f21), (16, Try.f16), (18, Try.f18), (19, Try.f19), (25, Try.f25), (26, Try.f26), (27, Try.f27), (4, Try.f4), (88, Try.f88), (63, Try.f63), (28, Try.f28), (64, Try.f64), (29, Try.f29), (30, Try.f30), (65, Try.f65), (31, Try.f31), (5, Try.f5), (6, Try.f6), (41, Try.f41), (61, Try.f61), (73, Try.f73), (87, Try.f87)]
theorem fnL.ok : FnsOK Try.prog fnL := ⟨⟨Try.func80, by kernel_rfl⟩, ⟨Try.func74, by kernel_rfl⟩, ⟨Try.func75, by kernel_rfl⟩, ⟨Try.func76, by kernel_rfl⟩, ⟨Try.func39, by kernel_rfl⟩, ⟨Try.func37, by kernel_rfl⟩, ⟨Try.func72, by kernel_rfl⟩, ⟨Try.func47, by kernel_rfl⟩, ⟨Try.func54, by kernel_rfl⟩, ⟨Try.func22, by kernel_rfl⟩, ⟨Try.func36, by kernel_rfl⟩, ⟨Try.func38, by kernel_rfl⟩, ⟨Try.func40, by kernel_rfl⟩, ⟨Try.func9, by kernel_rfl⟩, ⟨Try.func48, by kernel_rfl⟩, ⟨Try.func55, by kernel_rfl⟩, ⟨Try.func13, by kernel_rfl⟩, ⟨Try.func17, by kernel_rfl⟩, ⟨Try.func62, by kernel_rfl⟩, ⟨Try.func24, by kernel_rfl⟩, ⟨Try.func90, by kernel_rfl⟩, ⟨Try.func71, by kernel_rfl⟩, ⟨Try.func34, by kernel_rfl⟩, ⟨Try.func66, by kernel_rfl⟩, ⟨Try.func89, by kernel_rfl⟩, ⟨Try.func68, by kernel_rfl⟩, ⟨Try.func35, by kernel_rfl⟩, ⟨Try.func7, by kernel_rfl⟩, ⟨Try.func8, by kernel_rfl⟩, ⟨Try.func86, by kernel_rfl⟩, ⟨Try.func77, by kernel_rfl⟩, ⟨Try.func78, by kernel_rfl⟩, ⟨Try.func43, by kernel_rfl⟩, ⟨Try.func56, by kernel_rfl⟩, ⟨Try.func42, by kernel_rfl⟩, ⟨Try.func79, by kernel_rfl⟩, ⟨Try.func57, by kernel_rfl⟩, ⟨Try.func23, by kernel_rfl⟩, ⟨Try.func44, by kernel_rfl⟩, ⟨Try.func51, by kernel_rfl⟩, ⟨Try.func85, by kernel_rfl⟩, ⟨Try.func82, by kernel_rfl⟩, ⟨Try.func83, by kernel_rfl⟩, ⟨Try.func84, by kernel_rfl⟩, ⟨Try.func58, by kernel_rfl⟩, ⟨Try.func45, by kernel_rfl⟩, ⟨Try.func46, by kernel_rfl⟩, ⟨Try.func10, by kernel_rfl⟩, ⟨Try.func32, by kernel_rfl⟩, ⟨Try.func81, by kernel_rfl⟩, ⟨Try.func49, by kernel_rfl⟩, ⟨Try.func67, by kernel_rfl⟩, ⟨Try.func69, by kernel_rfl⟩, ⟨Try.func70, by kernel_rfl⟩, ⟨Try.func50, by kernel_rfl⟩, ⟨Try.func11, by kernel_rfl⟩, ⟨Try.func52, by kernel_rfl⟩, ⟨Try.func53, by kernel_rfl⟩, ⟨Try.func12, by kernel_rfl⟩, ⟨Try.func3, by kernel_rfl⟩, ⟨Try.func14, by kernel_rfl⟩, ⟨Try.func59, by kernel_rfl⟩, ⟨Try.func20, by kernel_rfl⟩, ⟨Try.func33, by kernel_rfl⟩, ⟨Try.func15, by kernel_rfl⟩, ⟨Try.func60, by kernel_rfl⟩, ⟨Try.func21, by kernel_rfl⟩, ⟨Try.func16, by kernel_rfl⟩, ⟨Try.func18, by kernel_rfl⟩, ⟨Try.func19, by kernel_rfl⟩, ⟨Try.func25, by kernel_rfl⟩, ⟨Try.func26, by kernel_rfl⟩, ⟨Try.func27, by kernel_rfl⟩, ⟨Try.func4, by kernel_rfl⟩, ⟨Try.func88, by kernel_rfl⟩, ⟨Try.func63, by kernel_rfl⟩, ⟨Try.func28, by kernel_rfl⟩, ⟨Try.func64, by kernel_rfl⟩, ⟨Try.func29, by kernel_rfl⟩, ⟨Try.func30, by kernel_rfl⟩, ⟨Try.func65, by kernel_rfl⟩, ⟨Try.func31, by kernel_rfl⟩, ⟨Try.func5, by kernel_rfl⟩, ⟨Try.func6, by kernel_rfl⟩, ⟨Try.func41, by kernel_rfl⟩, ⟨Try.func61, by kernel_rfl⟩, ⟨Try.func73, by kernel_rfl⟩, ⟨Try.func87, by kernel_rfl⟩, trivial⟩
def clL : List (Nat × TypeId) := [(55, 27)]
theorem clL.ok : ClsOK Try.prog clL := ⟨clone_ok (tb := 4) Try.func55 (by kernel_rfl) (by kernel_rfl) (by kernel_rfl) (by kernel_rfl), trivial⟩
abbrev G0 : World → Prop := fun _ => True
def e0 (_k : Nat) : Env := baseE G0 tabs fnL clL
theorem e0.ok (k : Nat) : (e0 k).OK Try.prog := Env.OK.base (by kernel_rfl) fnL.ok clL.ok
def num_May (k : Nat) (x0 : Ty.den T23) : Option (HL [.bool]) :=
 bif (x0.1 == 0) then
  some ((beqT T23 x0 (0, false, 0, 0)), ())
 else
  bif (x0.1 == 1) then
   bif (decide (x0.2.2.1 ≥ 9223372036854775808)) then
    bif (decide (x0.2.2.2 ≥ (-1048576))) then
     some ((decide (x0.2.2.2 ≤ 1048576)), ())
    else
     some (false, ())
   else
    some (false, ())
  else
   bif (x0.1 == 2) then
    bif (x0.2.2.1 == 0) then
     some ((x0.2.2.2 == 0), ())
    else
     some (false, ())
   else
    some (false, ())
theorem num_May.ok (k : Nat) : SpecOK Try.prog G0 80 ⟨[T23], [.bool], fun x => num_May k x.1⟩ :=
 evF_sound (E := (e0 k)) (fn := Try.f80) (e0.ok k) (by kernel_rfl) (by kernel_rfl) (by kernel_rfl) 8 .n trivial (fun xs => by kernel_rfl)
def e1 (k : Nat) : Env := (e0 k).add 80 ⟨[T23], [.bool], fun x => num_May k x.1⟩
theorem e1.ok (k : Nat) : (e1 k).OK Try.prog := (e0.ok k).add (num_May.ok k)
def num_fair (k : Nat) (x0 : Ty.den T23) : Option (HL [T23]) :=
 (num_May k x0).bind fun r1 =>
 bif (!r1.1) then
  some ((0, false, 0, 0), ())
 else
  some (x0, ())
theorem num_fair.ok (k : Nat) : SpecOK Try.prog G0 74 ⟨[T23], [T23], fun x => num_fair k x.1⟩ :=
 evF_sound (E := (e1 k)) (fn := Try.f74) (e1.ok k) (by kernel_rfl) (by kernel_rfl) (by kernel_rfl) 8 .n trivial (fun xs => by kernel_rfl)
def e2 (k : Nat) : Env := (e1 k).add 74 ⟨[T23], [T23], fun x => num_fair k x.1⟩
theorem e2.ok (k : Nat) : (e2 k).OK Try.prog := (e1.ok k).add (num_fair.ok k)
def num_Sign (k : Nat) (x0 : Ty.den T23) : Option (HL [(.int .i64)]) :=
 (num_fair k x0).bind fun r1 =>
 bif (r1.1.1 == 0) then
  some (0, ())
 else
  bif r1.1.2.1 then
   some ((-1), ())
  else
   some (1, ())
theorem num_Sign.ok (k : Nat) : SpecOK Try.prog G0 75 ⟨[T23], [(.int .i64)], fun x => num_Sign k x.1⟩ :=
 evF_sound (E := (e2 k)) (fn := Try.f75) (e2.ok k) (by kernel_rfl) (by kernel_rfl) (by kernel_rfl) 8 .n trivial (fun xs => by kernel_rfl)
def e3 (k : Nat) : Env := (e2 k).add 75 ⟨[T23], [(.int .i64)], fun x => num_Sign k x.1⟩
theorem e3.ok (k : Nat) : (e3 k).OK Try.prog := (e2.ok k).add (num_Sign.ok k)
def num_farther (k : Nat) (x0 : Ty.den T23) (x1 : Ty.den T23) : Option (HL [.bool]) :=
 bif (x0.1 != x1.1) then
  some ((decide (x0.1 > x1.1)), ())
 else
  bif (x0.2.2.2 != x1.2.2.2) then
   some ((decide (x0.2.2.2 > x1.2.2.2)), ())
  else
   some ((decide (x0.2.2.1 > x1.2.2.1)), ())
theorem num_farther.ok (k : Nat) : SpecOK Try.prog G0 76 ⟨[T23, T23], [.bool], fun x => num_farther k x.1 x.2.1⟩ :=
 evF_sound (E := (e3 k)) (fn := Try.f76) (e3.ok k) (by kernel_rfl) (by kernel_rfl) (by kernel_rfl) 8 .n trivial (fun xs => by kernel_rfl)
def e4 (k : Nat) : Env := (e3 k).add 76 ⟨[T23, T23], [.bool], fun x => num_farther k x.1 x.2.1⟩
theorem e4.ok (k : Nat) : (e4 k).OK Try.prog := (e3.ok k).add (num_farther.ok k)
def num_Cmp (k : Nat) (x0 : Ty.den T23) (x1 : Ty.den T23) : Option (HL [(.int .i64)]) :=
 (num_fair k x0).bind fun r1 =>
 (num_fair k x1).bind fun r2 =>
 (num_Sign k r1.1).bind fun r3 =>
 (num_Sign k r2.1).bind fun r4 =>
 bif (decide (r3.1 < r4.1)) then
  some ((-1), ())
 else
  bif (decide (r3.1 > r4.1)) then
   some (1, ())
  else
   (num_farther k r1.1 r2.1).bind fun r5 =>
   bif r5.1 then
    some (r3.1, ())
   else
    (num_farther k r2.1 r1.1).bind fun r6 =>
    bif r6.1 then
     some ((IntKind.i64.wrap (0 - r3.1)), ())
    else
     some (0, ())
theorem num_Cmp.ok (k : Nat) : SpecOK Try.prog G0 39 ⟨[T23, T23], [(.int .i64)], fun x => num_Cmp k x.1 x.2.1⟩ :=
 evF_sound (E := (e4 k)) (fn := Try.f39) (e4.ok k) (by kernel_rfl) (by kernel_rfl) (by kernel_rfl) 8 .n trivial (fun xs => by kernel_rfl)
def e5 (k : Nat) : Env := (e4 k).add 39 ⟨[T23, T23], [(.int .i64)], fun x => num_Cmp k x.1 x.2.1⟩
theorem e5.ok (k : Nat) : (e5 k).OK Try.prog := (e4.ok k).add (num_Cmp.ok k)
def iv_None (k : Nat) : Option (HL [T25]) :=
 some ((true, (0, false, 0, 0), 0, false, 0, 0), ())
theorem iv_None.ok (k : Nat) : SpecOK Try.prog G0 37 ⟨[], [T25], fun x => iv_None k⟩ :=
 evF_sound (E := (e5 k)) (fn := Try.f37) (e5.ok k) (by kernel_rfl) (by kernel_rfl) (by kernel_rfl) 8 .n trivial (fun xs => by kernel_rfl)
def e6 (k : Nat) : Env := (e5 k).add 37 ⟨[], [T25], fun x => iv_None k⟩
theorem e6.ok (k : Nat) : (e6 k).OK Try.prog := (e5.ok k).add (iv_None.ok k)
def num_Infinite (k : Nat) (x0 : Ty.den .bool) : Option (HL [T23]) :=
 some ((2, x0, 0, 0), ())
theorem num_Infinite.ok (k : Nat) : SpecOK Try.prog G0 72 ⟨[.bool], [T23], fun x => num_Infinite k x.1⟩ :=
 evF_sound (E := (e6 k)) (fn := Try.f72) (e6.ok k) (by kernel_rfl) (by kernel_rfl) (by kernel_rfl) 8 .n trivial (fun xs => by kernel_rfl)
def e7 (k : Nat) : Env := (e6 k).add 72 ⟨[.bool], [T23], fun x => num_Infinite k x.1⟩
theorem e7.ok (k : Nat) : (e7 k).OK Try.prog := (e6.ok k).add (num_Infinite.ok k)
def iv_May (k : Nat) (x0 : Ty.den T25) : Option (HL [.bool]) :=
 bif x0.1 then
  (iv_None k).bind fun r1 =>
  some ((beqT T25 x0 r1.1), ())
 else
  (num_May k x0.2.1).bind fun r2 =>
  bif r2.1 then
   (num_May k x0.2.2).bind fun r3 =>
   bif r3.1 then
    (num_Cmp k x0.2.1 x0.2.2).bind fun r4 =>
    bif (decide (r4.1 ≤ 0)) then
     (num_Infinite k false).bind fun r5 =>
     bif (!(beqT T23 x0.2.1 r5.1)) then
      (num_Infinite k true).bind fun r6 =>
      some ((!(beqT T23 x0.2.2 r6.1)), ())
     else
      some (false, ())
    else
     some (false, ())
   else
    some (false, ())
  else
   some (false, ())
theorem iv_May.ok (k : Nat) : SpecOK Try.prog G0 47 ⟨[T25], [.bool], fun x => iv_May k x.1⟩ :=
 evF_sound (E := (e7 k)) (fn := Try.f47) (e7.ok k) (by kernel_rfl) (by kernel_rfl) (by kernel_rfl) 8 .n trivial (fun xs => by kernel_rfl)
def e8 (k : Nat) : Env := (e7 k).add 47 ⟨[T25], [.bool], fun x => iv_May k x.1⟩
theorem e8.ok (k : Nat) : (e8 k).OK Try.prog := (e7.ok k).add (iv_May.ok k)
def tube_finite (k : Nat) (x0 : Ty.den T23) : Option (HL [.bool]) :=
 (num_May k x0).bind fun r1 =>
 bif r1.1 then
  some ((x0.1 != 2), ())
 else
  some (false, ())
theorem tube_finite.ok (k : Nat) : SpecOK Try.prog G0 54 ⟨[T23], [.bool], fun x => tube_finite k x.1⟩ :=
 evF_sound (E := (e8 k)) (fn := Try.f54) (e8.ok k) (by kernel_rfl) (by kernel_rfl) (by kernel_rfl) 8 .n trivial (fun xs => by kernel_rfl)
def e9 (k : Nat) : Env := (e8 k).add 54 ⟨[T23], [.bool], fun x => tube_finite k x.1⟩
theorem e9.ok (k : Nat) : (e9 k).OK Try.prog := (e8.ok k).add (tube_finite.ok k)
abbrev tube_May_l0_i : Mask := ⟨[(0, 3, (.k (.ptr 3 0 0))), (0, 25, (.v T27)), (0, 26, (.v (.int .i64))), (0, 27, (.v (.int .i64)))], [(3, .cells (.v T23))], [], 0⟩
abbrev tube_May_l0_o : List Out := [⟨.ret, ⟨[(0, 2, (.v .bool))], [], [], 0⟩⟩, ⟨.exit 0, ⟨[], [], [], 0⟩⟩]
def tube_May_l0 (k : Nat) : Nat → Mask.den tube_May_l0_i → Option (denS tube_May_l0_o)
 | 0, _ => none
 | m + 1, x =>
  bif (decide (x.1.2.2.2.1 < x.1.2.2.1)) then
   if 0 ≤ x.1.2.2.2.1 then (x.1.2.1[Int.toNat x.1.2.2.2.1]?).bind fun y3 =>
    (tube_finite k y3.1).bind fun r4 =>
    bif (!r4.1) then
     some (Sum.inl ((false, ()), ()))
    else
     (num_Cmp k y3.1 x.2.1).bind fun r5 =>
     bif (decide (r5.1 ≤ 0)) then
      some (Sum.inl ((false, ()), ()))
     else
      (iv_May k y3.2.1).bind fun r6 =>
      bif (!r6.1) then
       some (Sum.inl ((false, ()), ()))
      else
       (iv_May k y3.2.2).bind fun r7 =>
       bif (!r7.1) then
        some (Sum.inl ((false, ()), ()))
       else
        tube_May_l0 k m (((), x.1.2.1, x.1.2.2.1, (IntKind.i64.wrap (x.1.2.2.2.1 + 1)), ()), (y3.1, ()))
   else none
  else
   some (Sum.inr (Sum.inl ((), ())))
abbrev tube_May_l0_seg (k : Nat) : Seg := ⟨⟨0, 57, false, [], []⟩, 22, [.b, .s2, .s1, .s2, .s2, .s2], tube_May_l0_i, tube_May_l0_o, tube_May_l0 k k⟩
theorem tube_May_l0_seg.ok (k : Nat) : SegOK Try.prog (e9 k) (tube_May_l0_seg k) :=
 SegOK.loop (e9.ok k) (by kernel_rfl) (S := tube_May_l0_seg k) (c := atR (codeOf (e9 k) 22) [.l, .b, .s2, .s1, .s2, .s2, .s2]) (by kernel_rfl) (tube_May_l0 k) k rfl (fun _ => rfl) 8 .n trivial (fun k' x => by kernel_rfl)
def tube_May (k : Nat) (x0 : Ty.den T28) : Option (HL [.bool]) :=
 (tube_finite k x0.1).bind fun r1 =>
 bif (!r1.1) then
  some (false, ())
 else
  (iv_May k x0.2.1).bind fun r2 =>
  bif (!r2.1) then
   some (false, ())
  else
   bif (decide ((x0.2.2.length : Int) > 64)) then
    some (false, ())
   else
    (tube_May_l0 k k (((), x0.2.2, (x0.2.2.length : Int), 0, ()), (x0.1, ()))).bind fun q8 =>
    Sum.elim (fun z9 =>
      some (z9.1.1, ()))
     (fun q8' =>
      Sum.elim (fun z10 =>
        some (true, ()))
       (fun q8'' =>
        none) q8') q8
theorem tube_May.ok (k : Nat) : SpecOK Try.prog G0 22 ⟨[T28], [.bool], fun x => tube_May k x.1⟩ :=
 evF_sound (E := (e9 k)) (fn := Try.f22) (e9.ok k) (by kernel_rfl) (by kernel_rfl) (by kernel_rfl) 8 (.two .n (.two .n (.two .n (.two (.two .n (.two (.use (tube_May_l0_seg k)) .n)) .n)))) ⟨trivial, ⟨trivial, ⟨trivial, ⟨⟨trivial, ⟨(tube_May_l0_seg.ok k), trivial⟩⟩, trivial⟩⟩⟩⟩ (fun xs => by kernel_rfl)
def e10 (k : Nat) : Env := (e9 k).add 22 ⟨[T28], [.bool], fun x => tube_May k x.1⟩
theorem e10.ok (k : Nat) : (e10 k).OK Try.prog := (e9.ok k).add (tube_May.ok k)
def iv_All (k : Nat) : Option (HL [T25]) :=
 (num_Infinite k true).bind fun r1 =>
 (num_Infinite k false).bind fun r2 =>
 some ((false, r1.1, r2.1), ())
theorem iv_All.ok (k : Nat) : SpecOK Try.prog G0 36 ⟨[], [T25], fun x => iv_All k⟩ :=
 evF_sound (E := (e10 k)) (fn := Try.f36) (e10.ok k) (by kernel_rfl) (by kernel_rfl) (by kernel_rfl) 8 .n trivial (fun xs => by kernel_rfl)
def e11 (k : Nat) : Env := (e10 k).add 36 ⟨[], [T25], fun x => iv_All k⟩
theorem e11.ok (k : Nat) : (e11 k).OK Try.prog := (e10.ok k).add (iv_All.ok k)
def tube_end (k : Nat) (x0 : Ty.den T28) : Option (HL [T23]) :=
 bif (decide ((x0.2.2.length : Int) > 0)) then
  if 0 ≤ (IntKind.i64.wrap ((x0.2.2.length : Int) - 1)) then (x0.2.2[Int.toNat (IntKind.i64.wrap ((x0.2.2.length : Int) - 1))]?).bind fun y1 =>
   some (y1.1, ())
  else none
 else
  some (x0.1, ())
theorem tube_end.ok (k : Nat) : SpecOK Try.prog G0 48 ⟨[T28], [T23], fun x => tube_end k x.1⟩ :=
 evF_sound (E := (e11 k)) (fn := Try.f48) (e11.ok k) (by kernel_rfl) (by kernel_rfl) (by kernel_rfl) 8 .n trivial (fun xs => by kernel_rfl)
def e12 (k : Nat) : Env := (e11 k).add 48 ⟨[T28], [T23], fun x => tube_end k x.1⟩
theorem e12.ok (k : Nat) : (e12 k).OK Try.prog := (e11.ok k).add (tube_end.ok k)
def tube_Append (k : Nat) (x0 : Ty.den T28) (x1 : Ty.den T23) (x2 : Ty.den T25) (x3 : Ty.den T25) : Option (HL [T28, (.int .i64)]) :=
 (tube_May k x0).bind fun r1 =>
 bif (!r1.1) then
  some (((0, false, 0, 0), (false, (0, false, 0, 0), 0, false, 0, 0), []), 1, ())
 else
  (tube_finite k x1).bind fun r2 =>
  bif (!r2.1) then
   some (((0, false, 0, 0), (false, (0, false, 0, 0), 0, false, 0, 0), []), 1, ())
  else
   (iv_May k x2).bind fun r3 =>
   bif (!r3.1) then
    some (((0, false, 0, 0), (false, (0, false, 0, 0), 0, false, 0, 0), []), 1, ())
   else
    (iv_May k x3).bind fun r4 =>
    bif (!r4.1) then
     some (((0, false, 0, 0), (false, (0, false, 0, 0), 0, false, 0, 0), []), 1, ())
    else
     bif (decide ((x0.2.2.length : Int) ≥ 64)) then
      some (((0, false, 0, 0), (false, (0, false, 0, 0), 0, false, 0, 0), []), 3, ())
     else
      (tube_end k x0).bind fun r5 =>
      (num_Cmp k x1 r5.1).bind fun r6 =>
      bif (decide (r6.1 ≤ 0)) then
       some (((0, false, 0, 0), (false, (0, false, 0, 0), 0, false, 0, 0), []), 6, ())
      else
       if x0.2.2.length * 176 ≤ 140737488355328 then
        if (x0.2.2.length + [(x1, x2, x3)].length) * 176 ≤ 140737488355328 then
         some ((x0.1, x0.2.1, (x0.2.2 ++ [(x1, x2, x3)])), 0, ())
        else none
       else none
theorem tube_Append.ok (k : Nat) : SpecOK Try.prog G0 13 ⟨[T28, T23, T25, T25], [T28, (.int .i64)], fun x => tube_Append k x.1 x.2.1 x.2.2.1 x.2.2.2.1⟩ :=
 evF_sound (E := (e12 k)) (fn := Try.f13) (e12.ok k) (by kernel_rfl) (by kernel_rfl) (by kernel_rfl) 8 .n trivial (fun xs => by kernel_rfl)
def e13 (k : Nat) : Env := (e12 k).add 13 ⟨[T28, T23, T25, T25], [T28, (.int .i64)], fun x => tube_Append k x.1 x.2.1 x.2.2.1 x.2.2.2.1⟩
theorem e13.ok (k : Nat) : (e13 k).OK Try.prog := (e12.ok k).add (tube_Append.ok k)
def tube_New (k : Nat) (x0 : Ty.den T23) (x1 : Ty.den T25) : Option (HL [T28, (.int .i64)]) :=
 (tube_May k (x0, x1, [])).bind fun r1 =>
 bif (!r1.1) then
  some (((0, false, 0, 0), (false, (0, false, 0, 0), 0, false, 0, 0), []), 1, ())
 else
  some ((x0, x1, []), 0, ())
theorem tube_New.ok (k : Nat) : SpecOK Try.prog G0 17 ⟨[T23, T25], [T28, (.int .i64)], fun x => tube_New k x.1 x.2.1⟩ :=
 evF_sound (E := (e13 k)) (fn := Try.f17) (e13.ok k) (by kernel_rfl) (by kernel_rfl) (by kernel_rfl) 8 .n trivial (fun xs => by kernel_rfl)
def e14 (k : Nat) : Env := (e13 k).add 17 ⟨[T23, T25], [T28, (.int .i64)], fun x => tube_New k x.1 x.2.1⟩
theorem e14.ok (k : Nat) : (e14 k).OK Try.prog := (e13.ok k).add (tube_New.ok k)
def bits_Len64 (k : Nat) (x0 : Ty.den (.int .u64)) : Option (HL [(.int .i64)]) :=
 bif (decide (x0 ≥ 4294967296)) then
  bif (decide ((Int.fdiv x0 (2 ^ min (Int.toNat 32) IntKind.u64.bits)) ≥ 65536)) then
   bif (decide ((Int.fdiv (Int.fdiv x0 (2 ^ min (Int.toNat 32) IntKind.u64.bits)) (2 ^ min (Int.toNat 16) IntKind.u64.bits)) ≥ 256)) then
    if 0 ≤ (IntKind.u8.wrap (Int.fdiv (Int.fdiv (Int.fdiv x0 (2 ^ min (Int.toNat 32) IntKind.u64.bits)) (2 ^ min (Int.toNat 16) IntKind.u64.bits)) (2 ^ min (Int.toNat 8) IntKind.u64.bits))) then (bytes0[Int.toNat (IntKind.u8.wrap (Int.fdiv (Int.fdiv (Int.fdiv x0 (2 ^ min (Int.toNat 32) IntKind.u64.bits)) (2 ^ min (Int.toNat 16) IntKind.u64.bits)) (2 ^ min (Int.toNat 8) IntKind.u64.bits)))]?).bind fun y1 =>
     some ((IntKind.i64.wrap ((IntKind.i64.wrap ((IntKind.i64.wrap (32 + 16)) + 8)) + (IntKind.i64.wrap (y1.toNat : Int)))), ())
    else none
   else
    if 0 ≤ (IntKind.u8.wrap (Int.fdiv (Int.fdiv x0 (2 ^ min (Int.toNat 32) IntKind.u64.bits)) (2 ^ min (Int.toNat 16) IntKind.u64.bits))) then (bytes0[Int.toNat (IntKind.u8.wrap (Int.fdiv (Int.fdiv x0 (2 ^ min (Int.toNat 32) IntKind.u64.bits)) (2 ^ min (Int.toNat 16) IntKind.u64.bits)))]?).bind fun y2 =>
     some ((IntKind.i64.wrap ((IntKind.i64.wrap (32 + 16)) + (IntKind.i64.wrap (y2.toNat : Int)))), ())
    else none
  else
   bif (decide ((Int.fdiv x0 (2 ^ min (Int.toNat 32) IntKind.u64.bits)) ≥ 256)) then
    if 0 ≤ (IntKind.u8.wrap (Int.fdiv (Int.fdiv x0 (2 ^ min (Int.toNat 32) IntKind.u64.bits)) (2 ^ min (Int.toNat 8) IntKind.u64.bits))) then (bytes0[Int.toNat (IntKind.u8.wrap (Int.fdiv (Int.fdiv x0 (2 ^ min (Int.toNat 32) IntKind.u64.bits)) (2 ^ min (Int.toNat 8) IntKind.u64.bits)))]?).bind fun y3 =>
     some ((IntKind.i64.wrap ((IntKind.i64.wrap (32 + 8)) + (IntKind.i64.wrap (y3.toNat : Int)))), ())
    else none
   else
    if 0 ≤ (IntKind.u8.wrap (Int.fdiv x0 (2 ^ min (Int.toNat 32) IntKind.u64.bits))) then (bytes0[Int.toNat (IntKind.u8.wrap (Int.fdiv x0 (2 ^ min (Int.toNat 32) IntKind.u64.bits)))]?).bind fun y4 =>
     some ((IntKind.i64.wrap (32 + (IntKind.i64.wrap (y4.toNat : Int)))), ())
    else none
 else
  bif (decide (x0 ≥ 65536)) then
   bif (decide ((Int.fdiv x0 (2 ^ min (Int.toNat 16) IntKind.u64.bits)) ≥ 256)) then
    if 0 ≤ (IntKind.u8.wrap (Int.fdiv (Int.fdiv x0 (2 ^ min (Int.toNat 16) IntKind.u64.bits)) (2 ^ min (Int.toNat 8) IntKind.u64.bits))) then (bytes0[Int.toNat (IntKind.u8.wrap (Int.fdiv (Int.fdiv x0 (2 ^ min (Int.toNat 16) IntKind.u64.bits)) (2 ^ min (Int.toNat 8) IntKind.u64.bits)))]?).bind fun y5 =>
     some ((IntKind.i64.wrap ((IntKind.i64.wrap ((IntKind.i64.wrap (0 + 16)) + 8)) + (IntKind.i64.wrap (y5.toNat : Int)))), ())
    else none
   else
    if 0 ≤ (IntKind.u8.wrap (Int.fdiv x0 (2 ^ min (Int.toNat 16) IntKind.u64.bits))) then (bytes0[Int.toNat (IntKind.u8.wrap (Int.fdiv x0 (2 ^ min (Int.toNat 16) IntKind.u64.bits)))]?).bind fun y6 =>
     some ((IntKind.i64.wrap ((IntKind.i64.wrap (0 + 16)) + (IntKind.i64.wrap (y6.toNat : Int)))), ())
    else none
  else
   bif (decide (x0 ≥ 256)) then
    if 0 ≤ (IntKind.u8.wrap (Int.fdiv x0 (2 ^ min (Int.toNat 8) IntKind.u64.bits))) then (bytes0[Int.toNat (IntKind.u8.wrap (Int.fdiv x0 (2 ^ min (Int.toNat 8) IntKind.u64.bits)))]?).bind fun y7 =>
     some ((IntKind.i64.wrap ((IntKind.i64.wrap (0 + 8)) + (IntKind.i64.wrap (y7.toNat : Int)))), ())
    else none
   else
    if 0 ≤ (IntKind.u8.wrap x0) then (bytes0[Int.toNat (IntKind.u8.wrap x0)]?).bind fun y8 =>
     some ((IntKind.i64.wrap (0 + (IntKind.i64.wrap (y8.toNat : Int)))), ())
    else none
theorem bits_Len64.ok (k : Nat) : SpecOK Try.prog G0 90 ⟨[(.int .u64)], [(.int .i64)], fun x => bits_Len64 k x.1⟩ :=
 evF_sound (E := (e14 k)) (fn := Try.f90) (e14.ok k) (by kernel_rfl) (by kernel_rfl) (by kernel_rfl) 8 .n trivial (fun xs => by kernel_rfl)
def e15 (k : Nat) : Env := (e14 k).add 90 ⟨[(.int .u64)], [(.int .i64)], fun x => bits_Len64 k x.1⟩
theorem e15.ok (k : Nat) : (e15 k).OK Try.prog := (e14.ok k).add (bits_Len64.ok k)
def bits_LeadingZeros64 (k : Nat) (x0 : Ty.den (.int .u64)) : Option (HL [(.int .i64)]) :=
 (bits_Len64 k x0).bind fun r1 =>
 some ((IntKind.i64.wrap (64 - r1.1)), ())
theorem bits_LeadingZeros64.ok (k : Nat) : SpecOK Try.prog G0 71 ⟨[(.int .u64)], [(.int .i64)], fun x => bits_LeadingZeros64 k x.1⟩ :=
 evF_sound (E := (e15 k)) (fn := Try.f71) (e15.ok k) (by kernel_rfl) (by kernel_rfl) (by kernel_rfl) 8 .n trivial (fun xs => by kernel_rfl)
def e16 (k : Nat) : Env := (e15 k).add 71 ⟨[(.int .u64)], [(.int .i64)], fun x => bits_LeadingZeros64 k x.1⟩
theorem e16.ok (k : Nat) : (e16 k).OK Try.prog := (e15.ok k).add (bits_LeadingZeros64.ok k)
def num_Of (k : Nat) (x0 : Ty.den (.int .i64)) : Option (HL [T23]) :=
 bif (decide (x0 < 0)) then
  (bits_LeadingZeros64 k (IntKind.u64.wrap (0 - (IntKind.u64.wrap x0)))).bind fun r1 =>
  bif ((IntKind.u64.wrap (0 - (IntKind.u64.wrap x0))) == 0) then
   some ((0, false, 0, 0), ())
  else
   if r1.1 < 0 then none else
   some ((1, (decide (x0 < 0)), (IntKind.u64.wrap ((IntKind.u64.wrap (0 - (IntKind.u64.wrap x0))) * 2 ^ min (Int.toNat r1.1) IntKind.u64.bits)), (IntKind.i64.wrap (0 - r1.1))), ())
 else
  (bits_LeadingZeros64 k (IntKind.u64.wrap x0)).bind fun r2 =>
  bif ((IntKind.u64.wrap x0) == 0) then
   some ((0, false, 0, 0), ())
  else
   if r2.1 < 0 then none else
   some ((1, (decide (x0 < 0)), (IntKind.u64.wrap ((IntKind.u64.wrap x0) * 2 ^ min (Int.toNat r2.1) IntKind.u64.bits)), (IntKind.i64.wrap (0 - r2.1))), ())
theorem num_Of.ok (k : Nat) : SpecOK Try.prog G0 34 ⟨[(.int .i64)], [T23], fun x => num_Of k x.1⟩ :=
 evF_sound (E := (e16 k)) (fn := Try.f34) (e16.ok k) (by kernel_rfl) (by kernel_rfl) (by kernel_rfl) 8 .n trivial (fun xs => by kernel_rfl)
def e17 (k : Nat) : Env := (e16 k).add 34 ⟨[(.int .i64)], [T23], fun x => num_Of k x.1⟩
theorem e17.ok (k : Nat) : (e17 k).OK Try.prog := (e16.ok k).add (num_Of.ok k)
def iv_fair (k : Nat) (x0 : Ty.den T25) : Option (HL [T25]) :=
 (iv_May k x0).bind fun r1 =>
 bif (!r1.1) then
  (iv_None k).bind fun r2 =>
  some (r2.1, ())
 else
  some (x0, ())
theorem iv_fair.ok (k : Nat) : SpecOK Try.prog G0 66 ⟨[T25], [T25], fun x => iv_fair k x.1⟩ :=
 evF_sound (E := (e17 k)) (fn := Try.f66) (e17.ok k) (by kernel_rfl) (by kernel_rfl) (by kernel_rfl) 8 .n trivial (fun xs => by kernel_rfl)
def e18 (k : Nat) : Env := (e17 k).add 66 ⟨[T25], [T25], fun x => iv_fair k x.1⟩
theorem e18.ok (k : Nat) : (e18 k).OK Try.prog := (e17.ok k).add (iv_fair.ok k)
def num_Neg (k : Nat) (x0 : Ty.den T23) : Option (HL [T23]) :=
 (num_fair k x0).bind fun r1 =>
 bif (r1.1.1 != 0) then
  some ((r1.1.1, (!r1.1.2.1), r1.1.2.2), ())
 else
  some ((r1.1.1, false, r1.1.2.2), ())
theorem num_Neg.ok (k : Nat) : SpecOK Try.prog G0 89 ⟨[T23], [T23], fun x => num_Neg k x.1⟩ :=
 evF_sound (E := (e18 k)) (fn := Try.f89) (e18.ok k) (by kernel_rfl) (by kernel_rfl) (by kernel_rfl) 8 .n trivial (fun xs => by kernel_rfl)
def e19 (k : Nat) : Env := (e18 k).add 89 ⟨[T23], [T23], fun x => num_Neg k x.1⟩
theorem e19.ok (k : Nat) : (e19 k).OK Try.prog := (e18.ok k).add (num_Neg.ok k)
def iv_Make (k : Nat) (x0 : Ty.den T23) (x1 : Ty.den T23) : Option (HL [T25]) :=
 (num_Neg k x0).bind fun r1 =>
 (num_Neg k r1.1).bind fun r2 =>
 (num_Neg k x1).bind fun r3 =>
 (num_Neg k r3.1).bind fun r4 =>
 (iv_fair k (false, r2.1, r4.1)).bind fun r5 =>
 some (r5.1, ())
theorem iv_Make.ok (k : Nat) : SpecOK Try.prog G0 68 ⟨[T23, T23], [T25], fun x => iv_Make k x.1 x.2.1⟩ :=
 evF_sound (E := (e19 k)) (fn := Try.f68) (e19.ok k) (by kernel_rfl) (by kernel_rfl) (by kernel_rfl) 8 .n trivial (fun xs => by kernel_rfl)
def e20 (k : Nat) : Env := (e19 k).add 68 ⟨[T23, T23], [T25], fun x => iv_Make k x.1 x.2.1⟩
theorem e20.ok (k : Nat) : (e20 k).OK Try.prog := (e19.ok k).add (iv_Make.ok k)
def peloruslaw08_Of (k : Nat) (x0 : Ty.den (.int .i64)) (x1 : Ty.den (.int .i64)) : Option (HL [T25]) :=
 (num_Of k x0).bind fun r1 =>
 (num_Of k x1).bind fun r2 =>
 (iv_Make k r1.1 r2.1).bind fun r3 =>
 some (r3.1, ())
theorem peloruslaw08_Of.ok (k : Nat) : SpecOK Try.prog G0 35 ⟨[(.int .i64), (.int .i64)], [T25], fun x => peloruslaw08_Of k x.1 x.2.1⟩ :=
 evF_sound (E := (e20 k)) (fn := Try.f35) (e20.ok k) (by kernel_rfl) (by kernel_rfl) (by kernel_rfl) 8 .n trivial (fun xs => by kernel_rfl)
def e21 (k : Nat) : Env := (e20 k).add 35 ⟨[(.int .i64), (.int .i64)], [T25], fun x => peloruslaw08_Of k x.1 x.2.1⟩
theorem e21.ok (k : Nat) : (e21 k).OK Try.prog := (e20.ok k).add (peloruslaw08_Of.ok k)
def peloruslaw17_Few (k : Nat) (x0 : Ty.den T28) : Option (HL [.bool]) :=
 some ((decide ((x0.2.2.length : Int) ≤ 70)), ())
theorem peloruslaw17_Few.ok (k : Nat) : SpecOK Try.prog G0 8 ⟨[T28], [.bool], fun x => peloruslaw17_Few k x.1⟩ :=
 evF_sound (E := (e21 k)) (fn := Try.f8) (e21.ok k) (by kernel_rfl) (by kernel_rfl) (by kernel_rfl) 8 .n trivial (fun xs => by kernel_rfl)
def e22 (k : Nat) : Env := (e21 k).add 8 ⟨[T28], [.bool], fun x => peloruslaw17_Few k x.1⟩
theorem e22.ok (k : Nat) : (e22 k).OK Try.prog := (e21.ok k).add (peloruslaw17_Few.ok k)
def pelorusref05_May (k : Nat) (x0 : Ty.den T23) : Option (HL [.bool]) :=
 bif (x0.1 == 1) then
  bif (decide (x0.2.2.1 ≥ 9223372036854775808)) then
   bif (decide (x0.2.2.2 ≥ (-1048576))) then
    some ((decide (x0.2.2.2 ≤ 1048576)), ())
   else
    some (false, ())
  else
   some (false, ())
 else
  bif (x0.1 == 2) then
   bif (x0.2.2.1 == 0) then
    some ((x0.2.2.2 == 0), ())
   else
    some (false, ())
  else
   bif (x0.1 == 0) then
    bif (!x0.2.1) then
     bif (x0.2.2.1 == 0) then
      some ((x0.2.2.2 == 0), ())
     else
      some (false, ())
    else
     some (false, ())
   else
    some (false, ())
theorem pelorusref05_May.ok (k : Nat) : SpecOK Try.prog G0 86 ⟨[T23], [.bool], fun x => pelorusref05_May k x.1⟩ :=
 evF_sound (E := (e22 k)) (fn := Try.f86) (e22.ok k) (by kernel_rfl) (by kernel_rfl) (by kernel_rfl) 8 .n trivial (fun xs => by kernel_rfl)
def e23 (k : Nat) : Env := (e22 k).add 86 ⟨[T23], [.bool], fun x => pelorusref05_May k x.1⟩
theorem e23.ok (k : Nat) : (e23 k).OK Try.prog := (e22.ok k).add (pelorusref05_May.ok k)
def pelorusref05_fair (k : Nat) (x0 : Ty.den T23) : Option (HL [T23]) :=
 (pelorusref05_May k x0).bind fun r1 =>
 bif (!r1.1) then
  some ((0, false, 0, 0), ())
 else
  some (x0, ())
theorem pelorusref05_fair.ok (k : Nat) : SpecOK Try.prog G0 77 ⟨[T23], [T23], fun x => pelorusref05_fair k x.1⟩ :=
 evF_sound (E := (e23 k)) (fn := Try.f77) (e23.ok k) (by kernel_rfl) (by kernel_rfl) (by kernel_rfl) 8 .n trivial (fun xs => by kernel_rfl)
def e24 (k : Nat) : Env := (e23 k).add 77 ⟨[T23], [T23], fun x => pelorusref05_fair k x.1⟩
theorem e24.ok (k : Nat) : (e24 k).OK Try.prog := (e23.ok k).add (pelorusref05_fair.ok k)
def pelorusref05_Sign (k : Nat) (x0 : Ty.den T23) : Option (HL [(.int .i64)]) :=
 (pelorusref05_fair k x0).bind fun r1 =>
 bif (r1.1.1 == 0) then
  some (0, ())
 else
  bif r1.1.2.1 then
   some ((-1), ())
  else
   some (1, ())
theorem pelorusref05_Sign.ok (k : Nat) : SpecOK Try.prog G0 78 ⟨[T23], [(.int .i64)], fun x => pelorusref05_Sign k x.1⟩ :=
 evF_sound (E := (e24 k)) (fn := Try.f78) (e24.ok k) (by kernel_rfl) (by kernel_rfl) (by kernel_rfl) 8 .n trivial (fun xs => by kernel_rfl)
def e25 (k : Nat) : Env := (e24 k).add 78 ⟨[T23], [(.int .i64)], fun x => pelorusref05_Sign k x.1⟩
theorem e25.ok (k : Nat) : (e25 k).OK Try.prog := (e24.ok k).add (pelorusref05_Sign.ok k)
def pelorusref05_Cmp (k : Nat) (x0 : Ty.den T23) (x1 : Ty.den T23) : Option (HL [(.int .i64)]) :=
 (pelorusref05_fair k x0).bind fun r1 =>
 (pelorusref05_fair k x1).bind fun r2 =>
 (pelorusref05_Sign k r1.1).bind fun r3 =>
 (pelorusref05_Sign k r2.1).bind fun r4 =>
 bif (r3.1 != r4.1) then
  bif (decide (r3.1 < r4.1)) then
   some ((-1), ())
  else
   some (1, ())
 else
  bif (r3.1 == 0) then
   some (0, ())
  else
   bif (beqT T23 r1.1 r2.1) then
    some (0, ())
   else
    bif (r1.1.1 == 2) then
     some (r3.1, ())
    else
     bif (r2.1.1 != 2) then
      bif (decide (r1.1.2.2.2 > r2.1.2.2.2)) then
       some (r3.1, ())
      else
       bif (r1.1.2.2.2 == r2.1.2.2.2) then
        bif (decide (r1.1.2.2.1 > r2.1.2.2.1)) then
         some (r3.1, ())
        else
         some ((IntKind.i64.wrap (0 - r3.1)), ())
       else
        some ((IntKind.i64.wrap (0 - r3.1)), ())
     else
      some ((IntKind.i64.wrap (0 - r3.1)), ())
theorem pelorusref05_Cmp.ok (k : Nat) : SpecOK Try.prog G0 43 ⟨[T23, T23], [(.int .i64)], fun x => pelorusref05_Cmp k x.1 x.2.1⟩ :=
 evF_sound (E := (e25 k)) (fn := Try.f43) (e25.ok k) (by kernel_rfl) (by kernel_rfl) (by kernel_rfl) 8 .n trivial (fun xs => by kernel_rfl)
def e26 (k : Nat) : Env := (e25 k).add 43 ⟨[T23, T23], [(.int .i64)], fun x => pelorusref05_Cmp k x.1 x.2.1⟩
theorem e26.ok (k : Nat) : (e26 k).OK Try.prog := (e25.ok k).add (pelorusref05_Cmp.ok k)
def pelorusref17_when (k : Nat) (x0 : Ty.den T23) : Option (HL [.bool]) :=
 (pelorusref05_May k x0).bind fun r1 =>
 bif r1.1 then
  some ((x0.1 != 2), ())
 else
  some (false, ())
theorem pelorusref17_when.ok (k : Nat) : SpecOK Try.prog G0 56 ⟨[T23], [.bool], fun x => pelorusref17_when k x.1⟩ :=
 evF_sound (E := (e26 k)) (fn := Try.f56) (e26.ok k) (by kernel_rfl) (by kernel_rfl) (by kernel_rfl) 8 .n trivial (fun xs => by kernel_rfl)
def e27 (k : Nat) : Env := (e26 k).add 56 ⟨[T23], [.bool], fun x => pelorusref17_when k x.1⟩
theorem e27.ok (k : Nat) : (e27 k).OK Try.prog := (e26.ok k).add (pelorusref17_when.ok k)
def pelorusref08_None (k : Nat) : Option (HL [T25]) :=
 some ((true, (0, false, 0, 0), 0, false, 0, 0), ())
theorem pelorusref08_None.ok (k : Nat) : SpecOK Try.prog G0 42 ⟨[], [T25], fun x => pelorusref08_None k⟩ :=
 evF_sound (E := (e27 k)) (fn := Try.f42) (e27.ok k) (by kernel_rfl) (by kernel_rfl) (by kernel_rfl) 8 .n trivial (fun xs => by kernel_rfl)
def e28 (k : Nat) : Env := (e27 k).add 42 ⟨[], [T25], fun x => pelorusref08_None k⟩
theorem e28.ok (k : Nat) : (e28 k).OK Try.prog := (e27.ok k).add (pelorusref08_None.ok k)
def pelorusref05_Infinite (k : Nat) (x0 : Ty.den .bool) : Option (HL [T23]) :=
 some ((2, x0, 0, 0), ())
theorem pelorusref05_Infinite.ok (k : Nat) : SpecOK Try.prog G0 79 ⟨[.bool], [T23], fun x => pelorusref05_Infinite k x.1⟩ :=
 evF_sound (E := (e28 k)) (fn := Try.f79) (e28.ok k) (by kernel_rfl) (by kernel_rfl) (by kernel_rfl) 8 .n trivial (fun xs => by kernel_rfl)
def e29 (k : Nat) : Env := (e28 k).add 79 ⟨[.bool], [T23], fun x => pelorusref05_Infinite k x.1⟩
theorem e29.ok (k : Nat) : (e29 k).OK Try.prog := (e28.ok k).add (pelorusref05_Infinite.ok k)
def pelorusref08_May (k : Nat) (x0 : Ty.den T25) : Option (HL [.bool]) :=
 bif x0.1 then
  (pelorusref08_None k).bind fun r1 =>
  some ((beqT T25 x0 r1.1), ())
 else
  (pelorusref05_May k x0.2.1).bind fun r2 =>
  (pelorusref05_May k x0.2.2).bind fun r3 =>
  bif r2.1 then
   bif r3.1 then
    (pelorusref05_Cmp k x0.2.1 x0.2.2).bind fun r4 =>
    bif (decide (r4.1 ≤ 0)) then
     (pelorusref05_Infinite k false).bind fun r5 =>
     bif (!(beqT T23 x0.2.1 r5.1)) then
      (pelorusref05_Infinite k true).bind fun r6 =>
      some ((!(beqT T23 x0.2.2 r6.1)), ())
     else
      some (false, ())
    else
     some (false, ())
   else
    some (false, ())
  else
   some (false, ())
theorem pelorusref08_May.ok (k : Nat) : SpecOK Try.prog G0 57 ⟨[T25], [.bool], fun x => pelorusref08_May k x.1⟩ :=
 evF_sound (E := (e29 k)) (fn := Try.f57) (e29.ok k) (by kernel_rfl) (by kernel_rfl) (by kernel_rfl) 8 .n trivial (fun xs => by kernel_rfl)
def e30 (k : Nat) : Env := (e29 k).add 57 ⟨[T25], [.bool], fun x => pelorusref08_May k x.1⟩
theorem e30.ok (k : Nat) : (e30 k).OK Try.prog := (e29.ok k).add (pelorusref08_May.ok k)
abbrev pelorusref17_May_l0_i : Mask := ⟨[(0, 1, (.k (.ptr 1 0 0))), (0, 5, (.k (.ptr 5 0 0))), (0, 6, (.v (.int .i64)))], [(1, .cells (.v T28)), (5, .cells (.v T23))], [], 0⟩
abbrev pelorusref17_May_l0_o : List Out := [⟨.ret, ⟨[(0, 2, (.v .bool))], [], [], 0⟩⟩, ⟨.exit 0, ⟨[], [], [], 0⟩⟩]
def pelorusref17_May_l0 (k : Nat) : Nat → Mask.den pelorusref17_May_l0_i → Option (denS pelorusref17_May_l0_o)
 | 0, _ => none
 | m + 1, x =>
  bif (decide (x.1.2.2.1 < (x.2.1.2.2.length : Int))) then
   if 0 ≤ x.1.2.2.1 then (x.2.1.2.2[Int.toNat x.1.2.2.1]?).bind fun y3 =>
    (pelorusref17_when k y3.1).bind fun r4 =>
    (pelorusref08_May k y3.2.1).bind fun r5 =>
    (pelorusref08_May k y3.2.2).bind fun r6 =>
    bif (!r4.1) then
     some (Sum.inl ((false, ()), ()))
    else
     bif (!r5.1) then
      some (Sum.inl ((false, ()), ()))
     else
      bif (!r6.1) then
       some (Sum.inl ((false, ()), ()))
      else
       (pelorusref05_Cmp k y3.1 x.2.2.1).bind fun r7 =>
       bif (decide (r7.1 ≤ 0)) then
        some (Sum.inl ((false, ()), ()))
       else
        pelorusref17_May_l0 k m (((), (), (IntKind.i64.wrap (x.1.2.2.1 + 1)), ()), (x.2.1, y3.1, ()))
   else none
  else
   some (Sum.inr (Sum.inl ((), ())))
abbrev pelorusref17_May_l0_seg (k : Nat) : Seg := ⟨⟨0, 71, false, [], []⟩, 23, [.b, .s2, .s1, .s2, .s2, .s2, .s2, .s2], pelorusref17_May_l0_i, pelorusref17_May_l0_o, pelorusref17_May_l0 k k⟩
theorem pelorusref17_May_l0_seg.ok (k : Nat) : SegOK Try.prog (e30 k) (pelorusref17_May_l0_seg k) :=
 SegOK.loop (e30.ok k) (by kernel_rfl) (S := pelorusref17_May_l0_seg k) (c := atR (codeOf (e30 k) 23) [.l, .b, .s2, .s1, .s2, .s2, .s2, .s2, .s2]) (by kernel_rfl) (pelorusref17_May_l0 k) k rfl (fun _ => rfl) 8 .n trivial (fun k' x => by kernel_rfl)
def pelorusref17_May (k : Nat) (x0 : Ty.den T28) : Option (HL [.bool]) :=
 (pelorusref17_when k x0.1).bind fun r1 =>
 (pelorusref08_May k x0.2.1).bind fun r2 =>
 bif (!r1.1) then
  some (false, ())
 else
  bif (!r2.1) then
   some (false, ())
  else
   bif (decide ((x0.2.2.length : Int) > 64)) then
    some (false, ())
   else
    (pelorusref17_May_l0 k k (((), (), 0, ()), (x0, x0.1, ()))).bind fun q8 =>
    Sum.elim (fun z9 =>
      some (z9.1.1, ()))
     (fun q8' =>
      Sum.elim (fun z10 =>
        some (true, ()))
       (fun q8'' =>
        none) q8') q8
theorem pelorusref17_May.ok (k : Nat) : SpecOK Try.prog G0 23 ⟨[T28], [.bool], fun x => pelorusref17_May k x.1⟩ :=
 evF_sound (E := (e30 k)) (fn := Try.f23) (e30.ok k) (by kernel_rfl) (by kernel_rfl) (by kernel_rfl) 8 (.two .n (.two .n (.two .n (.two .n (.two .n (.two (.two .n (.two (.use (pelorusref17_May_l0_seg k)) .n)) .n)))))) ⟨trivial, ⟨trivial, ⟨trivial, ⟨trivial, ⟨trivial, ⟨⟨trivial, ⟨(pelorusref17_May_l0_seg.ok k), trivial⟩⟩, trivial⟩⟩⟩⟩⟩⟩ (fun xs => by kernel_rfl)
def e31 (k : Nat) : Env := (e30 k).add 23 ⟨[T28], [.bool], fun x => pelorusref17_May k x.1⟩
theorem e31.ok (k : Nat) : (e31 k).OK Try.prog := (e30.ok k).add (pelorusref17_May.ok k)
def pelorusref17_When (k : Nat) (x0 : Ty.den T28) (x1 : Ty.den (.int .i64)) : Option (HL [T23]) :=
 bif (x1 == 0) then
  some (x0.1, ())
 else
  if 0 ≤ (IntKind.i64.wrap (x1 - 1)) then (x0.2.2[Int.toNat (IntKind.i64.wrap (x1 - 1))]?).bind fun y1 =>
   some (y1.1, ())
  else none
theorem pelorusref17_When.ok (k : Nat) : SpecOK Try.prog G0 44 ⟨[T28, (.int .i64)], [T23], fun x => pelorusref17_When k x.1 x.2.1⟩ :=
 evF_sound (E := (e31 k)) (fn := Try.f44) (e31.ok k) (by kernel_rfl) (by kernel_rfl) (by kernel_rfl) 8 .n trivial (fun xs => by kernel_rfl)
def e32 (k : Nat) : Env := (e31 k).add 44 ⟨[T28, (.int .i64)], [T23], fun x => pelorusref17_When k x.1 x.2.1⟩
theorem e32.ok (k : Nat) : (e32 k).OK Try.prog := (e31.ok k).add (pelorusref17_When.ok k)
def pelorusref08_Fair (k : Nat) (x0 : Ty.den T25) : Option (HL [T25]) :=
 (pelorusref08_May k x0).bind fun r1 =>
 bif (!r1.1) then
  (pelorusref08_None k).bind fun r2 =>
  some (r2.1, ())
 else
  some (x0, ())
theorem pelorusref08_Fair.ok (k : Nat) : SpecOK Try.prog G0 51 ⟨[T25], [T25], fun x => pelorusref08_Fair k x.1⟩ :=
 evF_sound (E := (e32 k)) (fn := Try.f51) (e32.ok k) (by kernel_rfl) (by kernel_rfl) (by kernel_rfl) 8 .n trivial (fun xs => by kernel_rfl)
def e33 (k : Nat) : Env := (e32 k).add 51 ⟨[T25], [T25], fun x => pelorusref08_Fair k x.1⟩
theorem e33.ok (k : Nat) : (e33 k).OK Try.prog := (e32.ok k).add (pelorusref08_Fair.ok k)
def pelorusref06_Fair (k : Nat) (x0 : Ty.den T23) : Option (HL [T23]) :=
 (pelorusref05_May k x0).bind fun r1 =>
 bif (!r1.1) then
  some ((0, false, 0, 0), ())
 else
  some (x0, ())
theorem pelorusref06_Fair.ok (k : Nat) : SpecOK Try.prog G0 85 ⟨[T23], [T23], fun x => pelorusref06_Fair k x.1⟩ :=
 evF_sound (E := (e33 k)) (fn := Try.f85) (e33.ok k) (by kernel_rfl) (by kernel_rfl) (by kernel_rfl) 8 .n trivial (fun xs => by kernel_rfl)
def e34 (k : Nat) : Env := (e33 k).add 85 ⟨[T23], [T23], fun x => pelorusref06_Fair k x.1⟩
theorem e34.ok (k : Nat) : (e34 k).OK Try.prog := (e33.ok k).add (pelorusref06_Fair.ok k)
def pelorusref08_Make (k : Nat) (x0 : Ty.den T23) (x1 : Ty.den T23) : Option (HL [T25]) :=
 (pelorusref06_Fair k x0).bind fun r1 =>
 (pelorusref06_Fair k x1).bind fun r2 =>
 (pelorusref08_Fair k (false, r1.1, r2.1)).bind fun r3 =>
 some (r3.1, ())
theorem pelorusref08_Make.ok (k : Nat) : SpecOK Try.prog G0 82 ⟨[T23, T23], [T25], fun x => pelorusref08_Make k x.1 x.2.1⟩ :=
 evF_sound (E := (e34 k)) (fn := Try.f82) (e34.ok k) (by kernel_rfl) (by kernel_rfl) (by kernel_rfl) 8 .n trivial (fun xs => by kernel_rfl)
def e35 (k : Nat) : Env := (e34 k).add 82 ⟨[T23, T23], [T25], fun x => pelorusref08_Make k x.1 x.2.1⟩
theorem e35.ok (k : Nat) : (e35 k).OK Try.prog := (e34.ok k).add (pelorusref08_Make.ok k)
abbrev pelorusref05_Least_l0_i : Mask := ⟨[(0, 0, (.v T72)), (0, 2, (.k (.ptr 2 0 0))), (0, 3, (.k (.ptr 3 0 0))), (0, 4, (.v (.int .i64)))], [(2, .cells (.v T23)), (3, .cells (.v T23))], [], 0⟩
abbrev pelorusref05_Least_l0_o : List Out := [⟨.exit 0, ⟨[(0, 2, (.k (.ptr 2 0 0))), (0, 3, (.k (.ptr 3 0 0)))], [(2, .cells (.v T23)), (3, .cells (.v T23))], [], 0⟩⟩]
def pelorusref05_Least_l0 (k : Nat) : Nat → Mask.den pelorusref05_Least_l0_i → Option (denS pelorusref05_Least_l0_o)
 | 0, _ => none
 | m + 1, x =>
  bif (decide (x.1.2.2.2.1 < (x.1.1.length : Int))) then
   if 0 ≤ x.1.2.2.2.1 then (x.1.1[Int.toNat x.1.2.2.2.1]?).bind fun y2 =>
    (pelorusref05_Cmp k y2 x.2.2.1).bind fun r3 =>
    bif (decide (r3.1 < 0)) then
     if 0 ≤ x.1.2.2.2.1 then (x.1.1[Int.toNat x.1.2.2.2.1]?).bind fun y4 =>
      (pelorusref05_fair k y4).bind fun r5 =>
      pelorusref05_Least_l0 k m ((x.1.1, (), (), (IntKind.i64.wrap (x.1.2.2.2.1 + 1)), ()), (x.2.1, r5.1, ()))
     else none
    else
     pelorusref05_Least_l0 k m ((x.1.1, (), (), (IntKind.i64.wrap (x.1.2.2.2.1 + 1)), ()), (x.2.1, x.2.2.1, ()))
   else none
  else
   some (Sum.inl (((), (), ()), (x.2.1, x.2.2.1, ())))
abbrev pelorusref05_Least_l0_seg (k : Nat) : Seg := ⟨⟨0, 25, false, [], []⟩, 83, [.b, .s2, .s1, .s2, .s2], pelorusref05_Least_l0_i, pelorusref05_Least_l0_o, pelorusref05_Least_l0 k k⟩
theorem pelorusref05_Least_l0_seg.ok (k : Nat) : SegOK Try.prog (e35 k) (pelorusref05_Least_l0_seg k) :=
 SegOK.loop (e35.ok k) (by kernel_rfl) (S := pelorusref05_Least_l0_seg k) (c := atR (codeOf (e35 k) 83) [.l, .b, .s2, .s1, .s2, .s2]) (by kernel_rfl) (pelorusref05_Least_l0 k) k rfl (fun _ => rfl) 8 .n trivial (fun k' x => by kernel_rfl)
def pelorusref05_Least (k : Nat) (x0 : Ty.den T72) : Option (HL [T23]) :=
 (pelorusref05_Infinite k false).bind fun r1 =>
 (pelorusref05_Least_l0 k k ((x0, (), (), 0, ()), ((0, false, 0, 0), r1.1, ()))).bind fun q6 =>
 Sum.elim (fun z7 =>
   some (z7.2.2.1, ()))
  (fun q6' =>
   none) q6
theorem pelorusref05_Least.ok (k : Nat) : SpecOK Try.prog G0 83 ⟨[T72], [T23], fun x => pelorusref05_Least k x.1⟩ :=
 evF_sound (E := (e35 k)) (fn := Try.f83) (e35.ok k) (by kernel_rfl) (by kernel_rfl) (by kernel_rfl) 8 (.two .n (.two .n (.two (.two .n (.two (.use (pelorusref05_Least_l0_seg k)) .n)) .n))) ⟨trivial, ⟨trivial, ⟨⟨trivial, ⟨(pelorusref05_Least_l0_seg.ok k), trivial⟩⟩, trivial⟩⟩⟩ (fun xs => by kernel_rfl)
def e36 (k : Nat) : Env := (e35 k).add 83 ⟨[T72], [T23], fun x => pelorusref05_Least k x.1⟩
theorem e36.ok (k : Nat) : (e36 k).OK Try.prog := (e35.ok k).add (pelorusref05_Least.ok k)
abbrev pelorusref05_Most_l0_i : Mask := ⟨[(0, 0, (.v T72)), (0, 2, (.k (.ptr 2 0 0))), (0, 3, (.k (.ptr 3 0 0))), (0, 4, (.v (.int .i64)))], [(2, .cells (.v T23)), (3, .cells (.v T23))], [], 0⟩
abbrev pelorusref05_Most_l0_o : List Out := [⟨.exit 0, ⟨[(0, 2, (.k (.ptr 2 0 0))), (0, 3, (.k (.ptr 3 0 0)))], [(2, .cells (.v T23)), (3, .cells (.v T23))], [], 0⟩⟩]
def pelorusref05_Most_l0 (k : Nat) : Nat → Mask.den pelorusref05_Most_l0_i → Option (denS pelorusref05_Most_l0_o)
 | 0, _ => none
 | m + 1, x =>
  bif (decide (x.1.2.2.2.1 < (x.1.1.length : Int))) then
   if 0 ≤ x.1.2.2.2.1 then (x.1.1[Int.toNat x.1.2.2.2.1]?).bind fun y2 =>
    (pelorusref05_Cmp k y2 x.2.2.1).bind fun r3 =>
    bif (decide (r3.1 > 0)) then
     if 0 ≤ x.1.2.2.2.1 then (x.1.1[Int.toNat x.1.2.2.2.1]?).bind fun y4 =>
      (pelorusref05_fair k y4).bind fun r5 =>
      pelorusref05_Most_l0 k m ((x.1.1, (), (), (IntKind.i64.wrap (x.1.2.2.2.1 + 1)), ()), (x.2.1, r5.1, ()))
     else none
    else
     pelorusref05_Most_l0 k m ((x.1.1, (), (), (IntKind.i64.wrap (x.1.2.2.2.1 + 1)), ()), (x.2.1, x.2.2.1, ()))
   else none
  else
   some (Sum.inl (((), (), ()), (x.2.1, x.2.2.1, ())))
abbrev pelorusref05_Most_l0_seg (k : Nat) : Seg := ⟨⟨0, 25, false, [], []⟩, 84, [.b, .s2, .s1, .s2, .s2], pelorusref05_Most_l0_i, pelorusref05_Most_l0_o, pelorusref05_Most_l0 k k⟩
theorem pelorusref05_Most_l0_seg.ok (k : Nat) : SegOK Try.prog (e36 k) (pelorusref05_Most_l0_seg k) :=
 SegOK.loop (e36.ok k) (by kernel_rfl) (S := pelorusref05_Most_l0_seg k) (c := atR (codeOf (e36 k) 84) [.l, .b, .s2, .s1, .s2, .s2]) (by kernel_rfl) (pelorusref05_Most_l0 k) k rfl (fun _ => rfl) 8 .n trivial (fun k' x => by kernel_rfl)
def pelorusref05_Most (k : Nat) (x0 : Ty.den T72) : Option (HL [T23]) :=
 (pelorusref05_Infinite k true).bind fun r1 =>
 (pelorusref05_Most_l0 k k ((x0, (), (), 0, ()), ((0, false, 0, 0), r1.1, ()))).bind fun q6 =>
 Sum.elim (fun z7 =>
   some (z7.2.2.1, ()))
  (fun q6' =>
   none) q6
theorem pelorusref05_Most.ok (k : Nat) : SpecOK Try.prog G0 84 ⟨[T72], [T23], fun x => pelorusref05_Most k x.1⟩ :=
 evF_sound (E := (e36 k)) (fn := Try.f84) (e36.ok k) (by kernel_rfl) (by kernel_rfl) (by kernel_rfl) 8 (.two .n (.two .n (.two (.two .n (.two (.use (pelorusref05_Most_l0_seg k)) .n)) .n))) ⟨trivial, ⟨trivial, ⟨⟨trivial, ⟨(pelorusref05_Most_l0_seg.ok k), trivial⟩⟩, trivial⟩⟩⟩ (fun xs => by kernel_rfl)
def e37 (k : Nat) : Env := (e36 k).add 84 ⟨[T72], [T23], fun x => pelorusref05_Most k x.1⟩
theorem e37.ok (k : Nat) : (e37 k).OK Try.prog := (e36.ok k).add (pelorusref05_Most.ok k)
def pelorusref08_Two (k : Nat) (x0 : Ty.den T25) (x1 : Ty.den T25) : Option (HL [T25]) :=
 (pelorusref08_Fair k x0).bind fun r1 =>
 (pelorusref08_Fair k x1).bind fun r2 =>
 bif r1.1.1 then
  (pelorusref08_None k).bind fun r3 =>
  some (r3.1, ())
 else
  bif r2.1.1 then
   (pelorusref08_None k).bind fun r4 =>
   some (r4.1, ())
  else
   (pelorusref05_Most k [r1.1.2.1, r2.1.2.1]).bind fun r5 =>
   (pelorusref05_Least k [r1.1.2.2, r2.1.2.2]).bind fun r6 =>
   (pelorusref08_Make k r5.1 r6.1).bind fun r7 =>
   some (r7.1, ())
theorem pelorusref08_Two.ok (k : Nat) : SpecOK Try.prog G0 58 ⟨[T25, T25], [T25], fun x => pelorusref08_Two k x.1 x.2.1⟩ :=
 evF_sound (E := (e37 k)) (fn := Try.f58) (e37.ok k) (by kernel_rfl) (by kernel_rfl) (by kernel_rfl) 8 .n trivial (fun xs => by kernel_rfl)
def e38 (k : Nat) : Env := (e37 k).add 58 ⟨[T25, T25], [T25], fun x => pelorusref08_Two k x.1 x.2.1⟩
theorem e38.ok (k : Nat) : (e38 k).OK Try.prog := (e37.ok k).add (pelorusref08_Two.ok k)
def pelorusref17_gate (k : Nat) (x0 : Ty.den T28) (x1 : Ty.den (.int .i64)) : Option (HL [T25]) :=
 bif (decide (x1 > 0)) then
  if 0 ≤ (IntKind.i64.wrap (x1 - 1)) then (x0.2.2[Int.toNat (IntKind.i64.wrap (x1 - 1))]?).bind fun y1 =>
   if 0 ≤ (IntKind.i64.wrap (x1 - 1)) then (x0.2.2[Int.toNat (IntKind.i64.wrap (x1 - 1))]?).bind fun y2 =>
    (pelorusref08_Two k y1.2.2 y2.2.1).bind fun r3 =>
    bif (decide (x1 < (x0.2.2.length : Int))) then
     if 0 ≤ x1 then (x0.2.2[Int.toNat x1]?).bind fun y4 =>
      (pelorusref08_Two k r3.1 y4.2.1).bind fun r5 =>
      some (r5.1, ())
     else none
    else
     some (r3.1, ())
   else none
  else none
 else
  bif (decide (x1 < (x0.2.2.length : Int))) then
   if 0 ≤ x1 then (x0.2.2[Int.toNat x1]?).bind fun y6 =>
    (pelorusref08_Two k x0.2.1 y6.2.1).bind fun r7 =>
    some (r7.1, ())
   else none
  else
   some (x0.2.1, ())
theorem pelorusref17_gate.ok (k : Nat) : SpecOK Try.prog G0 45 ⟨[T28, (.int .i64)], [T25], fun x => pelorusref17_gate k x.1 x.2.1⟩ :=
 evF_sound (E := (e38 k)) (fn := Try.f45) (e38.ok k) (by kernel_rfl) (by kernel_rfl) (by kernel_rfl) 8 .n trivial (fun xs => by kernel_rfl)
def e39 (k : Nat) : Env := (e38 k).add 45 ⟨[T28, (.int .i64)], [T25], fun x => pelorusref17_gate k x.1 x.2.1⟩
theorem e39.ok (k : Nat) : (e39 k).OK Try.prog := (e38.ok k).add (pelorusref17_gate.ok k)
def pelorusref08_All (k : Nat) : Option (HL [T25]) :=
 (pelorusref05_Infinite k true).bind fun r1 =>
 (pelorusref05_Infinite k false).bind fun r2 =>
 some ((false, r1.1, r2.1), ())
theorem pelorusref08_All.ok (k : Nat) : SpecOK Try.prog G0 46 ⟨[], [T25], fun x => pelorusref08_All k⟩ :=
 evF_sound (E := (e39 k)) (fn := Try.f46) (e39.ok k) (by kernel_rfl) (by kernel_rfl) (by kernel_rfl) 8 .n trivial (fun xs => by kernel_rfl)
def e40 (k : Nat) : Env := (e39 k).add 46 ⟨[], [T25], fun x => pelorusref08_All k⟩
theorem e40.ok (k : Nat) : (e40 k).OK Try.prog := (e39.ok k).add (pelorusref08_All.ok k)
abbrev pelorusref17_At_l0_i : Mask := ⟨[(0, 2, (.k (.ptr 2 0 0))), (0, 3, (.k (.ptr 3 0 0))), (0, 4, (.k (.ptr 4 0 0))), (0, 6, (.v (.int .i64)))], [(2, .cells (.v T28)), (3, .cells (.v T23)), (4, .cells (.v T25))], [], 0⟩
abbrev pelorusref17_At_l0_o : List Out := [⟨.ret, ⟨[(0, 4, (.k (.ptr 4 0 0)))], [(4, .cells (.v T25))], [], 0⟩⟩, ⟨.exit 0, ⟨[(0, 2, (.k (.ptr 2 0 0))), (0, 3, (.k (.ptr 3 0 0))), (0, 4, (.k (.ptr 4 0 0)))], [(2, .cells (.v T28)), (3, .cells (.v T23)), (4, .cells (.v T25))], [], 0⟩⟩]
def pelorusref17_At_l0 (k : Nat) : Nat → Mask.den pelorusref17_At_l0_i → Option (denS pelorusref17_At_l0_o)
 | 0, _ => none
 | m + 1, x =>
  bif (decide (x.1.2.2.2.1 ≤ (x.2.1.2.2.length : Int))) then
   (pelorusref17_When k x.2.1 x.1.2.2.2.1).bind fun r3 =>
   (pelorusref05_Cmp k x.2.2.1 r3.1).bind fun r4 =>
   bif (r4.1 == 0) then
    (pelorusref17_gate k x.2.1 x.1.2.2.2.1).bind fun r5 =>
    some (Sum.inl (((), ()), (r5.1, ())))
   else
    pelorusref17_At_l0 k m (((), (), (), (IntKind.i64.wrap (x.1.2.2.2.1 + 1)), ()), (x.2.1, x.2.2.1, x.2.2.2.1, ()))
  else
   some (Sum.inr (Sum.inl (((), (), (), ()), (x.2.1, x.2.2.1, x.2.2.2.1, ()))))
abbrev pelorusref17_At_l0_seg (k : Nat) : Seg := ⟨⟨0, 60, false, [], []⟩, 10, [.b, .s2, .s1, .s2, .s2, .s2], pelorusref17_At_l0_i, pelorusref17_At_l0_o, pelorusref17_At_l0 k k⟩
theorem pelorusref17_At_l0_seg.ok (k : Nat) : SegOK Try.prog (e40 k) (pelorusref17_At_l0_seg k) :=
 SegOK.loop (e40.ok k) (by kernel_rfl) (S := pelorusref17_At_l0_seg k) (c := atR (codeOf (e40 k) 10) [.l, .b, .s2, .s1, .s2, .s2, .s2]) (by kernel_rfl) (pelorusref17_At_l0 k) k rfl (fun _ => rfl) 8 .n trivial (fun k' x => by kernel_rfl)
abbrev pelorusref17_At_l1_i : Mask := ⟨[(0, 2, (.k (.ptr 2 0 0))), (0, 3, (.k (.ptr 3 0 0))), (0, 4, (.k (.ptr 4 0 0))), (0, 7, (.v (.int .i64)))], [(2, .cells (.v T28)), (3, .cells (.v T23)), (4, .cells (.v T25))], [], 0⟩
abbrev pelorusref17_At_l1_o : List Out := [⟨.ret, ⟨[(0, 4, (.k (.ptr 4 0 0)))], [(4, .cells (.v T25))], [], 0⟩⟩, ⟨.exit 2, ⟨[(0, 4, (.k (.ptr 4 0 0)))], [(4, .cells (.v T25))], [], 0⟩⟩]
def pelorusref17_At_l1 (k : Nat) : Nat → Mask.den pelorusref17_At_l1_i → Option (denS pelorusref17_At_l1_o)
 | 0, _ => none
 | m + 1, x =>
  bif (decide (x.1.2.2.2.1 < (x.2.1.2.2.length : Int))) then
   (pelorusref17_When k x.2.1 x.1.2.2.2.1).bind fun r9 =>
   (pelorusref05_Cmp k r9.1 x.2.2.1).bind fun r10 =>
   bif (decide (r10.1 < 0)) then
    if 0 ≤ x.1.2.2.2.1 then (x.2.1.2.2[Int.toNat x.1.2.2.2.1]?).bind fun y11 =>
     (pelorusref05_Cmp k x.2.2.1 y11.1).bind fun r12 =>
     bif (decide (r12.1 < 0)) then
      if 0 ≤ x.1.2.2.2.1 then (x.2.1.2.2[Int.toNat x.1.2.2.2.1]?).bind fun y13 =>
       some (Sum.inl (((), ()), (y13.2.1, ())))
      else none
     else
      pelorusref17_At_l1 k m (((), (), (), (IntKind.i64.wrap (x.1.2.2.2.1 + 1)), ()), (x.2.1, x.2.2.1, x.2.2.2.1, ()))
    else none
   else
    pelorusref17_At_l1 k m (((), (), (), (IntKind.i64.wrap (x.1.2.2.2.1 + 1)), ()), (x.2.1, x.2.2.1, x.2.2.2.1, ()))
  else
   some (Sum.inr (Sum.inl (((), ()), (x.2.2.2.1, ()))))
abbrev pelorusref17_At_l1_seg (k : Nat) : Seg := ⟨⟨0, 60, false, [], []⟩, 10, [.b, .s2, .s1, .s2, .s2, .s2, .s2], pelorusref17_At_l1_i, pelorusref17_At_l1_o, pelorusref17_At_l1 k k⟩
theorem pelorusref17_At_l1_seg.ok (k : Nat) : SegOK Try.prog (e40 k) (pelorusref17_At_l1_seg k) :=
 SegOK.loop (e40.ok k) (by kernel_rfl) (S := pelorusref17_At_l1_seg k) (c := atR (codeOf (e40 k) 10) [.l, .b, .s2, .s1, .s2, .s2, .s2, .s2]) (by kernel_rfl) (pelorusref17_At_l1 k) k rfl (fun _ => rfl) 8 .n trivial (fun k' x => by kernel_rfl)
def pelorusref17_At (k : Nat) (x0 : Ty.den T28) (x1 : Ty.den T23) : Option (HL [T25]) :=
 (pelorusref17_May k x0).bind fun r1 =>
 bif (!r1.1) then
  (pelorusref08_None k).bind fun r2 =>
  some (r2.1, ())
 else
  (pelorusref17_At_l0 k k (((), (), (), 0, ()), (x0, x1, (false, (0, false, 0, 0), 0, false, 0, 0), ()))).bind fun q6 =>
  Sum.elim (fun z7 =>
    some (z7.2.1, ()))
   (fun q6' =>
    Sum.elim (fun z8 =>
      (pelorusref17_At_l1 k k (((), (), (), 0, ()), (z8.2.1, z8.2.2.1, z8.2.2.2.1, ()))).bind fun q14 =>
      Sum.elim (fun z15 =>
        some (z15.2.1, ()))
       (fun q14' =>
        Sum.elim (fun z16 =>
          (pelorusref08_All k).bind fun r17 =>
          some (r17.1, ()))
         (fun q14'' =>
          none) q14') q14)
     (fun q6'' =>
      none) q6') q6
theorem pelorusref17_At.ok (k : Nat) : SpecOK Try.prog G0 10 ⟨[T28, T23], [T25], fun x => pelorusref17_At k x.1 x.2.1⟩ :=
 evF_sound (E := (e40 k)) (fn := Try.f10) (e40.ok k) (by kernel_rfl) (by kernel_rfl) (by kernel_rfl) 8 (.two .n (.two .n (.two .n (.two (.two .n (.two (.use (pelorusref17_At_l0_seg k)) .n)) (.two (.two .n (.two (.use (pelorusref17_At_l1_seg k)) .n)) .n))))) ⟨trivial, ⟨trivial, ⟨trivial, ⟨⟨trivial, ⟨(pelorusref17_At_l0_seg.ok k), trivial⟩⟩, ⟨⟨trivial, ⟨(pelorusref17_At_l1_seg.ok k), trivial⟩⟩, trivial⟩⟩⟩⟩⟩ (fun xs => by kernel_rfl)
def e41 (k : Nat) : Env := (e40 k).add 10 ⟨[T28, T23], [T25], fun x => pelorusref17_At k x.1 x.2.1⟩
theorem e41.ok (k : Nat) : (e41 k).OK Try.prog := (e40.ok k).add (pelorusref17_At.ok k)
def iv_Within (k : Nat) (x0 : Ty.den T25) (x1 : Ty.den T25) : Option (HL [.bool]) :=
 (iv_fair k x0).bind fun r1 =>
 (iv_fair k x1).bind fun r2 =>
 bif r1.1.1 then
  some (true, ())
 else
  bif (!r2.1.1) then
   (num_Cmp k r2.1.2.1 r1.1.2.1).bind fun r3 =>
   bif (decide (r3.1 ≤ 0)) then
    (num_Cmp k r1.1.2.2 r2.1.2.2).bind fun r4 =>
    some ((decide (r4.1 ≤ 0)), ())
   else
    some (false, ())
  else
   some (false, ())
theorem iv_Within.ok (k : Nat) : SpecOK Try.prog G0 32 ⟨[T25, T25], [.bool], fun x => iv_Within k x.1 x.2.1⟩ :=
 evF_sound (E := (e41 k)) (fn := Try.f32) (e41.ok k) (by kernel_rfl) (by kernel_rfl) (by kernel_rfl) 8 .n trivial (fun xs => by kernel_rfl)
def e42 (k : Nat) : Env := (e41 k).add 32 ⟨[T25, T25], [.bool], fun x => iv_Within k x.1 x.2.1⟩
theorem e42.ok (k : Nat) : (e42 k).OK Try.prog := (e41.ok k).add (iv_Within.ok k)
def iv_Point (k : Nat) (x0 : Ty.den T23) : Option (HL [T25]) :=
 (iv_Make k x0 x0).bind fun r1 =>
 some (r1.1, ())
theorem iv_Point.ok (k : Nat) : SpecOK Try.prog G0 81 ⟨[T23], [T25], fun x => iv_Point k x.1⟩ :=
 evF_sound (E := (e42 k)) (fn := Try.f81) (e42.ok k) (by kernel_rfl) (by kernel_rfl) (by kernel_rfl) 8 .n trivial (fun xs => by kernel_rfl)
def e43 (k : Nat) : Env := (e42 k).add 81 ⟨[T23], [T25], fun x => iv_Point k x.1⟩
theorem e43.ok (k : Nat) : (e43 k).OK Try.prog := (e42.ok k).add (iv_Point.ok k)
def iv_Has (k : Nat) (x0 : Ty.den T25) (x1 : Ty.den T23) : Option (HL [.bool]) :=
 (iv_Point k x1).bind fun r1 =>
 bif (!r1.1.1) then
  (iv_Within k r1.1 x0).bind fun r2 =>
  some (r2.1, ())
 else
  some (false, ())
theorem iv_Has.ok (k : Nat) : SpecOK Try.prog G0 49 ⟨[T25, T23], [.bool], fun x => iv_Has k x.1 x.2.1⟩ :=
 evF_sound (E := (e43 k)) (fn := Try.f49) (e43.ok k) (by kernel_rfl) (by kernel_rfl) (by kernel_rfl) 8 .n trivial (fun xs => by kernel_rfl)
def e44 (k : Nat) : Env := (e43 k).add 49 ⟨[T25, T23], [.bool], fun x => iv_Has k x.1 x.2.1⟩
theorem e44.ok (k : Nat) : (e44 k).OK Try.prog := (e43.ok k).add (iv_Has.ok k)
abbrev iv_ends_l0_i : Mask := ⟨[(0, 2, (.k (.arr 21 0))), (0, 3, (.k (.arr 26 0))), (0, 4, (.v .bool)), (0, 7, (.v T64)), (0, 8, (.v (.int .i64))), (0, 9, (.v (.int .i64)))], [(21, .arr 24 T23), (26, .arr 24 T23)], [], 0⟩
abbrev iv_ends_l0_o : List Out := [⟨.exit 0, ⟨[(0, 2, (.k (.arr 21 0))), (0, 3, (.k (.arr 26 0))), (0, 4, (.v .bool))], [(21, .arr 24 T23), (26, .arr 24 T23)], [], 0⟩⟩]
def iv_ends_l0 (k : Nat) : Nat → Mask.den iv_ends_l0_i → Option (denS iv_ends_l0_o)
 | 0, _ => none
 | m + 1, x =>
  bif (decide (x.1.2.2.2.2.2.1 < x.1.2.2.2.2.1)) then
   if 0 ≤ x.1.2.2.2.2.2.1 then (x.1.2.2.2.1[Int.toNat x.1.2.2.2.2.2.1]?).bind fun y5 =>
    (iv_fair k y5).bind fun r6 =>
    bif r6.1.1 then
     iv_ends_l0 k m (((), (), false, x.1.2.2.2.1, x.1.2.2.2.2.1, (IntKind.i64.wrap (x.1.2.2.2.2.2.1 + 1)), ()), (x.2.1, x.2.2.1, ()))
    else
     if (x.2.1.length + [r6.1.2.1].length) * 32 ≤ 140737488355328 then
      if (x.2.2.1.length + [r6.1.2.2].length) * 32 ≤ 140737488355328 then
       iv_ends_l0 k m (((), (), x.1.2.2.1, x.1.2.2.2.1, x.1.2.2.2.2.1, (IntKind.i64.wrap (x.1.2.2.2.2.2.1 + 1)), ()), ((x.2.1 ++ [r6.1.2.1]), (x.2.2.1 ++ [r6.1.2.2]), ()))
      else none
     else none
   else none
  else
   some (Sum.inl (((), (), x.1.2.2.1, ()), (x.2.1, x.2.2.1, ())))
abbrev iv_ends_l0_seg (k : Nat) : Seg := ⟨⟨0, 31, false, [], []⟩, 67, [.b, .s2, .s1, .s2, .s2], iv_ends_l0_i, iv_ends_l0_o, iv_ends_l0 k k⟩
theorem iv_ends_l0_seg.ok (k : Nat) : SegOK Try.prog (e44 k) (iv_ends_l0_seg k) :=
 SegOK.loop (e44.ok k) (by kernel_rfl) (S := iv_ends_l0_seg k) (c := atR (codeOf (e44 k) 67) [.l, .b, .s2, .s1, .s2, .s2]) (by kernel_rfl) (iv_ends_l0 k) k rfl (fun _ => rfl) 8 .n trivial (fun k' x => by kernel_rfl)
def iv_ends (k : Nat) (x0 : Ty.den T64) : Option (HL [T72, T72, .bool]) :=
 (iv_ends_l0 k k (((), (), true, x0, (x0.length : Int), 0, ()), ([], [], ()))).bind fun q7 =>
 Sum.elim (fun z8 =>
   some (z8.2.1, z8.2.2.1, z8.1.2.2.1, ()))
  (fun q7' =>
   none) q7
theorem iv_ends.ok (k : Nat) : SpecOK Try.prog G0 67 ⟨[T64], [T72, T72, .bool], fun x => iv_ends k x.1⟩ :=
 evF_sound (E := (e44 k)) (fn := Try.f67) (e44.ok k) (by kernel_rfl) (by kernel_rfl) (by kernel_rfl) 8 (.two .n (.two .n (.two (.two .n (.two (.use (iv_ends_l0_seg k)) .n)) .n))) ⟨trivial, ⟨trivial, ⟨⟨trivial, ⟨(iv_ends_l0_seg.ok k), trivial⟩⟩, trivial⟩⟩⟩ (fun xs => by kernel_rfl)
def e45 (k : Nat) : Env := (e44 k).add 67 ⟨[T64], [T72, T72, .bool], fun x => iv_ends k x.1⟩
theorem e45.ok (k : Nat) : (e45 k).OK Try.prog := (e44.ok k).add (iv_ends.ok k)
abbrev num_Most_l0_i : Mask := ⟨[(0, 2, (.k (.ptr 2 0 0))), (0, 3, (.k (.ptr 3 0 0))), (0, 7, (.v T72)), (0, 8, (.v (.int .i64))), (0, 9, (.v (.int .i64)))], [(2, .cells (.v T23)), (3, .cells (.v T23))], [], 0⟩
abbrev num_Most_l0_o : List Out := [⟨.exit 0, ⟨[(0, 2, (.k (.ptr 2 0 0))), (0, 3, (.k (.ptr 3 0 0)))], [(2, .cells (.v T23)), (3, .cells (.v T23))], [], 0⟩⟩]
def num_Most_l0 (k : Nat) : Nat → Mask.den num_Most_l0_i → Option (denS num_Most_l0_o)
 | 0, _ => none
 | m + 1, x =>
  bif (decide (x.1.2.2.2.2.1 < x.1.2.2.2.1)) then
   if 0 ≤ x.1.2.2.2.2.1 then (x.1.2.2.1[Int.toNat x.1.2.2.2.2.1]?).bind fun y2 =>
    (num_Cmp k y2 x.2.2.1).bind fun r3 =>
    bif (decide (r3.1 > 0)) then
     (num_fair k y2).bind fun r4 =>
     num_Most_l0 k m (((), (), x.1.2.2.1, x.1.2.2.2.1, (IntKind.i64.wrap (x.1.2.2.2.2.1 + 1)), ()), (x.2.1, r4.1, ()))
    else
     num_Most_l0 k m (((), (), x.1.2.2.1, x.1.2.2.2.1, (IntKind.i64.wrap (x.1.2.2.2.2.1 + 1)), ()), (x.2.1, x.2.2.1, ()))
   else none
  else
   some (Sum.inl (((), (), ()), (x.2.1, x.2.2.1, ())))
abbrev num_Most_l0_seg (k : Nat) : Seg := ⟨⟨0, 21, false, [], []⟩, 69, [.b, .s2, .s1, .s2, .s2], num_Most_l0_i, num_Most_l0_o, num_Most_l0 k k⟩
theorem num_Most_l0_seg.ok (k : Nat) : SegOK Try.prog (e45 k) (num_Most_l0_seg k) :=
 SegOK.loop (e45.ok k) (by kernel_rfl) (S := num_Most_l0_seg k) (c := atR (codeOf (e45 k) 69) [.l, .b, .s2, .s1, .s2, .s2]) (by kernel_rfl) (num_Most_l0 k) k rfl (fun _ => rfl) 8 .n trivial (fun k' x => by kernel_rfl)
def num_Most (k : Nat) (x0 : Ty.den T72) : Option (HL [T23]) :=
 (num_Infinite k true).bind fun r1 =>
 (num_Most_l0 k k (((), (), x0, (x0.length : Int), 0, ()), ((0, false, 0, 0), r1.1, ()))).bind fun q5 =>
 Sum.elim (fun z6 =>
   some (z6.2.2.1, ()))
  (fun q5' =>
   none) q5
theorem num_Most.ok (k : Nat) : SpecOK Try.prog G0 69 ⟨[T72], [T23], fun x => num_Most k x.1⟩ :=
 evF_sound (E := (e45 k)) (fn := Try.f69) (e45.ok k) (by kernel_rfl) (by kernel_rfl) (by kernel_rfl) 8 (.two .n (.two .n (.two (.two .n (.two (.use (num_Most_l0_seg k)) .n)) .n))) ⟨trivial, ⟨trivial, ⟨⟨trivial, ⟨(num_Most_l0_seg.ok k), trivial⟩⟩, trivial⟩⟩⟩ (fun xs => by kernel_rfl)
def e46 (k : Nat) : Env := (e45 k).add 69 ⟨[T72], [T23], fun x => num_Most k x.1⟩
theorem e46.ok (k : Nat) : (e46 k).OK Try.prog := (e45.ok k).add (num_Most.ok k)
abbrev num_Least_l0_i : Mask := ⟨[(0, 2, (.k (.ptr 2 0 0))), (0, 3, (.k (.ptr 3 0 0))), (0, 7, (.v T72)), (0, 8, (.v (.int .i64))), (0, 9, (.v (.int .i64)))], [(2, .cells (.v T23)), (3, .cells (.v T23))], [], 0⟩
abbrev num_Least_l0_o : List Out := [⟨.exit 0, ⟨[(0, 2, (.k (.ptr 2 0 0))), (0, 3, (.k (.ptr 3 0 0)))], [(2, .cells (.v T23)), (3, .cells (.v T23))], [], 0⟩⟩]
def num_Least_l0 (k : Nat) : Nat → Mask.den num_Least_l0_i → Option (denS num_Least_l0_o)
 | 0, _ => none
 | m + 1, x =>
  bif (decide (x.1.2.2.2.2.1 < x.1.2.2.2.1)) then
   if 0 ≤ x.1.2.2.2.2.1 then (x.1.2.2.1[Int.toNat x.1.2.2.2.2.1]?).bind fun y2 =>
    (num_Cmp k y2 x.2.2.1).bind fun r3 =>
    bif (decide (r3.1 < 0)) then
     (num_fair k y2).bind fun r4 =>
     num_Least_l0 k m (((), (), x.1.2.2.1, x.1.2.2.2.1, (IntKind.i64.wrap (x.1.2.2.2.2.1 + 1)), ()), (x.2.1, r4.1, ()))
    else
     num_Least_l0 k m (((), (), x.1.2.2.1, x.1.2.2.2.1, (IntKind.i64.wrap (x.1.2.2.2.2.1 + 1)), ()), (x.2.1, x.2.2.1, ()))
   else none
  else
   some (Sum.inl (((), (), ()), (x.2.1, x.2.2.1, ())))
abbrev num_Least_l0_seg (k : Nat) : Seg := ⟨⟨0, 21, false, [], []⟩, 70, [.b, .s2, .s1, .s2, .s2], num_Least_l0_i, num_Least_l0_o, num_Least_l0 k k⟩
theorem num_Least_l0_seg.ok (k : Nat) : SegOK Try.prog (e46 k) (num_Least_l0_seg k) :=
 SegOK.loop (e46.ok k) (by kernel_rfl) (S := num_Least_l0_seg k) (c := atR (codeOf (e46 k) 70) [.l, .b, .s2, .s1, .s2, .s2]) (by kernel_rfl) (num_Least_l0 k) k rfl (fun _ => rfl) 8 .n trivial (fun k' x => by kernel_rfl)
def num_Least (k : Nat) (x0 : Ty.den T72) : Option (HL [T23]) :=
 (num_Infinite k false).bind fun r1 =>
 (num_Least_l0 k k (((), (), x0, (x0.length : Int), 0, ()), ((0, false, 0, 0), r1.1, ()))).bind fun q5 =>
 Sum.elim (fun z6 =>
   some (z6.2.2.1, ()))
  (fun q5' =>
   none) q5
theorem num_Least.ok (k : Nat) : SpecOK Try.prog G0 70 ⟨[T72], [T23], fun x => num_Least k x.1⟩ :=
 evF_sound (E := (e46 k)) (fn := Try.f70) (e46.ok k) (by kernel_rfl) (by kernel_rfl) (by kernel_rfl) 8 (.two .n (.two .n (.two (.two .n (.two (.use (num_Least_l0_seg k)) .n)) .n))) ⟨trivial, ⟨trivial, ⟨⟨trivial, ⟨(num_Least_l0_seg.ok k), trivial⟩⟩, trivial⟩⟩⟩ (fun xs => by kernel_rfl)
def e47 (k : Nat) : Env := (e46 k).add 70 ⟨[T72], [T23], fun x => num_Least k x.1⟩
theorem e47.ok (k : Nat) : (e47 k).OK Try.prog := (e46.ok k).add (num_Least.ok k)
def iv_Hull (k : Nat) (x0 : Ty.den T64) : Option (HL [T25]) :=
 (iv_ends k x0).bind fun r1 =>
 bif ((r1.1.length : Int) == 0) then
  (iv_None k).bind fun r2 =>
  some (r2.1, ())
 else
  (num_Least k r1.1).bind fun r3 =>
  (num_Most k r1.2.1).bind fun r4 =>
  (iv_Make k r3.1 r4.1).bind fun r5 =>
  some (r5.1, ())
theorem iv_Hull.ok (k : Nat) : SpecOK Try.prog G0 50 ⟨[T64], [T25], fun x => iv_Hull k x.1⟩ :=
 evF_sound (E := (e47 k)) (fn := Try.f50) (e47.ok k) (by kernel_rfl) (by kernel_rfl) (by kernel_rfl) 8 .n trivial (fun xs => by kernel_rfl)
def e48 (k : Nat) : Env := (e47 k).add 50 ⟨[T64], [T25], fun x => iv_Hull k x.1⟩
theorem e48.ok (k : Nat) : (e48 k).OK Try.prog := (e47.ok k).add (iv_Hull.ok k)
def pelorusref08_Both (k : Nat) (x0 : Ty.den T25) (x1 : Ty.den T25) : Option (HL [T25]) :=
 (pelorusref08_Fair k x0).bind fun r1 =>
 (pelorusref08_Fair k x1).bind fun r2 =>
 bif r1.1.1 then
  some (r2.1, ())
 else
  bif r2.1.1 then
   some (r1.1, ())
  else
   (pelorusref05_Least k [r1.1.2.1, r2.1.2.1]).bind fun r3 =>
   (pelorusref05_Most k [r1.1.2.2, r2.1.2.2]).bind fun r4 =>
   (pelorusref08_Make k r3.1 r4.1).bind fun r5 =>
   some (r5.1, ())
theorem pelorusref08_Both.ok (k : Nat) : SpecOK Try.prog G0 52 ⟨[T25, T25], [T25], fun x => pelorusref08_Both k x.1 x.2.1⟩ :=
 evF_sound (E := (e48 k)) (fn := Try.f52) (e48.ok k) (by kernel_rfl) (by kernel_rfl) (by kernel_rfl) 8 .n trivial (fun xs => by kernel_rfl)
def e49 (k : Nat) : Env := (e48 k).add 52 ⟨[T25, T25], [T25], fun x => pelorusref08_Both k x.1 x.2.1⟩
theorem e49.ok (k : Nat) : (e49 k).OK Try.prog := (e48.ok k).add (pelorusref08_Both.ok k)
def pelorusref08_Has (k : Nat) (x0 : Ty.den T25) (x1 : Ty.den T23) : Option (HL [.bool]) :=
 (pelorusref08_Fair k x0).bind fun r1 =>
 (pelorusref06_Fair k x1).bind fun r2 =>
 bif (!r1.1.1) then
  bif (r2.1.1 != 2) then
   (pelorusref05_Cmp k r1.1.2.1 r2.1).bind fun r3 =>
   bif (decide (r3.1 ≤ 0)) then
    (pelorusref05_Cmp k r2.1 r1.1.2.2).bind fun r4 =>
    some ((decide (r4.1 ≤ 0)), ())
   else
    some (false, ())
  else
   some (false, ())
 else
  some (false, ())
theorem pelorusref08_Has.ok (k : Nat) : SpecOK Try.prog G0 53 ⟨[T25, T23], [.bool], fun x => pelorusref08_Has k x.1 x.2.1⟩ :=
 evF_sound (E := (e49 k)) (fn := Try.f53) (e49.ok k) (by kernel_rfl) (by kernel_rfl) (by kernel_rfl) 8 .n trivial (fun xs => by kernel_rfl)
def e50 (k : Nat) : Env := (e49 k).add 53 ⟨[T25, T23], [.bool], fun x => pelorusref08_Has k x.1 x.2.1⟩
theorem e50.ok (k : Nat) : (e50 k).OK Try.prog := (e49.ok k).add (pelorusref08_Has.ok k)
abbrev pelorusref17_Over_l0_i : Mask := ⟨[(0, 2, (.k (.ptr 2 0 0))), (0, 4, (.k (.ptr 4 0 0))), (0, 6, (.k (.ptr 6 0 0))), (0, 7, (.k (.ptr 7 0 0))), (0, 8, (.v (.int .i64)))], [(2, .cells (.v T28)), (4, .cells (.v T25)), (6, .cells (.v T25)), (7, .cells (.v T25))], [], 0⟩
abbrev pelorusref17_Over_l0_o : List Out := [⟨.exit 0, ⟨[(0, 2, (.k (.ptr 2 0 0))), (0, 4, (.k (.ptr 4 0 0))), (0, 6, (.k (.ptr 6 0 0))), (0, 7, (.k (.ptr 7 0 0)))], [(2, .cells (.v T28)), (4, .cells (.v T25)), (6, .cells (.v T25)), (7, .cells (.v T25))], [], 0⟩⟩]
def pelorusref17_Over_l0 (k : Nat) : Nat → Mask.den pelorusref17_Over_l0_i → Option (denS pelorusref17_Over_l0_o)
 | 0, _ => none
 | m + 1, x =>
  bif (decide (x.1.2.2.2.2.1 < (x.2.1.2.2.length : Int))) then
   if 0 ≤ x.1.2.2.2.2.1 then (x.2.1.2.2[Int.toNat x.1.2.2.2.2.1]?).bind fun y13 =>
    (pelorusref05_Cmp k x.2.2.2.1.2.1 y13.1).bind fun r14 =>
    bif (decide (r14.1 < 0)) then
     (pelorusref17_When k x.2.1 x.1.2.2.2.2.1).bind fun r15 =>
     (pelorusref05_Cmp k r15.1 x.2.2.2.1.2.2).bind fun r16 =>
     bif (decide (r16.1 < 0)) then
      bif (!(beqT T23 x.2.2.2.1.2.1 x.2.2.2.1.2.2)) then
       if 0 ≤ x.1.2.2.2.2.1 then (x.2.1.2.2[Int.toNat x.1.2.2.2.2.1]?).bind fun y17 =>
        (pelorusref08_Both k x.2.2.2.2.1 y17.2.1).bind fun r18 =>
        pelorusref17_Over_l0 k m (((), (), (), (), (IntKind.i64.wrap (x.1.2.2.2.2.1 + 1)), ()), (x.2.1, x.2.2.1, x.2.2.2.1, r18.1, ()))
       else none
      else
       pelorusref17_Over_l0 k m (((), (), (), (), (IntKind.i64.wrap (x.1.2.2.2.2.1 + 1)), ()), (x.2.1, x.2.2.1, x.2.2.2.1, x.2.2.2.2.1, ()))
     else
      pelorusref17_Over_l0 k m (((), (), (), (), (IntKind.i64.wrap (x.1.2.2.2.2.1 + 1)), ()), (x.2.1, x.2.2.1, x.2.2.2.1, x.2.2.2.2.1, ()))
    else
     pelorusref17_Over_l0 k m (((), (), (), (), (IntKind.i64.wrap (x.1.2.2.2.2.1 + 1)), ()), (x.2.1, x.2.2.1, x.2.2.2.1, x.2.2.2.2.1, ()))
   else none
  else
   some (Sum.inl (((), (), (), (), ()), (x.2.1, x.2.2.1, x.2.2.2.1, x.2.2.2.2.1, ())))
abbrev pelorusref17_Over_l0_seg (k : Nat) : Seg := ⟨⟨0, 109, false, [], []⟩, 12, [.b, .s2, .s1, .s2, .s2, .s2, .s2, .s2, .s2], pelorusref17_Over_l0_i, pelorusref17_Over_l0_o, pelorusref17_Over_l0 k k⟩
theorem pelorusref17_Over_l0_seg.ok (k : Nat) : SegOK Try.prog (e50 k) (pelorusref17_Over_l0_seg k) :=
 SegOK.loop (e50.ok k) (by kernel_rfl) (S := pelorusref17_Over_l0_seg k) (c := atR (codeOf (e50 k) 12) [.l, .b, .s2, .s1, .s2, .s2, .s2, .s2, .s2, .s2]) (by kernel_rfl) (pelorusref17_Over_l0 k) k rfl (fun _ => rfl) 8 .n trivial (fun k' x => by kernel_rfl)
abbrev pelorusref17_Over_l1_i : Mask := ⟨[(0, 2, (.k (.ptr 2 0 0))), (0, 4, (.k (.ptr 4 0 0))), (0, 6, (.k (.ptr 6 0 0))), (0, 7, (.k (.ptr 7 0 0))), (0, 9, (.v (.int .i64)))], [(2, .cells (.v T28)), (4, .cells (.v T25)), (6, .cells (.v T25)), (7, .cells (.v T25))], [], 0⟩
abbrev pelorusref17_Over_l1_o : List Out := [⟨.exit 2, ⟨[(0, 4, (.k (.ptr 4 0 0))), (0, 7, (.k (.ptr 7 0 0)))], [(4, .cells (.v T25)), (7, .cells (.v T25))], [], 0⟩⟩]
def pelorusref17_Over_l1 (k : Nat) : Nat → Mask.den pelorusref17_Over_l1_i → Option (denS pelorusref17_Over_l1_o)
 | 0, _ => none
 | m + 1, x =>
  bif (decide (x.1.2.2.2.2.1 ≤ (x.2.1.2.2.length : Int))) then
   (pelorusref17_When k x.2.1 x.1.2.2.2.2.1).bind fun r21 =>
   (pelorusref08_Has k x.2.2.2.1 r21.1).bind fun r22 =>
   bif r22.1 then
    (pelorusref17_gate k x.2.1 x.1.2.2.2.2.1).bind fun r23 =>
    (pelorusref08_Both k x.2.2.2.2.1 r23.1).bind fun r24 =>
    pelorusref17_Over_l1 k m (((), (), (), (), (IntKind.i64.wrap (x.1.2.2.2.2.1 + 1)), ()), (x.2.1, x.2.2.1, x.2.2.2.1, r24.1, ()))
   else
    pelorusref17_Over_l1 k m (((), (), (), (), (IntKind.i64.wrap (x.1.2.2.2.2.1 + 1)), ()), (x.2.1, x.2.2.1, x.2.2.2.1, x.2.2.2.2.1, ()))
  else
   some (Sum.inl (((), (), ()), (x.2.2.1, x.2.2.2.2.1, ())))
abbrev pelorusref17_Over_l1_seg (k : Nat) : Seg := ⟨⟨0, 109, false, [], []⟩, 12, [.b, .s2, .s1, .s2, .s2, .s2, .s2, .s2, .s2, .s2], pelorusref17_Over_l1_i, pelorusref17_Over_l1_o, pelorusref17_Over_l1 k k⟩
theorem pelorusref17_Over_l1_seg.ok (k : Nat) : SegOK Try.prog (e50 k) (pelorusref17_Over_l1_seg k) :=
 SegOK.loop (e50.ok k) (by kernel_rfl) (S := pelorusref17_Over_l1_seg k) (c := atR (codeOf (e50 k) 12) [.l, .b, .s2, .s1, .s2, .s2, .s2, .s2, .s2, .s2, .s2]) (by kernel_rfl) (pelorusref17_Over_l1 k) k rfl (fun _ => rfl) 8 .n trivial (fun k' x => by kernel_rfl)
def pelorusref17_Over (k : Nat) (x0 : Ty.den T28) (x1 : Ty.den T25) : Option (HL [T25]) :=
 (pelorusref17_May k x0).bind fun r1 =>
 (pelorusref08_Fair k x1).bind fun r2 =>
 bif (!r1.1) then
  (pelorusref08_None k).bind fun r3 =>
  some (r3.1, ())
 else
  bif r2.1.1 then
   (pelorusref08_None k).bind fun r4 =>
   some (r4.1, ())
  else
   (pelorusref05_Cmp k r2.1.2.1 x0.1).bind fun r5 =>
   bif (decide (r5.1 < 0)) then
    (pelorusref08_All k).bind fun r6 =>
    some (r6.1, ())
   else
    (pelorusref17_When k x0 (x0.2.2.length : Int)).bind fun r7 =>
    (pelorusref05_Cmp k r2.1.2.2 r7.1).bind fun r8 =>
    bif (decide (r8.1 > 0)) then
     (pelorusref08_All k).bind fun r9 =>
     some (r9.1, ())
    else
     (pelorusref17_At k x0 r2.1.2.1).bind fun r10 =>
     (pelorusref17_At k x0 r2.1.2.2).bind fun r11 =>
     (pelorusref08_Both k r10.1 r11.1).bind fun r12 =>
     (pelorusref17_Over_l0 k k (((), (), (), (), 0, ()), (x0, (false, (0, false, 0, 0), 0, false, 0, 0), r2.1, r12.1, ()))).bind fun q19 =>
     Sum.elim (fun z20 =>
       (pelorusref17_Over_l1 k k (((), (), (), (), 0, ()), (z20.2.1, z20.2.2.1, z20.2.2.2.1, z20.2.2.2.2.1, ()))).bind fun q25 =>
       Sum.elim (fun z26 =>
         some (z26.2.2.1, ()))
        (fun q25' =>
         none) q25)
      (fun q19' =>
       none) q19
theorem pelorusref17_Over.ok (k : Nat) : SpecOK Try.prog G0 12 ⟨[T28, T25], [T25], fun x => pelorusref17_Over k x.1 x.2.1⟩ :=
 evF_sound (E := (e50 k)) (fn := Try.f12) (e50.ok k) (by kernel_rfl) (by kernel_rfl) (by kernel_rfl) 8 (.two .n (.two .n (.two .n (.two .n (.two .n (.two .n (.two (.two .n (.two (.use (pelorusref17_Over_l0_seg k)) .n)) (.two (.two .n (.two (.use (pelorusref17_Over_l1_seg k)) .n)) .n)))))))) ⟨trivial, ⟨trivial, ⟨trivial, ⟨trivial, ⟨trivial, ⟨trivial, ⟨⟨trivial, ⟨(pelorusref17_Over_l0_seg.ok k), trivial⟩⟩, ⟨⟨trivial, ⟨(pelorusref17_Over_l1_seg.ok k), trivial⟩⟩, trivial⟩⟩⟩⟩⟩⟩⟩⟩ (fun xs => by kernel_rfl)
def e51 (k : Nat) : Env := (e50 k).add 12 ⟨[T28, T25], [T25], fun x => pelorusref17_Over k x.1 x.2.1⟩
theorem e51.ok (k : Nat) : (e51 k).OK Try.prog := (e50.ok k).add (pelorusref17_Over.ok k)
def pelorusref17_Append (k : Nat) (x0 : Ty.den T28) (x1 : Ty.den T23) (x2 : Ty.den T25) (x3 : Ty.den T25) : Option (HL [T28, (.int .i64)]) :=
 (pelorusref17_May k x0).bind fun r1 =>
 (pelorusref17_when k x1).bind fun r2 =>
 (pelorusref08_May k x2).bind fun r3 =>
 (pelorusref08_May k x3).bind fun r4 =>
 bif (!r1.1) then
  some (((0, false, 0, 0), (false, (0, false, 0, 0), 0, false, 0, 0), []), 1, ())
 else
  bif (!r2.1) then
   some (((0, false, 0, 0), (false, (0, false, 0, 0), 0, false, 0, 0), []), 1, ())
  else
   bif (!r3.1) then
    some (((0, false, 0, 0), (false, (0, false, 0, 0), 0, false, 0, 0), []), 1, ())
   else
    bif (!r4.1) then
     some (((0, false, 0, 0), (false, (0, false, 0, 0), 0, false, 0, 0), []), 1, ())
    else
     bif (decide ((x0.2.2.length : Int) ≥ 64)) then
      some (((0, false, 0, 0), (false, (0, false, 0, 0), 0, false, 0, 0), []), 3, ())
     else
      (pelorusref17_When k x0 (x0.2.2.length : Int)).bind fun r5 =>
      (pelorusref05_Cmp k x1 r5.1).bind fun r6 =>
      bif (decide (r6.1 ≤ 0)) then
       some (((0, false, 0, 0), (false, (0, false, 0, 0), 0, false, 0, 0), []), 6, ())
      else
       if x0.2.2.length * 176 ≤ 140737488355328 then
        if (x0.2.2.length + [(x1, x2, x3)].length) * 176 ≤ 140737488355328 then
         some ((x0.1, x0.2.1, (x0.2.2 ++ [(x1, x2, x3)])), 0, ())
        else none
       else none
theorem pelorusref17_Append.ok (k : Nat) : SpecOK Try.prog G0 14 ⟨[T28, T23, T25, T25], [T28, (.int .i64)], fun x => pelorusref17_Append k x.1 x.2.1 x.2.2.1 x.2.2.2.1⟩ :=
 evF_sound (E := (e51 k)) (fn := Try.f14) (e51.ok k) (by kernel_rfl) (by kernel_rfl) (by kernel_rfl) 8 .n trivial (fun xs => by kernel_rfl)
def e52 (k : Nat) : Env := (e51 k).add 14 ⟨[T28, T23, T25, T25], [T28, (.int .i64)], fun x => pelorusref17_Append k x.1 x.2.1 x.2.2.1 x.2.2.2.1⟩
theorem e52.ok (k : Nat) : (e52 k).OK Try.prog := (e51.ok k).add (pelorusref17_Append.ok k)
abbrev tube_void_l0_i : Mask := ⟨[(0, 1, (.k (.ptr 1 0 0))), (0, 2, (.k (.ptr 2 0 0))), (0, 3, (.k (.ptr 3 0 0))), (0, 14, (.v (.int .i64))), (0, 15, (.v (.int .i64)))], [(1, .cells (.pr (.v T23) (.pr (.v T25) (.k (.arr 10 0))))), (2, .cells (.pr (.v T23) (.pr (.v T25) (.v T27)))), (3, .cells (.v T25)), (10, .arr 36 T35)], [], 0⟩
abbrev tube_void_l0_o : List Out := [⟨.exit 0, ⟨[(0, 1, (.k (.ptr 1 0 0))), (0, 2, (.k (.ptr 2 0 0)))], [(1, .cells (.pr (.v T23) (.pr (.v T25) (.k (.arr 10 0))))), (2, .cells (.pr (.v T23) (.pr (.v T25) (.v T27)))), (10, .arr 36 T35)], [], 0⟩⟩]
def tube_void_l0 (k : Nat) : Nat → Mask.den tube_void_l0_i → Option (denS tube_void_l0_o)
 | 0, _ => none
 | m + 1, x =>
  bif (decide (x.1.2.2.2.2.1 < x.1.2.2.2.1)) then
   if 0 ≤ x.1.2.2.2.2.1 then (x.2.2.2.2.1[Int.toNat x.1.2.2.2.2.1]?).bind fun _ =>
    (x.2.2.2.2.1[(Int.toNat x.1.2.2.2.2.1)]?).bind fun y3 =>
    if 0 ≤ x.1.2.2.2.2.1 then ((x.2.2.2.2.1.set (Int.toNat x.1.2.2.2.2.1) (y3.1, x.2.2.2.1, y3.2.2))[Int.toNat x.1.2.2.2.2.1]?).bind fun _ =>
     ((x.2.2.2.2.1.set (Int.toNat x.1.2.2.2.2.1) (y3.1, x.2.2.2.1, y3.2.2))[(Int.toNat x.1.2.2.2.2.1)]?).bind fun y5 =>
     tube_void_l0 k m (((), (), (), x.1.2.2.2.1, (IntKind.i64.wrap (x.1.2.2.2.2.1 + 1)), ()), ((x.2.1.1, (x.2.1.2.1, ())), (x.2.2.1.1, (x.2.2.1.2.1, x.2.2.1.2.2)), x.2.2.2.1, ((x.2.2.2.2.1.set (Int.toNat x.1.2.2.2.2.1) (y3.1, x.2.2.2.1, y3.2.2)).set (Int.toNat x.1.2.2.2.2.1) (y5.1, y5.2.1, x.2.2.2.1)), ()))
    else none
   else none
  else
   some (Sum.inl (((), (), ()), ((x.2.1.1, (x.2.1.2.1, ())), (x.2.2.1.1, (x.2.2.1.2.1, x.2.2.1.2.2)), x.2.2.2.2.1, ())))
abbrev tube_void_l0_seg (k : Nat) : Seg := ⟨⟨0, 32, false, [], []⟩, 59, [.b, .s2, .s1, .s2, .s2, .s2, .s2], tube_void_l0_i, tube_void_l0_o, tube_void_l0 k k⟩
theorem tube_void_l0_seg.ok (k : Nat) : SegOK Try.prog (e52 k) (tube_void_l0_seg k) :=
 SegOK.loop (e52.ok k) (by kernel_rfl) (S := tube_void_l0_seg k) (c := atR (codeOf (e52 k) 59) [.l, .b, .s2, .s1, .s2, .s2, .s2, .s2]) (by kernel_rfl) (tube_void_l0 k) k rfl (fun _ => rfl) 8 .n trivial (fun k' x => by kernel_rfl)
def tube_void (k : Nat) (x0 : Ty.den T28) : Option (HL [T28]) :=
 (iv_None k).bind fun r1 =>
 if x0.2.2.length * 176 ≤ 140737488355328 then
  (tube_void_l0 k k (((), (), (), (x0.2.2.length : Int), 0, ()), ((x0.1, (r1.1, ())), ((0, false, 0, 0), ((false, (0, false, 0, 0), 0, false, 0, 0), [])), r1.1, x0.2.2, ()))).bind fun q6 =>
  Sum.elim (fun z7 =>
    some ((z7.2.1.1, z7.2.1.2.1, z7.2.2.2.1), ()))
   (fun q6' =>
    none) q6
 else none
theorem tube_void.ok (k : Nat) : SpecOK Try.prog G0 59 ⟨[T28], [T28], fun x => tube_void k x.1⟩ :=
 evF_sound (E := (e52 k)) (fn := Try.f59) (e52.ok k) (by kernel_rfl) (by kernel_rfl) (by kernel_rfl) 8 (.two .n (.two .n (.two .n (.two .n (.two (.two .n (.two (.use (tube_void_l0_seg k)) .n)) .n))))) ⟨trivial, ⟨trivial, ⟨trivial, ⟨trivial, ⟨⟨trivial, ⟨(tube_void_l0_seg.ok k), trivial⟩⟩, trivial⟩⟩⟩⟩⟩ (fun xs => by kernel_rfl)
def e53 (k : Nat) : Env := (e52 k).add 59 ⟨[T28], [T28], fun x => tube_void k x.1⟩
theorem e53.ok (k : Nat) : (e53 k).OK Try.prog := (e52.ok k).add (tube_void.ok k)
def iv_Meet (k : Nat) (x0 : Ty.den T64) : Option (HL [T25]) :=
 (iv_ends k x0).bind fun r1 =>
 bif (!r1.2.2.1) then
  (iv_None k).bind fun r2 =>
  some (r2.1, ())
 else
  (num_Most k r1.1).bind fun r3 =>
  (num_Least k r1.2.1).bind fun r4 =>
  (iv_Make k r3.1 r4.1).bind fun r5 =>
  some (r5.1, ())
theorem iv_Meet.ok (k : Nat) : SpecOK Try.prog G0 33 ⟨[T64], [T25], fun x => iv_Meet k x.1⟩ :=
 evF_sound (E := (e53 k)) (fn := Try.f33) (e53.ok k) (by kernel_rfl) (by kernel_rfl) (by kernel_rfl) 8 .n trivial (fun xs => by kernel_rfl)
def e54 (k : Nat) : Env := (e53 k).add 33 ⟨[T64], [T25], fun x => iv_Meet k x.1⟩
theorem e54.ok (k : Nat) : (e54 k).OK Try.prog := (e53.ok k).add (iv_Meet.ok k)
abbrev pelorusref17_empty_l0_i : Mask := ⟨[(0, 1, (.k (.ptr 1 0 0))), (0, 3, (.v (.int .i64)))], [(1, .cells (.v T28))], [], 0⟩
abbrev pelorusref17_empty_l0_o : List Out := [⟨.ret, ⟨[(0, 2, (.v .bool))], [], [], 0⟩⟩, ⟨.exit 0, ⟨[], [], [], 0⟩⟩]
def pelorusref17_empty_l0 (k : Nat) : Nat → Mask.den pelorusref17_empty_l0_i → Option (denS pelorusref17_empty_l0_o)
 | 0, _ => none
 | m + 1, x =>
  bif (decide (x.1.2.1 < (x.2.1.2.2.length : Int))) then
   if 0 ≤ x.1.2.1 then (x.2.1.2.2[Int.toNat x.1.2.1]?).bind fun y1 =>
    bif y1.2.1.1 then
     some (Sum.inl ((true, ()), ()))
    else
     if 0 ≤ x.1.2.1 then (x.2.1.2.2[Int.toNat x.1.2.1]?).bind fun y2 =>
      bif y2.2.2.1 then
       some (Sum.inl ((true, ()), ()))
      else
       pelorusref17_empty_l0 k m (((), (IntKind.i64.wrap (x.1.2.1 + 1)), ()), (x.2.1, ()))
     else none
   else none
  else
   some (Sum.inr (Sum.inl ((), ())))
abbrev pelorusref17_empty_l0_seg (k : Nat) : Seg := ⟨⟨0, 30, false, [], []⟩, 60, [.b, .s2, .s1, .s2, .s2], pelorusref17_empty_l0_i, pelorusref17_empty_l0_o, pelorusref17_empty_l0 k k⟩
theorem pelorusref17_empty_l0_seg.ok (k : Nat) : SegOK Try.prog (e54 k) (pelorusref17_empty_l0_seg k) :=
 SegOK.loop (e54.ok k) (by kernel_rfl) (S := pelorusref17_empty_l0_seg k) (c := atR (codeOf (e54 k) 60) [.l, .b, .s2, .s1, .s2, .s2]) (by kernel_rfl) (pelorusref17_empty_l0 k) k rfl (fun _ => rfl) 8 .n trivial (fun k' x => by kernel_rfl)
def pelorusref17_empty (k : Nat) (x0 : Ty.den T28) : Option (HL [.bool]) :=
 bif x0.2.1.1 then
  some (true, ())
 else
  (pelorusref17_empty_l0 k k (((), 0, ()), (x0, ()))).bind fun q3 =>
  Sum.elim (fun z4 =>
    some (z4.1.1, ()))
   (fun q3' =>
    Sum.elim (fun z5 =>
      some (false, ()))
     (fun q3'' =>
      none) q3') q3
theorem pelorusref17_empty.ok (k : Nat) : SpecOK Try.prog G0 60 ⟨[T28], [.bool], fun x => pelorusref17_empty k x.1⟩ :=
 evF_sound (E := (e54 k)) (fn := Try.f60) (e54.ok k) (by kernel_rfl) (by kernel_rfl) (by kernel_rfl) 8 (.two .n (.two .n (.two (.two .n (.two (.use (pelorusref17_empty_l0_seg k)) .n)) .n))) ⟨trivial, ⟨trivial, ⟨⟨trivial, ⟨(pelorusref17_empty_l0_seg.ok k), trivial⟩⟩, trivial⟩⟩⟩ (fun xs => by kernel_rfl)
def e55 (k : Nat) : Env := (e54 k).add 60 ⟨[T28], [.bool], fun x => pelorusref17_empty k x.1⟩
theorem e55.ok (k : Nat) : (e55 k).OK Try.prog := (e54.ok k).add (pelorusref17_empty.ok k)
abbrev pelorusref17_Fit_l0_i : Mask := ⟨[(0, 1, (.k (.ptr 1 0 0))), (0, 2, (.k (.ptr 2 0 0))), (0, 4, (.k (.ptr 4 0 0))), (0, 5, (.v (.int .i64)))], [(1, .cells (.v T28)), (2, .cells (.pr (.v T23) (.pr (.v T25) (.v T27)))), (4, .cells (.pr (.v T23) (.pr (.v T25) (.k (.arr 45 0))))), (45, .arr 36 T35)], [], 0⟩
abbrev pelorusref17_Fit_l0_o : List Out := [⟨.exit 0, ⟨[(0, 2, (.k (.ptr 2 0 0))), (0, 4, (.k (.ptr 4 0 0)))], [(2, .cells (.pr (.v T23) (.pr (.v T25) (.v T27)))), (4, .cells (.pr (.v T23) (.pr (.v T25) (.k (.arr 45 0))))), (45, .arr 36 T35)], [], 0⟩⟩]
def pelorusref17_Fit_l0 (k : Nat) : Nat → Mask.den pelorusref17_Fit_l0_i → Option (denS pelorusref17_Fit_l0_o)
 | 0, _ => none
 | m + 1, x =>
  bif (decide (x.1.2.2.2.1 < (x.2.1.2.2.length : Int))) then
   if 0 ≤ x.1.2.2.2.1 then (x.2.1.2.2[Int.toNat x.1.2.2.2.1]?).bind fun y6 =>
    if 0 ≤ x.1.2.2.2.1 then (x.2.1.2.2[Int.toNat x.1.2.2.2.1]?).bind fun y7 =>
     (pelorusref17_gate k x.2.1 (IntKind.i64.wrap (x.1.2.2.2.1 + 1))).bind fun r8 =>
     if (x.2.2.2.2.1.length + [(y6.1, y7.2.1, r8.1)].length) * 176 ≤ 140737488355328 then
      pelorusref17_Fit_l0 k m (((), (), (), (IntKind.i64.wrap (x.1.2.2.2.1 + 1)), ()), (x.2.1, (x.2.2.1.1, (x.2.2.1.2.1, x.2.2.1.2.2)), (x.2.2.2.1.1, (x.2.2.2.1.2.1, ())), (x.2.2.2.2.1 ++ [(y6.1, y7.2.1, r8.1)]), ()))
     else none
    else none
   else none
  else
   some (Sum.inl (((), (), ()), ((x.2.2.1.1, (x.2.2.1.2.1, x.2.2.1.2.2)), (x.2.2.2.1.1, (x.2.2.2.1.2.1, ())), x.2.2.2.2.1, ())))
abbrev pelorusref17_Fit_l0_seg (k : Nat) : Seg := ⟨⟨0, 72, false, [], []⟩, 21, [.b, .s2, .s1, .s2, .s2, .s2, .s2], pelorusref17_Fit_l0_i, pelorusref17_Fit_l0_o, pelorusref17_Fit_l0 k k⟩
theorem pelorusref17_Fit_l0_seg.ok (k : Nat) : SegOK Try.prog (e55 k) (pelorusref17_Fit_l0_seg k) :=
 SegOK.loop (e55.ok k) (by kernel_rfl) (S := pelorusref17_Fit_l0_seg k) (c := atR (codeOf (e55 k) 21) [.l, .b, .s2, .s1, .s2, .s2, .s2, .s2]) (by kernel_rfl) (pelorusref17_Fit_l0 k) k rfl (fun _ => rfl) 8 .n trivial (fun k' x => by kernel_rfl)
abbrev pelorusref17_Fit_l1_i : Mask := ⟨[(0, 2, (.k (.ptr 2 0 0))), (0, 4, (.k (.ptr 4 0 0))), (0, 7, (.v (.int .i64)))], [(2, .cells (.pr (.v T23) (.pr (.v T25) (.v T27)))), (4, .cells (.pr (.v T23) (.pr (.v T25) (.k (.arr 45 0))))), (45, .arr 36 T35)], [], 0⟩
abbrev pelorusref17_Fit_l1_o : List Out := [⟨.exit 2, ⟨[(0, 2, (.k (.ptr 2 0 0))), (0, 4, (.k (.ptr 4 0 0)))], [(2, .cells (.pr (.v T23) (.pr (.v T25) (.v T27)))), (4, .cells (.pr (.v T23) (.pr (.v T25) (.k (.arr 45 0))))), (45, .arr 36 T35)], [], 0⟩⟩]
def pelorusref17_Fit_l1 (k : Nat) : Nat → Mask.den pelorusref17_Fit_l1_i → Option (denS pelorusref17_Fit_l1_o)
 | 0, _ => none
 | m + 1, x =>
  bif (decide (x.1.2.2.1 < (x.2.2.2.1.length : Int))) then
   (pelorusref08_None k).bind fun r13 =>
   if 0 ≤ x.1.2.2.1 then (x.2.2.2.1[Int.toNat x.1.2.2.1]?).bind fun _ =>
    (x.2.2.2.1[(Int.toNat x.1.2.2.1)]?).bind fun y15 =>
    (pelorusref08_None k).bind fun r16 =>
    if 0 ≤ x.1.2.2.1 then ((x.2.2.2.1.set (Int.toNat x.1.2.2.1) (y15.1, r13.1, y15.2.2))[Int.toNat x.1.2.2.1]?).bind fun _ =>
     ((x.2.2.2.1.set (Int.toNat x.1.2.2.1) (y15.1, r13.1, y15.2.2))[(Int.toNat x.1.2.2.1)]?).bind fun y18 =>
     pelorusref17_Fit_l1 k m (((), (), (IntKind.i64.wrap (x.1.2.2.1 + 1)), ()), ((x.2.1.1, (x.2.1.2.1, x.2.1.2.2)), (x.2.2.1.1, (x.2.2.1.2.1, ())), ((x.2.2.2.1.set (Int.toNat x.1.2.2.1) (y15.1, r13.1, y15.2.2)).set (Int.toNat x.1.2.2.1) (y18.1, y18.2.1, r16.1)), ()))
    else none
   else none
  else
   some (Sum.inl (((), (), ()), ((x.2.1.1, (x.2.1.2.1, x.2.1.2.2)), (x.2.2.1.1, (x.2.2.1.2.1, ())), x.2.2.2.1, ())))
abbrev pelorusref17_Fit_l1_seg (k : Nat) : Seg := ⟨⟨0, 72, false, [], []⟩, 21, [.b, .s2, .s2, .c1, .s2, .s1, .s2, .s2, .s2, .s2, .s2, .s2], pelorusref17_Fit_l1_i, pelorusref17_Fit_l1_o, pelorusref17_Fit_l1 k k⟩
theorem pelorusref17_Fit_l1_seg.ok (k : Nat) : SegOK Try.prog (e55 k) (pelorusref17_Fit_l1_seg k) :=
 SegOK.loop (e55.ok k) (by kernel_rfl) (S := pelorusref17_Fit_l1_seg k) (c := atR (codeOf (e55 k) 21) [.l, .b, .s2, .s2, .c1, .s2, .s1, .s2, .s2, .s2, .s2, .s2, .s2]) (by kernel_rfl) (pelorusref17_Fit_l1 k) k rfl (fun _ => rfl) 8 .n trivial (fun k' x => by kernel_rfl)
def pelorusref17_Fit (k : Nat) (x0 : Ty.den T28) : Option (HL [T28]) :=
 (pelorusref17_May k x0).bind fun r1 =>
 bif (!r1.1) then
  some (x0, ())
 else
  (pelorusref17_gate k x0 0).bind fun r2 =>
  (pelorusref17_Fit_l0 k k (((), (), (), 0, ()), (x0, ((0, false, 0, 0), ((false, (0, false, 0, 0), 0, false, 0, 0), [])), (x0.1, (r2.1, ())), [], ()))).bind fun q9 =>
  Sum.elim (fun z10 =>
    (pelorusref17_empty k (z10.2.2.1.1, z10.2.2.1.2.1, z10.2.2.2.1)).bind fun r11 =>
    bif r11.1 then
     (pelorusref08_None k).bind fun r12 =>
     (pelorusref17_Fit_l1 k k (((), (), 0, ()), ((z10.2.1.1, (z10.2.1.2.1, z10.2.1.2.2)), (z10.2.2.1.1, (r12.1, ())), z10.2.2.2.1, ()))).bind fun q19 =>
     Sum.elim (fun z20 =>
       some ((z20.2.2.1.1, z20.2.2.1.2.1, z20.2.2.2.1), ()))
      (fun q19' =>
       none) q19
    else
     some ((z10.2.2.1.1, z10.2.2.1.2.1, z10.2.2.2.1), ()))
   (fun q9' =>
    none) q9
theorem pelorusref17_Fit.ok (k : Nat) : SpecOK Try.prog G0 21 ⟨[T28], [T28], fun x => pelorusref17_Fit k x.1⟩ :=
 evF_sound (E := (e55 k)) (fn := Try.f21) (e55.ok k) (by kernel_rfl) (by kernel_rfl) (by kernel_rfl) 8 (.two .n (.two .n (.two .n (.two .n (.two (.two .n (.two (.use (pelorusref17_Fit_l0_seg k)) .n)) (.two .n (.two (.two .n (.two (.two .n (.two .n (.two (.use (pelorusref17_Fit_l1_seg k)) .n))) .n)) .n))))))) ⟨trivial, ⟨trivial, ⟨trivial, ⟨trivial, ⟨⟨trivial, ⟨(pelorusref17_Fit_l0_seg.ok k), trivial⟩⟩, ⟨trivial, ⟨⟨trivial, ⟨⟨trivial, ⟨trivial, ⟨(pelorusref17_Fit_l1_seg.ok k), trivial⟩⟩⟩, trivial⟩⟩, trivial⟩⟩⟩⟩⟩⟩⟩ (fun xs => by kernel_rfl)
def e56 (k : Nat) : Env := (e55 k).add 21 ⟨[T28], [T28], fun x => pelorusref17_Fit k x.1⟩
theorem e56.ok (k : Nat) : (e56 k).OK Try.prog := (e55.ok k).add (pelorusref17_Fit.ok k)
def pelorusref17_Set (k : Nat) (x0 : Ty.den T28) (x1 : Ty.den (.int .i64)) (x2 : Ty.den T25) : Option (HL [T28, (.int .i64)]) :=
 (pelorusref17_May k x0).bind fun r1 =>
 (pelorusref08_May k x2).bind fun r2 =>
 bif (!r1.1) then
  some (((0, false, 0, 0), (false, (0, false, 0, 0), 0, false, 0, 0), []), 1, ())
 else
  bif (!r2.1) then
   some (((0, false, 0, 0), (false, (0, false, 0, 0), 0, false, 0, 0), []), 1, ())
  else
   bif (decide (x1 < 0)) then
    some (((0, false, 0, 0), (false, (0, false, 0, 0), 0, false, 0, 0), []), 7, ())
   else
    bif (decide (x1 > (x0.2.2.length : Int))) then
     some (((0, false, 0, 0), (false, (0, false, 0, 0), 0, false, 0, 0), []), 7, ())
    else
     if x0.2.2.length * 176 ≤ 140737488355328 then
      bif (x1 == 0) then
       (pelorusref08_Two k x0.2.1 x2).bind fun r3 =>
       (pelorusref17_Fit k (x0.1, r3.1, x0.2.2)).bind fun r4 =>
       some (r4.1, 0, ())
      else
       if 0 ≤ (IntKind.i64.wrap (x1 - 1)) then (x0.2.2[Int.toNat (IntKind.i64.wrap (x1 - 1))]?).bind fun _ =>
        (x0.2.2[(Int.toNat (IntKind.i64.wrap (x1 - 1)))]?).bind fun y6 =>
        (pelorusref08_Two k y6.2.2 x2).bind fun r7 =>
        if 0 ≤ (IntKind.i64.wrap (x1 - 1)) then (x0.2.2[Int.toNat (IntKind.i64.wrap (x1 - 1))]?).bind fun _ =>
         (x0.2.2[(Int.toNat (IntKind.i64.wrap (x1 - 1)))]?).bind fun y9 =>
         (pelorusref17_Fit k (x0.1, x0.2.1, (x0.2.2.set (Int.toNat (IntKind.i64.wrap (x1 - 1))) (y9.1, y9.2.1, r7.1)))).bind fun r10 =>
         some (r10.1, 0, ())
        else none
       else none
     else none
theorem pelorusref17_Set.ok (k : Nat) : SpecOK Try.prog G0 16 ⟨[T28, (.int .i64), T25], [T28, (.int .i64)], fun x => pelorusref17_Set k x.1 x.2.1 x.2.2.1⟩ :=
 evF_sound (E := (e56 k)) (fn := Try.f16) (e56.ok k) (by kernel_rfl) (by kernel_rfl) (by kernel_rfl) 8 (.two .n (.two .n (.two .n (.two .n (.two .n (.two .n (.two .n (.two (.own 1 .n) .n)))))))) ⟨trivial, ⟨trivial, ⟨trivial, ⟨trivial, ⟨trivial, ⟨trivial, ⟨trivial, ⟨trivial, trivial⟩⟩⟩⟩⟩⟩⟩⟩ (fun xs => by kernel_rfl)
def e57 (k : Nat) : Env := (e56 k).add 16 ⟨[T28, (.int .i64), T25], [T28, (.int .i64)], fun x => pelorusref17_Set k x.1 x.2.1 x.2.2.1⟩
theorem e57.ok (k : Nat) : (e57 k).OK Try.prog := (e56.ok k).add (pelorusref17_Set.ok k)
def pelorusref17_New (k : Nat) (x0 : Ty.den T23) (x1 : Ty.den T25) : Option (HL [T28, (.int .i64)]) :=
 (pelorusref17_May k (x0, x1, [])).bind fun r1 =>
 bif (!r1.1) then
  some (((0, false, 0, 0), (false, (0, false, 0, 0), 0, false, 0, 0), []), 1, ())
 else
  some ((x0, x1, []), 0, ())
theorem pelorusref17_New.ok (k : Nat) : SpecOK Try.prog G0 18 ⟨[T23, T25], [T28, (.int .i64)], fun x => pelorusref17_New k x.1 x.2.1⟩ :=
 evF_sound (E := (e57 k)) (fn := Try.f18) (e57.ok k) (by kernel_rfl) (by kernel_rfl) (by kernel_rfl) 8 .n trivial (fun xs => by kernel_rfl)
def e58 (k : Nat) : Env := (e57 k).add 18 ⟨[T23, T25], [T28, (.int .i64)], fun x => pelorusref17_New k x.1 x.2.1⟩
theorem e58.ok (k : Nat) : (e58 k).OK Try.prog := (e57.ok k).add (pelorusref17_New.ok k)
abbrev pelorusref17_Same_l0_i : Mask := ⟨[(0, 2, (.k (.ptr 2 0 0))), (0, 3, (.k (.ptr 3 0 0))), (0, 5, (.v (.int .i64)))], [(2, .cells (.v T28)), (3, .cells (.v T28))], [], 0⟩
abbrev pelorusref17_Same_l0_o : List Out := [⟨.ret, ⟨[(0, 4, (.v .bool))], [], [], 0⟩⟩, ⟨.exit 0, ⟨[], [], [], 0⟩⟩]
def pelorusref17_Same_l0 (k : Nat) : Nat → Mask.den pelorusref17_Same_l0_i → Option (denS pelorusref17_Same_l0_o)
 | 0, _ => none
 | m + 1, x =>
  bif (decide (x.1.2.2.1 < (x.2.1.2.2.length : Int))) then
   if 0 ≤ x.1.2.2.1 then (x.2.1.2.2[Int.toNat x.1.2.2.1]?).bind fun y1 =>
    if 0 ≤ x.1.2.2.1 then (x.2.2.1.2.2[Int.toNat x.1.2.2.1]?).bind fun y2 =>
     bif (!(beqT T35 y1 y2)) then
      some (Sum.inl ((false, ()), ()))
     else
      pelorusref17_Same_l0 k m (((), (), (IntKind.i64.wrap (x.1.2.2.1 + 1)), ()), (x.2.1, x.2.2.1, ()))
    else none
   else none
  else
   some (Sum.inr (Sum.inl ((), ())))
abbrev pelorusref17_Same_l0_seg (k : Nat) : Seg := ⟨⟨0, 45, false, [], []⟩, 19, [.b, .s2, .s1, .s2, .s2], pelorusref17_Same_l0_i, pelorusref17_Same_l0_o, pelorusref17_Same_l0 k k⟩
theorem pelorusref17_Same_l0_seg.ok (k : Nat) : SegOK Try.prog (e58 k) (pelorusref17_Same_l0_seg k) :=
 SegOK.loop (e58.ok k) (by kernel_rfl) (S := pelorusref17_Same_l0_seg k) (c := atR (codeOf (e58 k) 19) [.l, .b, .s2, .s1, .s2, .s2]) (by kernel_rfl) (pelorusref17_Same_l0 k) k rfl (fun _ => rfl) 8 .n trivial (fun k' x => by kernel_rfl)
def pelorusref17_Same (k : Nat) (x0 : Ty.den T28) (x1 : Ty.den T28) : Option (HL [.bool]) :=
 bif (!(beqT T23 x0.1 x1.1)) then
  some (false, ())
 else
  bif (!(beqT T25 x0.2.1 x1.2.1)) then
   some (false, ())
  else
   bif ((x0.2.2.length : Int) != (x1.2.2.length : Int)) then
    some (false, ())
   else
    (pelorusref17_Same_l0 k k (((), (), 0, ()), (x0, x1, ()))).bind fun q3 =>
    Sum.elim (fun z4 =>
      some (z4.1.1, ()))
     (fun q3' =>
      Sum.elim (fun z5 =>
        some (true, ()))
       (fun q3'' =>
        none) q3') q3
theorem pelorusref17_Same.ok (k : Nat) : SpecOK Try.prog G0 19 ⟨[T28, T28], [.bool], fun x => pelorusref17_Same k x.1 x.2.1⟩ :=
 evF_sound (E := (e58 k)) (fn := Try.f19) (e58.ok k) (by kernel_rfl) (by kernel_rfl) (by kernel_rfl) 8 (.two .n (.two .n (.two (.two .n (.two (.use (pelorusref17_Same_l0_seg k)) .n)) .n))) ⟨trivial, ⟨trivial, ⟨⟨trivial, ⟨(pelorusref17_Same_l0_seg.ok k), trivial⟩⟩, trivial⟩⟩⟩ (fun xs => by kernel_rfl)
def e59 (k : Nat) : Env := (e58 k).add 19 ⟨[T28, T28], [.bool], fun x => pelorusref17_Same k x.1 x.2.1⟩
theorem e59.ok (k : Nat) : (e59 k).OK Try.prog := (e58.ok k).add (pelorusref17_Same.ok k)
def pelorusref17_Empty (k : Nat) (x0 : Ty.den T28) : Option (HL [.bool]) :=
 (pelorusref17_May k x0).bind fun r1 =>
 bif (!r1.1) then
  some (true, ())
 else
  (pelorusref17_empty k x0).bind fun r2 =>
  some (r2.1, ())
theorem pelorusref17_Empty.ok (k : Nat) : SpecOK Try.prog G0 25 ⟨[T28], [.bool], fun x => pelorusref17_Empty k x.1⟩ :=
 evF_sound (E := (e59 k)) (fn := Try.f25) (e59.ok k) (by kernel_rfl) (by kernel_rfl) (by kernel_rfl) 8 .n trivial (fun xs => by kernel_rfl)
def e60 (k : Nat) : Env := (e59 k).add 25 ⟨[T28], [.bool], fun x => pelorusref17_Empty k x.1⟩
theorem e60.ok (k : Nat) : (e60 k).OK Try.prog := (e59.ok k).add (pelorusref17_Empty.ok k)
def tube_Gate (k : Nat) (x0 : Ty.den T28) (x1 : Ty.den (.int .i64)) : Option (HL [T25]) :=
 (tube_May k x0).bind fun r1 =>
 bif (!r1.1) then
  (iv_None k).bind fun r2 =>
  some (r2.1, ())
 else
  bif (decide (x1 < 0)) then
   (iv_None k).bind fun r3 =>
   some (r3.1, ())
  else
   bif (decide (x1 > (x0.2.2.length : Int))) then
    (iv_None k).bind fun r4 =>
    some (r4.1, ())
   else
    bif (x1 == 0) then
     some (x0.2.1, ())
    else
     if 0 ≤ (IntKind.i64.wrap (x1 - 1)) then (x0.2.2[Int.toNat (IntKind.i64.wrap (x1 - 1))]?).bind fun y5 =>
      some (y5.2.2, ())
     else none
theorem tube_Gate.ok (k : Nat) : SpecOK Try.prog G0 26 ⟨[T28, (.int .i64)], [T25], fun x => tube_Gate k x.1 x.2.1⟩ :=
 evF_sound (E := (e60 k)) (fn := Try.f26) (e60.ok k) (by kernel_rfl) (by kernel_rfl) (by kernel_rfl) 8 .n trivial (fun xs => by kernel_rfl)
def e61 (k : Nat) : Env := (e60 k).add 26 ⟨[T28, (.int .i64)], [T25], fun x => tube_Gate k x.1 x.2.1⟩
theorem e61.ok (k : Nat) : (e61 k).OK Try.prog := (e60.ok k).add (tube_Gate.ok k)
def pelorusref17_Gate (k : Nat) (x0 : Ty.den T28) (x1 : Ty.den (.int .i64)) : Option (HL [T25]) :=
 (pelorusref17_May k x0).bind fun r1 =>
 bif (!r1.1) then
  (pelorusref08_None k).bind fun r2 =>
  some (r2.1, ())
 else
  bif (decide (x1 < 0)) then
   (pelorusref08_None k).bind fun r3 =>
   some (r3.1, ())
  else
   bif (decide (x1 > (x0.2.2.length : Int))) then
    (pelorusref08_None k).bind fun r4 =>
    some (r4.1, ())
   else
    bif (x1 == 0) then
     some (x0.2.1, ())
    else
     if 0 ≤ (IntKind.i64.wrap (x1 - 1)) then (x0.2.2[Int.toNat (IntKind.i64.wrap (x1 - 1))]?).bind fun y5 =>
      some (y5.2.2, ())
     else none
theorem pelorusref17_Gate.ok (k : Nat) : SpecOK Try.prog G0 27 ⟨[T28, (.int .i64)], [T25], fun x => pelorusref17_Gate k x.1 x.2.1⟩ :=
 evF_sound (E := (e61 k)) (fn := Try.f27) (e61.ok k) (by kernel_rfl) (by kernel_rfl) (by kernel_rfl) 8 .n trivial (fun xs => by kernel_rfl)
def e62 (k : Nat) : Env := (e61 k).add 27 ⟨[T28, (.int .i64)], [T25], fun x => pelorusref17_Gate k x.1 x.2.1⟩
theorem e62.ok (k : Nat) : (e62 k).OK Try.prog := (e61.ok k).add (pelorusref17_Gate.ok k)
abbrev pelorusref17_times_l0_i : Mask := ⟨[(0, 2, (.k (.ptr 2 0 0))), (0, 3, (.k (.ptr 3 0 0))), (0, 5, (.v (.int .i64)))], [(2, .cells (.v T28)), (3, .cells (.v T28))], [], 0⟩
abbrev pelorusref17_times_l0_o : List Out := [⟨.ret, ⟨[(0, 4, (.v .bool))], [], [], 0⟩⟩, ⟨.exit 0, ⟨[], [], [], 0⟩⟩]
def pelorusref17_times_l0 (k : Nat) : Nat → Mask.den pelorusref17_times_l0_i → Option (denS pelorusref17_times_l0_o)
 | 0, _ => none
 | m + 1, x =>
  bif (decide (x.1.2.2.1 < (x.2.1.2.2.length : Int))) then
   if 0 ≤ x.1.2.2.1 then (x.2.1.2.2[Int.toNat x.1.2.2.1]?).bind fun y1 =>
    if 0 ≤ x.1.2.2.1 then (x.2.2.1.2.2[Int.toNat x.1.2.2.1]?).bind fun y2 =>
     bif (!(beqT T23 y1.1 y2.1)) then
      some (Sum.inl ((false, ()), ()))
     else
      pelorusref17_times_l0 k m (((), (), (IntKind.i64.wrap (x.1.2.2.1 + 1)), ()), (x.2.1, x.2.2.1, ()))
    else none
   else none
  else
   some (Sum.inr (Sum.inl ((), ())))
abbrev pelorusref17_times_l0_seg (k : Nat) : Seg := ⟨⟨0, 40, false, [], []⟩, 64, [.b, .s2, .s1, .s2, .s2], pelorusref17_times_l0_i, pelorusref17_times_l0_o, pelorusref17_times_l0 k k⟩
theorem pelorusref17_times_l0_seg.ok (k : Nat) : SegOK Try.prog (e62 k) (pelorusref17_times_l0_seg k) :=
 SegOK.loop (e62.ok k) (by kernel_rfl) (S := pelorusref17_times_l0_seg k) (c := atR (codeOf (e62 k) 64) [.l, .b, .s2, .s1, .s2, .s2]) (by kernel_rfl) (pelorusref17_times_l0 k) k rfl (fun _ => rfl) 8 .n trivial (fun k' x => by kernel_rfl)
def pelorusref17_times (k : Nat) (x0 : Ty.den T28) (x1 : Ty.den T28) : Option (HL [.bool]) :=
 bif (!(beqT T23 x0.1 x1.1)) then
  some (false, ())
 else
  bif ((x0.2.2.length : Int) != (x1.2.2.length : Int)) then
   some (false, ())
  else
   (pelorusref17_times_l0 k k (((), (), 0, ()), (x0, x1, ()))).bind fun q3 =>
   Sum.elim (fun z4 =>
     some (z4.1.1, ()))
    (fun q3' =>
     Sum.elim (fun z5 =>
       some (true, ()))
      (fun q3'' =>
       none) q3') q3
theorem pelorusref17_times.ok (k : Nat) : SpecOK Try.prog G0 64 ⟨[T28, T28], [.bool], fun x => pelorusref17_times k x.1 x.2.1⟩ :=
 evF_sound (E := (e62 k)) (fn := Try.f64) (e62.ok k) (by kernel_rfl) (by kernel_rfl) (by kernel_rfl) 8 (.two .n (.two .n (.two (.two .n (.two (.use (pelorusref17_times_l0_seg k)) .n)) .n))) ⟨trivial, ⟨trivial, ⟨⟨trivial, ⟨(pelorusref17_times_l0_seg.ok k), trivial⟩⟩, trivial⟩⟩⟩ (fun xs => by kernel_rfl)
def e63 (k : Nat) : Env := (e62 k).add 64 ⟨[T28, T28], [.bool], fun x => pelorusref17_times k x.1 x.2.1⟩
theorem e63.ok (k : Nat) : (e63 k).OK Try.prog := (e62.ok k).add (pelorusref17_times.ok k)
abbrev pelorusref17_Meet_l0_i : Mask := ⟨[(0, 2, (.k (.ptr 2 0 0))), (0, 3, (.k (.ptr 3 0 0))), (0, 4, (.k (.ptr 4 0 0))), (0, 9, (.k (.ptr 9 0 0))), (0, 10, (.v (.int .i64)))], [(2, .cells (.v T28)), (3, .cells (.v T28)), (4, .cells (.pr (.v T23) (.pr (.v T25) (.v T27)))), (9, .cells (.pr (.v T23) (.pr (.v T25) (.k (.arr 72 0))))), (72, .arr 36 T35)], [], 0⟩
abbrev pelorusref17_Meet_l0_o : List Out := [⟨.exit 0, ⟨[(0, 4, (.k (.ptr 4 0 0))), (0, 9, (.k (.ptr 9 0 0)))], [(4, .cells (.pr (.v T23) (.pr (.v T25) (.v T27)))), (9, .cells (.pr (.v T23) (.pr (.v T25) (.k (.arr 72 0))))), (72, .arr 36 T35)], [], 0⟩⟩]
def pelorusref17_Meet_l0 (k : Nat) : Nat → Mask.den pelorusref17_Meet_l0_i → Option (denS pelorusref17_Meet_l0_o)
 | 0, _ => none
 | m + 1, x =>
  bif (decide (x.1.2.2.2.2.1 < (x.2.1.2.2.length : Int))) then
   if 0 ≤ x.1.2.2.2.2.1 then (x.2.1.2.2[Int.toNat x.1.2.2.2.2.1]?).bind fun y9 =>
    if 0 ≤ x.1.2.2.2.2.1 then (x.2.2.1.2.2[Int.toNat x.1.2.2.2.2.1]?).bind fun y10 =>
     (pelorusref08_Two k y9.2.1 y10.2.1).bind fun r11 =>
     (pelorusref08_Two k y9.2.2 y10.2.2).bind fun r12 =>
     if (x.2.2.2.2.2.1.length + [(y9.1, r11.1, r12.1)].length) * 176 ≤ 140737488355328 then
      pelorusref17_Meet_l0 k m (((), (), (), (), (IntKind.i64.wrap (x.1.2.2.2.2.1 + 1)), ()), (x.2.1, x.2.2.1, (x.2.2.2.1.1, (x.2.2.2.1.2.1, x.2.2.2.1.2.2)), (x.2.2.2.2.1.1, (x.2.2.2.2.1.2.1, ())), (x.2.2.2.2.2.1 ++ [(y9.1, r11.1, r12.1)]), ()))
     else none
    else none
   else none
  else
   some (Sum.inl (((), (), ()), ((x.2.2.2.1.1, (x.2.2.2.1.2.1, x.2.2.2.1.2.2)), (x.2.2.2.2.1.1, (x.2.2.2.2.1.2.1, ())), x.2.2.2.2.2.1, ())))
abbrev pelorusref17_Meet_l0_seg (k : Nat) : Seg := ⟨⟨0, 76, false, [], []⟩, 29, [.b, .s2, .s1, .s2, .s2, .s2, .s2, .s2, .s2], pelorusref17_Meet_l0_i, pelorusref17_Meet_l0_o, pelorusref17_Meet_l0 k k⟩
theorem pelorusref17_Meet_l0_seg.ok (k : Nat) : SegOK Try.prog (e63 k) (pelorusref17_Meet_l0_seg k) :=
 SegOK.loop (e63.ok k) (by kernel_rfl) (S := pelorusref17_Meet_l0_seg k) (c := atR (codeOf (e63 k) 29) [.l, .b, .s2, .s1, .s2, .s2, .s2, .s2, .s2, .s2]) (by kernel_rfl) (pelorusref17_Meet_l0 k) k rfl (fun _ => rfl) 8 .n trivial (fun k' x => by kernel_rfl)
def pelorusref17_Meet (k : Nat) (x0 : Ty.den T28) (x1 : Ty.den T28) : Option (HL [T28, (.int .i64)]) :=
 (pelorusref17_May k x0).bind fun r1 =>
 (pelorusref17_May k x1).bind fun r2 =>
 (pelorusref17_times k x0 x1).bind fun r3 =>
 bif (!r1.1) then
  some (((0, false, 0, 0), (false, (0, false, 0, 0), 0, false, 0, 0), []), 1, ())
 else
  bif (!r2.1) then
   some (((0, false, 0, 0), (false, (0, false, 0, 0), 0, false, 0, 0), []), 1, ())
  else
   bif (!r3.1) then
    some (((0, false, 0, 0), (false, (0, false, 0, 0), 0, false, 0, 0), []), 1, ())
   else
    (pelorusref08_Two k x0.2.1 x1.2.1).bind fun r4 =>
    (pelorusref17_Meet_l0 k k (((), (), (), (), 0, ()), (x0, x1, ((0, false, 0, 0), ((false, (0, false, 0, 0), 0, false, 0, 0), [])), (x0.1, (r4.1, ())), [], ()))).bind fun q13 =>
    Sum.elim (fun z14 =>
      (pelorusref17_Fit k (z14.2.2.1.1, z14.2.2.1.2.1, z14.2.2.2.1)).bind fun r15 =>
      some (r15.1, 0, ()))
     (fun q13' =>
      none) q13
theorem pelorusref17_Meet.ok (k : Nat) : SpecOK Try.prog G0 29 ⟨[T28, T28], [T28, (.int .i64)], fun x => pelorusref17_Meet k x.1 x.2.1⟩ :=
 evF_sound (E := (e63 k)) (fn := Try.f29) (e63.ok k) (by kernel_rfl) (by kernel_rfl) (by kernel_rfl) 8 (.two .n (.two .n (.two .n (.two .n (.two .n (.two .n (.two (.two .n (.two (.use (pelorusref17_Meet_l0_seg k)) .n)) (.two (.own 1 .n) .n)))))))) ⟨trivial, ⟨trivial, ⟨trivial, ⟨trivial, ⟨trivial, ⟨trivial, ⟨⟨trivial, ⟨(pelorusref17_Meet_l0_seg.ok k), trivial⟩⟩, ⟨trivial, trivial⟩⟩⟩⟩⟩⟩⟩⟩ (fun xs => by kernel_rfl)
def e64 (k : Nat) : Env := (e63 k).add 29 ⟨[T28, T28], [T28, (.int .i64)], fun x => pelorusref17_Meet k x.1 x.2.1⟩
theorem e64.ok (k : Nat) : (e64 k).OK Try.prog := (e63.ok k).add (pelorusref17_Meet.ok k)
def pelorusref08_Within (k : Nat) (x0 : Ty.den T25) (x1 : Ty.den T25) : Option (HL [.bool]) :=
 (pelorusref08_Fair k x0).bind fun r1 =>
 (pelorusref08_Fair k x1).bind fun r2 =>
 bif r1.1.1 then
  some (true, ())
 else
  bif (!r2.1.1) then
   (pelorusref05_Cmp k r2.1.2.1 r1.1.2.1).bind fun r3 =>
   bif (decide (r3.1 ≤ 0)) then
    (pelorusref05_Cmp k r1.1.2.2 r2.1.2.2).bind fun r4 =>
    some ((decide (r4.1 ≤ 0)), ())
   else
    some (false, ())
  else
   some (false, ())
theorem pelorusref08_Within.ok (k : Nat) : SpecOK Try.prog G0 65 ⟨[T25, T25], [.bool], fun x => pelorusref08_Within k x.1 x.2.1⟩ :=
 evF_sound (E := (e64 k)) (fn := Try.f65) (e64.ok k) (by kernel_rfl) (by kernel_rfl) (by kernel_rfl) 8 .n trivial (fun xs => by kernel_rfl)
def e65 (k : Nat) : Env := (e64 k).add 65 ⟨[T25, T25], [.bool], fun x => pelorusref08_Within k x.1 x.2.1⟩
theorem e65.ok (k : Nat) : (e65 k).OK Try.prog := (e64.ok k).add (pelorusref08_Within.ok k)
abbrev pelorusref17_Within_l0_i : Mask := ⟨[(0, 2, (.k (.ptr 2 0 0))), (0, 3, (.k (.ptr 3 0 0))), (0, 9, (.v .bool)), (0, 10, (.v (.int .i64)))], [(2, .cells (.v T28)), (3, .cells (.v T28))], [], 0⟩
abbrev pelorusref17_Within_l0_o : List Out := [⟨.exit 0, ⟨[(0, 9, (.v .bool))], [], [], 0⟩⟩]
def pelorusref17_Within_l0 (k : Nat) : Nat → Mask.den pelorusref17_Within_l0_i → Option (denS pelorusref17_Within_l0_o)
 | 0, _ => none
 | m + 1, x =>
  bif (decide (x.1.2.2.2.1 < (x.2.1.2.2.length : Int))) then
   if 0 ≤ x.1.2.2.2.1 then (x.2.1.2.2[Int.toNat x.1.2.2.2.1]?).bind fun y6 =>
    if 0 ≤ x.1.2.2.2.1 then (x.2.2.1.2.2[Int.toNat x.1.2.2.2.1]?).bind fun y7 =>
     (pelorusref08_Within k y6.2.1 y7.2.1).bind fun r8 =>
     if 0 ≤ x.1.2.2.2.1 then (x.2.1.2.2[Int.toNat x.1.2.2.2.1]?).bind fun y9 =>
      if 0 ≤ x.1.2.2.2.1 then (x.2.2.1.2.2[Int.toNat x.1.2.2.2.1]?).bind fun y10 =>
       (pelorusref08_Within k y9.2.2 y10.2.2).bind fun r11 =>
       bif x.1.2.2.1 then
        bif r8.1 then
         pelorusref17_Within_l0 k m (((), (), r11.1, (IntKind.i64.wrap (x.1.2.2.2.1 + 1)), ()), (x.2.1, x.2.2.1, ()))
        else
         pelorusref17_Within_l0 k m (((), (), false, (IntKind.i64.wrap (x.1.2.2.2.1 + 1)), ()), (x.2.1, x.2.2.1, ()))
       else
        pelorusref17_Within_l0 k m (((), (), false, (IntKind.i64.wrap (x.1.2.2.2.1 + 1)), ()), (x.2.1, x.2.2.1, ()))
      else none
     else none
    else none
   else none
  else
   some (Sum.inl ((x.1.2.2.1, ()), ()))
abbrev pelorusref17_Within_l0_seg (k : Nat) : Seg := ⟨⟨0, 79, false, [], []⟩, 31, [.b, .s2, .s1, .s2, .s2, .s2, .s2, .s2, .s2, .s2, .s2], pelorusref17_Within_l0_i, pelorusref17_Within_l0_o, pelorusref17_Within_l0 k k⟩
theorem pelorusref17_Within_l0_seg.ok (k : Nat) : SegOK Try.prog (e65 k) (pelorusref17_Within_l0_seg k) :=
 SegOK.loop (e65.ok k) (by kernel_rfl) (S := pelorusref17_Within_l0_seg k) (c := atR (codeOf (e65 k) 31) [.l, .b, .s2, .s1, .s2, .s2, .s2, .s2, .s2, .s2, .s2, .s2]) (by kernel_rfl) (pelorusref17_Within_l0 k) k rfl (fun _ => rfl) 8 .n trivial (fun k' x => by kernel_rfl)
def pelorusref17_Within (k : Nat) (x0 : Ty.den T28) (x1 : Ty.den T28) : Option (HL [.bool]) :=
 (pelorusref17_May k x0).bind fun r1 =>
 (pelorusref17_May k x1).bind fun r2 =>
 (pelorusref17_times k x0 x1).bind fun r3 =>
 bif (!r1.1) then
  some (false, ())
 else
  bif (!r2.1) then
   some (false, ())
  else
   bif (!r3.1) then
    some (false, ())
   else
    (pelorusref17_empty k x0).bind fun r4 =>
    bif r4.1 then
     some (true, ())
    else
     (pelorusref08_Within k x0.2.1 x1.2.1).bind fun r5 =>
     (pelorusref17_Within_l0 k k (((), (), r5.1, 0, ()), (x0, x1, ()))).bind fun q12 =>
     Sum.elim (fun z13 =>
       some (z13.1.1, ()))
      (fun q12' =>
       none) q12
theorem pelorusref17_Within.ok (k : Nat) : SpecOK Try.prog G0 31 ⟨[T28, T28], [.bool], fun x => pelorusref17_Within k x.1 x.2.1⟩ :=
 evF_sound (E := (e65 k)) (fn := Try.f31) (e65.ok k) (by kernel_rfl) (by kernel_rfl) (by kernel_rfl) 8 (.two .n (.two .n (.two .n (.two .n (.two .n (.two .n (.two .n (.two .n (.two (.two .n (.two (.use (pelorusref17_Within_l0_seg k)) .n)) .n))))))))) ⟨trivial, ⟨trivial, ⟨trivial, ⟨trivial, ⟨trivial, ⟨trivial, ⟨trivial, ⟨trivial, ⟨⟨trivial, ⟨(pelorusref17_Within_l0_seg.ok k), trivial⟩⟩, trivial⟩⟩⟩⟩⟩⟩⟩⟩⟩ (fun xs => by kernel_rfl)
def e66 (k : Nat) : Env := (e65 k).add 31 ⟨[T28, T28], [.bool], fun x => pelorusref17_Within k x.1 x.2.1⟩
theorem e66.ok (k : Nat) : (e66 k).OK Try.prog := (e65.ok k).add (pelorusref17_Within.ok k)
def tube_Empty_1 (k : Nat) (x0 : Ty.den T35) : Option (HL [.bool]) :=
 bif x0.2.1.1 then
  some (true, ())
 else
  some (x0.2.2.1, ())
theorem tube_Empty_1.ok (k : Nat) : SpecOK Try.prog G0 61 ⟨[T35], [.bool], fun x => tube_Empty_1 k x.1⟩ :=
 evF_sound (E := (e66 k)) (fn := Try.f61) (e66.ok k) (by kernel_rfl) (by kernel_rfl) (by kernel_rfl) 8 .n trivial (fun xs => by kernel_rfl)
def e67 (k : Nat) : Env := (e66 k).add 61 ⟨[T35], [.bool], fun x => tube_Empty_1 k x.1⟩
theorem e67.ok (k : Nat) : (e67 k).OK Try.prog := (e66.ok k).add (tube_Empty_1.ok k)
def tube_times_1 (k : Nat) (x0 : Ty.den T35) (x1 : Ty.den T35) : Option (HL [.bool]) :=
 some ((beqT T23 x0.1 x1.1), ())
theorem tube_times_1.ok (k : Nat) : SpecOK Try.prog G0 87 ⟨[T35, T35], [.bool], fun x => tube_times_1 k x.1 x.2.1⟩ :=
 evF_sound (E := (e67 k)) (fn := Try.f87) (e67.ok k) (by kernel_rfl) (by kernel_rfl) (by kernel_rfl) 8 .n trivial (fun xs => by kernel_rfl)
def e68 (k : Nat) : Env := (e67 k).add 87 ⟨[T35, T35], [.bool], fun x => tube_times_1 k x.1 x.2.1⟩
theorem e68.ok (k : Nat) : (e68 k).OK Try.prog := (e67.ok k).add (tube_times_1.ok k)
abbrev tube_At_l0_i : Mask := ⟨[(0, 2, (.k (.ptr 2 0 0))), (0, 3, (.k (.ptr 3 0 0))), (0, 4, (.k (.ptr 4 0 0))), (2, 0, (.k (.yld 0))), (2, 1, (.k (.ptr 4097 0 0))), (2, 3, (.k (.ptr 8195 0 0))), (2, 14, (.v (.int .i64))), (2, 15, (.v (.int .i64)))], [(2, .cells (.v T28)), (3, .cells (.v T23)), (4, .cells (.v T25)), (4097, .cells (.v T28)), (8195, .cells (.pr (.v T23) (.v T25)))], [], 1⟩
abbrev tube_At_l0_o : List Out := [⟨.ret, ⟨[(0, 2, (.k (.ptr 2 0 0))), (0, 3, (.k (.ptr 3 0 0))), (0, 4, (.k (.ptr 4 0 0)))], [(2, .cells (.v T28)), (3, .cells (.v T23)), (4, .cells (.v T25))], [(0, .ret)], 1⟩⟩, ⟨.exit 0, ⟨[(0, 2, (.k (.ptr 2 0 0))), (0, 3, (.k (.ptr 3 0 0))), (0, 4, (.k (.ptr 4 0 0)))], [(2, .cells (.v T28)), (3, .cells (.v T23)), (4, .cells (.v T25))], [], 1⟩⟩]
def tube_At_l0 (k : Nat) : Nat → Mask.den tube_At_l0_i → Option (denS tube_At_l0_o)
 | 0, _ => none
 | m + 1, x =>
  bif (decide (x.1.2.2.2.2.2.2.2.1 < x.1.2.2.2.2.2.2.1)) then
   bif (decide (x.1.2.2.2.2.2.2.2.1 > 0)) then
    if 0 ≤ (IntKind.i64.wrap (x.1.2.2.2.2.2.2.2.1 - 1)) then (x.2.2.2.2.1.2.2[Int.toNat (IntKind.i64.wrap (x.1.2.2.2.2.2.2.2.1 - 1))]?).bind fun y3 =>
     (iv_Meet k [y3.2.2, y3.2.1]).bind fun r4 =>
     bif (decide (x.1.2.2.2.2.2.2.2.1 < (x.2.2.2.2.1.2.2.length : Int))) then
      if 0 ≤ x.1.2.2.2.2.2.2.2.1 then (x.2.2.2.2.1.2.2[Int.toNat x.1.2.2.2.2.2.2.2.1]?).bind fun y5 =>
       (iv_Meet k [r4.1, y5.2.1]).bind fun r6 =>
       (num_Cmp k x.2.2.1 y3.1).bind fun r7 =>
       bif (r7.1 == 0) then
        some (Sum.inl (((), (), (), ()), (x.2.1, x.2.2.1, r6.1, ())))
       else
        tube_At_l0 k m (((), (), (), (), (), (), x.1.2.2.2.2.2.2.1, (IntKind.i64.wrap (x.1.2.2.2.2.2.2.2.1 + 1)), ()), (x.2.1, x.2.2.1, x.2.2.2.1, x.2.2.2.2.1, (y3.1, r6.1), ()))
      else none
     else
      (num_Cmp k x.2.2.1 y3.1).bind fun r8 =>
      bif (r8.1 == 0) then
       some (Sum.inl (((), (), (), ()), (x.2.1, x.2.2.1, r4.1, ())))
      else
       tube_At_l0 k m (((), (), (), (), (), (), x.1.2.2.2.2.2.2.1, (IntKind.i64.wrap (x.1.2.2.2.2.2.2.2.1 + 1)), ()), (x.2.1, x.2.2.1, x.2.2.2.1, x.2.2.2.2.1, (y3.1, r4.1), ()))
    else none
   else
    bif (decide (x.1.2.2.2.2.2.2.2.1 < (x.2.2.2.2.1.2.2.length : Int))) then
     if 0 ≤ x.1.2.2.2.2.2.2.2.1 then (x.2.2.2.2.1.2.2[Int.toNat x.1.2.2.2.2.2.2.2.1]?).bind fun y9 =>
      (iv_Meet k [x.2.2.2.2.2.1.2, y9.2.1]).bind fun r10 =>
      (num_Cmp k x.2.2.1 x.2.2.2.2.2.1.1).bind fun r11 =>
      bif (r11.1 == 0) then
       some (Sum.inl (((), (), (), ()), (x.2.1, x.2.2.1, r10.1, ())))
      else
       tube_At_l0 k m (((), (), (), (), (), (), x.1.2.2.2.2.2.2.1, (IntKind.i64.wrap (x.1.2.2.2.2.2.2.2.1 + 1)), ()), (x.2.1, x.2.2.1, x.2.2.2.1, x.2.2.2.2.1, (x.2.2.2.2.2.1.1, r10.1), ()))
     else none
    else
     (num_Cmp k x.2.2.1 x.2.2.2.2.2.1.1).bind fun r12 =>
     bif (r12.1 == 0) then
      some (Sum.inl (((), (), (), ()), (x.2.1, x.2.2.1, x.2.2.2.2.2.1.2, ())))
     else
      tube_At_l0 k m (((), (), (), (), (), (), x.1.2.2.2.2.2.2.1, (IntKind.i64.wrap (x.1.2.2.2.2.2.2.2.1 + 1)), ()), (x.2.1, x.2.2.1, x.2.2.2.1, x.2.2.2.2.1, (x.2.2.2.2.2.1.1, x.2.2.2.2.2.1.2), ()))
  else
   some (Sum.inr (Sum.inl (((), (), (), ()), (x.2.1, x.2.2.1, x.2.2.2.1, ()))))
abbrev tube_At_l0_seg (k : Nat) : Seg := ⟨⟨2, 57, false, [0], [⟨0, 0, 43, 9, [.b, .s2, .s1, .s2, .s2]⟩]⟩, 73, [.b, .s2, .s2], tube_At_l0_i, tube_At_l0_o, tube_At_l0 k k⟩
theorem tube_At_l0_seg.ok (k : Nat) : SegOK Try.prog (e68 k) (tube_At_l0_seg k) :=
 SegOK.loop (e68.ok k) (by kernel_rfl) (S := tube_At_l0_seg k) (c := atR (codeOf (e68 k) 73) [.l, .b, .s2, .s2]) (by kernel_rfl) (tube_At_l0 k) k rfl (fun _ => rfl) 8 (.two .n (.two .n (.two (.two (.two .n (.two .n (.two .n (.two (.call 3 3 .n .n) .n)))) .n) .n))) ⟨trivial, ⟨trivial, ⟨⟨⟨trivial, ⟨trivial, ⟨trivial, ⟨⟨trivial, trivial⟩, trivial⟩⟩⟩⟩, trivial⟩, trivial⟩⟩⟩ (fun k' x => by kernel_rfl)
abbrev tube_At_l1_i : Mask := ⟨[(0, 2, (.k (.ptr 2 0 0))), (0, 3, (.k (.ptr 3 0 0))), (0, 4, (.k (.ptr 4 0 0))), (4, 0, (.v T27)), (4, 1, (.k (.clo 41 (.pr (.ptr 3 0 0) .nl)))), (4, 7, (.v (.int .i64))), (4, 8, (.v (.int .i64)))], [(2, .cells (.v T28)), (3, .cells (.v T23)), (4, .cells (.v T25))], [], 1⟩
abbrev tube_At_l1_o : List Out := [⟨.ret, ⟨[(0, 2, (.k (.ptr 2 0 0))), (0, 3, (.k (.ptr 3 0 0))), (0, 4, (.k (.ptr 4 0 0))), (4, 4, (.v (.int .i64)))], [(2, .cells (.v T28)), (3, .cells (.v T23)), (4, .cells (.v T25))], [], 1⟩⟩, ⟨.exit 0, ⟨[(0, 2, (.k (.ptr 2 0 0))), (0, 3, (.k (.ptr 3 0 0))), (0, 4, (.k (.ptr 4 0 0)))], [(2, .cells (.v T28)), (3, .cells (.v T23)), (4, .cells (.v T25))], [], 1⟩⟩]
def tube_At_l1 (k : Nat) : Nat → Mask.den tube_At_l1_i → Option (denS tube_At_l1_o)
 | 0, _ => none
 | m + 1, x =>
  bif (decide (x.1.2.2.2.2.2.2.1 < x.1.2.2.2.2.2.1)) then
   if 0 ≤ x.1.2.2.2.2.2.2.1 then (x.1.2.2.2.1[Int.toNat x.1.2.2.2.2.2.2.1]?).bind fun y16 =>
    (num_Cmp k x.2.2.1 y16.1).bind fun r17 =>
    bif (decide (r17.1 < 0)) then
     some (Sum.inl (((), (), (), x.1.2.2.2.2.2.2.1, ()), (x.2.1, x.2.2.1, x.2.2.2.1, ())))
    else
     tube_At_l1 k m (((), (), (), x.1.2.2.2.1, (), x.1.2.2.2.2.2.1, (IntKind.i64.wrap (x.1.2.2.2.2.2.2.1 + 1)), ()), (x.2.1, x.2.2.1, x.2.2.2.1, ()))
   else none
  else
   some (Sum.inr (Sum.inl (((), (), (), ()), (x.2.1, x.2.2.1, x.2.2.2.1, ()))))
abbrev tube_At_l1_seg (k : Nat) : Seg := ⟨⟨4, 19, false, [0], []⟩, 40, [.b, .s2, .s1, .s2], tube_At_l1_i, tube_At_l1_o, tube_At_l1 k k⟩
theorem tube_At_l1_seg.ok (k : Nat) : SegOK Try.prog (e68 k) (tube_At_l1_seg k) :=
 SegOK.loop (e68.ok k) (by kernel_rfl) (S := tube_At_l1_seg k) (c := atR (codeOf (e68 k) 40) [.l, .b, .s2, .s1, .s2]) (by kernel_rfl) (tube_At_l1 k) k rfl (fun _ => rfl) 8 (.two .n (.two .n (.two (.two (.two .n (.two (.call 5 5 .n .n) .n)) .n) .n))) ⟨trivial, ⟨trivial, ⟨⟨⟨trivial, ⟨⟨trivial, trivial⟩, trivial⟩⟩, trivial⟩, trivial⟩⟩⟩ (fun k' x => by kernel_rfl)
def tube_At (k : Nat) (x0 : Ty.den T28) (x1 : Ty.den T23) : Option (HL [T25]) :=
 (tube_May k x0).bind fun r1 =>
 bif (!r1.1) then
  (iv_None k).bind fun r2 =>
  some (r2.1, ())
 else
  (tube_At_l0 k k (((), (), (), (), (), (), (IntKind.i64.wrap ((x0.2.2.length : Int) + 1)), 0, ()), (x0, x1, (false, (0, false, 0, 0), 0, false, 0, 0), x0, (x0.1, x0.2.1), ()))).bind fun q13 =>
  Sum.elim (fun z14 =>
    some (z14.2.2.2.1, ()))
   (fun q13' =>
    Sum.elim (fun z15 =>
      (tube_At_l1 k k (((), (), (), z15.2.1.2.2, (), (z15.2.1.2.2.length : Int), 0, ()), (z15.2.1, z15.2.2.1, z15.2.2.2.1, ()))).bind fun q18 =>
      Sum.elim (fun z19 =>
        bif (decide (z19.1.2.2.2.1 < 0)) then
         (iv_All k).bind fun r20 =>
         some (r20.1, ())
        else
         (num_Cmp k z19.2.2.1 z19.2.1.1).bind fun r21 =>
         bif (decide (r21.1 < 0)) then
          (iv_All k).bind fun r22 =>
          some (r22.1, ())
         else
          if 0 ≤ z19.1.2.2.2.1 then (z19.2.1.2.2[Int.toNat z19.1.2.2.2.1]?).bind fun y23 =>
           some (y23.2.1, ())
          else none)
       (fun q18' =>
        Sum.elim (fun z24 =>
          (iv_All k).bind fun r25 =>
          some (r25.1, ()))
         (fun q18'' =>
          none) q18') q18)
     (fun q13'' =>
      none) q13') q13
theorem tube_At.ok (k : Nat) : SpecOK Try.prog G0 9 ⟨[T28, T23], [T25], fun x => tube_At k x.1 x.2.1⟩ :=
 evF_sound (E := (e68 k)) (fn := Try.f9) (e68.ok k) (by kernel_rfl) (by kernel_rfl) (by kernel_rfl) 8 (.two .n (.two .n (.two (.two (.call 1 1 .n .n) (.two (.rf 0 2 (.two .n (.two .n (.two (.use (tube_At_l0_seg k)) .n)))) .n)) (.two (.call 3 4 (.two .n (.two (.two .n (.two (.use (tube_At_l1_seg k)) .n)) .n)) .n) .n)))) ⟨trivial, ⟨trivial, ⟨⟨⟨trivial, trivial⟩, ⟨⟨trivial, ⟨trivial, ⟨(tube_At_l0_seg.ok k), trivial⟩⟩⟩, trivial⟩⟩, ⟨⟨⟨trivial, ⟨⟨trivial, ⟨(tube_At_l1_seg.ok k), trivial⟩⟩, trivial⟩⟩, trivial⟩, trivial⟩⟩⟩⟩ (fun xs => by kernel_rfl)
def e69 (k : Nat) : Env := (e68 k).add 9 ⟨[T28, T23], [T25], fun x => tube_At k x.1 x.2.1⟩
theorem e69.ok (k : Nat) : (e69 k).OK Try.prog := (e68.ok k).add (tube_At.ok k)
abbrev tube_Empty_l0_i : Mask := ⟨[(0, 12, (.v .bool)), (2, 0, (.v T27)), (2, 1, (.k (.clo 61 .nl))), (2, 7, (.v (.int .i64))), (2, 8, (.v (.int .i64)))], [], [], 0⟩
abbrev tube_Empty_l0_o : List Out := [⟨.ret, ⟨[(0, 12, (.v .bool)), (2, 4, (.v (.int .i64)))], [], [], 0⟩⟩, ⟨.exit 0, ⟨[(0, 12, (.v .bool))], [], [], 0⟩⟩]
def tube_Empty_l0 (k : Nat) : Nat → Mask.den tube_Empty_l0_i → Option (denS tube_Empty_l0_o)
 | 0, _ => none
 | m + 1, x =>
  bif (decide (x.1.2.2.2.2.1 < x.1.2.2.2.1)) then
   if 0 ≤ x.1.2.2.2.2.1 then (x.1.2.1[Int.toNat x.1.2.2.2.2.1]?).bind fun y2 =>
    (tube_Empty_1 k y2).bind fun r3 =>
    bif r3.1 then
     some (Sum.inl ((x.1.1, x.1.2.2.2.2.1, ()), ()))
    else
     tube_Empty_l0 k m ((x.1.1, x.1.2.1, (), x.1.2.2.2.1, (IntKind.i64.wrap (x.1.2.2.2.2.1 + 1)), ()), ())
   else none
  else
   some (Sum.inr (Sum.inl ((x.1.1, ()), ())))
abbrev tube_Empty_l0_seg (k : Nat) : Seg := ⟨⟨2, 19, false, [1, 0], []⟩, 40, [.b, .s2, .s1, .s2], tube_Empty_l0_i, tube_Empty_l0_o, tube_Empty_l0 k k⟩
theorem tube_Empty_l0_seg.ok (k : Nat) : SegOK Try.prog (e69 k) (tube_Empty_l0_seg k) :=
 SegOK.loop (e69.ok k) (by kernel_rfl) (S := tube_Empty_l0_seg k) (c := atR (codeOf (e69 k) 40) [.l, .b, .s2, .s1, .s2]) (by kernel_rfl) (tube_Empty_l0 k) k rfl (fun _ => rfl) 8 (.two .n (.two .n (.two (.two (.two .n (.two (.spec 5 .n) .n)) .n) .n))) ⟨trivial, ⟨trivial, ⟨⟨⟨trivial, ⟨trivial, trivial⟩⟩, trivial⟩, trivial⟩⟩⟩ (fun k' x => by kernel_rfl)
def tube_Empty (k : Nat) (x0 : Ty.den T28) : Option (HL [.bool]) :=
 (tube_May k x0).bind fun r1 =>
 bif (!r1.1) then
  some (true, ())
 else
  bif x0.2.1.1 then
   some (true, ())
  else
   (tube_Empty_l0 k k ((false, x0.2.2, (), (x0.2.2.length : Int), 0, ()), ())).bind fun q4 =>
   Sum.elim (fun z5 =>
     bif z5.1.1 then
      some (true, ())
     else
      some ((decide (z5.1.2.1 ≥ 0)), ()))
    (fun q4' =>
     Sum.elim (fun z6 =>
       bif z6.1.1 then
        some (true, ())
       else
        some (false, ()))
      (fun q4'' =>
       none) q4') q4
theorem tube_Empty.ok (k : Nat) : SpecOK Try.prog G0 24 ⟨[T28], [.bool], fun x => tube_Empty k x.1⟩ :=
 evF_sound (E := (e69 k)) (fn := Try.f24) (e69.ok k) (by kernel_rfl) (by kernel_rfl) (by kernel_rfl) 8 (.two .n (.two .n (.two (.call 12 1 (.two .n (.two (.call 2 2 (.two .n (.two (.two .n (.two (.use (tube_Empty_l0_seg k)) .n)) .n)) .n) .n)) .n) .n))) ⟨trivial, ⟨trivial, ⟨⟨⟨trivial, ⟨⟨⟨trivial, ⟨⟨trivial, ⟨(tube_Empty_l0_seg.ok k), trivial⟩⟩, trivial⟩⟩, trivial⟩, trivial⟩⟩, trivial⟩, trivial⟩⟩⟩ (fun xs => by kernel_rfl)
def e70 (k : Nat) : Env := (e69 k).add 24 ⟨[T28], [.bool], fun x => tube_Empty k x.1⟩
theorem e70.ok (k : Nat) : (e70 k).OK Try.prog := (e69.ok k).add (tube_Empty.ok k)
def peloruslaw17_awake (k : Nat) : Option (HL [.bool]) :=
 (num_Of k 0).bind fun r1 =>
 (peloruslaw08_Of k 0 0).bind fun r2 =>
 (tube_New k r1.1 r2.1).bind fun r3 =>
 (num_Of k 1).bind fun r4 =>
 (peloruslaw08_Of k 0 5).bind fun r5 =>
 (peloruslaw08_Of k 1 2).bind fun r6 =>
 (tube_Append k r3.1 r4.1 r5.1 r6.1).bind fun r7 =>
 bif (r3.2.1 == 0) then
  bif (r7.2.1 == 0) then
   (num_Of k 1).bind fun r8 =>
   (tube_At k r7.1 r8.1).bind fun r9 =>
   (peloruslaw08_Of k 1 2).bind fun r10 =>
   bif (beqT T25 r9.1 r10.1) then
    (tube_At k r7.1 (1, false, 9223372036854775808, (-64))).bind fun r11 =>
    (peloruslaw08_Of k 0 5).bind fun r12 =>
    bif (beqT T25 r11.1 r12.1) then
     (num_Of k 2).bind fun r13 =>
     (tube_At k r7.1 r13.1).bind fun r14 =>
     (iv_All k).bind fun r15 =>
     bif (beqT T25 r14.1 r15.1) then
      (tube_Empty k r7.1).bind fun r16 =>
      bif (!r16.1) then
       (tube_May k r7.1).bind fun r17 =>
       some (r17.1, ())
      else
       some (false, ())
     else
      some (false, ())
    else
     some (false, ())
   else
    some (false, ())
  else
   some (false, ())
 else
  some (false, ())
theorem peloruslaw17_awake.ok (k : Nat) : SpecOK Try.prog G0 7 ⟨[], [.bool], fun x => peloruslaw17_awake k⟩ :=
 evF_sound (E := (e70 k)) (fn := Try.f7) (e70.ok k) (by kernel_rfl) (by kernel_rfl) (by kernel_rfl) 8 .n trivial (fun xs => by kernel_rfl)
def e71 (k : Nat) : Env := (e70 k).add 7 ⟨[], [.bool], fun x => peloruslaw17_awake k⟩
theorem e71.ok (k : Nat) : (e71 k).OK Try.prog := (e70.ok k).add (peloruslaw17_awake.ok k)
abbrev tube_Over_l0_i : Mask := ⟨[(0, 2, (.k (.ptr 2 0 0))), (0, 3, (.k (.ptr 3 0 0))), (0, 4, (.k (.ptr 4 0 0))), (0, 5, (.k (.ptr 5 0 0))), (0, 6, (.k (.ptr 6 0 0))), (2, 0, (.k (.yld 0))), (2, 1, (.k (.ptr 4097 0 0))), (2, 3, (.k (.ptr 8195 0 0))), (2, 14, (.v (.int .i64))), (2, 15, (.v (.int .i64)))], [(2, .cells (.v T28)), (3, .cells (.v T25)), (4, .cells (.v T25)), (5, .cells (.k (.arr 47 0))), (6, .cells (.v T23)), (47, .arr 26 T25), (4097, .cells (.v T28)), (8195, .cells (.pr (.v T23) (.v T25)))], [], 1⟩
abbrev tube_Over_l0_o : List Out := [⟨.exit 0, ⟨[(0, 2, (.k (.ptr 2 0 0))), (0, 3, (.k (.ptr 3 0 0))), (0, 4, (.k (.ptr 4 0 0))), (0, 5, (.k (.ptr 5 0 0))), (0, 6, (.k (.ptr 6 0 0)))], [(2, .cells (.v T28)), (3, .cells (.v T25)), (4, .cells (.v T25)), (5, .cells (.k (.arr 47 0))), (6, .cells (.v T23)), (47, .arr 26 T25)], [], 1⟩⟩]
def tube_Over_l0 (k : Nat) : Nat → Mask.den tube_Over_l0_i → Option (denS tube_Over_l0_o)
 | 0, _ => none
 | m + 1, x =>
  bif (decide (x.1.2.2.2.2.2.2.2.2.2.1 < x.1.2.2.2.2.2.2.2.2.1)) then
   bif (decide (x.1.2.2.2.2.2.2.2.2.2.1 > 0)) then
    if 0 ≤ (IntKind.i64.wrap (x.1.2.2.2.2.2.2.2.2.2.1 - 1)) then (x.2.2.2.2.2.2.2.1.2.2[Int.toNat (IntKind.i64.wrap (x.1.2.2.2.2.2.2.2.2.2.1 - 1))]?).bind fun y13 =>
     (iv_Meet k [y13.2.2, y13.2.1]).bind fun r14 =>
     bif (decide (x.1.2.2.2.2.2.2.2.2.2.1 < (x.2.2.2.2.2.2.2.1.2.2.length : Int))) then
      if 0 ≤ x.1.2.2.2.2.2.2.2.2.2.1 then (x.2.2.2.2.2.2.2.1.2.2[Int.toNat x.1.2.2.2.2.2.2.2.2.2.1]?).bind fun y15 =>
       (iv_Meet k [r14.1, y15.2.1]).bind fun r16 =>
       (iv_Has k x.2.2.1 y13.1).bind fun r17 =>
       bif r17.1 then
        if (x.2.2.2.2.2.2.1.length + [r16.1].length) * 72 ≤ 140737488355328 then
         bif (decide (x.1.2.2.2.2.2.2.2.2.2.1 > 0)) then
          (num_Cmp k x.2.2.1.2.1 x.2.2.1.2.2).bind fun r18 =>
          bif (decide (r18.1 < 0)) then
           (num_Cmp k x.2.2.1.2.1 y13.1).bind fun r19 =>
           bif (decide (r19.1 < 0)) then
            (num_Cmp k x.2.2.2.2.2.1 x.2.2.1.2.2).bind fun r20 =>
            bif (decide (r20.1 < 0)) then
             if 0 ≤ (IntKind.i64.wrap (x.1.2.2.2.2.2.2.2.2.2.1 - 1)) then (x.2.1.2.2[Int.toNat (IntKind.i64.wrap (x.1.2.2.2.2.2.2.2.2.2.1 - 1))]?).bind fun y21 =>
              if ((x.2.2.2.2.2.2.1 ++ [r16.1]).length + [y21.2.1].length) * 72 ≤ 140737488355328 then
               tube_Over_l0 k m (((), (), (), (), (), (), (), (), x.1.2.2.2.2.2.2.2.2.1, (IntKind.i64.wrap (x.1.2.2.2.2.2.2.2.2.2.1 + 1)), ()), (x.2.1, x.2.2.1, x.2.2.2.1, (), y13.1, ((x.2.2.2.2.2.2.1 ++ [r16.1]) ++ [y21.2.1]), x.2.2.2.2.2.2.2.1, (y13.1, r16.1), ()))
              else none
             else none
            else
             tube_Over_l0 k m (((), (), (), (), (), (), (), (), x.1.2.2.2.2.2.2.2.2.1, (IntKind.i64.wrap (x.1.2.2.2.2.2.2.2.2.2.1 + 1)), ()), (x.2.1, x.2.2.1, x.2.2.2.1, (), y13.1, (x.2.2.2.2.2.2.1 ++ [r16.1]), x.2.2.2.2.2.2.2.1, (y13.1, r16.1), ()))
           else
            tube_Over_l0 k m (((), (), (), (), (), (), (), (), x.1.2.2.2.2.2.2.2.2.1, (IntKind.i64.wrap (x.1.2.2.2.2.2.2.2.2.2.1 + 1)), ()), (x.2.1, x.2.2.1, x.2.2.2.1, (), y13.1, (x.2.2.2.2.2.2.1 ++ [r16.1]), x.2.2.2.2.2.2.2.1, (y13.1, r16.1), ()))
          else
           tube_Over_l0 k m (((), (), (), (), (), (), (), (), x.1.2.2.2.2.2.2.2.2.1, (IntKind.i64.wrap (x.1.2.2.2.2.2.2.2.2.2.1 + 1)), ()), (x.2.1, x.2.2.1, x.2.2.2.1, (), y13.1, (x.2.2.2.2.2.2.1 ++ [r16.1]), x.2.2.2.2.2.2.2.1, (y13.1, r16.1), ()))
         else
          tube_Over_l0 k m (((), (), (), (), (), (), (), (), x.1.2.2.2.2.2.2.2.2.1, (IntKind.i64.wrap (x.1.2.2.2.2.2.2.2.2.2.1 + 1)), ()), (x.2.1, x.2.2.1, x.2.2.2.1, (), y13.1, (x.2.2.2.2.2.2.1 ++ [r16.1]), x.2.2.2.2.2.2.2.1, (y13.1, r16.1), ()))
        else none
       else
        bif (decide (x.1.2.2.2.2.2.2.2.2.2.1 > 0)) then
         (num_Cmp k x.2.2.1.2.1 x.2.2.1.2.2).bind fun r22 =>
         bif (decide (r22.1 < 0)) then
          (num_Cmp k x.2.2.1.2.1 y13.1).bind fun r23 =>
          bif (decide (r23.1 < 0)) then
           (num_Cmp k x.2.2.2.2.2.1 x.2.2.1.2.2).bind fun r24 =>
           bif (decide (r24.1 < 0)) then
            if 0 ≤ (IntKind.i64.wrap (x.1.2.2.2.2.2.2.2.2.2.1 - 1)) then (x.2.1.2.2[Int.toNat (IntKind.i64.wrap (x.1.2.2.2.2.2.2.2.2.2.1 - 1))]?).bind fun y25 =>
             if (x.2.2.2.2.2.2.1.length + [y25.2.1].length) * 72 ≤ 140737488355328 then
              tube_Over_l0 k m (((), (), (), (), (), (), (), (), x.1.2.2.2.2.2.2.2.2.1, (IntKind.i64.wrap (x.1.2.2.2.2.2.2.2.2.2.1 + 1)), ()), (x.2.1, x.2.2.1, x.2.2.2.1, (), y13.1, (x.2.2.2.2.2.2.1 ++ [y25.2.1]), x.2.2.2.2.2.2.2.1, (y13.1, r16.1), ()))
             else none
            else none
           else
            tube_Over_l0 k m (((), (), (), (), (), (), (), (), x.1.2.2.2.2.2.2.2.2.1, (IntKind.i64.wrap (x.1.2.2.2.2.2.2.2.2.2.1 + 1)), ()), (x.2.1, x.2.2.1, x.2.2.2.1, (), y13.1, x.2.2.2.2.2.2.1, x.2.2.2.2.2.2.2.1, (y13.1, r16.1), ()))
          else
           tube_Over_l0 k m (((), (), (), (), (), (), (), (), x.1.2.2.2.2.2.2.2.2.1, (IntKind.i64.wrap (x.1.2.2.2.2.2.2.2.2.2.1 + 1)), ()), (x.2.1, x.2.2.1, x.2.2.2.1, (), y13.1, x.2.2.2.2.2.2.1, x.2.2.2.2.2.2.2.1, (y13.1, r16.1), ()))
         else
          tube_Over_l0 k m (((), (), (), (), (), (), (), (), x.1.2.2.2.2.2.2.2.2.1, (IntKind.i64.wrap (x.1.2.2.2.2.2.2.2.2.2.1 + 1)), ()), (x.2.1, x.2.2.1, x.2.2.2.1, (), y13.1, x.2.2.2.2.2.2.1, x.2.2.2.2.2.2.2.1, (y13.1, r16.1), ()))
        else
         tube_Over_l0 k m (((), (), (), (), (), (), (), (), x.1.2.2.2.2.2.2.2.2.1, (IntKind.i64.wrap (x.1.2.2.2.2.2.2.2.2.2.1 + 1)), ()), (x.2.1, x.2.2.1, x.2.2.2.1, (), y13.1, x.2.2.2.2.2.2.1, x.2.2.2.2.2.2.2.1, (y13.1, r16.1), ()))
      else none
     else
      (iv_Has k x.2.2.1 y13.1).bind fun r26 =>
      bif r26.1 then
       if (x.2.2.2.2.2.2.1.length + [r14.1].length) * 72 ≤ 140737488355328 then
        bif (decide (x.1.2.2.2.2.2.2.2.2.2.1 > 0)) then
         (num_Cmp k x.2.2.1.2.1 x.2.2.1.2.2).bind fun r27 =>
         bif (decide (r27.1 < 0)) then
          (num_Cmp k x.2.2.1.2.1 y13.1).bind fun r28 =>
          bif (decide (r28.1 < 0)) then
           (num_Cmp k x.2.2.2.2.2.1 x.2.2.1.2.2).bind fun r29 =>
           bif (decide (r29.1 < 0)) then
            if 0 ≤ (IntKind.i64.wrap (x.1.2.2.2.2.2.2.2.2.2.1 - 1)) then (x.2.1.2.2[Int.toNat (IntKind.i64.wrap (x.1.2.2.2.2.2.2.2.2.2.1 - 1))]?).bind fun y30 =>
             if ((x.2.2.2.2.2.2.1 ++ [r14.1]).length + [y30.2.1].length) * 72 ≤ 140737488355328 then
              tube_Over_l0 k m (((), (), (), (), (), (), (), (), x.1.2.2.2.2.2.2.2.2.1, (IntKind.i64.wrap (x.1.2.2.2.2.2.2.2.2.2.1 + 1)), ()), (x.2.1, x.2.2.1, x.2.2.2.1, (), y13.1, ((x.2.2.2.2.2.2.1 ++ [r14.1]) ++ [y30.2.1]), x.2.2.2.2.2.2.2.1, (y13.1, r14.1), ()))
             else none
            else none
           else
            tube_Over_l0 k m (((), (), (), (), (), (), (), (), x.1.2.2.2.2.2.2.2.2.1, (IntKind.i64.wrap (x.1.2.2.2.2.2.2.2.2.2.1 + 1)), ()), (x.2.1, x.2.2.1, x.2.2.2.1, (), y13.1, (x.2.2.2.2.2.2.1 ++ [r14.1]), x.2.2.2.2.2.2.2.1, (y13.1, r14.1), ()))
          else
           tube_Over_l0 k m (((), (), (), (), (), (), (), (), x.1.2.2.2.2.2.2.2.2.1, (IntKind.i64.wrap (x.1.2.2.2.2.2.2.2.2.2.1 + 1)), ()), (x.2.1, x.2.2.1, x.2.2.2.1, (), y13.1, (x.2.2.2.2.2.2.1 ++ [r14.1]), x.2.2.2.2.2.2.2.1, (y13.1, r14.1), ()))
         else
          tube_Over_l0 k m (((), (), (), (), (), (), (), (), x.1.2.2.2.2.2.2.2.2.1, (IntKind.i64.wrap (x.1.2.2.2.2.2.2.2.2.2.1 + 1)), ()), (x.2.1, x.2.2.1, x.2.2.2.1, (), y13.1, (x.2.2.2.2.2.2.1 ++ [r14.1]), x.2.2.2.2.2.2.2.1, (y13.1, r14.1), ()))
        else
         tube_Over_l0 k m (((), (), (), (), (), (), (), (), x.1.2.2.2.2.2.2.2.2.1, (IntKind.i64.wrap (x.1.2.2.2.2.2.2.2.2.2.1 + 1)), ()), (x.2.1, x.2.2.1, x.2.2.2.1, (), y13.1, (x.2.2.2.2.2.2.1 ++ [r14.1]), x.2.2.2.2.2.2.2.1, (y13.1, r14.1), ()))
       else none
      else
       bif (decide (x.1.2.2.2.2.2.2.2.2.2.1 > 0)) then
        (num_Cmp k x.2.2.1.2.1 x.2.2.1.2.2).bind fun r31 =>
        bif (decide (r31.1 < 0)) then
         (num_Cmp k x.2.2.1.2.1 y13.1).bind fun r32 =>
         bif (decide (r32.1 < 0)) then
          (num_Cmp k x.2.2.2.2.2.1 x.2.2.1.2.2).bind fun r33 =>
          bif (decide (r33.1 < 0)) then
           if 0 ≤ (IntKind.i64.wrap (x.1.2.2.2.2.2.2.2.2.2.1 - 1)) then (x.2.1.2.2[Int.toNat (IntKind.i64.wrap (x.1.2.2.2.2.2.2.2.2.2.1 - 1))]?).bind fun y34 =>
            if (x.2.2.2.2.2.2.1.length + [y34.2.1].length) * 72 ≤ 140737488355328 then
             tube_Over_l0 k m (((), (), (), (), (), (), (), (), x.1.2.2.2.2.2.2.2.2.1, (IntKind.i64.wrap (x.1.2.2.2.2.2.2.2.2.2.1 + 1)), ()), (x.2.1, x.2.2.1, x.2.2.2.1, (), y13.1, (x.2.2.2.2.2.2.1 ++ [y34.2.1]), x.2.2.2.2.2.2.2.1, (y13.1, r14.1), ()))
            else none
           else none
          else
           tube_Over_l0 k m (((), (), (), (), (), (), (), (), x.1.2.2.2.2.2.2.2.2.1, (IntKind.i64.wrap (x.1.2.2.2.2.2.2.2.2.2.1 + 1)), ()), (x.2.1, x.2.2.1, x.2.2.2.1, (), y13.1, x.2.2.2.2.2.2.1, x.2.2.2.2.2.2.2.1, (y13.1, r14.1), ()))
         else
          tube_Over_l0 k m (((), (), (), (), (), (), (), (), x.1.2.2.2.2.2.2.2.2.1, (IntKind.i64.wrap (x.1.2.2.2.2.2.2.2.2.2.1 + 1)), ()), (x.2.1, x.2.2.1, x.2.2.2.1, (), y13.1, x.2.2.2.2.2.2.1, x.2.2.2.2.2.2.2.1, (y13.1, r14.1), ()))
        else
         tube_Over_l0 k m (((), (), (), (), (), (), (), (), x.1.2.2.2.2.2.2.2.2.1, (IntKind.i64.wrap (x.1.2.2.2.2.2.2.2.2.2.1 + 1)), ()), (x.2.1, x.2.2.1, x.2.2.2.1, (), y13.1, x.2.2.2.2.2.2.1, x.2.2.2.2.2.2.2.1, (y13.1, r14.1), ()))
       else
        tube_Over_l0 k m (((), (), (), (), (), (), (), (), x.1.2.2.2.2.2.2.2.2.1, (IntKind.i64.wrap (x.1.2.2.2.2.2.2.2.2.2.1 + 1)), ()), (x.2.1, x.2.2.1, x.2.2.2.1, (), y13.1, x.2.2.2.2.2.2.1, x.2.2.2.2.2.2.2.1, (y13.1, r14.1), ()))
    else none
   else
    bif (decide (x.1.2.2.2.2.2.2.2.2.2.1 < (x.2.2.2.2.2.2.2.1.2.2.length : Int))) then
     if 0 ≤ x.1.2.2.2.2.2.2.2.2.2.1 then (x.2.2.2.2.2.2.2.1.2.2[Int.toNat x.1.2.2.2.2.2.2.2.2.2.1]?).bind fun y35 =>
      (iv_Meet k [x.2.2.2.2.2.2.2.2.1.2, y35.2.1]).bind fun r36 =>
      (iv_Has k x.2.2.1 x.2.2.2.2.2.2.2.2.1.1).bind fun r37 =>
      bif r37.1 then
       if (x.2.2.2.2.2.2.1.length + [r36.1].length) * 72 ≤ 140737488355328 then
        bif (decide (x.1.2.2.2.2.2.2.2.2.2.1 > 0)) then
         (num_Cmp k x.2.2.1.2.1 x.2.2.1.2.2).bind fun r38 =>
         bif (decide (r38.1 < 0)) then
          (num_Cmp k x.2.2.1.2.1 x.2.2.2.2.2.2.2.2.1.1).bind fun r39 =>
          bif (decide (r39.1 < 0)) then
           (num_Cmp k x.2.2.2.2.2.1 x.2.2.1.2.2).bind fun r40 =>
           bif (decide (r40.1 < 0)) then
            if 0 ≤ (IntKind.i64.wrap (x.1.2.2.2.2.2.2.2.2.2.1 - 1)) then (x.2.1.2.2[Int.toNat (IntKind.i64.wrap (x.1.2.2.2.2.2.2.2.2.2.1 - 1))]?).bind fun y41 =>
             if ((x.2.2.2.2.2.2.1 ++ [r36.1]).length + [y41.2.1].length) * 72 ≤ 140737488355328 then
              tube_Over_l0 k m (((), (), (), (), (), (), (), (), x.1.2.2.2.2.2.2.2.2.1, (IntKind.i64.wrap (x.1.2.2.2.2.2.2.2.2.2.1 + 1)), ()), (x.2.1, x.2.2.1, x.2.2.2.1, (), x.2.2.2.2.2.2.2.2.1.1, ((x.2.2.2.2.2.2.1 ++ [r36.1]) ++ [y41.2.1]), x.2.2.2.2.2.2.2.1, (x.2.2.2.2.2.2.2.2.1.1, r36.1), ()))
             else none
            else none
           else
            tube_Over_l0 k m (((), (), (), (), (), (), (), (), x.1.2.2.2.2.2.2.2.2.1, (IntKind.i64.wrap (x.1.2.2.2.2.2.2.2.2.2.1 + 1)), ()), (x.2.1, x.2.2.1, x.2.2.2.1, (), x.2.2.2.2.2.2.2.2.1.1, (x.2.2.2.2.2.2.1 ++ [r36.1]), x.2.2.2.2.2.2.2.1, (x.2.2.2.2.2.2.2.2.1.1, r36.1), ()))
          else
           tube_Over_l0 k m (((), (), (), (), (), (), (), (), x.1.2.2.2.2.2.2.2.2.1, (IntKind.i64.wrap (x.1.2.2.2.2.2.2.2.2.2.1 + 1)), ()), (x.2.1, x.2.2.1, x.2.2.2.1, (), x.2.2.2.2.2.2.2.2.1.1, (x.2.2.2.2.2.2.1 ++ [r36.1]), x.2.2.2.2.2.2.2.1, (x.2.2.2.2.2.2.2.2.1.1, r36.1), ()))
         else
          tube_Over_l0 k m (((), (), (), (), (), (), (), (), x.1.2.2.2.2.2.2.2.2.1, (IntKind.i64.wrap (x.1.2.2.2.2.2.2.2.2.2.1 + 1)), ()), (x.2.1, x.2.2.1, x.2.2.2.1, (), x.2.2.2.2.2.2.2.2.1.1, (x.2.2.2.2.2.2.1 ++ [r36.1]), x.2.2.2.2.2.2.2.1, (x.2.2.2.2.2.2.2.2.1.1, r36.1), ()))
        else
         tube_Over_l0 k m (((), (), (), (), (), (), (), (), x.1.2.2.2.2.2.2.2.2.1, (IntKind.i64.wrap (x.1.2.2.2.2.2.2.2.2.2.1 + 1)), ()), (x.2.1, x.2.2.1, x.2.2.2.1, (), x.2.2.2.2.2.2.2.2.1.1, (x.2.2.2.2.2.2.1 ++ [r36.1]), x.2.2.2.2.2.2.2.1, (x.2.2.2.2.2.2.2.2.1.1, r36.1), ()))
       else none
      else
       bif (decide (x.1.2.2.2.2.2.2.2.2.2.1 > 0)) then
        (num_Cmp k x.2.2.1.2.1 x.2.2.1.2.2).bind fun r42 =>
        bif (decide (r42.1 < 0)) then
         (num_Cmp k x.2.2.1.2.1 x.2.2.2.2.2.2.2.2.1.1).bind fun r43 =>
         bif (decide (r43.1 < 0)) then
          (num_Cmp k x.2.2.2.2.2.1 x.2.2.1.2.2).bind fun r44 =>
          bif (decide (r44.1 < 0)) then
           if 0 ≤ (IntKind.i64.wrap (x.1.2.2.2.2.2.2.2.2.2.1 - 1)) then (x.2.1.2.2[Int.toNat (IntKind.i64.wrap (x.1.2.2.2.2.2.2.2.2.2.1 - 1))]?).bind fun y45 =>
            if (x.2.2.2.2.2.2.1.length + [y45.2.1].length) * 72 ≤ 140737488355328 then
             tube_Over_l0 k m (((), (), (), (), (), (), (), (), x.1.2.2.2.2.2.2.2.2.1, (IntKind.i64.wrap (x.1.2.2.2.2.2.2.2.2.2.1 + 1)), ()), (x.2.1, x.2.2.1, x.2.2.2.1, (), x.2.2.2.2.2.2.2.2.1.1, (x.2.2.2.2.2.2.1 ++ [y45.2.1]), x.2.2.2.2.2.2.2.1, (x.2.2.2.2.2.2.2.2.1.1, r36.1), ()))
            else none
           else none
          else
           tube_Over_l0 k m (((), (), (), (), (), (), (), (), x.1.2.2.2.2.2.2.2.2.1, (IntKind.i64.wrap (x.1.2.2.2.2.2.2.2.2.2.1 + 1)), ()), (x.2.1, x.2.2.1, x.2.2.2.1, (), x.2.2.2.2.2.2.2.2.1.1, x.2.2.2.2.2.2.1, x.2.2.2.2.2.2.2.1, (x.2.2.2.2.2.2.2.2.1.1, r36.1), ()))
         else
          tube_Over_l0 k m (((), (), (), (), (), (), (), (), x.1.2.2.2.2.2.2.2.2.1, (IntKind.i64.wrap (x.1.2.2.2.2.2.2.2.2.2.1 + 1)), ()), (x.2.1, x.2.2.1, x.2.2.2.1, (), x.2.2.2.2.2.2.2.2.1.1, x.2.2.2.2.2.2.1, x.2.2.2.2.2.2.2.1, (x.2.2.2.2.2.2.2.2.1.1, r36.1), ()))
        else
         tube_Over_l0 k m (((), (), (), (), (), (), (), (), x.1.2.2.2.2.2.2.2.2.1, (IntKind.i64.wrap (x.1.2.2.2.2.2.2.2.2.2.1 + 1)), ()), (x.2.1, x.2.2.1, x.2.2.2.1, (), x.2.2.2.2.2.2.2.2.1.1, x.2.2.2.2.2.2.1, x.2.2.2.2.2.2.2.1, (x.2.2.2.2.2.2.2.2.1.1, r36.1), ()))
       else
        tube_Over_l0 k m (((), (), (), (), (), (), (), (), x.1.2.2.2.2.2.2.2.2.1, (IntKind.i64.wrap (x.1.2.2.2.2.2.2.2.2.2.1 + 1)), ()), (x.2.1, x.2.2.1, x.2.2.2.1, (), x.2.2.2.2.2.2.2.2.1.1, x.2.2.2.2.2.2.1, x.2.2.2.2.2.2.2.1, (x.2.2.2.2.2.2.2.2.1.1, r36.1), ()))
     else none
    else
     (iv_Has k x.2.2.1 x.2.2.2.2.2.2.2.2.1.1).bind fun r46 =>
     bif r46.1 then
      if (x.2.2.2.2.2.2.1.length + [x.2.2.2.2.2.2.2.2.1.2].length) * 72 ≤ 140737488355328 then
       bif (decide (x.1.2.2.2.2.2.2.2.2.2.1 > 0)) then
        (num_Cmp k x.2.2.1.2.1 x.2.2.1.2.2).bind fun r47 =>
        bif (decide (r47.1 < 0)) then
         (num_Cmp k x.2.2.1.2.1 x.2.2.2.2.2.2.2.2.1.1).bind fun r48 =>
         bif (decide (r48.1 < 0)) then
          (num_Cmp k x.2.2.2.2.2.1 x.2.2.1.2.2).bind fun r49 =>
          bif (decide (r49.1 < 0)) then
           if 0 ≤ (IntKind.i64.wrap (x.1.2.2.2.2.2.2.2.2.2.1 - 1)) then (x.2.1.2.2[Int.toNat (IntKind.i64.wrap (x.1.2.2.2.2.2.2.2.2.2.1 - 1))]?).bind fun y50 =>
            if ((x.2.2.2.2.2.2.1 ++ [x.2.2.2.2.2.2.2.2.1.2]).length + [y50.2.1].length) * 72 ≤ 140737488355328 then
             tube_Over_l0 k m (((), (), (), (), (), (), (), (), x.1.2.2.2.2.2.2.2.2.1, (IntKind.i64.wrap (x.1.2.2.2.2.2.2.2.2.2.1 + 1)), ()), (x.2.1, x.2.2.1, x.2.2.2.1, (), x.2.2.2.2.2.2.2.2.1.1, ((x.2.2.2.2.2.2.1 ++ [x.2.2.2.2.2.2.2.2.1.2]) ++ [y50.2.1]), x.2.2.2.2.2.2.2.1, (x.2.2.2.2.2.2.2.2.1.1, x.2.2.2.2.2.2.2.2.1.2), ()))
            else none
           else none
          else
           tube_Over_l0 k m (((), (), (), (), (), (), (), (), x.1.2.2.2.2.2.2.2.2.1, (IntKind.i64.wrap (x.1.2.2.2.2.2.2.2.2.2.1 + 1)), ()), (x.2.1, x.2.2.1, x.2.2.2.1, (), x.2.2.2.2.2.2.2.2.1.1, (x.2.2.2.2.2.2.1 ++ [x.2.2.2.2.2.2.2.2.1.2]), x.2.2.2.2.2.2.2.1, (x.2.2.2.2.2.2.2.2.1.1, x.2.2.2.2.2.2.2.2.1.2), ()))
         else
          tube_Over_l0 k m (((), (), (), (), (), (), (), (), x.1.2.2.2.2.2.2.2.2.1, (IntKind.i64.wrap (x.1.2.2.2.2.2.2.2.2.2.1 + 1)), ()), (x.2.1, x.2.2.1, x.2.2.2.1, (), x.2.2.2.2.2.2.2.2.1.1, (x.2.2.2.2.2.2.1 ++ [x.2.2.2.2.2.2.2.2.1.2]), x.2.2.2.2.2.2.2.1, (x.2.2.2.2.2.2.2.2.1.1, x.2.2.2.2.2.2.2.2.1.2), ()))
        else
         tube_Over_l0 k m (((), (), (), (), (), (), (), (), x.1.2.2.2.2.2.2.2.2.1, (IntKind.i64.wrap (x.1.2.2.2.2.2.2.2.2.2.1 + 1)), ()), (x.2.1, x.2.2.1, x.2.2.2.1, (), x.2.2.2.2.2.2.2.2.1.1, (x.2.2.2.2.2.2.1 ++ [x.2.2.2.2.2.2.2.2.1.2]), x.2.2.2.2.2.2.2.1, (x.2.2.2.2.2.2.2.2.1.1, x.2.2.2.2.2.2.2.2.1.2), ()))
       else
        tube_Over_l0 k m (((), (), (), (), (), (), (), (), x.1.2.2.2.2.2.2.2.2.1, (IntKind.i64.wrap (x.1.2.2.2.2.2.2.2.2.2.1 + 1)), ()), (x.2.1, x.2.2.1, x.2.2.2.1, (), x.2.2.2.2.2.2.2.2.1.1, (x.2.2.2.2.2.2.1 ++ [x.2.2.2.2.2.2.2.2.1.2]), x.2.2.2.2.2.2.2.1, (x.2.2.2.2.2.2.2.2.1.1, x.2.2.2.2.2.2.2.2.1.2), ()))
      else none
     else
      bif (decide (x.1.2.2.2.2.2.2.2.2.2.1 > 0)) then
       (num_Cmp k x.2.2.1.2.1 x.2.2.1.2.2).bind fun r51 =>
       bif (decide (r51.1 < 0)) then
        (num_Cmp k x.2.2.1.2.1 x.2.2.2.2.2.2.2.2.1.1).bind fun r52 =>
        bif (decide (r52.1 < 0)) then
         (num_Cmp k x.2.2.2.2.2.1 x.2.2.1.2.2).bind fun r53 =>
         bif (decide (r53.1 < 0)) then
          if 0 ≤ (IntKind.i64.wrap (x.1.2.2.2.2.2.2.2.2.2.1 - 1)) then (x.2.1.2.2[Int.toNat (IntKind.i64.wrap (x.1.2.2.2.2.2.2.2.2.2.1 - 1))]?).bind fun y54 =>
           if (x.2.2.2.2.2.2.1.length + [y54.2.1].length) * 72 ≤ 140737488355328 then
            tube_Over_l0 k m (((), (), (), (), (), (), (), (), x.1.2.2.2.2.2.2.2.2.1, (IntKind.i64.wrap (x.1.2.2.2.2.2.2.2.2.2.1 + 1)), ()), (x.2.1, x.2.2.1, x.2.2.2.1, (), x.2.2.2.2.2.2.2.2.1.1, (x.2.2.2.2.2.2.1 ++ [y54.2.1]), x.2.2.2.2.2.2.2.1, (x.2.2.2.2.2.2.2.2.1.1, x.2.2.2.2.2.2.2.2.1.2), ()))
           else none
          else none
         else
          tube_Over_l0 k m (((), (), (), (), (), (), (), (), x.1.2.2.2.2.2.2.2.2.1, (IntKind.i64.wrap (x.1.2.2.2.2.2.2.2.2.2.1 + 1)), ()), (x.2.1, x.2.2.1, x.2.2.2.1, (), x.2.2.2.2.2.2.2.2.1.1, x.2.2.2.2.2.2.1, x.2.2.2.2.2.2.2.1, (x.2.2.2.2.2.2.2.2.1.1, x.2.2.2.2.2.2.2.2.1.2), ()))
        else
         tube_Over_l0 k m (((), (), (), (), (), (), (), (), x.1.2.2.2.2.2.2.2.2.1, (IntKind.i64.wrap (x.1.2.2.2.2.2.2.2.2.2.1 + 1)), ()), (x.2.1, x.2.2.1, x.2.2.2.1, (), x.2.2.2.2.2.2.2.2.1.1, x.2.2.2.2.2.2.1, x.2.2.2.2.2.2.2.1, (x.2.2.2.2.2.2.2.2.1.1, x.2.2.2.2.2.2.2.2.1.2), ()))
       else
        tube_Over_l0 k m (((), (), (), (), (), (), (), (), x.1.2.2.2.2.2.2.2.2.1, (IntKind.i64.wrap (x.1.2.2.2.2.2.2.2.2.2.1 + 1)), ()), (x.2.1, x.2.2.1, x.2.2.2.1, (), x.2.2.2.2.2.2.2.2.1.1, x.2.2.2.2.2.2.1, x.2.2.2.2.2.2.2.1, (x.2.2.2.2.2.2.2.2.1.1, x.2.2.2.2.2.2.2.2.1.2), ()))
      else
       tube_Over_l0 k m (((), (), (), (), (), (), (), (), x.1.2.2.2.2.2.2.2.2.1, (IntKind.i64.wrap (x.1.2.2.2.2.2.2.2.2.2.1 + 1)), ()), (x.2.1, x.2.2.1, x.2.2.2.1, (), x.2.2.2.2.2.2.2.2.1.1, x.2.2.2.2.2.2.1, x.2.2.2.2.2.2.2.1, (x.2.2.2.2.2.2.2.2.1.1, x.2.2.2.2.2.2.2.2.1.2), ()))
  else
   some (Sum.inl (((), (), (), (), (), ()), (x.2.1, x.2.2.1, x.2.2.2.1, (), x.2.2.2.2.2.1, x.2.2.2.2.2.2.1, ())))
abbrev tube_Over_l0_seg (k : Nat) : Seg := ⟨⟨2, 57, false, [0], [⟨0, 0, 102, 11, [.b, .s2, .s1, .s2, .s2, .s2, .s2]⟩]⟩, 73, [.b, .s2, .s2], tube_Over_l0_i, tube_Over_l0_o, tube_Over_l0 k k⟩
theorem tube_Over_l0_seg.ok (k : Nat) : SegOK Try.prog (e71 k) (tube_Over_l0_seg k) :=
 SegOK.loop (e71.ok k) (by kernel_rfl) (S := tube_Over_l0_seg k) (c := atR (codeOf (e71 k) 73) [.l, .b, .s2, .s2]) (by kernel_rfl) (tube_Over_l0 k) k rfl (fun _ => rfl) 8 (.two .n (.two .n (.two (.two (.two .n (.two .n (.two .n (.two (.call 3 3 .n .n) .n)))) .n) .n))) ⟨trivial, ⟨trivial, ⟨⟨⟨trivial, ⟨trivial, ⟨trivial, ⟨⟨trivial, trivial⟩, trivial⟩⟩⟩⟩, trivial⟩, trivial⟩⟩⟩ (fun k' x => by kernel_rfl)
def tube_Over (k : Nat) (x0 : Ty.den T28) (x1 : Ty.den T25) : Option (HL [T25]) :=
 (tube_May k x0).bind fun r1 =>
 bif (!r1.1) then
  (iv_None k).bind fun r2 =>
  some (r2.1, ())
 else
  bif x1.1 then
   (iv_None k).bind fun r3 =>
   some (r3.1, ())
  else
   (iv_May k x1).bind fun r4 =>
   bif (!r4.1) then
    (iv_None k).bind fun r5 =>
    some (r5.1, ())
   else
    (num_Cmp k x1.2.1 x0.1).bind fun r6 =>
    bif (decide (r6.1 < 0)) then
     (iv_All k).bind fun r7 =>
     some (r7.1, ())
    else
     (tube_end k x0).bind fun r8 =>
     (num_Cmp k x1.2.2 r8.1).bind fun r9 =>
     bif (decide (r9.1 > 0)) then
      (iv_All k).bind fun r10 =>
      some (r10.1, ())
     else
      (tube_At k x0 x1.2.1).bind fun r11 =>
      (tube_At k x0 x1.2.2).bind fun r12 =>
      (tube_Over_l0 k k (((), (), (), (), (), (), (), (), (IntKind.i64.wrap ((x0.2.2.length : Int) + 1)), 0, ()), (x0, x1, (false, (0, false, 0, 0), 0, false, 0, 0), (), x0.1, [r11.1, r12.1], x0, (x0.1, x0.2.1), ()))).bind fun q55 =>
      Sum.elim (fun z56 =>
        (iv_Hull k z56.2.2.2.2.2.2.1).bind fun r57 =>
        some (r57.1, ()))
       (fun q55' =>
        none) q55
theorem tube_Over.ok (k : Nat) : SpecOK Try.prog G0 11 ⟨[T28, T25], [T25], fun x => tube_Over k x.1 x.2.1⟩ :=
 evF_sound (E := (e71 k)) (fn := Try.f11) (e71.ok k) (by kernel_rfl) (by kernel_rfl) (by kernel_rfl) 8 (.two .n (.two .n (.two (.own 8 .n) (.two .n (.two (.two (.call 1 1 .n .n) (.two (.rf 0 2 (.two .n (.two .n (.two (.use (tube_Over_l0_seg k)) .n)))) .n)) .n))))) ⟨trivial, ⟨trivial, ⟨trivial, ⟨trivial, ⟨⟨⟨trivial, trivial⟩, ⟨⟨trivial, ⟨trivial, ⟨(tube_Over_l0_seg.ok k), trivial⟩⟩⟩, trivial⟩⟩, trivial⟩⟩⟩⟩⟩ (fun xs => by kernel_rfl)
def e72 (k : Nat) : Env := (e71 k).add 11 ⟨[T28, T25], [T25], fun x => tube_Over k x.1 x.2.1⟩
theorem e72.ok (k : Nat) : (e72 k).OK Try.prog := (e71.ok k).add (tube_Over.ok k)
def peloruslaw17_TubeTells (k : Nat) (x0 : Ty.den T28) (x1 : Ty.den T23) (x2 : Ty.den T25) : Option (HL [.bool]) :=
 (peloruslaw17_awake k).bind fun r1 =>
 (peloruslaw17_Few k x0).bind fun r2 =>
 bif (!r1.1) then
  some (r1.1, ())
 else
  bif (!r2.1) then
   some (r1.1, ())
  else
   (tube_At k x0 x1).bind fun r3 =>
   (pelorusref17_At k x0 x1).bind fun r4 =>
   bif (beqT T25 r3.1 r4.1) then
    (tube_Over k x0 x2).bind fun r5 =>
    (pelorusref17_Over k x0 x2).bind fun r6 =>
    some ((beqT T25 r5.1 r6.1), ())
   else
    some (false, ())
theorem peloruslaw17_TubeTells.ok (k : Nat) : SpecOK Try.prog G0 3 ⟨[T28, T23, T25], [.bool], fun x => peloruslaw17_TubeTells k x.1 x.2.1 x.2.2.1⟩ :=
 evF_sound (E := (e72 k)) (fn := Try.f3) (e72.ok k) (by kernel_rfl) (by kernel_rfl) (by kernel_rfl) 8 .n trivial (fun xs => by kernel_rfl)
def e73 (k : Nat) : Env := (e72 k).add 3 ⟨[T28, T23, T25], [.bool], fun x => peloruslaw17_TubeTells k x.1 x.2.1 x.2.2.1⟩
theorem e73.ok (k : Nat) : (e73 k).OK Try.prog := (e72.ok k).add (peloruslaw17_TubeTells.ok k)
abbrev tube_Fit_l0_i : Mask := ⟨[(0, 2, (.k (.ptr 2 0 0))), (0, 3, (.k (.ptr 3 0 0))), (2, 0, (.k (.yld 0))), (2, 1, (.k (.ptr 4097 0 0))), (2, 3, (.k (.ptr 8195 0 0))), (2, 14, (.v (.int .i64))), (2, 15, (.v (.int .i64)))], [(2, .cells (.pr (.v T23) (.pr (.v T25) (.v T27)))), (3, .cells (.pr (.v T23) (.pr (.v T25) (.k (.arr 13 0))))), (13, .arr 36 T35), (4097, .cells (.v T28)), (8195, .cells (.pr (.v T23) (.v T25)))], [], 1⟩
abbrev tube_Fit_l0_o : List Out := [⟨.exit 0, ⟨[(0, 2, (.k (.ptr 2 0 0))), (0, 3, (.k (.ptr 3 0 0)))], [(2, .cells (.pr (.v T23) (.pr (.v T25) (.v T27)))), (3, .cells (.pr (.v T23) (.pr (.v T25) (.k (.arr 13 0))))), (13, .arr 36 T35)], [], 1⟩⟩]
def tube_Fit_l0 (k : Nat) : Nat → Mask.den tube_Fit_l0_i → Option (denS tube_Fit_l0_o)
 | 0, _ => none
 | m + 1, x =>
  bif (decide (x.1.2.2.2.2.2.2.1 < x.1.2.2.2.2.2.1)) then
   bif (decide (x.1.2.2.2.2.2.2.1 > 0)) then
    if 0 ≤ (IntKind.i64.wrap (x.1.2.2.2.2.2.2.1 - 1)) then (x.2.2.2.2.1.2.2[Int.toNat (IntKind.i64.wrap (x.1.2.2.2.2.2.2.1 - 1))]?).bind fun y2 =>
     (iv_Meet k [y2.2.2, y2.2.1]).bind fun r3 =>
     bif (decide (x.1.2.2.2.2.2.2.1 < (x.2.2.2.2.1.2.2.length : Int))) then
      if 0 ≤ x.1.2.2.2.2.2.2.1 then (x.2.2.2.2.1.2.2[Int.toNat x.1.2.2.2.2.2.2.1]?).bind fun y4 =>
       (iv_Meet k [r3.1, y4.2.1]).bind fun r5 =>
       bif (x.1.2.2.2.2.2.2.1 == 0) then
        tube_Fit_l0 k m (((), (), (), (), (), x.1.2.2.2.2.2.1, (IntKind.i64.wrap (x.1.2.2.2.2.2.2.1 + 1)), ()), ((x.2.1.1, (x.2.1.2.1, x.2.1.2.2)), (x.2.2.1.1, (r5.1, ())), x.2.2.2.1, x.2.2.2.2.1, (y2.1, r5.1), ()))
       else
        if 0 ≤ (IntKind.i64.wrap (x.1.2.2.2.2.2.2.1 - 1)) then (x.2.2.2.1[Int.toNat (IntKind.i64.wrap (x.1.2.2.2.2.2.2.1 - 1))]?).bind fun _ =>
         (x.2.2.2.1[(Int.toNat (IntKind.i64.wrap (x.1.2.2.2.2.2.2.1 - 1)))]?).bind fun y7 =>
         tube_Fit_l0 k m (((), (), (), (), (), x.1.2.2.2.2.2.1, (IntKind.i64.wrap (x.1.2.2.2.2.2.2.1 + 1)), ()), ((x.2.1.1, (x.2.1.2.1, x.2.1.2.2)), (x.2.2.1.1, (x.2.2.1.2.1, ())), (x.2.2.2.1.set (Int.toNat (IntKind.i64.wrap (x.1.2.2.2.2.2.2.1 - 1))) (y7.1, y7.2.1, r5.1)), x.2.2.2.2.1, (y2.1, r5.1), ()))
        else none
      else none
     else
      bif (x.1.2.2.2.2.2.2.1 == 0) then
       tube_Fit_l0 k m (((), (), (), (), (), x.1.2.2.2.2.2.1, (IntKind.i64.wrap (x.1.2.2.2.2.2.2.1 + 1)), ()), ((x.2.1.1, (x.2.1.2.1, x.2.1.2.2)), (x.2.2.1.1, (r3.1, ())), x.2.2.2.1, x.2.2.2.2.1, (y2.1, r3.1), ()))
      else
       if 0 ≤ (IntKind.i64.wrap (x.1.2.2.2.2.2.2.1 - 1)) then (x.2.2.2.1[Int.toNat (IntKind.i64.wrap (x.1.2.2.2.2.2.2.1 - 1))]?).bind fun _ =>
        (x.2.2.2.1[(Int.toNat (IntKind.i64.wrap (x.1.2.2.2.2.2.2.1 - 1)))]?).bind fun y9 =>
        tube_Fit_l0 k m (((), (), (), (), (), x.1.2.2.2.2.2.1, (IntKind.i64.wrap (x.1.2.2.2.2.2.2.1 + 1)), ()), ((x.2.1.1, (x.2.1.2.1, x.2.1.2.2)), (x.2.2.1.1, (x.2.2.1.2.1, ())), (x.2.2.2.1.set (Int.toNat (IntKind.i64.wrap (x.1.2.2.2.2.2.2.1 - 1))) (y9.1, y9.2.1, r3.1)), x.2.2.2.2.1, (y2.1, r3.1), ()))
       else none
    else none
   else
    bif (decide (x.1.2.2.2.2.2.2.1 < (x.2.2.2.2.1.2.2.length : Int))) then
     if 0 ≤ x.1.2.2.2.2.2.2.1 then (x.2.2.2.2.1.2.2[Int.toNat x.1.2.2.2.2.2.2.1]?).bind fun y10 =>
      (iv_Meet k [x.2.2.2.2.2.1.2, y10.2.1]).bind fun r11 =>
      bif (x.1.2.2.2.2.2.2.1 == 0) then
       tube_Fit_l0 k m (((), (), (), (), (), x.1.2.2.2.2.2.1, (IntKind.i64.wrap (x.1.2.2.2.2.2.2.1 + 1)), ()), ((x.2.1.1, (x.2.1.2.1, x.2.1.2.2)), (x.2.2.1.1, (r11.1, ())), x.2.2.2.1, x.2.2.2.2.1, (x.2.2.2.2.2.1.1, r11.1), ()))
      else
       if 0 ≤ (IntKind.i64.wrap (x.1.2.2.2.2.2.2.1 - 1)) then (x.2.2.2.1[Int.toNat (IntKind.i64.wrap (x.1.2.2.2.2.2.2.1 - 1))]?).bind fun _ =>
        (x.2.2.2.1[(Int.toNat (IntKind.i64.wrap (x.1.2.2.2.2.2.2.1 - 1)))]?).bind fun y13 =>
        tube_Fit_l0 k m (((), (), (), (), (), x.1.2.2.2.2.2.1, (IntKind.i64.wrap (x.1.2.2.2.2.2.2.1 + 1)), ()), ((x.2.1.1, (x.2.1.2.1, x.2.1.2.2)), (x.2.2.1.1, (x.2.2.1.2.1, ())), (x.2.2.2.1.set (Int.toNat (IntKind.i64.wrap (x.1.2.2.2.2.2.2.1 - 1))) (y13.1, y13.2.1, r11.1)), x.2.2.2.2.1, (x.2.2.2.2.2.1.1, r11.1), ()))
       else none
     else none
    else
     bif (x.1.2.2.2.2.2.2.1 == 0) then
      tube_Fit_l0 k m (((), (), (), (), (), x.1.2.2.2.2.2.1, (IntKind.i64.wrap (x.1.2.2.2.2.2.2.1 + 1)), ()), ((x.2.1.1, (x.2.1.2.1, x.2.1.2.2)), (x.2.2.1.1, (x.2.2.2.2.2.1.2, ())), x.2.2.2.1, x.2.2.2.2.1, (x.2.2.2.2.2.1.1, x.2.2.2.2.2.1.2), ()))
     else
      if 0 ≤ (IntKind.i64.wrap (x.1.2.2.2.2.2.2.1 - 1)) then (x.2.2.2.1[Int.toNat (IntKind.i64.wrap (x.1.2.2.2.2.2.2.1 - 1))]?).bind fun _ =>
       (x.2.2.2.1[(Int.toNat (IntKind.i64.wrap (x.1.2.2.2.2.2.2.1 - 1)))]?).bind fun y15 =>
       tube_Fit_l0 k m (((), (), (), (), (), x.1.2.2.2.2.2.1, (IntKind.i64.wrap (x.1.2.2.2.2.2.2.1 + 1)), ()), ((x.2.1.1, (x.2.1.2.1, x.2.1.2.2)), (x.2.2.1.1, (x.2.2.1.2.1, ())), (x.2.2.2.1.set (Int.toNat (IntKind.i64.wrap (x.1.2.2.2.2.2.2.1 - 1))) (y15.1, y15.2.1, x.2.2.2.2.2.1.2)), x.2.2.2.2.1, (x.2.2.2.2.2.1.1, x.2.2.2.2.2.1.2), ()))
      else none
  else
   some (Sum.inl (((), (), ()), ((x.2.1.1, (x.2.1.2.1, x.2.1.2.2)), (x.2.2.1.1, (x.2.2.1.2.1, ())), x.2.2.2.1, ())))
abbrev tube_Fit_l0_seg (k : Nat) : Seg := ⟨⟨2, 57, false, [0], [⟨0, 0, 37, 20, [.b, .s2, .s1, .s2, .s2, .s2, .s2]⟩]⟩, 73, [.b, .s2, .s2], tube_Fit_l0_i, tube_Fit_l0_o, tube_Fit_l0 k k⟩
theorem tube_Fit_l0_seg.ok (k : Nat) : SegOK Try.prog (e73 k) (tube_Fit_l0_seg k) :=
 SegOK.loop (e73.ok k) (by kernel_rfl) (S := tube_Fit_l0_seg k) (c := atR (codeOf (e73 k) 73) [.l, .b, .s2, .s2]) (by kernel_rfl) (tube_Fit_l0 k) k rfl (fun _ => rfl) 8 (.two .n (.two .n (.two (.two (.two .n (.two .n (.two .n (.two (.call 3 3 .n .n) .n)))) .n) .n))) ⟨trivial, ⟨trivial, ⟨⟨⟨trivial, ⟨trivial, ⟨trivial, ⟨⟨trivial, trivial⟩, trivial⟩⟩⟩⟩, trivial⟩, trivial⟩⟩⟩ (fun k' x => by kernel_rfl)
def tube_Fit (k : Nat) (x0 : Ty.den T28) : Option (HL [T28]) :=
 (tube_May k x0).bind fun r1 =>
 bif (!r1.1) then
  some (x0, ())
 else
  if x0.2.2.length * 176 ≤ 140737488355328 then
   (tube_Fit_l0 k k (((), (), (), (), (), (IntKind.i64.wrap ((x0.2.2.length : Int) + 1)), 0, ()), (((0, false, 0, 0), ((false, (0, false, 0, 0), 0, false, 0, 0), [])), (x0.1, (x0.2.1, ())), x0.2.2, x0, (x0.1, x0.2.1), ()))).bind fun q16 =>
   Sum.elim (fun z17 =>
     (tube_Empty k (z17.2.2.1.1, z17.2.2.1.2.1, z17.2.2.2.1)).bind fun r18 =>
     bif r18.1 then
      (tube_void k (z17.2.2.1.1, z17.2.2.1.2.1, z17.2.2.2.1)).bind fun r19 =>
      some (r19.1, ())
     else
      some ((z17.2.2.1.1, z17.2.2.1.2.1, z17.2.2.2.1), ()))
    (fun q16' =>
     none) q16
  else none
theorem tube_Fit.ok (k : Nat) : SpecOK Try.prog G0 20 ⟨[T28], [T28], fun x => tube_Fit k x.1⟩ :=
 evF_sound (E := (e73 k)) (fn := Try.f20) (e73.ok k) (by kernel_rfl) (by kernel_rfl) (by kernel_rfl) 8 (.two .n (.two .n (.two .n (.two .n (.two (.two (.call 1 1 .n .n) (.two (.rf 0 2 (.two .n (.two .n (.two (.use (tube_Fit_l0_seg k)) .n)))) .n)) (.two (.two .n (.two (.two (.own 1 .n) .n) .n)) .n)))))) ⟨trivial, ⟨trivial, ⟨trivial, ⟨trivial, ⟨⟨⟨trivial, trivial⟩, ⟨⟨trivial, ⟨trivial, ⟨(tube_Fit_l0_seg.ok k), trivial⟩⟩⟩, trivial⟩⟩, ⟨⟨trivial, ⟨⟨trivial, trivial⟩, trivial⟩⟩, trivial⟩⟩⟩⟩⟩⟩ (fun xs => by kernel_rfl)
def e74 (k : Nat) : Env := (e73 k).add 20 ⟨[T28], [T28], fun x => tube_Fit k x.1⟩
theorem e74.ok (k : Nat) : (e74 k).OK Try.prog := (e73.ok k).add (tube_Fit.ok k)
def tube_Set (k : Nat) (x0 : Ty.den T28) (x1 : Ty.den (.int .i64)) (x2 : Ty.den T25) : Option (HL [T28, (.int .i64)]) :=
 (tube_May k x0).bind fun r1 =>
 bif (!r1.1) then
  some (((0, false, 0, 0), (false, (0, false, 0, 0), 0, false, 0, 0), []), 1, ())
 else
  (iv_May k x2).bind fun r2 =>
  bif (!r2.1) then
   some (((0, false, 0, 0), (false, (0, false, 0, 0), 0, false, 0, 0), []), 1, ())
  else
   bif (decide (x1 < 0)) then
    some (((0, false, 0, 0), (false, (0, false, 0, 0), 0, false, 0, 0), []), 7, ())
   else
    bif (decide (x1 > (x0.2.2.length : Int))) then
     some (((0, false, 0, 0), (false, (0, false, 0, 0), 0, false, 0, 0), []), 7, ())
    else
     bif (x1 == 0) then
      (iv_Meet k [x0.2.1, x2]).bind fun r3 =>
      (tube_Fit k (x0.1, r3.1, x0.2.2)).bind fun r4 =>
      some (r4.1, 0, ())
     else
      if x0.2.2.length * 176 ≤ 140737488355328 then
       if 0 ≤ (IntKind.i64.wrap (x1 - 1)) then (x0.2.2[Int.toNat (IntKind.i64.wrap (x1 - 1))]?).bind fun _ =>
        (x0.2.2[(Int.toNat (IntKind.i64.wrap (x1 - 1)))]?).bind fun y6 =>
        (iv_Meet k [y6.2.2, x2]).bind fun r7 =>
        (x0.2.2[(Int.toNat (IntKind.i64.wrap (x1 - 1)))]?).bind fun y8 =>
        (tube_Fit k (x0.1, x0.2.1, (x0.2.2.set (Int.toNat (IntKind.i64.wrap (x1 - 1))) (y8.1, y8.2.1, r7.1)))).bind fun r9 =>
        some (r9.1, 0, ())
       else none
      else none
theorem tube_Set.ok (k : Nat) : SpecOK Try.prog G0 15 ⟨[T28, (.int .i64), T25], [T28, (.int .i64)], fun x => tube_Set k x.1 x.2.1 x.2.2.1⟩ :=
 evF_sound (E := (e74 k)) (fn := Try.f15) (e74.ok k) (by kernel_rfl) (by kernel_rfl) (by kernel_rfl) 8 (.two .n (.two .n (.two .n (.two .n (.two .n (.two (.own 1 .n) .n)))))) ⟨trivial, ⟨trivial, ⟨trivial, ⟨trivial, ⟨trivial, ⟨trivial, trivial⟩⟩⟩⟩⟩⟩ (fun xs => by kernel_rfl)
def e75 (k : Nat) : Env := (e74 k).add 15 ⟨[T28, (.int .i64), T25], [T28, (.int .i64)], fun x => tube_Set k x.1 x.2.1 x.2.2.1⟩
theorem e75.ok (k : Nat) : (e75 k).OK Try.prog := (e74.ok k).add (tube_Set.ok k)
def peloruslaw17_TubeMakes (k : Nat) (x0 : Ty.den T28) (x1 : Ty.den T35) (x2 : Ty.den (.int .i64)) (x3 : Ty.den T25) : Option (HL [.bool]) :=
 (peloruslaw17_awake k).bind fun r1 =>
 (peloruslaw17_Few k x0).bind fun r2 =>
 bif (!r1.1) then
  some (r1.1, ())
 else
  bif (!r2.1) then
   some (r1.1, ())
  else
   (tube_Append k x0 x1.1 x1.2.1 x1.2.2).bind fun r3 =>
   (pelorusref17_Append k x0 x1.1 x1.2.1 x1.2.2).bind fun r4 =>
   (tube_Set k x0 x2 x3).bind fun r5 =>
   (pelorusref17_Set k x0 x2 x3).bind fun r6 =>
   (tube_New k x0.1 x0.2.1).bind fun r7 =>
   (pelorusref17_New k x0.1 x0.2.1).bind fun r8 =>
   (pelorusref17_Same k r3.1 r4.1).bind fun r9 =>
   (pelorusref17_Same k r5.1 r6.1).bind fun r10 =>
   (tube_Fit k x0).bind fun r11 =>
   (pelorusref17_Fit k x0).bind fun r12 =>
   (pelorusref17_Same k r11.1 r12.1).bind fun r13 =>
   (pelorusref17_Same k r7.1 r8.1).bind fun r14 =>
   bif r9.1 then
    bif r10.1 then
     bif r13.1 then
      bif r14.1 then
       bif (r3.2.1 == r4.2.1) then
        bif (r5.2.1 == r6.2.1) then
         bif (r7.2.1 == r8.2.1) then
          (tube_May k x0).bind fun r15 =>
          (pelorusref17_May k x0).bind fun r16 =>
          bif (r15.1 == r16.1) then
           (tube_Empty k x0).bind fun r17 =>
           (pelorusref17_Empty k x0).bind fun r18 =>
           bif (r17.1 == r18.1) then
            (tube_Gate k x0 x2).bind fun r19 =>
            (pelorusref17_Gate k x0 x2).bind fun r20 =>
            some ((beqT T25 r19.1 r20.1), ())
           else
            some (false, ())
          else
           some (false, ())
         else
          some (false, ())
        else
         some (false, ())
       else
        some (false, ())
      else
       some (false, ())
     else
      some (false, ())
    else
     some (false, ())
   else
    some (false, ())
theorem peloruslaw17_TubeMakes.ok (k : Nat) : SpecOK Try.prog G0 4 ⟨[T28, T35, (.int .i64), T25], [.bool], fun x => peloruslaw17_TubeMakes k x.1 x.2.1 x.2.2.1 x.2.2.2.1⟩ :=
 evF_sound (E := (e75 k)) (fn := Try.f4) (e75.ok k) (by kernel_rfl) (by kernel_rfl) (by kernel_rfl) 8 .n trivial (fun xs => by kernel_rfl)
def e76 (k : Nat) : Env := (e75 k).add 4 ⟨[T28, T35, (.int .i64), T25], [.bool], fun x => peloruslaw17_TubeMakes k x.1 x.2.1 x.2.2.1 x.2.2.2.1⟩
theorem e76.ok (k : Nat) : (e76 k).OK Try.prog := (e75.ok k).add (peloruslaw17_TubeMakes.ok k)
abbrev tube_times_l0_i : Mask := ⟨[(0, 19, (.v .bool)), (1, 1, (.v T27)), (1, 2, (.k (.clo 87 .nl))), (1, 15, (.v T27)), (1, 16, (.v (.int .i64))), (1, 17, (.v (.int .i64)))], [], [], 0⟩
abbrev tube_times_l0_o : List Out := [⟨.ret, ⟨[(0, 19, (.v .bool)), (1, 6, (.v .bool))], [], [], 0⟩⟩, ⟨.exit 0, ⟨[(0, 19, (.v .bool))], [], [], 0⟩⟩]
def tube_times_l0 (k : Nat) : Nat → Mask.den tube_times_l0_i → Option (denS tube_times_l0_o)
 | 0, _ => none
 | m + 1, x =>
  bif (decide (x.1.2.2.2.2.2.1 < x.1.2.2.2.2.1)) then
   if 0 ≤ x.1.2.2.2.2.2.1 then (x.1.2.2.2.1[Int.toNat x.1.2.2.2.2.2.1]?).bind fun y3 =>
    if 0 ≤ x.1.2.2.2.2.2.1 then (x.1.2.1[Int.toNat x.1.2.2.2.2.2.1]?).bind fun y4 =>
     (tube_times_1 k y3 y4).bind fun r5 =>
     bif (!r5.1) then
      some (Sum.inl ((x.1.1, false, ()), ()))
     else
      tube_times_l0 k m ((x.1.1, x.1.2.1, (), x.1.2.2.2.1, x.1.2.2.2.2.1, (IntKind.i64.wrap (x.1.2.2.2.2.2.1 + 1)), ()), ())
    else none
   else none
  else
   some (Sum.inr (Sum.inl ((x.1.1, ()), ())))
abbrev tube_times_l0_seg (k : Nat) : Seg := ⟨⟨1, 32, false, [0], []⟩, 88, [.b, .s2, .s1, .s2, .s2], tube_times_l0_i, tube_times_l0_o, tube_times_l0 k k⟩
theorem tube_times_l0_seg.ok (k : Nat) : SegOK Try.prog (e76 k) (tube_times_l0_seg k) :=
 SegOK.loop (e76.ok k) (by kernel_rfl) (S := tube_times_l0_seg k) (c := atR (codeOf (e76 k) 88) [.l, .b, .s2, .s1, .s2, .s2]) (by kernel_rfl) (tube_times_l0 k) k rfl (fun _ => rfl) 8 (.two .n (.two .n (.two (.two (.two .n (.two .n (.two (.spec 3 .n) .n))) .n) .n))) ⟨trivial, ⟨trivial, ⟨⟨⟨trivial, ⟨trivial, ⟨trivial, trivial⟩⟩⟩, trivial⟩, trivial⟩⟩⟩ (fun k' x => by kernel_rfl)
def tube_times (k : Nat) (x0 : Ty.den T28) (x1 : Ty.den T28) : Option (HL [.bool]) :=
 (tube_May k x0).bind fun r1 =>
 bif r1.1 then
  (tube_May k x1).bind fun r2 =>
  bif r2.1 then
   bif (beqT T23 x0.1 x1.1) then
    bif ((x0.2.2.length : Int) != (x1.2.2.length : Int)) then
     some (false, ())
    else
     (tube_times_l0 k k ((true, x1.2.2, (), x0.2.2, (x0.2.2.length : Int), 0, ()), ())).bind fun q6 =>
     Sum.elim (fun z7 =>
       bif z7.1.1 then
        some (z7.1.2.1, ())
       else
        some (false, ()))
      (fun q6' =>
       Sum.elim (fun z8 =>
         bif z8.1.1 then
          some (true, ())
         else
          some (false, ()))
        (fun q6'' =>
         none) q6') q6
   else
    some (false, ())
  else
   some (false, ())
 else
  some (false, ())
theorem tube_times.ok (k : Nat) : SpecOK Try.prog G0 63 ⟨[T28, T28], [.bool], fun x => tube_times k x.1 x.2.1⟩ :=
 evF_sound (E := (e76 k)) (fn := Try.f63) (e76.ok k) (by kernel_rfl) (by kernel_rfl) (by kernel_rfl) 8 (.two .n (.two .n (.two (.call 19 1 (.two .n (.two .n (.two (.two .n (.two (.use (tube_times_l0_seg k)) .n)) .n))) .n) .n))) ⟨trivial, ⟨trivial, ⟨⟨⟨trivial, ⟨trivial, ⟨⟨trivial, ⟨(tube_times_l0_seg.ok k), trivial⟩⟩, trivial⟩⟩⟩, trivial⟩, trivial⟩⟩⟩ (fun xs => by kernel_rfl)
def e77 (k : Nat) : Env := (e76 k).add 63 ⟨[T28, T28], [.bool], fun x => tube_times k x.1 x.2.1⟩
theorem e77.ok (k : Nat) : (e77 k).OK Try.prog := (e76.ok k).add (tube_times.ok k)
abbrev tube_Meet_l0_i : Mask := ⟨[(0, 2, (.k (.ptr 2 0 0))), (0, 4, (.k (.ptr 4 0 0))), (0, 26, (.v T27)), (0, 27, (.v (.int .i64))), (0, 28, (.v (.int .i64)))], [(2, .cells (.pr (.v T23) (.pr (.v T25) (.k (.arr 22 0))))), (4, .cells (.pr (.v T23) (.pr (.v T25) (.v T27)))), (22, .arr 36 T35)], [], 0⟩
abbrev tube_Meet_l0_o : List Out := [⟨.exit 0, ⟨[(0, 2, (.k (.ptr 2 0 0))), (0, 4, (.k (.ptr 4 0 0)))], [(2, .cells (.pr (.v T23) (.pr (.v T25) (.k (.arr 22 0))))), (4, .cells (.pr (.v T23) (.pr (.v T25) (.v T27)))), (22, .arr 36 T35)], [], 0⟩⟩]
def tube_Meet_l0 (k : Nat) : Nat → Mask.den tube_Meet_l0_i → Option (denS tube_Meet_l0_o)
 | 0, _ => none
 | m + 1, x =>
  bif (decide (x.1.2.2.2.2.1 < x.1.2.2.2.1)) then
   if 0 ≤ x.1.2.2.2.2.1 then (x.1.2.2.1[Int.toNat x.1.2.2.2.2.1]?).bind fun y3 =>
    if 0 ≤ x.1.2.2.2.2.1 then (x.2.2.2.1[Int.toNat x.1.2.2.2.2.1]?).bind fun _ =>
     (x.2.2.2.1[(Int.toNat x.1.2.2.2.2.1)]?).bind fun y5 =>
     (iv_Meet k [y5.2.1, y3.2.1]).bind fun r6 =>
     (x.2.2.2.1[(Int.toNat x.1.2.2.2.2.1)]?).bind fun y7 =>
     (iv_Meet k [y7.2.2, y3.2.2]).bind fun r8 =>
     (x.2.2.2.1[(Int.toNat x.1.2.2.2.2.1)]?).bind fun y9 =>
     ((x.2.2.2.1.set (Int.toNat x.1.2.2.2.2.1) (y9.1, r6.1, y9.2.2))[(Int.toNat x.1.2.2.2.2.1)]?).bind fun y10 =>
     tube_Meet_l0 k m (((), (), x.1.2.2.1, x.1.2.2.2.1, (IntKind.i64.wrap (x.1.2.2.2.2.1 + 1)), ()), ((x.2.1.1, (x.2.1.2.1, ())), (x.2.2.1.1, (x.2.2.1.2.1, x.2.2.1.2.2)), ((x.2.2.2.1.set (Int.toNat x.1.2.2.2.2.1) (y9.1, r6.1, y9.2.2)).set (Int.toNat x.1.2.2.2.2.1) (y10.1, y10.2.1, r8.1)), ()))
    else none
   else none
  else
   some (Sum.inl (((), (), ()), ((x.2.1.1, (x.2.1.2.1, ())), (x.2.2.1.1, (x.2.2.1.2.1, x.2.2.1.2.2)), x.2.2.2.1, ())))
abbrev tube_Meet_l0_seg (k : Nat) : Seg := ⟨⟨0, 62, false, [], []⟩, 28, [.b, .s2, .s1, .s2, .s2, .s2], tube_Meet_l0_i, tube_Meet_l0_o, tube_Meet_l0 k k⟩
theorem tube_Meet_l0_seg.ok (k : Nat) : SegOK Try.prog (e77 k) (tube_Meet_l0_seg k) :=
 SegOK.loop (e77.ok k) (by kernel_rfl) (S := tube_Meet_l0_seg k) (c := atR (codeOf (e77 k) 28) [.l, .b, .s2, .s1, .s2, .s2, .s2]) (by kernel_rfl) (tube_Meet_l0 k) k rfl (fun _ => rfl) 8 .n trivial (fun k' x => by kernel_rfl)
def tube_Meet (k : Nat) (x0 : Ty.den T28) (x1 : Ty.den T28) : Option (HL [T28, (.int .i64)]) :=
 (tube_times k x0 x1).bind fun r1 =>
 bif (!r1.1) then
  some (((0, false, 0, 0), (false, (0, false, 0, 0), 0, false, 0, 0), []), 1, ())
 else
  (iv_Meet k [x0.2.1, x1.2.1]).bind fun r2 =>
  if x0.2.2.length * 176 ≤ 140737488355328 then
   (tube_Meet_l0 k k (((), (), x1.2.2, (x1.2.2.length : Int), 0, ()), ((x0.1, (r2.1, ())), ((0, false, 0, 0), ((false, (0, false, 0, 0), 0, false, 0, 0), [])), x0.2.2, ()))).bind fun q11 =>
   Sum.elim (fun z12 =>
     (tube_Fit k (z12.2.1.1, z12.2.1.2.1, z12.2.2.2.1)).bind fun r13 =>
     some (r13.1, 0, ()))
    (fun q11' =>
     none) q11
  else none
theorem tube_Meet.ok (k : Nat) : SpecOK Try.prog G0 28 ⟨[T28, T28], [T28, (.int .i64)], fun x => tube_Meet k x.1 x.2.1⟩ :=
 evF_sound (E := (e77 k)) (fn := Try.f28) (e77.ok k) (by kernel_rfl) (by kernel_rfl) (by kernel_rfl) 8 (.two .n (.two .n (.two .n (.two (.two .n (.two (.use (tube_Meet_l0_seg k)) .n)) (.two (.own 1 .n) .n))))) ⟨trivial, ⟨trivial, ⟨trivial, ⟨⟨trivial, ⟨(tube_Meet_l0_seg.ok k), trivial⟩⟩, ⟨trivial, trivial⟩⟩⟩⟩⟩ (fun xs => by kernel_rfl)
def e78 (k : Nat) : Env := (e77 k).add 28 ⟨[T28, T28], [T28, (.int .i64)], fun x => tube_Meet k x.1 x.2.1⟩
theorem e78.ok (k : Nat) : (e78 k).OK Try.prog := (e77.ok k).add (tube_Meet.ok k)
abbrev tube_Within_l0_i : Mask := ⟨[(0, 2, (.k (.ptr 2 0 0))), (0, 3, (.k (.ptr 3 0 0))), (0, 16, (.v T27)), (0, 17, (.v (.int .i64))), (0, 18, (.v (.int .i64)))], [(2, .cells (.v T28)), (3, .cells (.v T28))], [], 0⟩
abbrev tube_Within_l0_o : List Out := [⟨.ret, ⟨[(0, 4, (.v .bool))], [], [], 0⟩⟩, ⟨.exit 1, ⟨[(0, 2, (.k (.ptr 2 0 0))), (0, 3, (.k (.ptr 3 0 0)))], [(2, .cells (.v T28)), (3, .cells (.v T28))], [], 0⟩⟩]
def tube_Within_l0 (k : Nat) : Nat → Mask.den tube_Within_l0_i → Option (denS tube_Within_l0_o)
 | 0, _ => none
 | m + 1, x =>
  bif (decide (x.1.2.2.2.2.1 < x.1.2.2.2.1)) then
   if 0 ≤ x.1.2.2.2.2.1 then (x.1.2.2.1[Int.toNat x.1.2.2.2.2.1]?).bind fun y3 =>
    if 0 ≤ x.1.2.2.2.2.1 then (x.2.2.1.2.2[Int.toNat x.1.2.2.2.2.1]?).bind fun y4 =>
     (iv_Within k y3.2.1 y4.2.1).bind fun r5 =>
     bif (!r5.1) then
      some (Sum.inl ((false, ()), ()))
     else
      if 0 ≤ x.1.2.2.2.2.1 then (x.2.2.1.2.2[Int.toNat x.1.2.2.2.2.1]?).bind fun y6 =>
       (iv_Within k y3.2.2 y6.2.2).bind fun r7 =>
       bif (!r7.1) then
        some (Sum.inl ((false, ()), ()))
       else
        tube_Within_l0 k m (((), (), x.1.2.2.1, x.1.2.2.2.1, (IntKind.i64.wrap (x.1.2.2.2.2.1 + 1)), ()), (x.2.1, x.2.2.1, ()))
      else none
    else none
   else none
  else
   some (Sum.inr (Sum.inl (((), (), ()), (x.2.1, x.2.2.1, ()))))
abbrev tube_Within_l0_seg (k : Nat) : Seg := ⟨⟨0, 51, false, [], []⟩, 30, [.b, .s2, .s1, .s2, .s2], tube_Within_l0_i, tube_Within_l0_o, tube_Within_l0 k k⟩
theorem tube_Within_l0_seg.ok (k : Nat) : SegOK Try.prog (e78 k) (tube_Within_l0_seg k) :=
 SegOK.loop (e78.ok k) (by kernel_rfl) (S := tube_Within_l0_seg k) (c := atR (codeOf (e78 k) 30) [.l, .b, .s2, .s1, .s2, .s2]) (by kernel_rfl) (tube_Within_l0 k) k rfl (fun _ => rfl) 8 .n trivial (fun k' x => by kernel_rfl)
def tube_Within (k : Nat) (x0 : Ty.den T28) (x1 : Ty.den T28) : Option (HL [.bool]) :=
 (tube_times k x0 x1).bind fun r1 =>
 bif (!r1.1) then
  some (false, ())
 else
  (tube_Empty k x0).bind fun r2 =>
  bif r2.1 then
   some (true, ())
  else
   (tube_Within_l0 k k (((), (), x0.2.2, (x0.2.2.length : Int), 0, ()), (x0, x1, ()))).bind fun q8 =>
   Sum.elim (fun z9 =>
     some (z9.1.1, ()))
    (fun q8' =>
     Sum.elim (fun z10 =>
       (iv_Within k z10.2.1.2.1 z10.2.2.1.2.1).bind fun r11 =>
       some (r11.1, ()))
      (fun q8'' =>
       none) q8') q8
theorem tube_Within.ok (k : Nat) : SpecOK Try.prog G0 30 ⟨[T28, T28], [.bool], fun x => tube_Within k x.1 x.2.1⟩ :=
 evF_sound (E := (e78 k)) (fn := Try.f30) (e78.ok k) (by kernel_rfl) (by kernel_rfl) (by kernel_rfl) 8 (.two .n (.two .n (.two (.two .n (.two (.use (tube_Within_l0_seg k)) .n)) .n))) ⟨trivial, ⟨trivial, ⟨⟨trivial, ⟨(tube_Within_l0_seg.ok k), trivial⟩⟩, trivial⟩⟩⟩ (fun xs => by kernel_rfl)
def e79 (k : Nat) : Env := (e78 k).add 30 ⟨[T28, T28], [.bool], fun x => tube_Within k x.1 x.2.1⟩
theorem e79.ok (k : Nat) : (e79 k).OK Try.prog := (e78.ok k).add (tube_Within.ok k)
def peloruslaw17_TubeMeets (k : Nat) (x0 : Ty.den T28) (x1 : Ty.den T28) : Option (HL [.bool]) :=
 (peloruslaw17_awake k).bind fun r1 =>
 (peloruslaw17_Few k x0).bind fun r2 =>
 (peloruslaw17_Few k x1).bind fun r3 =>
 bif (!r1.1) then
  some (r1.1, ())
 else
  bif (!r2.1) then
   some (r1.1, ())
  else
   bif (!r3.1) then
    some (r1.1, ())
   else
    (tube_Meet k x0 x1).bind fun r4 =>
    (pelorusref17_Meet k x0 x1).bind fun r5 =>
    (pelorusref17_Same k r4.1 r5.1).bind fun r6 =>
    bif r6.1 then
     bif (r4.2.1 == r5.2.1) then
      (tube_Within k x0 x1).bind fun r7 =>
      (pelorusref17_Within k x0 x1).bind fun r8 =>
      some ((r7.1 == r8.1), ())
     else
      some (false, ())
    else
     some (false, ())
theorem peloruslaw17_TubeMeets.ok (k : Nat) : SpecOK Try.prog G0 5 ⟨[T28, T28], [.bool], fun x => peloruslaw17_TubeMeets k x.1 x.2.1⟩ :=
 evF_sound (E := (e79 k)) (fn := Try.f5) (e79.ok k) (by kernel_rfl) (by kernel_rfl) (by kernel_rfl) 8 .n trivial (fun xs => by kernel_rfl)
def e80 (k : Nat) : Env := (e79 k).add 5 ⟨[T28, T28], [.bool], fun x => peloruslaw17_TubeMeets k x.1 x.2.1⟩
theorem e80.ok (k : Nat) : (e80 k).OK Try.prog := (e79.ok k).add (peloruslaw17_TubeMeets.ok k)
def peloruslaw17_TubeSets (k : Nat) (x0 : Ty.den T28) (x1 : Ty.den (.int .i64)) (x2 : Ty.den T25) : Option (HL [.bool]) :=
 (peloruslaw17_awake k).bind fun r1 =>
 (peloruslaw17_Few k x0).bind fun r2 =>
 bif (!r1.1) then
  some (r1.1, ())
 else
  bif (!r2.1) then
   some (r1.1, ())
  else
   (tube_Set k x0 x1 x2).bind fun r3 =>
   bif (r3.2.1 != 0) then
    some (((r3.1.2.2.length : Int) == 0), ())
   else
    (tube_Gate k r3.1 x1).bind fun r4 =>
    (tube_Within k r3.1 x0).bind fun r5 =>
    bif r5.1 then
     (tube_Gate k x0 x1).bind fun r6 =>
     (iv_Meet k [r6.1, x2]).bind fun r7 =>
     (iv_Within k r4.1 r7.1).bind fun r8 =>
     bif r8.1 then
      (tube_Empty k r3.1).bind fun r9 =>
      bif (!r9.1) then
       some (true, ())
      else
       some (r4.1.1, ())
     else
      some (false, ())
    else
     some (false, ())
theorem peloruslaw17_TubeSets.ok (k : Nat) : SpecOK Try.prog G0 6 ⟨[T28, (.int .i64), T25], [.bool], fun x => peloruslaw17_TubeSets k x.1 x.2.1 x.2.2.1⟩ :=
 evF_sound (E := (e80 k)) (fn := Try.f6) (e80.ok k) (by kernel_rfl) (by kernel_rfl) (by kernel_rfl) 8 .n trivial (fun xs => by kernel_rfl)
def e81 (k : Nat) : Env := (e80 k).add 6 ⟨[T28, (.int .i64), T25], [.bool], fun x => peloruslaw17_TubeSets k x.1 x.2.1 x.2.2.1⟩
theorem e81.ok (k : Nat) : (e81 k).OK Try.prog := (e80.ok k).add (peloruslaw17_TubeSets.ok k)
end
end Go.Proofs.Ytkcaiodemoalbaa.Rf
