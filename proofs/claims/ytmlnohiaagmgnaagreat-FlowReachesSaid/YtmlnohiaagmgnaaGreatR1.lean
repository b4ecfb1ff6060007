/- What each function of the program answers upon plain values, and that it does (part 1). No condition. -/
import Derived.Test.YtmlnohiaagmgnaaGreatProg
import Derived.Test.YtmlnohiaagmgnaaGreatE3
import Derived.KernelRfl
namespace Go.Proofs.YtmlnohiaagmgnaaGreat.Rf
open Go Go.Proofs Go.Proofs.YtmlnohiaagmgnaaGreat
set_option linter.unusedVariables false
set_option linter.unusedSimpArgs false
set_option maxRecDepth 100000
noncomputable section
abbrev T7 : Ty := (.pair (.int .i64) (.pair (.int .i64) (.pair .bool (.int .u8))))
abbrev T23 : Ty := (.pair (.int .i64) (.pair .bool (.pair (.int .u64) (.int .i64))))
abbrev T25 : Ty := (.pair .bool (.pair T23 T23))
abbrev T40 : Ty := (.pair T23 (.pair T25 T25))
abbrev T27 : Ty := (.list T40)
abbrev T28 : Ty := (.pair T23 (.pair T25 T27))
abbrev T30 : Ty := (.list T25)
abbrev T39 : Ty := (.list T23)
abbrev T76 : Ty := (.pair T23 T25)
abbrev T93 : Ty := (.list (.int .u32))
abbrev T94 : Ty := (.pair .bool T93)
abbrev T96 : Ty := (.pair T94 (.int .i64))
abbrev T108 : Ty := (.pair (.int .u64) (.pair (.int .u64) .bool))
def bytes0 : ByteArray := ⟨#[0, 1, 2, 2, 3, 3, 3, 3, 4, 4, 4, 4, 4, 4, 4, 4, 5, 5, 5, 5, 5, 5, 5, 5, 5, 5, 5, 5, 5, 5, 5, 5, 6, 6, 6, 6, 6, 6, 6, 6, 6, 6, 6, 6, 6, 6, 6, 6, 6, 6, 6, 6, 6, 6, 6, 6, 6, 6, 6, 6, 6, 6, 6, 6, 7, 7, 7, 7, 7, 7, 7, 7, 7, 7, 7, 7, 7, 7, 7, 7, 7, 7, 7, 7, 7, 7, 7, 7, 7, 7, 7, 7, 7, 7, 7, 7, 7, 7, 7, 7, 7, 7, 7, 7, 7, 7, 7, 7, 7, 7, 7, 7, 7, 7, 7, 7, 7, 7, 7, 7, 7, 7, 7, 7, 7, 7, 7, 7, 8, 8, 8, 8, 8, 8, 8, 8, 8, 8, 8, 8, 8, 8, 8, 8, 8, 8, 8, 8, 8, 8, 8, 8, 8, 8, 8, 8, 8, 8, 8, 8, 8, 8, 8, 8, 8, 8, 8, 8, 8, 8, 8, 8, 8, 8, 8, 8, 8, 8, 8, 8, 8, 8, 8, 8, 8, 8, 8, 8, 8, 8, 8, 8, 8, 8, 8, 8, 8, 8, 8, 8, 8, 8, 8, 8, 8, 8, 8, 8, 8, 8, 8, 8, 8, 8, 8, 8, 8, 8, 8, 8, 8, 8, 8, 8, 8, 8, 8, 8, 8, 8, 8, 8, 8, 8, 8, 8, 8, 8, 8, 8, 8, 8, 8, 8, 8, 8, 8, 8, 8, 8, 8, 8, 8, 8, 8, 8]⟩
def tabs : Tables where
  ty := [(2, (.int .i64)), (3, (.int .i64)), (4, .bool), (5, (.int .u8)), (6, (.int .u8)), (7, T7), (8, T7), (12, (.int .u64)), (21, (.int .i32)), (22, (.int .u64)), (23, T23), (24, T23), (25, T25), (26, T25), (27, T27), (28, T28), (29, T28), (30, T30), (33, (.int .i64)), (39, T39), (40, T40), (41, T40), (76, T76), (77, T76), (93, T93), (94, T94), (95, T94), (96, T96), (97, T96), (102, (.int .u64)), (108, T108), (109, T108), (120, (.int .u32)), (138, (.int .u8)), (139, (.int .u8)), (142, (.int .i32)), (143, (.int .i32))]
  lay := [(54, 1, false, Value.pointer none), (55, 1, false, Value.pointer none), (64, 1, false, Value.nilFunc)]
  el := [(27, 41, 176), (30, 26, 72), (39, 24, 32), (93, 120, 4)]
  eq := [7, 8, 23, 24, 25, 26, 40, 41, 76, 77, 108, 109]
  str := [9, 10, 11]
  pt := []
  fld := [(7, [(0, 0, 2), (1, 1, 3), (2, 2, 4), (3, 3, 6)]), (8, [(0, 0, 2), (1, 1, 3), (2, 2, 4), (3, 3, 6)]), (23, [(0, 0, 3), (1, 1, 4), (2, 2, 22), (3, 3, 3)]), (24, [(0, 0, 3), (1, 1, 4), (2, 2, 22), (3, 3, 3)]), (25, [(0, 0, 4), (1, 1, 24), (2, 5, 24)]), (26, [(0, 0, 4), (1, 1, 24), (2, 5, 24)]), (28, [(0, 0, 24), (1, 4, 26), (2, 13, 27)]), (29, [(0, 0, 24), (1, 4, 26), (2, 13, 27)]), (40, [(0, 0, 24), (1, 4, 26), (2, 13, 26)]), (41, [(0, 0, 24), (1, 4, 26), (2, 13, 26)]), (57, [(0, 0, 55), (1, 1, 55), (2, 2, 55), (3, 3, 26), (4, 12, 26)]), (76, [(0, 0, 24), (1, 4, 26)]), (77, [(0, 0, 24), (1, 4, 26)]), (94, [(0, 0, 4), (1, 1, 93)]), (95, [(0, 0, 4), (1, 1, 93)]), (96, [(0, 0, 95), (1, 2, 3)]), (97, [(0, 0, 95), (1, 2, 3)]), (108, [(0, 0, 22), (1, 1, 22), (2, 2, 4)]), (109, [(0, 0, 22), (1, 1, 22), (2, 2, 4)])]
  arr := []
  st := [(57, (.pr (.cst (Value.pointer none)) (.pr (.cst (Value.pointer none)) (.pr (.cst (Value.pointer none)) (.pr (.plain T25) (.plain T25))))))]
def fnL : List (Nat × Func) := [(36, Tryz.f36), (51, Tryz.f51), (86, Tryz.f86), (87, Tryz.f87), (88, Tryz.f88), (52, Tryz.f52), (53, Tryz.f53), (18, Tryz.f18), (54, Tryz.f54), (19, Tryz.f19), (55, Tryz.f55), (20, Tryz.f20), (56, Tryz.f56), (57, Tryz.f57), (103, Tryz.f103), (91, Tryz.f91), (58, Tryz.f58), (59, Tryz.f59), (21, Tryz.f21), (22, Tryz.f22), (80, Tryz.f80), (81, Tryz.f81), (38, Tryz.f38), (62, Tryz.f62), (63, Tryz.f63), (64, Tryz.f64), (23, Tryz.f23), (65, Tryz.f65), (94, Tryz.f94), (128, Tryz.f128), (129, Tryz.f129), (121, Tryz.f121), (106, Tryz.f106), (107, Tryz.f107), (95, Tryz.f95), (85, Tryz.f85), (50, Tryz.f50), (96, Tryz.f96), (66, Tryz.f66), (24, Tryz.f24), (67, Tryz.f67), (25, Tryz.f25), (7, Tryz.f7), (44, Tryz.f44), (84, Tryz.f84), (45, Tryz.f45), (46, Tryz.f46), (12, Tryz.f12), (14, Tryz.f14), (15, Tryz.f15), (5, Tryz.f5), (16, Tryz.f16), (6, Tryz.f6), (40, Tryz.f40), (70, Tryz.f70), (97, Tryz.f97), (98, Tryz.f98), (69, Tryz.f69), (71, Tryz.f71), (27, Tryz.f27), (68, Tryz.f68), (26, Tryz.f26), (41, Tryz.f41), (74, Tryz.f74), (82, Tryz.f82), (42, Tryz.f42), (123, Tryz.f123), (111, Tryz.f111), (113, Tryz.f113), (126, Tryz.f126), (118, Tryz.f118), (132, Tryz.f132), (127, Tryz.f127), (130, Tryz.f130), (131, Tryz.f131), (125, Tryz.f125), (117, Tryz.f117), (122, Tryz.f122), (110, Tryz.f110), (112, Tryz.f112), (99, Tryz.f99), (114, Tryz.f114), (115, Tryz.f115), (124, Tryz.f124), (116, Tryz.f116), (100, Tryz.f100), (119, Tryz.f119), (101, Tryz.f101), (77, Tryz.f77), (83, Tryz.f83), (43, Tryz.f43), (11, Tryz.f11), (75, Tryz.f75), (76, Tryz.f76), (31, Tryz.f31), (72, Tryz.f72), (73, Tryz.f73), (28, Tryz.f28), (29, Tryz.f29), (30, Tryz.f30), (32, Tryz.f32), (120, Tryz.f120), (102, Tryz.f102), (78, Tryz.f78), (33, Tryz.f33), (34, Tryz.f34), (79, Tryz.f79), (35, Tryz.f35), (8, Tryz.f8), (9, Tryz.f9), (37, Tryz.f37), (39, Tryz.f39), (10, Tryz.f10), (3, Tryz.f3), (47, Tryz.f47), (48, Tryz.f48), (49, Tryz.f49), (13, Tryz.f13), (4, Tryz.f4), (17, Tryz.f17), (60, Tryz.f60), (89, Tryz.f89), (90, Tryz.f90), (61, Tryz.f61), (92, Tryz.f92), (93, Tryz.f93), (104, Tryz.f104), (105, Tryz.f105)]
theorem fnL.ok : FnsOK Tryz.prog fnL := ⟨⟨Tryz.func36, by kernel_rfl⟩, ⟨Tryz.func51, by kernel_rfl⟩, ⟨Tryz.func86, by kernel_rfl⟩, ⟨Tryz.func87, by kernel_rfl⟩, ⟨Tryz.func88, by kernel_rfl⟩, ⟨Tryz.func52, by kernel_rfl⟩, ⟨Tryz.func53, by kernel_rfl⟩, ⟨Tryz.func18, by kernel_rfl⟩, ⟨Tryz.func54, by kernel_rfl⟩, ⟨Tryz.func19, by kernel_rfl⟩, ⟨Tryz.func55, by kernel_rfl⟩, ⟨Tryz.func20, by kernel_rfl⟩, ⟨Tryz.func56, by kernel_rfl⟩, ⟨Tryz.func57, by kernel_rfl⟩, ⟨Tryz.func103, by kernel_rfl⟩, ⟨Tryz.func91, by kernel_rfl⟩, ⟨Tryz.func58, by kernel_rfl⟩, ⟨Tryz.func59, by kernel_rfl⟩, ⟨Tryz.func21, by kernel_rfl⟩, ⟨Tryz.func22, by kernel_rfl⟩, ⟨Tryz.func80, by kernel_rfl⟩, ⟨Tryz.func81, by kernel_rfl⟩, ⟨Tryz.func38, by kernel_rfl⟩, ⟨Tryz.func62, by kernel_rfl⟩, ⟨Tryz.func63, by kernel_rfl⟩, ⟨Tryz.func64, by kernel_rfl⟩, ⟨Tryz.func23, by kernel_rfl⟩, ⟨Tryz.func65, by kernel_rfl⟩, ⟨Tryz.func94, by kernel_rfl⟩, ⟨Tryz.func128, by kernel_rfl⟩, ⟨Tryz.func129, by kernel_rfl⟩, ⟨Tryz.func121, by kernel_rfl⟩, ⟨Tryz.func106, by kernel_rfl⟩, ⟨Tryz.func107, by kernel_rfl⟩, ⟨Tryz.func95, by kernel_rfl⟩, ⟨Tryz.func85, by kernel_rfl⟩, ⟨Tryz.func50, by kernel_rfl⟩, ⟨Tryz.func96, by kernel_rfl⟩, ⟨Tryz.func66, by kernel_rfl⟩, ⟨Tryz.func24, by kernel_rfl⟩, ⟨Tryz.func67, by kernel_rfl⟩, ⟨Tryz.func25, by kernel_rfl⟩, ⟨Tryz.func7, by kernel_rfl⟩, ⟨Tryz.func44, by kernel_rfl⟩, ⟨Tryz.func84, by kernel_rfl⟩, ⟨Tryz.func45, by kernel_rfl⟩, ⟨Tryz.func46, by kernel_rfl⟩, ⟨Tryz.func12, by kernel_rfl⟩, ⟨Tryz.func14, by kernel_rfl⟩, ⟨Tryz.func15, by kernel_rfl⟩, ⟨Tryz.func5, by kernel_rfl⟩, ⟨Tryz.func16, by kernel_rfl⟩, ⟨Tryz.func6, by kernel_rfl⟩, ⟨Tryz.func40, by kernel_rfl⟩, ⟨Tryz.func70, by kernel_rfl⟩, ⟨Tryz.func97, by kernel_rfl⟩, ⟨Tryz.func98, by kernel_rfl⟩, ⟨Tryz.func69, by kernel_rfl⟩, ⟨Tryz.func71, by kernel_rfl⟩, ⟨Tryz.func27, by kernel_rfl⟩, ⟨Tryz.func68, by kernel_rfl⟩, ⟨Tryz.func26, by kernel_rfl⟩, ⟨Tryz.func41, by kernel_rfl⟩, ⟨Tryz.func74, by kernel_rfl⟩, ⟨Tryz.func82, by kernel_rfl⟩, ⟨Tryz.func42, by kernel_rfl⟩, ⟨Tryz.func123, by kernel_rfl⟩, ⟨Tryz.func111, by kernel_rfl⟩, ⟨Tryz.func113, by kernel_rfl⟩, ⟨Tryz.func126, by kernel_rfl⟩, ⟨Tryz.func118, by kernel_rfl⟩, ⟨Tryz.func132, by kernel_rfl⟩, ⟨Tryz.func127, by kernel_rfl⟩, ⟨Tryz.func130, by kernel_rfl⟩, ⟨Tryz.func131, by kernel_rfl⟩, ⟨Tryz.func125, by kernel_rfl⟩, ⟨Tryz.func117, by kernel_rfl⟩, ⟨Tryz.func122, by kernel_rfl⟩, ⟨Tryz.func110, by kernel_rfl⟩, ⟨Tryz.func112, by kernel_rfl⟩, ⟨Tryz.func99, by kernel_rfl⟩, ⟨Tryz.func114, by kernel_rfl⟩, ⟨Tryz.func115, by kernel_rfl⟩, ⟨Tryz.func124, by kernel_rfl⟩, ⟨Tryz.func116, by kernel_rfl⟩, ⟨Tryz.func100, by kernel_rfl⟩, ⟨Tryz.func119, by kernel_rfl⟩, ⟨Tryz.func101, by kernel_rfl⟩, ⟨Tryz.func77, by kernel_rfl⟩, ⟨Tryz.func83, by kernel_rfl⟩, ⟨Tryz.func43, by kernel_rfl⟩, ⟨Tryz.func11, by kernel_rfl⟩, ⟨Tryz.func75, by kernel_rfl⟩, ⟨Tryz.func76, by kernel_rfl⟩, ⟨Tryz.func31, by kernel_rfl⟩, ⟨Tryz.func72, by kernel_rfl⟩, ⟨Tryz.func73, by kernel_rfl⟩, ⟨Tryz.func28, by kernel_rfl⟩, ⟨Tryz.func29, by kernel_rfl⟩, ⟨Tryz.func30, by kernel_rfl⟩, ⟨Tryz.func32, by kernel_rfl⟩, ⟨Tryz.func120, by kernel_rfl⟩, ⟨Tryz.func102, by kernel_rfl⟩, ⟨Tryz.func78, by kernel_rfl⟩, ⟨Tryz.func33, by kernel_rfl⟩, ⟨Tryz.func34, by kernel_rfl⟩, ⟨Tryz.func79, by kernel_rfl⟩, ⟨Tryz.func35, by kernel_rfl⟩, ⟨Tryz.func8, by kernel_rfl⟩, ⟨Tryz.func9, by kernel_rfl⟩, ⟨Tryz.func37, by kernel_rfl⟩, ⟨Tryz.func39, by kernel_rfl⟩, ⟨Tryz.func10, by kernel_rfl⟩, ⟨Tryz.func3, by kernel_rfl⟩, ⟨Tryz.func47, by kernel_rfl⟩, ⟨Tryz.func48, by kernel_rfl⟩, ⟨Tryz.func49, by kernel_rfl⟩, ⟨Tryz.func13, by kernel_rfl⟩, ⟨Tryz.func4, by kernel_rfl⟩, ⟨Tryz.func17, by kernel_rfl⟩, ⟨Tryz.func60, by kernel_rfl⟩, ⟨Tryz.func89, by kernel_rfl⟩, ⟨Tryz.func90, by kernel_rfl⟩, ⟨Tryz.func61, by kernel_rfl⟩, ⟨Tryz.func92, by kernel_rfl⟩, ⟨Tryz.func93, by kernel_rfl⟩, ⟨Tryz.func104, by kernel_rfl⟩, ⟨Tryz.func105, by kernel_rfl⟩, trivial⟩
def clL : List (Nat × TypeId) := [(56, 27)]
theorem clL.ok : ClsOK Tryz.prog clL := ⟨clone_ok (tb := 4) Tryz.func56 (by kernel_rfl) (by kernel_rfl) (by kernel_rfl) (by kernel_rfl), trivial⟩
abbrev G0 : World → Prop := fun _ => True
def xtL : List (Nat × Spec) := [(108, ⟨[(.int .u64), (.int .u64), (.int .u64)], [(.int .u64), (.int .u64)], add64F⟩), (109, ⟨[(.int .u64), (.int .u64), (.int .u64)], [(.int .u64), (.int .u64)], sub64F⟩)]
theorem xtL.ok : XtsOK Tryz.prog xtL := ⟨add64_ok Tryz.func108 (by kernel_rfl) (by kernel_rfl) (by kernel_rfl) (by kernel_rfl), sub64_ok Tryz.func109 (by kernel_rfl) (by kernel_rfl) (by kernel_rfl) (by kernel_rfl), trivial⟩
def e0 (_k : Nat) : Env := baseE G0 tabs fnL clL xtL
theorem e0.ok (k : Nat) : (e0 k).OK Tryz.prog := Env.OK.base (by kernel_rfl) fnL.ok clL.ok xtL.ok
def iv_None (k : Nat) : Option (HL [T25]) :=
 some ((true, (0, false, 0, 0), 0, false, 0, 0), ())
theorem iv_None.ok (k : Nat) : SpecOK Tryz.prog G0 36 ⟨[], [T25], fun x => iv_None k⟩ :=
 evF_sound (E := (e0 k)) (fn := Tryz.f36) (e0.ok k) (by kernel_rfl) (by kernel_rfl) (by kernel_rfl) 8 .n trivial (fun xs => by kernel_rfl)
def e1 (k : Nat) : Env := (e0 k).add 36 ⟨[], [T25], fun x => iv_None k⟩
theorem e1.ok (k : Nat) : (e1 k).OK Tryz.prog := (e0.ok k).add (iv_None.ok k)
def num_May (k : Nat) (x0 : Ty.den T23) : Option (HL [.bool]) :=
 bif (x0.1 == 0) then
  some ((beqT T23 x0 (0, false, 0, 0)), ())
 else
  bif (x0.1 == 1) then
   bif (decide (x0.2.2.1 ≥ 9223372036854775808)) then
    bif (decide (x0.2.2.2 ≥ (-1048576))) then
     some ((decide (x0.2.2.2 ≤ 1048576)), ())
    else
     some (false, ())
   else
    some (false, ())
  else
   bif (x0.1 == 2) then
    bif (x0.2.2.1 == 0) then
     some ((x0.2.2.2 == 0), ())
    else
     some (false, ())
   else
    some (false, ())
theorem num_May.ok (k : Nat) : SpecOK Tryz.prog G0 51 ⟨[T23], [.bool], fun x => num_May k x.1⟩ :=
 evF_sound (E := (e1 k)) (fn := Tryz.f51) (e1.ok k) (by kernel_rfl) (by kernel_rfl) (by kernel_rfl) 8 .n trivial (fun xs => by kernel_rfl)
def e2 (k : Nat) : Env := (e1 k).add 51 ⟨[T23], [.bool], fun x => num_May k x.1⟩
theorem e2.ok (k : Nat) : (e2 k).OK Tryz.prog := (e1.ok k).add (num_May.ok k)
def num_fair (k : Nat) (x0 : Ty.den T23) : Option (HL [T23]) :=
 (num_May k x0).bind fun r1 =>
 bif (!r1.1) then
  some ((0, false, 0, 0), ())
 else
  some (x0, ())
theorem num_fair.ok (k : Nat) : SpecOK Tryz.prog G0 86 ⟨[T23], [T23], fun x => num_fair k x.1⟩ :=
 evF_sound (E := (e2 k)) (fn := Tryz.f86) (e2.ok k) (by kernel_rfl) (by kernel_rfl) (by kernel_rfl) 8 .n trivial (fun xs => by kernel_rfl)
def e3 (k : Nat) : Env := (e2 k).add 86 ⟨[T23], [T23], fun x => num_fair k x.1⟩
theorem e3.ok (k : Nat) : (e3 k).OK Tryz.prog := (e2.ok k).add (num_fair.ok k)
def num_Sign (k : Nat) (x0 : Ty.den T23) : Option (HL [(.int .i64)]) :=
 (num_fair k x0).bind fun r1 =>
 bif (r1.1.1 == 0) then
  some (0, ())
 else
  bif r1.1.2.1 then
   some ((-1), ())
  else
   some (1, ())
theorem num_Sign.ok (k : Nat) : SpecOK Tryz.prog G0 87 ⟨[T23], [(.int .i64)], fun x => num_Sign k x.1⟩ :=
 evF_sound (E := (e3 k)) (fn := Tryz.f87) (e3.ok k) (by kernel_rfl) (by kernel_rfl) (by kernel_rfl) 8 .n trivial (fun xs => by kernel_rfl)
def e4 (k : Nat) : Env := (e3 k).add 87 ⟨[T23], [(.int .i64)], fun x => num_Sign k x.1⟩
theorem e4.ok (k : Nat) : (e4 k).OK Tryz.prog := (e3.ok k).add (num_Sign.ok k)
def num_farther (k : Nat) (x0 : Ty.den T23) (x1 : Ty.den T23) : Option (HL [.bool]) :=
 bif (x0.1 != x1.1) then
  some ((decide (x0.1 > x1.1)), ())
 else
  bif (x0.2.2.2 != x1.2.2.2) then
   some ((decide (x0.2.2.2 > x1.2.2.2)), ())
  else
   some ((decide (x0.2.2.1 > x1.2.2.1)), ())
theorem num_farther.ok (k : Nat) : SpecOK Tryz.prog G0 88 ⟨[T23, T23], [.bool], fun x => num_farther k x.1 x.2.1⟩ :=
 evF_sound (E := (e4 k)) (fn := Tryz.f88) (e4.ok k) (by kernel_rfl) (by kernel_rfl) (by kernel_rfl) 8 .n trivial (fun xs => by kernel_rfl)
def e5 (k : Nat) : Env := (e4 k).add 88 ⟨[T23, T23], [.bool], fun x => num_farther k x.1 x.2.1⟩
theorem e5.ok (k : Nat) : (e5 k).OK Tryz.prog := (e4.ok k).add (num_farther.ok k)
def num_Cmp (k : Nat) (x0 : Ty.den T23) (x1 : Ty.den T23) : Option (HL [(.int .i64)]) :=
 (num_fair k x0).bind fun r1 =>
 (num_fair k x1).bind fun r2 =>
 (num_Sign k r1.1).bind fun r3 =>
 (num_Sign k r2.1).bind fun r4 =>
 bif (decide (r3.1 < r4.1)) then
  some ((-1), ())
 else
  bif (decide (r3.1 > r4.1)) then
   some (1, ())
  else
   (num_farther k r1.1 r2.1).bind fun r5 =>
   bif r5.1 then
    some (r3.1, ())
   else
    (num_farther k r2.1 r1.1).bind fun r6 =>
    bif r6.1 then
     some ((IntKind.i64.wrap (0 - r3.1)), ())
    else
     some (0, ())
theorem num_Cmp.ok (k : Nat) : SpecOK Tryz.prog G0 52 ⟨[T23, T23], [(.int .i64)], fun x => num_Cmp k x.1 x.2.1⟩ :=
 evF_sound (E := (e5 k)) (fn := Tryz.f52) (e5.ok k) (by kernel_rfl) (by kernel_rfl) (by kernel_rfl) 8 .n trivial (fun xs => by kernel_rfl)
def e6 (k : Nat) : Env := (e5 k).add 52 ⟨[T23, T23], [(.int .i64)], fun x => num_Cmp k x.1 x.2.1⟩
theorem e6.ok (k : Nat) : (e6 k).OK Tryz.prog := (e5.ok k).add (num_Cmp.ok k)
def num_Infinite (k : Nat) (x0 : Ty.den .bool) : Option (HL [T23]) :=
 some ((2, x0, 0, 0), ())
theorem num_Infinite.ok (k : Nat) : SpecOK Tryz.prog G0 53 ⟨[.bool], [T23], fun x => num_Infinite k x.1⟩ :=
 evF_sound (E := (e6 k)) (fn := Tryz.f53) (e6.ok k) (by kernel_rfl) (by kernel_rfl) (by kernel_rfl) 8 .n trivial (fun xs => by kernel_rfl)
def e7 (k : Nat) : Env := (e6 k).add 53 ⟨[.bool], [T23], fun x => num_Infinite k x.1⟩
theorem e7.ok (k : Nat) : (e7 k).OK Tryz.prog := (e6.ok k).add (num_Infinite.ok k)
def iv_May (k : Nat) (x0 : Ty.den T25) : Option (HL [.bool]) :=
 bif x0.1 then
  (iv_None k).bind fun r1 =>
  some ((beqT T25 x0 r1.1), ())
 else
  (num_May k x0.2.1).bind fun r2 =>
  bif r2.1 then
   (num_May k x0.2.2).bind fun r3 =>
   bif r3.1 then
    (num_Cmp k x0.2.1 x0.2.2).bind fun r4 =>
    bif (decide (r4.1 ≤ 0)) then
     (num_Infinite k false).bind fun r5 =>
     bif (!(beqT T23 x0.2.1 r5.1)) then
      (num_Infinite k true).bind fun r6 =>
      some ((!(beqT T23 x0.2.2 r6.1)), ())
     else
      some (false, ())
    else
     some (false, ())
   else
    some (false, ())
  else
   some (false, ())
theorem iv_May.ok (k : Nat) : SpecOK Tryz.prog G0 18 ⟨[T25], [.bool], fun x => iv_May k x.1⟩ :=
 evF_sound (E := (e7 k)) (fn := Tryz.f18) (e7.ok k) (by kernel_rfl) (by kernel_rfl) (by kernel_rfl) 8 .n trivial (fun xs => by kernel_rfl)
def e8 (k : Nat) : Env := (e7 k).add 18 ⟨[T25], [.bool], fun x => iv_May k x.1⟩
theorem e8.ok (k : Nat) : (e8 k).OK Tryz.prog := (e7.ok k).add (iv_May.ok k)
def tube_finite (k : Nat) (x0 : Ty.den T23) : Option (HL [.bool]) :=
 (num_May k x0).bind fun r1 =>
 bif r1.1 then
  some ((x0.1 != 2), ())
 else
  some (false, ())
theorem tube_finite.ok (k : Nat) : SpecOK Tryz.prog G0 54 ⟨[T23], [.bool], fun x => tube_finite k x.1⟩ :=
 evF_sound (E := (e8 k)) (fn := Tryz.f54) (e8.ok k) (by kernel_rfl) (by kernel_rfl) (by kernel_rfl) 8 .n trivial (fun xs => by kernel_rfl)
def e9 (k : Nat) : Env := (e8 k).add 54 ⟨[T23], [.bool], fun x => tube_finite k x.1⟩
theorem e9.ok (k : Nat) : (e9 k).OK Tryz.prog := (e8.ok k).add (tube_finite.ok k)
abbrev tube_May_l0_i : Mask := ⟨[(0, 3, (.k (.ptr 3 0 0))), (0, 25, (.v T27)), (0, 26, (.v (.int .i64))), (0, 27, (.v (.int .i64)))], [(3, .cells (.v T23))], [], 0⟩
abbrev tube_May_l0_o : List Out := [⟨.ret, ⟨[(0, 2, (.v .bool))], [], [], 0⟩⟩, ⟨.exit 0, ⟨[], [], [], 0⟩⟩]
def tube_May_l0 (k : Nat) : Nat → Mask.den tube_May_l0_i → Option (denS tube_May_l0_o)
 | 0, _ => none
 | m + 1, x =>
  bif (decide (x.1.2.2.2.1 < x.1.2.2.1)) then
   if 0 ≤ x.1.2.2.2.1 then (x.1.2.1[Int.toNat x.1.2.2.2.1]?).bind fun y3 =>
    (tube_finite k y3.1).bind fun r4 =>
    bif (!r4.1) then
     some (Sum.inl ((false, ()), ()))
    else
     (num_Cmp k y3.1 x.2.1).bind fun r5 =>
     bif (decide (r5.1 ≤ 0)) then
      some (Sum.inl ((false, ()), ()))
     else
      (iv_May k y3.2.1).bind fun r6 =>
      bif (!r6.1) then
       some (Sum.inl ((false, ()), ()))
      else
       (iv_May k y3.2.2).bind fun r7 =>
       bif (!r7.1) then
        some (Sum.inl ((false, ()), ()))
       else
        tube_May_l0 k m (((), x.1.2.1, x.1.2.2.1, (IntKind.i64.wrap (x.1.2.2.2.1 + 1)), ()), (y3.1, ()))
   else none
  else
   some (Sum.inr (Sum.inl ((), ())))
abbrev tube_May_l0_seg (k : Nat) : Seg := ⟨⟨0, 57, false, [], []⟩, 19, [.b, .s2, .s1, .s2, .s2, .s2], tube_May_l0_i, tube_May_l0_o, tube_May_l0 k k⟩
theorem tube_May_l0_seg.ok (k : Nat) : SegOK Tryz.prog (e9 k) (tube_May_l0_seg k) :=
 SegOK.loop (e9.ok k) (by kernel_rfl) (S := tube_May_l0_seg k) (c := atR (codeOf (e9 k) 19) [.l, .b, .s2, .s1, .s2, .s2, .s2]) (by kernel_rfl) (tube_May_l0 k) k rfl (fun _ => rfl) 8 .n trivial (fun k' x => by kernel_rfl)
def tube_May (k : Nat) (x0 : Ty.den T28) : Option (HL [.bool]) :=
 (tube_finite k x0.1).bind fun r1 =>
 bif (!r1.1) then
  some (false, ())
 else
  (iv_May k x0.2.1).bind fun r2 =>
  bif (!r2.1) then
   some (false, ())
  else
   bif (decide ((x0.2.2.length : Int) > 64)) then
    some (false, ())
   else
    (tube_May_l0 k k (((), x0.2.2, (x0.2.2.length : Int), 0, ()), (x0.1, ()))).bind fun q8 =>
    Sum.elim (fun z9 =>
      some (z9.1.1, ()))
     (fun q8' =>
      Sum.elim (fun z10 =>
        some (true, ()))
       (fun q8'' =>
        none) q8') q8
theorem tube_May.ok (k : Nat) : SpecOK Tryz.prog G0 19 ⟨[T28], [.bool], fun x => tube_May k x.1⟩ :=
 evF_sound (E := (e9 k)) (fn := Tryz.f19) (e9.ok k) (by kernel_rfl) (by kernel_rfl) (by kernel_rfl) 8 (.two .n (.two .n (.two .n (.two (.two .n (.two (.use (tube_May_l0_seg k)) .n)) .n)))) ⟨trivial, ⟨trivial, ⟨trivial, ⟨⟨trivial, ⟨(tube_May_l0_seg.ok k), trivial⟩⟩, trivial⟩⟩⟩⟩ (fun xs => by kernel_rfl)
def e10 (k : Nat) : Env := (e9 k).add 19 ⟨[T28], [.bool], fun x => tube_May k x.1⟩
theorem e10.ok (k : Nat) : (e10 k).OK Tryz.prog := (e9.ok k).add (tube_May.ok k)
abbrev tube_void_l0_i : Mask := ⟨[(0, 1, (.k (.ptr 1 0 0))), (0, 2, (.k (.ptr 2 0 0))), (0, 3, (.k (.ptr 3 0 0))), (0, 14, (.v (.int .i64))), (0, 15, (.v (.int .i64)))], [(1, .cells (.pr (.v T23) (.pr (.v T25) (.k (.arr 10 0))))), (2, .cells (.pr (.v T23) (.pr (.v T25) (.v T27)))), (3, .cells (.v T25)), (10, .arr 41 T40)], [], 0⟩
abbrev tube_void_l0_o : List Out := [⟨.exit 0, ⟨[(0, 1, (.k (.ptr 1 0 0))), (0, 2, (.k (.ptr 2 0 0)))], [(1, .cells (.pr (.v T23) (.pr (.v T25) (.k (.arr 10 0))))), (2, .cells (.pr (.v T23) (.pr (.v T25) (.v T27)))), (10, .arr 41 T40)], [], 0⟩⟩]
def tube_void_l0 (k : Nat) : Nat → Mask.den tube_void_l0_i → Option (denS tube_void_l0_o)
 | 0, _ => none
 | m + 1, x =>
  bif (decide (x.1.2.2.2.2.1 < x.1.2.2.2.1)) then
   if 0 ≤ x.1.2.2.2.2.1 then (x.2.2.2.2.1[Int.toNat x.1.2.2.2.2.1]?).bind fun _ =>
    (x.2.2.2.2.1[(Int.toNat x.1.2.2.2.2.1)]?).bind fun y3 =>
    if 0 ≤ x.1.2.2.2.2.1 then ((x.2.2.2.2.1.set (Int.toNat x.1.2.2.2.2.1) (y3.1, x.2.2.2.1, y3.2.2))[Int.toNat x.1.2.2.2.2.1]?).bind fun _ =>
     ((x.2.2.2.2.1.set (Int.toNat x.1.2.2.2.2.1) (y3.1, x.2.2.2.1, y3.2.2))[(Int.toNat x.1.2.2.2.2.1)]?).bind fun y5 =>
     tube_void_l0 k m (((), (), (), x.1.2.2.2.1, (IntKind.i64.wrap (x.1.2.2.2.2.1 + 1)), ()), ((x.2.1.1, (x.2.1.2.1, ())), (x.2.2.1.1, (x.2.2.1.2.1, x.2.2.1.2.2)), x.2.2.2.1, ((x.2.2.2.2.1.set (Int.toNat x.1.2.2.2.2.1) (y3.1, x.2.2.2.1, y3.2.2)).set (Int.toNat x.1.2.2.2.2.1) (y5.1, y5.2.1, x.2.2.2.1)), ()))
    else none
   else none
  else
   some (Sum.inl (((), (), ()), ((x.2.1.1, (x.2.1.2.1, ())), (x.2.2.1.1, (x.2.2.1.2.1, x.2.2.1.2.2)), x.2.2.2.2.1, ())))
abbrev tube_void_l0_seg (k : Nat) : Seg := ⟨⟨0, 32, false, [], []⟩, 59, [.b, .s2, .s1, .s2, .s2, .s2, .s2], tube_void_l0_i, tube_void_l0_o, tube_void_l0 k k⟩
theorem tube_void_l0_seg.ok (k : Nat) : SegOK Tryz.prog (e10 k) (tube_void_l0_seg k) :=
 SegOK.loop (e10.ok k) (by kernel_rfl) (S := tube_void_l0_seg k) (c := atR (codeOf (e10 k) 59) [.l, .b, .s2, .s1, .s2, .s2, .s2, .s2]) (by kernel_rfl) (tube_void_l0 k) k rfl (fun _ => rfl) 8 .n trivial (fun k' x => by kernel_rfl)
def tube_void (k : Nat) (x0 : Ty.den T28) : Option (HL [T28]) :=
 (iv_None k).bind fun r1 =>
 if x0.2.2.length * 176 ≤ 140737488355328 then
  (tube_void_l0 k k (((), (), (), (x0.2.2.length : Int), 0, ()), ((x0.1, (r1.1, ())), ((0, false, 0, 0), ((false, (0, false, 0, 0), 0, false, 0, 0), [])), r1.1, x0.2.2, ()))).bind fun q6 =>
  Sum.elim (fun z7 =>
    some ((z7.2.1.1, z7.2.1.2.1, z7.2.2.2.1), ()))
   (fun q6' =>
    none) q6
 else none
theorem tube_void.ok (k : Nat) : SpecOK Tryz.prog G0 59 ⟨[T28], [T28], fun x => tube_void k x.1⟩ :=
 evF_sound (E := (e10 k)) (fn := Tryz.f59) (e10.ok k) (by kernel_rfl) (by kernel_rfl) (by kernel_rfl) 8 (.two .n (.two .n (.two .n (.two .n (.two (.two .n (.two (.use (tube_void_l0_seg k)) .n)) .n))))) ⟨trivial, ⟨trivial, ⟨trivial, ⟨trivial, ⟨⟨trivial, ⟨(tube_void_l0_seg.ok k), trivial⟩⟩, trivial⟩⟩⟩⟩⟩ (fun xs => by kernel_rfl)
def e11 (k : Nat) : Env := (e10 k).add 59 ⟨[T28], [T28], fun x => tube_void k x.1⟩
theorem e11.ok (k : Nat) : (e11 k).OK Tryz.prog := (e10.ok k).add (tube_void.ok k)
def iv_fair (k : Nat) (x0 : Ty.den T25) : Option (HL [T25]) :=
 (iv_May k x0).bind fun r1 =>
 bif (!r1.1) then
  (iv_None k).bind fun r2 =>
  some (r2.1, ())
 else
  some (x0, ())
theorem iv_fair.ok (k : Nat) : SpecOK Tryz.prog G0 80 ⟨[T25], [T25], fun x => iv_fair k x.1⟩ :=
 evF_sound (E := (e11 k)) (fn := Tryz.f80) (e11.ok k) (by kernel_rfl) (by kernel_rfl) (by kernel_rfl) 8 .n trivial (fun xs => by kernel_rfl)
def e12 (k : Nat) : Env := (e11 k).add 80 ⟨[T25], [T25], fun x => iv_fair k x.1⟩
theorem e12.ok (k : Nat) : (e12 k).OK Tryz.prog := (e11.ok k).add (iv_fair.ok k)
def num_Neg (k : Nat) (x0 : Ty.den T23) : Option (HL [T23]) :=
 (num_fair k x0).bind fun r1 =>
 bif (r1.1.1 != 0) then
  some ((r1.1.1, (!r1.1.2.1), r1.1.2.2), ())
 else
  some ((r1.1.1, false, r1.1.2.2), ())
theorem num_Neg.ok (k : Nat) : SpecOK Tryz.prog G0 81 ⟨[T23], [T23], fun x => num_Neg k x.1⟩ :=
 evF_sound (E := (e12 k)) (fn := Tryz.f81) (e12.ok k) (by kernel_rfl) (by kernel_rfl) (by kernel_rfl) 8 .n trivial (fun xs => by kernel_rfl)
def e13 (k : Nat) : Env := (e12 k).add 81 ⟨[T23], [T23], fun x => num_Neg k x.1⟩
theorem e13.ok (k : Nat) : (e13 k).OK Tryz.prog := (e12.ok k).add (num_Neg.ok k)
def iv_Make (k : Nat) (x0 : Ty.den T23) (x1 : Ty.den T23) : Option (HL [T25]) :=
 (num_Neg k x0).bind fun r1 =>
 (num_Neg k r1.1).bind fun r2 =>
 (num_Neg k x1).bind fun r3 =>
 (num_Neg k r3.1).bind fun r4 =>
 (iv_fair k (false, r2.1, r4.1)).bind fun r5 =>
 some (r5.1, ())
theorem iv_Make.ok (k : Nat) : SpecOK Tryz.prog G0 38 ⟨[T23, T23], [T25], fun x => iv_Make k x.1 x.2.1⟩ :=
 evF_sound (E := (e13 k)) (fn := Tryz.f38) (e13.ok k) (by kernel_rfl) (by kernel_rfl) (by kernel_rfl) 8 .n trivial (fun xs => by kernel_rfl)
def e14 (k : Nat) : Env := (e13 k).add 38 ⟨[T23, T23], [T25], fun x => iv_Make k x.1 x.2.1⟩
theorem e14.ok (k : Nat) : (e14 k).OK Tryz.prog := (e13.ok k).add (iv_Make.ok k)
abbrev iv_ends_l0_i : Mask := ⟨[(0, 2, (.k (.arr 21 0))), (0, 3, (.k (.arr 26 0))), (0, 4, (.v .bool)), (0, 7, (.v T30)), (0, 8, (.v (.int .i64))), (0, 9, (.v (.int .i64)))], [(21, .arr 24 T23), (26, .arr 24 T23)], [], 0⟩
abbrev iv_ends_l0_o : List Out := [⟨.exit 0, ⟨[(0, 2, (.k (.arr 21 0))), (0, 3, (.k (.arr 26 0))), (0, 4, (.v .bool))], [(21, .arr 24 T23), (26, .arr 24 T23)], [], 0⟩⟩]
def iv_ends_l0 (k : Nat) : Nat → Mask.den iv_ends_l0_i → Option (denS iv_ends_l0_o)
 | 0, _ => none
 | m + 1, x =>
  bif (decide (x.1.2.2.2.2.2.1 < x.1.2.2.2.2.1)) then
   if 0 ≤ x.1.2.2.2.2.2.1 then (x.1.2.2.2.1[Int.toNat x.1.2.2.2.2.2.1]?).bind fun y5 =>
    (iv_fair k y5).bind fun r6 =>
    bif r6.1.1 then
     iv_ends_l0 k m (((), (), false, x.1.2.2.2.1, x.1.2.2.2.2.1, (IntKind.i64.wrap (x.1.2.2.2.2.2.1 + 1)), ()), (x.2.1, x.2.2.1, ()))
    else
     if (x.2.1.length + [r6.1.2.1].length) * 32 ≤ 140737488355328 then
      if (x.2.2.1.length + [r6.1.2.2].length) * 32 ≤ 140737488355328 then
       iv_ends_l0 k m (((), (), x.1.2.2.1, x.1.2.2.2.1, x.1.2.2.2.2.1, (IntKind.i64.wrap (x.1.2.2.2.2.2.1 + 1)), ()), ((x.2.1 ++ [r6.1.2.1]), (x.2.2.1 ++ [r6.1.2.2]), ()))
      else none
     else none
   else none
  else
   some (Sum.inl (((), (), x.1.2.2.1, ()), (x.2.1, x.2.2.1, ())))
abbrev iv_ends_l0_seg (k : Nat) : Seg := ⟨⟨0, 31, false, [], []⟩, 62, [.b, .s2, .s1, .s2, .s2], iv_ends_l0_i, iv_ends_l0_o, iv_ends_l0 k k⟩
theorem iv_ends_l0_seg.ok (k : Nat) : SegOK Tryz.prog (e14 k) (iv_ends_l0_seg k) :=
 SegOK.loop (e14.ok k) (by kernel_rfl) (S := iv_ends_l0_seg k) (c := atR (codeOf (e14 k) 62) [.l, .b, .s2, .s1, .s2, .s2]) (by kernel_rfl) (iv_ends_l0 k) k rfl (fun _ => rfl) 8 .n trivial (fun k' x => by kernel_rfl)
def iv_ends (k : Nat) (x0 : Ty.den T30) : Option (HL [T39, T39, .bool]) :=
 (iv_ends_l0 k k (((), (), true, x0, (x0.length : Int), 0, ()), ([], [], ()))).bind fun q7 =>
 Sum.elim (fun z8 =>
   some (z8.2.1, z8.2.2.1, z8.1.2.2.1, ()))
  (fun q7' =>
   none) q7
theorem iv_ends.ok (k : Nat) : SpecOK Tryz.prog G0 62 ⟨[T30], [T39, T39, .bool], fun x => iv_ends k x.1⟩ :=
 evF_sound (E := (e14 k)) (fn := Tryz.f62) (e14.ok k) (by kernel_rfl) (by kernel_rfl) (by kernel_rfl) 8 (.two .n (.two .n (.two (.two .n (.two (.use (iv_ends_l0_seg k)) .n)) .n))) ⟨trivial, ⟨trivial, ⟨⟨trivial, ⟨(iv_ends_l0_seg.ok k), trivial⟩⟩, trivial⟩⟩⟩ (fun xs => by kernel_rfl)
def e15 (k : Nat) : Env := (e14 k).add 62 ⟨[T30], [T39, T39, .bool], fun x => iv_ends k x.1⟩
theorem e15.ok (k : Nat) : (e15 k).OK Tryz.prog := (e14.ok k).add (iv_ends.ok k)
abbrev num_Most_l0_i : Mask := ⟨[(0, 2, (.k (.ptr 2 0 0))), (0, 3, (.k (.ptr 3 0 0))), (0, 7, (.v T39)), (0, 8, (.v (.int .i64))), (0, 9, (.v (.int .i64)))], [(2, .cells (.v T23)), (3, .cells (.v T23))], [], 0⟩
abbrev num_Most_l0_o : List Out := [⟨.exit 0, ⟨[(0, 2, (.k (.ptr 2 0 0))), (0, 3, (.k (.ptr 3 0 0)))], [(2, .cells (.v T23)), (3, .cells (.v T23))], [], 0⟩⟩]
def num_Most_l0 (k : Nat) : Nat → Mask.den num_Most_l0_i → Option (denS num_Most_l0_o)
 | 0, _ => none
 | m + 1, x =>
  bif (decide (x.1.2.2.2.2.1 < x.1.2.2.2.1)) then
   if 0 ≤ x.1.2.2.2.2.1 then (x.1.2.2.1[Int.toNat x.1.2.2.2.2.1]?).bind fun y2 =>
    (num_Cmp k y2 x.2.2.1).bind fun r3 =>
    bif (decide (r3.1 > 0)) then
     (num_fair k y2).bind fun r4 =>
     num_Most_l0 k m (((), (), x.1.2.2.1, x.1.2.2.2.1, (IntKind.i64.wrap (x.1.2.2.2.2.1 + 1)), ()), (x.2.1, r4.1, ()))
    else
     num_Most_l0 k m (((), (), x.1.2.2.1, x.1.2.2.2.1, (IntKind.i64.wrap (x.1.2.2.2.2.1 + 1)), ()), (x.2.1, x.2.2.1, ()))
   else none
  else
   some (Sum.inl (((), (), ()), (x.2.1, x.2.2.1, ())))
abbrev num_Most_l0_seg (k : Nat) : Seg := ⟨⟨0, 21, false, [], []⟩, 63, [.b, .s2, .s1, .s2, .s2], num_Most_l0_i, num_Most_l0_o, num_Most_l0 k k⟩
theorem num_Most_l0_seg.ok (k : Nat) : SegOK Tryz.prog (e15 k) (num_Most_l0_seg k) :=
 SegOK.loop (e15.ok k) (by kernel_rfl) (S := num_Most_l0_seg k) (c := atR (codeOf (e15 k) 63) [.l, .b, .s2, .s1, .s2, .s2]) (by kernel_rfl) (num_Most_l0 k) k rfl (fun _ => rfl) 8 .n trivial (fun k' x => by kernel_rfl)
def num_Most (k : Nat) (x0 : Ty.den T39) : Option (HL [T23]) :=
 (num_Infinite k true).bind fun r1 =>
 (num_Most_l0 k k (((), (), x0, (x0.length : Int), 0, ()), ((0, false, 0, 0), r1.1, ()))).bind fun q5 =>
 Sum.elim (fun z6 =>
   some (z6.2.2.1, ()))
  (fun q5' =>
   none) q5
theorem num_Most.ok (k : Nat) : SpecOK Tryz.prog G0 63 ⟨[T39], [T23], fun x => num_Most k x.1⟩ :=
 evF_sound (E := (e15 k)) (fn := Tryz.f63) (e15.ok k) (by kernel_rfl) (by kernel_rfl) (by kernel_rfl) 8 (.two .n (.two .n (.two (.two .n (.two (.use (num_Most_l0_seg k)) .n)) .n))) ⟨trivial, ⟨trivial, ⟨⟨trivial, ⟨(num_Most_l0_seg.ok k), trivial⟩⟩, trivial⟩⟩⟩ (fun xs => by kernel_rfl)
def e16 (k : Nat) : Env := (e15 k).add 63 ⟨[T39], [T23], fun x => num_Most k x.1⟩
theorem e16.ok (k : Nat) : (e16 k).OK Tryz.prog := (e15.ok k).add (num_Most.ok k)
abbrev num_Least_l0_i : Mask := ⟨[(0, 2, (.k (.ptr 2 0 0))), (0, 3, (.k (.ptr 3 0 0))), (0, 7, (.v T39)), (0, 8, (.v (.int .i64))), (0, 9, (.v (.int .i64)))], [(2, .cells (.v T23)), (3, .cells (.v T23))], [], 0⟩
abbrev num_Least_l0_o : List Out := [⟨.exit 0, ⟨[(0, 2, (.k (.ptr 2 0 0))), (0, 3, (.k (.ptr 3 0 0)))], [(2, .cells (.v T23)), (3, .cells (.v T23))], [], 0⟩⟩]
def num_Least_l0 (k : Nat) : Nat → Mask.den num_Least_l0_i → Option (denS num_Least_l0_o)
 | 0, _ => none
 | m + 1, x =>
  bif (decide (x.1.2.2.2.2.1 < x.1.2.2.2.1)) then
   if 0 ≤ x.1.2.2.2.2.1 then (x.1.2.2.1[Int.toNat x.1.2.2.2.2.1]?).bind fun y2 =>
    (num_Cmp k y2 x.2.2.1).bind fun r3 =>
    bif (decide (r3.1 < 0)) then
     (num_fair k y2).bind fun r4 =>
     num_Least_l0 k m (((), (), x.1.2.2.1, x.1.2.2.2.1, (IntKind.i64.wrap (x.1.2.2.2.2.1 + 1)), ()), (x.2.1, r4.1, ()))
    else
     num_Least_l0 k m (((), (), x.1.2.2.1, x.1.2.2.2.1, (IntKind.i64.wrap (x.1.2.2.2.2.1 + 1)), ()), (x.2.1, x.2.2.1, ()))
   else none
  else
   some (Sum.inl (((), (), ()), (x.2.1, x.2.2.1, ())))
abbrev num_Least_l0_seg (k : Nat) : Seg := ⟨⟨0, 21, false, [], []⟩, 64, [.b, .s2, .s1, .s2, .s2], num_Least_l0_i, num_Least_l0_o, num_Least_l0 k k⟩
theorem num_Least_l0_seg.ok (k : Nat) : SegOK Tryz.prog (e16 k) (num_Least_l0_seg k) :=
 SegOK.loop (e16.ok k) (by kernel_rfl) (S := num_Least_l0_seg k) (c := atR (codeOf (e16 k) 64) [.l, .b, .s2, .s1, .s2, .s2]) (by kernel_rfl) (num_Least_l0 k) k rfl (fun _ => rfl) 8 .n trivial (fun k' x => by kernel_rfl)
def num_Least (k : Nat) (x0 : Ty.den T39) : Option (HL [T23]) :=
 (num_Infinite k false).bind fun r1 =>
 (num_Least_l0 k k (((), (), x0, (x0.length : Int), 0, ()), ((0, false, 0, 0), r1.1, ()))).bind fun q5 =>
 Sum.elim (fun z6 =>
   some (z6.2.2.1, ()))
  (fun q5' =>
   none) q5
theorem num_Least.ok (k : Nat) : SpecOK Tryz.prog G0 64 ⟨[T39], [T23], fun x => num_Least k x.1⟩ :=
 evF_sound (E := (e16 k)) (fn := Tryz.f64) (e16.ok k) (by kernel_rfl) (by kernel_rfl) (by kernel_rfl) 8 (.two .n (.two .n (.two (.two .n (.two (.use (num_Least_l0_seg k)) .n)) .n))) ⟨trivial, ⟨trivial, ⟨⟨trivial, ⟨(num_Least_l0_seg.ok k), trivial⟩⟩, trivial⟩⟩⟩ (fun xs => by kernel_rfl)
def e17 (k : Nat) : Env := (e16 k).add 64 ⟨[T39], [T23], fun x => num_Least k x.1⟩
theorem e17.ok (k : Nat) : (e17 k).OK Tryz.prog := (e16.ok k).add (num_Least.ok k)
def iv_Meet (k : Nat) (x0 : Ty.den T30) : Option (HL [T25]) :=
 (iv_ends k x0).bind fun r1 =>
 bif (!r1.2.2.1) then
  (iv_None k).bind fun r2 =>
  some (r2.1, ())
 else
  (num_Most k r1.1).bind fun r3 =>
  (num_Least k r1.2.1).bind fun r4 =>
  (iv_Make k r3.1 r4.1).bind fun r5 =>
  some (r5.1, ())
theorem iv_Meet.ok (k : Nat) : SpecOK Tryz.prog G0 23 ⟨[T30], [T25], fun x => iv_Meet k x.1⟩ :=
 evF_sound (E := (e17 k)) (fn := Tryz.f23) (e17.ok k) (by kernel_rfl) (by kernel_rfl) (by kernel_rfl) 8 .n trivial (fun xs => by kernel_rfl)
def e18 (k : Nat) : Env := (e17 k).add 23 ⟨[T30], [T25], fun x => iv_Meet k x.1⟩
theorem e18.ok (k : Nat) : (e18 k).OK Tryz.prog := (e17.ok k).add (iv_Meet.ok k)
abbrev ivop_none_l0_i : Mask := ⟨[(0, 5, (.v T30)), (0, 6, (.v (.int .i64))), (0, 7, (.v (.int .i64)))], [], [], 0⟩
abbrev ivop_none_l0_o : List Out := [⟨.ret, ⟨[(0, 2, (.v .bool))], [], [], 0⟩⟩, ⟨.exit 0, ⟨[], [], [], 0⟩⟩]
def ivop_none_l0 (k : Nat) : Nat → Mask.den ivop_none_l0_i → Option (denS ivop_none_l0_o)
 | 0, _ => none
 | m + 1, x =>
  bif (decide (x.1.2.2.1 < x.1.2.1)) then
   if 0 ≤ x.1.2.2.1 then (x.1.1[Int.toNat x.1.2.2.1]?).bind fun y1 =>
    bif y1.1 then
     some (Sum.inl ((true, ()), ()))
    else
     (iv_May k y1).bind fun r2 =>
     bif (!r2.1) then
      some (Sum.inl ((true, ()), ()))
     else
      ivop_none_l0 k m ((x.1.1, x.1.2.1, (IntKind.i64.wrap (x.1.2.2.1 + 1)), ()), ())
   else none
  else
   some (Sum.inr (Sum.inl ((), ())))
abbrev ivop_none_l0_seg (k : Nat) : Seg := ⟨⟨0, 19, false, [], []⟩, 65, [.b, .s2, .s1, .s2], ivop_none_l0_i, ivop_none_l0_o, ivop_none_l0 k k⟩
theorem ivop_none_l0_seg.ok (k : Nat) : SegOK Tryz.prog (e18 k) (ivop_none_l0_seg k) :=
 SegOK.loop (e18.ok k) (by kernel_rfl) (S := ivop_none_l0_seg k) (c := atR (codeOf (e18 k) 65) [.l, .b, .s2, .s1, .s2]) (by kernel_rfl) (ivop_none_l0 k) k rfl (fun _ => rfl) 8 .n trivial (fun k' x => by kernel_rfl)
def ivop_none (k : Nat) (x0 : Ty.den T30) : Option (HL [.bool]) :=
 (ivop_none_l0 k k ((x0, (x0.length : Int), 0, ()), ())).bind fun q3 =>
 Sum.elim (fun z4 =>
   some (z4.1.1, ()))
  (fun q3' =>
   Sum.elim (fun z5 =>
     some (false, ()))
    (fun q3'' =>
     none) q3') q3
theorem ivop_none.ok (k : Nat) : SpecOK Tryz.prog G0 65 ⟨[T30], [.bool], fun x => ivop_none k x.1⟩ :=
 evF_sound (E := (e18 k)) (fn := Tryz.f65) (e18.ok k) (by kernel_rfl) (by kernel_rfl) (by kernel_rfl) 8 (.two .n (.two (.two .n (.two (.use (ivop_none_l0_seg k)) .n)) .n)) ⟨trivial, ⟨⟨trivial, ⟨(ivop_none_l0_seg.ok k), trivial⟩⟩, trivial⟩⟩ (fun xs => by kernel_rfl)
def e19 (k : Nat) : Env := (e18 k).add 65 ⟨[T30], [.bool], fun x => ivop_none k x.1⟩
theorem e19.ok (k : Nat) : (e19 k).OK Tryz.prog := (e18.ok k).add (ivop_none.ok k)
def arith_fair (k : Nat) (x0 : Ty.den T23) : Option (HL [T23]) :=
 (num_May k x0).bind fun r1 =>
 bif (!r1.1) then
  some ((0, false, 0, 0), ())
 else
  some (x0, ())
theorem arith_fair.ok (k : Nat) : SpecOK Tryz.prog G0 94 ⟨[T23], [T23], fun x => arith_fair k x.1⟩ :=
 evF_sound (E := (e19 k)) (fn := Tryz.f94) (e19.ok k) (by kernel_rfl) (by kernel_rfl) (by kernel_rfl) 8 .n trivial (fun xs => by kernel_rfl)
def e20 (k : Nat) : Env := (e19 k).add 94 ⟨[T23], [T23], fun x => arith_fair k x.1⟩
theorem e20.ok (k : Nat) : (e20 k).OK Tryz.prog := (e19.ok k).add (arith_fair.ok k)
def num_huge (k : Nat) (x0 : Ty.den .bool) : Option (HL [T23]) :=
 some ((1, x0, 18446744073709551615, 1048576), ())
theorem num_huge.ok (k : Nat) : SpecOK Tryz.prog G0 128 ⟨[.bool], [T23], fun x => num_huge k x.1⟩ :=
 evF_sound (E := (e20 k)) (fn := Tryz.f128) (e20.ok k) (by kernel_rfl) (by kernel_rfl) (by kernel_rfl) 8 .n trivial (fun xs => by kernel_rfl)
def e21 (k : Nat) : Env := (e20 k).add 128 ⟨[.bool], [T23], fun x => num_huge k x.1⟩
theorem e21.ok (k : Nat) : (e21 k).OK Tryz.prog := (e20.ok k).add (num_huge.ok k)
def num_tiny (k : Nat) (x0 : Ty.den .bool) : Option (HL [T23]) :=
 some ((1, x0, 9223372036854775808, (-1048576)), ())
theorem num_tiny.ok (k : Nat) : SpecOK Tryz.prog G0 129 ⟨[.bool], [T23], fun x => num_tiny k x.1⟩ :=
 evF_sound (E := (e21 k)) (fn := Tryz.f129) (e21.ok k) (by kernel_rfl) (by kernel_rfl) (by kernel_rfl) 8 .n trivial (fun xs => by kernel_rfl)
def e22 (k : Nat) : Env := (e21 k).add 129 ⟨[.bool], [T23], fun x => num_tiny k x.1⟩
theorem e22.ok (k : Nat) : (e22 k).OK Tryz.prog := (e21.ok k).add (num_tiny.ok k)
def num_Bound (k : Nat) (x0 : Ty.den .bool) (x1 : Ty.den (.int .u64)) (x2 : Ty.den (.int .i64)) (x3 : Ty.den .bool) : Option (HL [T23]) :=
 bif (decide (x2 > 1048576)) then
  bif x3 then
   (num_Infinite k x0).bind fun r1 =>
   some (r1.1, ())
  else
   bif (decide (x2 > 1048576)) then
    (num_huge k x0).bind fun r2 =>
    some (r2.1, ())
   else
    bif (decide (x2 < (-1048576))) then
     bif x3 then
      (num_tiny k x0).bind fun r3 =>
      some (r3.1, ())
     else
      bif (decide (x2 < (-1048576))) then
       some ((0, false, 0, 0), ())
      else
       some ((1, x0, x1, x2), ())
    else
     bif (decide (x2 < (-1048576))) then
      some ((0, false, 0, 0), ())
     else
      some ((1, x0, x1, x2), ())
 else
  bif (decide (x2 > 1048576)) then
   (num_huge k x0).bind fun r4 =>
   some (r4.1, ())
  else
   bif (decide (x2 < (-1048576))) then
    bif x3 then
     (num_tiny k x0).bind fun r5 =>
     some (r5.1, ())
    else
     bif (decide (x2 < (-1048576))) then
      some ((0, false, 0, 0), ())
     else
      some ((1, x0, x1, x2), ())
   else
    bif (decide (x2 < (-1048576))) then
     some ((0, false, 0, 0), ())
    else
     some ((1, x0, x1, x2), ())
theorem num_Bound.ok (k : Nat) : SpecOK Tryz.prog G0 121 ⟨[.bool, (.int .u64), (.int .i64), .bool], [T23], fun x => num_Bound k x.1 x.2.1 x.2.2.1 x.2.2.2.1⟩ :=
 evF_sound (E := (e22 k)) (fn := Tryz.f121) (e22.ok k) (by kernel_rfl) (by kernel_rfl) (by kernel_rfl) 8 .n trivial (fun xs => by kernel_rfl)
def e23 (k : Nat) : Env := (e22 k).add 121 ⟨[.bool, (.int .u64), (.int .i64), .bool], [T23], fun x => num_Bound k x.1 x.2.1 x.2.2.1 x.2.2.2.1⟩
theorem e23.ok (k : Nat) : (e23 k).OK Tryz.prog := (e22.ok k).add (num_Bound.ok k)
def num_Grow (k : Nat) (x0 : Ty.den .bool) (x1 : Ty.den (.int .u64)) (x2 : Ty.den (.int .i64)) (x3 : Ty.den .bool) (x4 : Ty.den .bool) : Option (HL [T23]) :=
 bif x3 then
  bif x4 then
   bif ((IntKind.u64.wrap (x1 + 1)) == 0) then
    (num_Bound k x0 9223372036854775808 (IntKind.i64.wrap (x2 + 1)) x4).bind fun r1 =>
    some (r1.1, ())
   else
    (num_Bound k x0 (IntKind.u64.wrap (x1 + 1)) x2 x4).bind fun r2 =>
    some (r2.1, ())
  else
   (num_Bound k x0 x1 x2 x4).bind fun r3 =>
   some (r3.1, ())
 else
  (num_Bound k x0 x1 x2 x4).bind fun r4 =>
  some (r4.1, ())
theorem num_Grow.ok (k : Nat) : SpecOK Tryz.prog G0 106 ⟨[.bool, (.int .u64), (.int .i64), .bool, .bool], [T23], fun x => num_Grow k x.1 x.2.1 x.2.2.1 x.2.2.2.1 x.2.2.2.2.1⟩ :=
 evF_sound (E := (e23 k)) (fn := Tryz.f106) (e23.ok k) (by kernel_rfl) (by kernel_rfl) (by kernel_rfl) 8 .n trivial (fun xs => by kernel_rfl)
def e24 (k : Nat) : Env := (e23 k).add 106 ⟨[.bool, (.int .u64), (.int .i64), .bool, .bool], [T23], fun x => num_Grow k x.1 x.2.1 x.2.2.1 x.2.2.2.1 x.2.2.2.2.1⟩
theorem e24.ok (k : Nat) : (e24 k).OK Tryz.prog := (e23.ok k).add (num_Grow.ok k)
def arith_lower (k : Nat) (x0 : Ty.den (.int .u64)) (x1 : Ty.den (.int .i64)) : Option (HL [T108]) :=
 bif (decide (x1 < 64)) then
  if x1 < 0 then none else
  if (IntKind.i64.wrap (64 - x1)) < 0 then none else
  some (((Int.fdiv x0 (2 ^ min (Int.toNat x1) IntKind.u64.bits)), (IntKind.u64.wrap (x0 * 2 ^ min (Int.toNat (IntKind.i64.wrap (64 - x1))) IntKind.u64.bits)), false), ())
 else
  bif (decide (x1 < 128)) then
   if (IntKind.i64.wrap (x1 - 64)) < 0 then none else
   if (IntKind.i64.wrap (64 - (IntKind.i64.wrap (x1 - 64)))) < 0 then none else
   some ((0, (Int.fdiv x0 (2 ^ min (Int.toNat (IntKind.i64.wrap (x1 - 64))) IntKind.u64.bits)), ((IntKind.u64.wrap (x0 * 2 ^ min (Int.toNat (IntKind.i64.wrap (64 - (IntKind.i64.wrap (x1 - 64))))) IntKind.u64.bits)) != 0)), ())
  else
   some ((0, 0, true), ())
theorem arith_lower.ok (k : Nat) : SpecOK Tryz.prog G0 107 ⟨[(.int .u64), (.int .i64)], [T108], fun x => arith_lower k x.1 x.2.1⟩ :=
 evF_sound (E := (e24 k)) (fn := Tryz.f107) (e24.ok k) (by kernel_rfl) (by kernel_rfl) (by kernel_rfl) 8 .n trivial (fun xs => by kernel_rfl)
def e25 (k : Nat) : Env := (e24 k).add 107 ⟨[(.int .u64), (.int .i64)], [T108], fun x => arith_lower k x.1 x.2.1⟩
theorem e25.ok (k : Nat) : (e25 k).OK Tryz.prog := (e24.ok k).add (arith_lower.ok k)
def arith_plus (k : Nat) (x0 : Ty.den T23) (x1 : Ty.den T23) (x2 : Ty.den .bool) : Option (HL [T23]) :=
 (arith_lower k x1.2.2.1 (IntKind.i64.wrap (x0.2.2.2 - x1.2.2.2))).bind fun r1 =>
 (add64F (x0.2.2.1, r1.1.1, 0, ())).bind fun r2 =>
 bif r1.1.2.2 then
  bif (r2.2.1 != 0) then
   (num_Grow k x0.2.1 (IntKind.u64.wrap (BitVec.toNat (BitVec.ofInt IntKind.u64.bits (Int.fdiv r2.1 (2 ^ min (Int.toNat 1) IntKind.u64.bits)) ||| BitVec.ofInt IntKind.u64.bits 9223372036854775808))) (IntKind.i64.wrap (x0.2.2.2 + 1)) true (!(x2 == x0.2.1))).bind fun r3 =>
   some (r3.1, ())
  else
   (num_Grow k x0.2.1 r2.1 x0.2.2.2 true (!(x2 == x0.2.1))).bind fun r4 =>
   some (r4.1, ())
 else
  bif (r2.2.1 != 0) then
   bif (r1.1.2.1 != 0) then
    (num_Grow k x0.2.1 (IntKind.u64.wrap (BitVec.toNat (BitVec.ofInt IntKind.u64.bits (Int.fdiv r2.1 (2 ^ min (Int.toNat 1) IntKind.u64.bits)) ||| BitVec.ofInt IntKind.u64.bits 9223372036854775808))) (IntKind.i64.wrap (x0.2.2.2 + 1)) true (!(x2 == x0.2.1))).bind fun r5 =>
    some (r5.1, ())
   else
    (num_Grow k x0.2.1 (IntKind.u64.wrap (BitVec.toNat (BitVec.ofInt IntKind.u64.bits (Int.fdiv r2.1 (2 ^ min (Int.toNat 1) IntKind.u64.bits)) ||| BitVec.ofInt IntKind.u64.bits 9223372036854775808))) (IntKind.i64.wrap (x0.2.2.2 + 1)) ((IntKind.u64.wrap (BitVec.toNat (BitVec.ofInt IntKind.u64.bits r2.1 &&& BitVec.ofInt IntKind.u64.bits 1))) != 0) (!(x2 == x0.2.1))).bind fun r6 =>
    some (r6.1, ())
  else
   (num_Grow k x0.2.1 r2.1 x0.2.2.2 (r1.1.2.1 != 0) (!(x2 == x0.2.1))).bind fun r7 =>
   some (r7.1, ())
theorem arith_plus.ok (k : Nat) : SpecOK Tryz.prog G0 95 ⟨[T23, T23, .bool], [T23], fun x => arith_plus k x.1 x.2.1 x.2.2.1⟩ :=
 evF_sound (E := (e25 k)) (fn := Tryz.f95) (e25.ok k) (by kernel_rfl) (by kernel_rfl) (by kernel_rfl) 8 .n trivial (fun xs => by kernel_rfl)
def e26 (k : Nat) : Env := (e25 k).add 95 ⟨[T23, T23, .bool], [T23], fun x => arith_plus k x.1 x.2.1 x.2.2.1⟩
theorem e26.ok (k : Nat) : (e26 k).OK Tryz.prog := (e25.ok k).add (arith_plus.ok k)
def bits_Len64 (k : Nat) (x0 : Ty.den (.int .u64)) : Option (HL [(.int .i64)]) :=
 bif (decide (x0 ≥ 4294967296)) then
  bif (decide ((Int.fdiv x0 (2 ^ min (Int.toNat 32) IntKind.u64.bits)) ≥ 65536)) then
   bif (decide ((Int.fdiv (Int.fdiv x0 (2 ^ min (Int.toNat 32) IntKind.u64.bits)) (2 ^ min (Int.toNat 16) IntKind.u64.bits)) ≥ 256)) then
    if 0 ≤ (IntKind.u8.wrap (Int.fdiv (Int.fdiv (Int.fdiv x0 (2 ^ min (Int.toNat 32) IntKind.u64.bits)) (2 ^ min (Int.toNat 16) IntKind.u64.bits)) (2 ^ min (Int.toNat 8) IntKind.u64.bits))) then (bytes0[Int.toNat (IntKind.u8.wrap (Int.fdiv (Int.fdiv (Int.fdiv x0 (2 ^ min (Int.toNat 32) IntKind.u64.bits)) (2 ^ min (Int.toNat 16) IntKind.u64.bits)) (2 ^ min (Int.toNat 8) IntKind.u64.bits)))]?).bind fun y1 =>
     some ((IntKind.i64.wrap ((IntKind.i64.wrap ((IntKind.i64.wrap (32 + 16)) + 8)) + (IntKind.i64.wrap (y1.toNat : Int)))), ())
    else none
   else
    if 0 ≤ (IntKind.u8.wrap (Int.fdiv (Int.fdiv x0 (2 ^ min (Int.toNat 32) IntKind.u64.bits)) (2 ^ min (Int.toNat 16) IntKind.u64.bits))) then (bytes0[Int.toNat (IntKind.u8.wrap (Int.fdiv (Int.fdiv x0 (2 ^ min (Int.toNat 32) IntKind.u64.bits)) (2 ^ min (Int.toNat 16) IntKind.u64.bits)))]?).bind fun y2 =>
     some ((IntKind.i64.wrap ((IntKind.i64.wrap (32 + 16)) + (IntKind.i64.wrap (y2.toNat : Int)))), ())
    else none
  else
   bif (decide ((Int.fdiv x0 (2 ^ min (Int.toNat 32) IntKind.u64.bits)) ≥ 256)) then
    if 0 ≤ (IntKind.u8.wrap (Int.fdiv (Int.fdiv x0 (2 ^ min (Int.toNat 32) IntKind.u64.bits)) (2 ^ min (Int.toNat 8) IntKind.u64.bits))) then (bytes0[Int.toNat (IntKind.u8.wrap (Int.fdiv (Int.fdiv x0 (2 ^ min (Int.toNat 32) IntKind.u64.bits)) (2 ^ min (Int.toNat 8) IntKind.u64.bits)))]?).bind fun y3 =>
     some ((IntKind.i64.wrap ((IntKind.i64.wrap (32 + 8)) + (IntKind.i64.wrap (y3.toNat : Int)))), ())
    else none
   else
    if 0 ≤ (IntKind.u8.wrap (Int.fdiv x0 (2 ^ min (Int.toNat 32) IntKind.u64.bits))) then (bytes0[Int.toNat (IntKind.u8.wrap (Int.fdiv x0 (2 ^ min (Int.toNat 32) IntKind.u64.bits)))]?).bind fun y4 =>
     some ((IntKind.i64.wrap (32 + (IntKind.i64.wrap (y4.toNat : Int)))), ())
    else none
 else
  bif (decide (x0 ≥ 65536)) then
   bif (decide ((Int.fdiv x0 (2 ^ min (Int.toNat 16) IntKind.u64.bits)) ≥ 256)) then
    if 0 ≤ (IntKind.u8.wrap (Int.fdiv (Int.fdiv x0 (2 ^ min (Int.toNat 16) IntKind.u64.bits)) (2 ^ min (Int.toNat 8) IntKind.u64.bits))) then (bytes0[Int.toNat (IntKind.u8.wrap (Int.fdiv (Int.fdiv x0 (2 ^ min (Int.toNat 16) IntKind.u64.bits)) (2 ^ min (Int.toNat 8) IntKind.u64.bits)))]?).bind fun y5 =>
     some ((IntKind.i64.wrap ((IntKind.i64.wrap ((IntKind.i64.wrap (0 + 16)) + 8)) + (IntKind.i64.wrap (y5.toNat : Int)))), ())
    else none
   else
    if 0 ≤ (IntKind.u8.wrap (Int.fdiv x0 (2 ^ min (Int.toNat 16) IntKind.u64.bits))) then (bytes0[Int.toNat (IntKind.u8.wrap (Int.fdiv x0 (2 ^ min (Int.toNat 16) IntKind.u64.bits)))]?).bind fun y6 =>
     some ((IntKind.i64.wrap ((IntKind.i64.wrap (0 + 16)) + (IntKind.i64.wrap (y6.toNat : Int)))), ())
    else none
  else
   bif (decide (x0 ≥ 256)) then
    if 0 ≤ (IntKind.u8.wrap (Int.fdiv x0 (2 ^ min (Int.toNat 8) IntKind.u64.bits))) then (bytes0[Int.toNat (IntKind.u8.wrap (Int.fdiv x0 (2 ^ min (Int.toNat 8) IntKind.u64.bits)))]?).bind fun y7 =>
     some ((IntKind.i64.wrap ((IntKind.i64.wrap (0 + 8)) + (IntKind.i64.wrap (y7.toNat : Int)))), ())
    else none
   else
    if 0 ≤ (IntKind.u8.wrap x0) then (bytes0[Int.toNat (IntKind.u8.wrap x0)]?).bind fun y8 =>
     some ((IntKind.i64.wrap (0 + (IntKind.i64.wrap (y8.toNat : Int)))), ())
    else none
theorem bits_Len64.ok (k : Nat) : SpecOK Tryz.prog G0 85 ⟨[(.int .u64)], [(.int .i64)], fun x => bits_Len64 k x.1⟩ :=
 evF_sound (E := (e26 k)) (fn := Tryz.f85) (e26.ok k) (by kernel_rfl) (by kernel_rfl) (by kernel_rfl) 8 .n trivial (fun xs => by kernel_rfl)
def e27 (k : Nat) : Env := (e26 k).add 85 ⟨[(.int .u64)], [(.int .i64)], fun x => bits_Len64 k x.1⟩
theorem e27.ok (k : Nat) : (e27 k).OK Tryz.prog := (e26.ok k).add (bits_Len64.ok k)
def bits_LeadingZeros64 (k : Nat) (x0 : Ty.den (.int .u64)) : Option (HL [(.int .i64)]) :=
 (bits_Len64 k x0).bind fun r1 =>
 some ((IntKind.i64.wrap (64 - r1.1)), ())
theorem bits_LeadingZeros64.ok (k : Nat) : SpecOK Tryz.prog G0 50 ⟨[(.int .u64)], [(.int .i64)], fun x => bits_LeadingZeros64 k x.1⟩ :=
 evF_sound (E := (e27 k)) (fn := Tryz.f50) (e27.ok k) (by kernel_rfl) (by kernel_rfl) (by kernel_rfl) 8 .n trivial (fun xs => by kernel_rfl)
def e28 (k : Nat) : Env := (e27 k).add 50 ⟨[(.int .u64)], [(.int .i64)], fun x => bits_LeadingZeros64 k x.1⟩
theorem e28.ok (k : Nat) : (e28 k).OK Tryz.prog := (e27.ok k).add (bits_LeadingZeros64.ok k)
def arith_minus (k : Nat) (x0 : Ty.den T23) (x1 : Ty.den T23) (x2 : Ty.den .bool) : Option (HL [T23]) :=
 (arith_lower k x1.2.2.1 (IntKind.i64.wrap (x0.2.2.2 - x1.2.2.2))).bind fun r1 =>
 bif r1.1.2.2 then
  (sub64F (0, r1.1.2.1, 1, ())).bind fun r2 =>
  (sub64F (x0.2.2.1, r1.1.1, r2.2.1, ())).bind fun r3 =>
  bif (r3.1 == 0) then
   (bits_LeadingZeros64 k r2.1).bind fun r4 =>
   bif (decide (r4.1 > 0)) then
    if r4.1 < 0 then none else
    if (IntKind.i64.wrap (64 - r4.1)) < 0 then none else
    if r4.1 < 0 then none else
    bif r1.1.2.2 then
     (num_Grow k x0.2.1 (IntKind.u64.wrap (BitVec.toNat (BitVec.ofInt IntKind.u64.bits (IntKind.u64.wrap (r2.1 * 2 ^ min (Int.toNat r4.1) IntKind.u64.bits)) ||| BitVec.ofInt IntKind.u64.bits (Int.fdiv 0 (2 ^ min (Int.toNat (IntKind.i64.wrap (64 - r4.1))) IntKind.u64.bits))))) (IntKind.i64.wrap ((IntKind.i64.wrap (x0.2.2.2 - 64)) - r4.1)) true (!(x2 == x0.2.1))).bind fun r5 =>
     some (r5.1, ())
    else
     (num_Grow k x0.2.1 (IntKind.u64.wrap (BitVec.toNat (BitVec.ofInt IntKind.u64.bits (IntKind.u64.wrap (r2.1 * 2 ^ min (Int.toNat r4.1) IntKind.u64.bits)) ||| BitVec.ofInt IntKind.u64.bits (Int.fdiv 0 (2 ^ min (Int.toNat (IntKind.i64.wrap (64 - r4.1))) IntKind.u64.bits))))) (IntKind.i64.wrap ((IntKind.i64.wrap (x0.2.2.2 - 64)) - r4.1)) ((IntKind.u64.wrap (0 * 2 ^ min (Int.toNat r4.1) IntKind.u64.bits)) != 0) (!(x2 == x0.2.1))).bind fun r6 =>
     some (r6.1, ())
   else
    bif r1.1.2.2 then
     (num_Grow k x0.2.1 r2.1 (IntKind.i64.wrap (x0.2.2.2 - 64)) true (!(x2 == x0.2.1))).bind fun r7 =>
     some (r7.1, ())
    else
     (num_Grow k x0.2.1 r2.1 (IntKind.i64.wrap (x0.2.2.2 - 64)) false (!(x2 == x0.2.1))).bind fun r8 =>
     some (r8.1, ())
  else
   (bits_LeadingZeros64 k r3.1).bind fun r9 =>
   bif (decide (r9.1 > 0)) then
    if r9.1 < 0 then none else
    if (IntKind.i64.wrap (64 - r9.1)) < 0 then none else
    if r9.1 < 0 then none else
    bif r1.1.2.2 then
     (num_Grow k x0.2.1 (IntKind.u64.wrap (BitVec.toNat (BitVec.ofInt IntKind.u64.bits (IntKind.u64.wrap (r3.1 * 2 ^ min (Int.toNat r9.1) IntKind.u64.bits)) ||| BitVec.ofInt IntKind.u64.bits (Int.fdiv r2.1 (2 ^ min (Int.toNat (IntKind.i64.wrap (64 - r9.1))) IntKind.u64.bits))))) (IntKind.i64.wrap (x0.2.2.2 - r9.1)) true (!(x2 == x0.2.1))).bind fun r10 =>
     some (r10.1, ())
    else
     (num_Grow k x0.2.1 (IntKind.u64.wrap (BitVec.toNat (BitVec.ofInt IntKind.u64.bits (IntKind.u64.wrap (r3.1 * 2 ^ min (Int.toNat r9.1) IntKind.u64.bits)) ||| BitVec.ofInt IntKind.u64.bits (Int.fdiv r2.1 (2 ^ min (Int.toNat (IntKind.i64.wrap (64 - r9.1))) IntKind.u64.bits))))) (IntKind.i64.wrap (x0.2.2.2 - r9.1)) ((IntKind.u64.wrap (r2.1 * 2 ^ min (Int.toNat r9.1) IntKind.u64.bits)) != 0) (!(x2 == x0.2.1))).bind fun r11 =>
     some (r11.1, ())
   else
    bif r1.1.2.2 then
     (num_Grow k x0.2.1 r3.1 x0.2.2.2 true (!(x2 == x0.2.1))).bind fun r12 =>
     some (r12.1, ())
    else
     (num_Grow k x0.2.1 r3.1 x0.2.2.2 (r2.1 != 0) (!(x2 == x0.2.1))).bind fun r13 =>
     some (r13.1, ())
 else
  (sub64F (0, r1.1.2.1, 0, ())).bind fun r14 =>
  (sub64F (x0.2.2.1, r1.1.1, r14.2.1, ())).bind fun r15 =>
  bif (r15.1 == 0) then
   (bits_LeadingZeros64 k r14.1).bind fun r16 =>
   bif (decide (r16.1 > 0)) then
    if r16.1 < 0 then none else
    if (IntKind.i64.wrap (64 - r16.1)) < 0 then none else
    if r16.1 < 0 then none else
    bif r1.1.2.2 then
     (num_Grow k x0.2.1 (IntKind.u64.wrap (BitVec.toNat (BitVec.ofInt IntKind.u64.bits (IntKind.u64.wrap (r14.1 * 2 ^ min (Int.toNat r16.1) IntKind.u64.bits)) ||| BitVec.ofInt IntKind.u64.bits (Int.fdiv 0 (2 ^ min (Int.toNat (IntKind.i64.wrap (64 - r16.1))) IntKind.u64.bits))))) (IntKind.i64.wrap ((IntKind.i64.wrap (x0.2.2.2 - 64)) - r16.1)) true (!(x2 == x0.2.1))).bind fun r17 =>
     some (r17.1, ())
    else
     (num_Grow k x0.2.1 (IntKind.u64.wrap (BitVec.toNat (BitVec.ofInt IntKind.u64.bits (IntKind.u64.wrap (r14.1 * 2 ^ min (Int.toNat r16.1) IntKind.u64.bits)) ||| BitVec.ofInt IntKind.u64.bits (Int.fdiv 0 (2 ^ min (Int.toNat (IntKind.i64.wrap (64 - r16.1))) IntKind.u64.bits))))) (IntKind.i64.wrap ((IntKind.i64.wrap (x0.2.2.2 - 64)) - r16.1)) ((IntKind.u64.wrap (0 * 2 ^ min (Int.toNat r16.1) IntKind.u64.bits)) != 0) (!(x2 == x0.2.1))).bind fun r18 =>
     some (r18.1, ())
   else
    bif r1.1.2.2 then
     (num_Grow k x0.2.1 r14.1 (IntKind.i64.wrap (x0.2.2.2 - 64)) true (!(x2 == x0.2.1))).bind fun r19 =>
     some (r19.1, ())
    else
     (num_Grow k x0.2.1 r14.1 (IntKind.i64.wrap (x0.2.2.2 - 64)) false (!(x2 == x0.2.1))).bind fun r20 =>
     some (r20.1, ())
  else
   (bits_LeadingZeros64 k r15.1).bind fun r21 =>
   bif (decide (r21.1 > 0)) then
    if r21.1 < 0 then none else
    if (IntKind.i64.wrap (64 - r21.1)) < 0 then none else
    if r21.1 < 0 then none else
    bif r1.1.2.2 then
     (num_Grow k x0.2.1 (IntKind.u64.wrap (BitVec.toNat (BitVec.ofInt IntKind.u64.bits (IntKind.u64.wrap (r15.1 * 2 ^ min (Int.toNat r21.1) IntKind.u64.bits)) ||| BitVec.ofInt IntKind.u64.bits (Int.fdiv r14.1 (2 ^ min (Int.toNat (IntKind.i64.wrap (64 - r21.1))) IntKind.u64.bits))))) (IntKind.i64.wrap (x0.2.2.2 - r21.1)) true (!(x2 == x0.2.1))).bind fun r22 =>
     some (r22.1, ())
    else
     (num_Grow k x0.2.1 (IntKind.u64.wrap (BitVec.toNat (BitVec.ofInt IntKind.u64.bits (IntKind.u64.wrap (r15.1 * 2 ^ min (Int.toNat r21.1) IntKind.u64.bits)) ||| BitVec.ofInt IntKind.u64.bits (Int.fdiv r14.1 (2 ^ min (Int.toNat (IntKind.i64.wrap (64 - r21.1))) IntKind.u64.bits))))) (IntKind.i64.wrap (x0.2.2.2 - r21.1)) ((IntKind.u64.wrap (r14.1 * 2 ^ min (Int.toNat r21.1) IntKind.u64.bits)) != 0) (!(x2 == x0.2.1))).bind fun r23 =>
     some (r23.1, ())
   else
    bif r1.1.2.2 then
     (num_Grow k x0.2.1 r15.1 x0.2.2.2 true (!(x2 == x0.2.1))).bind fun r24 =>
     some (r24.1, ())
    else
     (num_Grow k x0.2.1 r15.1 x0.2.2.2 (r14.1 != 0) (!(x2 == x0.2.1))).bind fun r25 =>
     some (r25.1, ())
theorem arith_minus.ok (k : Nat) : SpecOK Tryz.prog G0 96 ⟨[T23, T23, .bool], [T23], fun x => arith_minus k x.1 x.2.1 x.2.2.1⟩ :=
 evF_sound (E := (e28 k)) (fn := Tryz.f96) (e28.ok k) (by kernel_rfl) (by kernel_rfl) (by kernel_rfl) 8 .n trivial (fun xs => by kernel_rfl)
def e29 (k : Nat) : Env := (e28 k).add 96 ⟨[T23, T23, .bool], [T23], fun x => arith_minus k x.1 x.2.1 x.2.2.1⟩
theorem e29.ok (k : Nat) : (e29 k).OK Tryz.prog := (e28.ok k).add (arith_minus.ok k)
def arith_Add (k : Nat) (x0 : Ty.den T23) (x1 : Ty.den T23) (x2 : Ty.den .bool) : Option (HL [T23]) :=
 (arith_fair k x0).bind fun r1 =>
 (arith_fair k x1).bind fun r2 =>
 bif (r1.1.1 == 2) then
  bif (r2.1.1 == 2) then
   bif (!(r1.1.2.1 == r2.1.2.1)) then
    (num_Infinite k (!x2)).bind fun r3 =>
    some (r3.1, ())
   else
    bif (r1.1.1 == 2) then
     some (r1.1, ())
    else
     bif (r2.1.1 == 0) then
      some (r1.1, ())
     else
      bif (r2.1.1 == 2) then
       some (r2.1, ())
      else
       bif (r1.1.1 == 0) then
        some (r2.1, ())
       else
        bif (decide (r2.1.2.2.2 > r1.1.2.2.2)) then
         bif (r2.1.2.1 == r1.1.2.1) then
          (arith_plus k r2.1 r1.1 x2).bind fun r4 =>
          some (r4.1, ())
         else
          bif (r2.1.2.2.2 == r1.1.2.2.2) then
           bif (r2.1.2.2.1 == r1.1.2.2.1) then
            some ((0, false, 0, 0), ())
           else
            (arith_minus k r2.1 r1.1 x2).bind fun r5 =>
            some (r5.1, ())
          else
           (arith_minus k r2.1 r1.1 x2).bind fun r6 =>
           some (r6.1, ())
        else
         bif (r2.1.2.2.2 == r1.1.2.2.2) then
          bif (decide (r2.1.2.2.1 > r1.1.2.2.1)) then
           bif (r2.1.2.1 == r1.1.2.1) then
            (arith_plus k r2.1 r1.1 x2).bind fun r7 =>
            some (r7.1, ())
           else
            bif (r2.1.2.2.2 == r1.1.2.2.2) then
             bif (r2.1.2.2.1 == r1.1.2.2.1) then
              some ((0, false, 0, 0), ())
             else
              (arith_minus k r2.1 r1.1 x2).bind fun r8 =>
              some (r8.1, ())
            else
             (arith_minus k r2.1 r1.1 x2).bind fun r9 =>
             some (r9.1, ())
          else
           bif (r1.1.2.1 == r2.1.2.1) then
            (arith_plus k r1.1 r2.1 x2).bind fun r10 =>
            some (r10.1, ())
           else
            bif (r1.1.2.2.2 == r2.1.2.2.2) then
             bif (r1.1.2.2.1 == r2.1.2.2.1) then
              some ((0, false, 0, 0), ())
             else
              (arith_minus k r1.1 r2.1 x2).bind fun r11 =>
              some (r11.1, ())
            else
             (arith_minus k r1.1 r2.1 x2).bind fun r12 =>
             some (r12.1, ())
         else
          bif (r1.1.2.1 == r2.1.2.1) then
           (arith_plus k r1.1 r2.1 x2).bind fun r13 =>
           some (r13.1, ())
          else
           bif (r1.1.2.2.2 == r2.1.2.2.2) then
            bif (r1.1.2.2.1 == r2.1.2.2.1) then
             some ((0, false, 0, 0), ())
            else
             (arith_minus k r1.1 r2.1 x2).bind fun r14 =>
             some (r14.1, ())
           else
            (arith_minus k r1.1 r2.1 x2).bind fun r15 =>
            some (r15.1, ())
  else
   bif (r1.1.1 == 2) then
    some (r1.1, ())
   else
    bif (r2.1.1 == 0) then
     some (r1.1, ())
    else
     bif (r2.1.1 == 2) then
      some (r2.1, ())
     else
      bif (r1.1.1 == 0) then
       some (r2.1, ())
      else
       bif (decide (r2.1.2.2.2 > r1.1.2.2.2)) then
        bif (r2.1.2.1 == r1.1.2.1) then
         (arith_plus k r2.1 r1.1 x2).bind fun r16 =>
         some (r16.1, ())
        else
         bif (r2.1.2.2.2 == r1.1.2.2.2) then
          bif (r2.1.2.2.1 == r1.1.2.2.1) then
           some ((0, false, 0, 0), ())
          else
           (arith_minus k r2.1 r1.1 x2).bind fun r17 =>
           some (r17.1, ())
         else
          (arith_minus k r2.1 r1.1 x2).bind fun r18 =>
          some (r18.1, ())
       else
        bif (r2.1.2.2.2 == r1.1.2.2.2) then
         bif (decide (r2.1.2.2.1 > r1.1.2.2.1)) then
          bif (r2.1.2.1 == r1.1.2.1) then
           (arith_plus k r2.1 r1.1 x2).bind fun r19 =>
           some (r19.1, ())
          else
           bif (r2.1.2.2.2 == r1.1.2.2.2) then
            bif (r2.1.2.2.1 == r1.1.2.2.1) then
             some ((0, false, 0, 0), ())
            else
             (arith_minus k r2.1 r1.1 x2).bind fun r20 =>
             some (r20.1, ())
           else
            (arith_minus k r2.1 r1.1 x2).bind fun r21 =>
            some (r21.1, ())
         else
          bif (r1.1.2.1 == r2.1.2.1) then
           (arith_plus k r1.1 r2.1 x2).bind fun r22 =>
           some (r22.1, ())
          else
           bif (r1.1.2.2.2 == r2.1.2.2.2) then
            bif (r1.1.2.2.1 == r2.1.2.2.1) then
             some ((0, false, 0, 0), ())
            else
             (arith_minus k r1.1 r2.1 x2).bind fun r23 =>
             some (r23.1, ())
           else
            (arith_minus k r1.1 r2.1 x2).bind fun r24 =>
            some (r24.1, ())
        else
         bif (r1.1.2.1 == r2.1.2.1) then
          (arith_plus k r1.1 r2.1 x2).bind fun r25 =>
          some (r25.1, ())
         else
          bif (r1.1.2.2.2 == r2.1.2.2.2) then
           bif (r1.1.2.2.1 == r2.1.2.2.1) then
            some ((0, false, 0, 0), ())
           else
            (arith_minus k r1.1 r2.1 x2).bind fun r26 =>
            some (r26.1, ())
          else
           (arith_minus k r1.1 r2.1 x2).bind fun r27 =>
           some (r27.1, ())
 else
  bif (r1.1.1 == 2) then
   some (r1.1, ())
  else
   bif (r2.1.1 == 0) then
    some (r1.1, ())
   else
    bif (r2.1.1 == 2) then
     some (r2.1, ())
    else
     bif (r1.1.1 == 0) then
      some (r2.1, ())
     else
      bif (decide (r2.1.2.2.2 > r1.1.2.2.2)) then
       bif (r2.1.2.1 == r1.1.2.1) then
        (arith_plus k r2.1 r1.1 x2).bind fun r28 =>
        some (r28.1, ())
       else
        bif (r2.1.2.2.2 == r1.1.2.2.2) then
         bif (r2.1.2.2.1 == r1.1.2.2.1) then
          some ((0, false, 0, 0), ())
         else
          (arith_minus k r2.1 r1.1 x2).bind fun r29 =>
          some (r29.1, ())
        else
         (arith_minus k r2.1 r1.1 x2).bind fun r30 =>
         some (r30.1, ())
      else
       bif (r2.1.2.2.2 == r1.1.2.2.2) then
        bif (decide (r2.1.2.2.1 > r1.1.2.2.1)) then
         bif (r2.1.2.1 == r1.1.2.1) then
          (arith_plus k r2.1 r1.1 x2).bind fun r31 =>
          some (r31.1, ())
         else
          bif (r2.1.2.2.2 == r1.1.2.2.2) then
           bif (r2.1.2.2.1 == r1.1.2.2.1) then
            some ((0, false, 0, 0), ())
           else
            (arith_minus k r2.1 r1.1 x2).bind fun r32 =>
            some (r32.1, ())
          else
           (arith_minus k r2.1 r1.1 x2).bind fun r33 =>
           some (r33.1, ())
        else
         bif (r1.1.2.1 == r2.1.2.1) then
          (arith_plus k r1.1 r2.1 x2).bind fun r34 =>
          some (r34.1, ())
         else
          bif (r1.1.2.2.2 == r2.1.2.2.2) then
           bif (r1.1.2.2.1 == r2.1.2.2.1) then
            some ((0, false, 0, 0), ())
           else
            (arith_minus k r1.1 r2.1 x2).bind fun r35 =>
            some (r35.1, ())
          else
           (arith_minus k r1.1 r2.1 x2).bind fun r36 =>
           some (r36.1, ())
       else
        bif (r1.1.2.1 == r2.1.2.1) then
         (arith_plus k r1.1 r2.1 x2).bind fun r37 =>
         some (r37.1, ())
        else
         bif (r1.1.2.2.2 == r2.1.2.2.2) then
          bif (r1.1.2.2.1 == r2.1.2.2.1) then
           some ((0, false, 0, 0), ())
          else
           (arith_minus k r1.1 r2.1 x2).bind fun r38 =>
           some (r38.1, ())
         else
          (arith_minus k r1.1 r2.1 x2).bind fun r39 =>
          some (r39.1, ())
theorem arith_Add.ok (k : Nat) : SpecOK Tryz.prog G0 66 ⟨[T23, T23, .bool], [T23], fun x => arith_Add k x.1 x.2.1 x.2.2.1⟩ :=
 evF_sound (E := (e29 k)) (fn := Tryz.f66) (e29.ok k) (by kernel_rfl) (by kernel_rfl) (by kernel_rfl) 8 .n trivial (fun xs => by kernel_rfl)
def e30 (k : Nat) : Env := (e29 k).add 66 ⟨[T23, T23, .bool], [T23], fun x => arith_Add k x.1 x.2.1 x.2.2.1⟩
theorem e30.ok (k : Nat) : (e30 k).OK Tryz.prog := (e29.ok k).add (arith_Add.ok k)
abbrev ivop_Add_l0_i : Mask := ⟨[(0, 2, (.k (.ptr 2 0 0))), (0, 3, (.k (.ptr 3 0 0))), (0, 4, (.k (.ptr 4 0 0))), (0, 10, (.v T30)), (0, 11, (.v (.int .i64))), (0, 12, (.v (.int .i64)))], [(2, .cells (.v T25)), (3, .cells (.v T23)), (4, .cells (.v T23))], [], 0⟩
abbrev ivop_Add_l0_o : List Out := [⟨.exit 0, ⟨[(0, 2, (.k (.ptr 2 0 0))), (0, 3, (.k (.ptr 3 0 0))), (0, 4, (.k (.ptr 4 0 0)))], [(2, .cells (.v T25)), (3, .cells (.v T23)), (4, .cells (.v T23))], [], 0⟩⟩]
def ivop_Add_l0 (k : Nat) : Nat → Mask.den ivop_Add_l0_i → Option (denS ivop_Add_l0_o)
 | 0, _ => none
 | m + 1, x =>
  bif (decide (x.1.2.2.2.2.2.1 < x.1.2.2.2.2.1)) then
   if 0 ≤ x.1.2.2.2.2.2.1 then (x.1.2.2.2.1[Int.toNat x.1.2.2.2.2.2.1]?).bind fun y3 =>
    bif (x.1.2.2.2.2.2.1 == 0) then
     ivop_Add_l0 k m (((), (), (), x.1.2.2.2.1, x.1.2.2.2.2.1, (IntKind.i64.wrap (x.1.2.2.2.2.2.1 + 1)), ()), (x.2.1, y3.2.1, y3.2.2, ()))
    else
     (arith_Add k x.2.2.1 y3.2.1 false).bind fun r4 =>
     (arith_Add k x.2.2.2.1 y3.2.2 true).bind fun r5 =>
     ivop_Add_l0 k m (((), (), (), x.1.2.2.2.1, x.1.2.2.2.2.1, (IntKind.i64.wrap (x.1.2.2.2.2.2.1 + 1)), ()), (x.2.1, r4.1, r5.1, ()))
   else none
  else
   some (Sum.inl (((), (), (), ()), (x.2.1, x.2.2.1, x.2.2.2.1, ())))
abbrev ivop_Add_l0_seg (k : Nat) : Seg := ⟨⟨0, 35, false, [], []⟩, 24, [.b, .s2, .s1, .s2, .s2, .s2], ivop_Add_l0_i, ivop_Add_l0_o, ivop_Add_l0 k k⟩
theorem ivop_Add_l0_seg.ok (k : Nat) : SegOK Tryz.prog (e30 k) (ivop_Add_l0_seg k) :=
 SegOK.loop (e30.ok k) (by kernel_rfl) (S := ivop_Add_l0_seg k) (c := atR (codeOf (e30 k) 24) [.l, .b, .s2, .s1, .s2, .s2, .s2]) (by kernel_rfl) (ivop_Add_l0 k) k rfl (fun _ => rfl) 8 .n trivial (fun k' x => by kernel_rfl)
def ivop_Add (k : Nat) (x0 : Ty.den T30) : Option (HL [T25]) :=
 (ivop_none k x0).bind fun r1 =>
 bif r1.1 then
  (iv_None k).bind fun r2 =>
  some (r2.1, ())
 else
  (ivop_Add_l0 k k (((), (), (), x0, (x0.length : Int), 0, ()), ((false, (0, false, 0, 0), 0, false, 0, 0), (0, false, 0, 0), (0, false, 0, 0), ()))).bind fun q6 =>
  Sum.elim (fun z7 =>
    (iv_Make k z7.2.2.1 z7.2.2.2.1).bind fun r8 =>
    some (r8.1, ()))
   (fun q6' =>
    none) q6
theorem ivop_Add.ok (k : Nat) : SpecOK Tryz.prog G0 24 ⟨[T30], [T25], fun x => ivop_Add k x.1⟩ :=
 evF_sound (E := (e30 k)) (fn := Tryz.f24) (e30.ok k) (by kernel_rfl) (by kernel_rfl) (by kernel_rfl) 8 (.two .n (.two .n (.two .n (.two (.two .n (.two (.use (ivop_Add_l0_seg k)) .n)) .n)))) ⟨trivial, ⟨trivial, ⟨trivial, ⟨⟨trivial, ⟨(ivop_Add_l0_seg.ok k), trivial⟩⟩, trivial⟩⟩⟩⟩ (fun xs => by kernel_rfl)
def e31 (k : Nat) : Env := (e30 k).add 24 ⟨[T30], [T25], fun x => ivop_Add k x.1⟩
theorem e31.ok (k : Nat) : (e31 k).OK Tryz.prog := (e30.ok k).add (ivop_Add.ok k)
def ivop_Neg (k : Nat) (x0 : Ty.den T25) : Option (HL [T25]) :=
 (ivop_none k [x0]).bind fun r1 =>
 bif r1.1 then
  (iv_None k).bind fun r2 =>
  some (r2.1, ())
 else
  (num_Neg k x0.2.2).bind fun r3 =>
  (num_Neg k x0.2.1).bind fun r4 =>
  (iv_Make k r3.1 r4.1).bind fun r5 =>
  some (r5.1, ())
theorem ivop_Neg.ok (k : Nat) : SpecOK Tryz.prog G0 67 ⟨[T25], [T25], fun x => ivop_Neg k x.1⟩ :=
 evF_sound (E := (e31 k)) (fn := Tryz.f67) (e31.ok k) (by kernel_rfl) (by kernel_rfl) (by kernel_rfl) 8 .n trivial (fun xs => by kernel_rfl)
def e32 (k : Nat) : Env := (e31 k).add 67 ⟨[T25], [T25], fun x => ivop_Neg k x.1⟩
theorem e32.ok (k : Nat) : (e32 k).OK Tryz.prog := (e31.ok k).add (ivop_Neg.ok k)
def ivop_Sub (k : Nat) (x0 : Ty.den T25) (x1 : Ty.den T25) : Option (HL [T25]) :=
 (ivop_Neg k x1).bind fun r1 =>
 (ivop_Add k [x0, r1.1]).bind fun r2 =>
 some (r2.1, ())
theorem ivop_Sub.ok (k : Nat) : SpecOK Tryz.prog G0 25 ⟨[T25, T25], [T25], fun x => ivop_Sub k x.1 x.2.1⟩ :=
 evF_sound (E := (e32 k)) (fn := Tryz.f25) (e32.ok k) (by kernel_rfl) (by kernel_rfl) (by kernel_rfl) 8 .n trivial (fun xs => by kernel_rfl)
def e33 (k : Nat) : Env := (e32 k).add 25 ⟨[T25, T25], [T25], fun x => ivop_Sub k x.1 x.2.1⟩
theorem e33.ok (k : Nat) : (e33 k).OK Tryz.prog := (e32.ok k).add (ivop_Sub.ok k)
def tube_New (k : Nat) (x0 : Ty.den T23) (x1 : Ty.den T25) : Option (HL [T28, (.int .i64)]) :=
 (tube_May k (x0, x1, [])).bind fun r1 =>
 bif (!r1.1) then
  some (((0, false, 0, 0), (false, (0, false, 0, 0), 0, false, 0, 0), []), 1, ())
 else
  some ((x0, x1, []), 0, ())
theorem tube_New.ok (k : Nat) : SpecOK Tryz.prog G0 44 ⟨[T23, T25], [T28, (.int .i64)], fun x => tube_New k x.1 x.2.1⟩ :=
 evF_sound (E := (e33 k)) (fn := Tryz.f44) (e33.ok k) (by kernel_rfl) (by kernel_rfl) (by kernel_rfl) 8 .n trivial (fun xs => by kernel_rfl)
def e34 (k : Nat) : Env := (e33 k).add 44 ⟨[T23, T25], [T28, (.int .i64)], fun x => tube_New k x.1 x.2.1⟩
theorem e34.ok (k : Nat) : (e34 k).OK Tryz.prog := (e33.ok k).add (tube_New.ok k)
def tube_end (k : Nat) (x0 : Ty.den T28) : Option (HL [T23]) :=
 bif (decide ((x0.2.2.length : Int) > 0)) then
  if 0 ≤ (IntKind.i64.wrap ((x0.2.2.length : Int) - 1)) then (x0.2.2[Int.toNat (IntKind.i64.wrap ((x0.2.2.length : Int) - 1))]?).bind fun y1 =>
   some (y1.1, ())
  else none
 else
  some (x0.1, ())
theorem tube_end.ok (k : Nat) : SpecOK Tryz.prog G0 84 ⟨[T28], [T23], fun x => tube_end k x.1⟩ :=
 evF_sound (E := (e34 k)) (fn := Tryz.f84) (e34.ok k) (by kernel_rfl) (by kernel_rfl) (by kernel_rfl) 8 .n trivial (fun xs => by kernel_rfl)
def e35 (k : Nat) : Env := (e34 k).add 84 ⟨[T28], [T23], fun x => tube_end k x.1⟩
theorem e35.ok (k : Nat) : (e35 k).OK Tryz.prog := (e34.ok k).add (tube_end.ok k)
def tube_Append (k : Nat) (x0 : Ty.den T28) (x1 : Ty.den T23) (x2 : Ty.den T25) (x3 : Ty.den T25) : Option (HL [T28, (.int .i64)]) :=
 (tube_May k x0).bind fun r1 =>
 bif (!r1.1) then
  some (((0, false, 0, 0), (false, (0, false, 0, 0), 0, false, 0, 0), []), 1, ())
 else
  (tube_finite k x1).bind fun r2 =>
  bif (!r2.1) then
   some (((0, false, 0, 0), (false, (0, false, 0, 0), 0, false, 0, 0), []), 1, ())
  else
   (iv_May k x2).bind fun r3 =>
   bif (!r3.1) then
    some (((0, false, 0, 0), (false, (0, false, 0, 0), 0, false, 0, 0), []), 1, ())
   else
    (iv_May k x3).bind fun r4 =>
    bif (!r4.1) then
     some (((0, false, 0, 0), (false, (0, false, 0, 0), 0, false, 0, 0), []), 1, ())
    else
     bif (decide ((x0.2.2.length : Int) ≥ 64)) then
      some (((0, false, 0, 0), (false, (0, false, 0, 0), 0, false, 0, 0), []), 3, ())
     else
      (tube_end k x0).bind fun r5 =>
      (num_Cmp k x1 r5.1).bind fun r6 =>
      bif (decide (r6.1 ≤ 0)) then
       some (((0, false, 0, 0), (false, (0, false, 0, 0), 0, false, 0, 0), []), 6, ())
      else
       if x0.2.2.length * 176 ≤ 140737488355328 then
        if (x0.2.2.length + [(x1, x2, x3)].length) * 176 ≤ 140737488355328 then
         some ((x0.1, x0.2.1, (x0.2.2 ++ [(x1, x2, x3)])), 0, ())
        else none
       else none
theorem tube_Append.ok (k : Nat) : SpecOK Tryz.prog G0 45 ⟨[T28, T23, T25, T25], [T28, (.int .i64)], fun x => tube_Append k x.1 x.2.1 x.2.2.1 x.2.2.2.1⟩ :=
 evF_sound (E := (e35 k)) (fn := Tryz.f45) (e35.ok k) (by kernel_rfl) (by kernel_rfl) (by kernel_rfl) 8 .n trivial (fun xs => by kernel_rfl)
def e36 (k : Nat) : Env := (e35 k).add 45 ⟨[T28, T23, T25, T25], [T28, (.int .i64)], fun x => tube_Append k x.1 x.2.1 x.2.2.1 x.2.2.2.1⟩
theorem e36.ok (k : Nat) : (e36 k).OK Tryz.prog := (e35.ok k).add (tube_Append.ok k)
def iv_All (k : Nat) : Option (HL [T25]) :=
 (num_Infinite k true).bind fun r1 =>
 (num_Infinite k false).bind fun r2 =>
 some ((false, r1.1, r2.1), ())
theorem iv_All.ok (k : Nat) : SpecOK Tryz.prog G0 46 ⟨[], [T25], fun x => iv_All k⟩ :=
 evF_sound (E := (e36 k)) (fn := Tryz.f46) (e36.ok k) (by kernel_rfl) (by kernel_rfl) (by kernel_rfl) 8 .n trivial (fun xs => by kernel_rfl)
def e37 (k : Nat) : Env := (e36 k).add 46 ⟨[], [T25], fun x => iv_All k⟩
theorem e37.ok (k : Nat) : (e37 k).OK Tryz.prog := (e36.ok k).add (iv_All.ok k)
def num_Of (k : Nat) (x0 : Ty.den (.int .i64)) : Option (HL [T23]) :=
 bif (decide (x0 < 0)) then
  (bits_LeadingZeros64 k (IntKind.u64.wrap (0 - (IntKind.u64.wrap x0)))).bind fun r1 =>
  bif ((IntKind.u64.wrap (0 - (IntKind.u64.wrap x0))) == 0) then
   some ((0, false, 0, 0), ())
  else
   if r1.1 < 0 then none else
   some ((1, (decide (x0 < 0)), (IntKind.u64.wrap ((IntKind.u64.wrap (0 - (IntKind.u64.wrap x0))) * 2 ^ min (Int.toNat r1.1) IntKind.u64.bits)), (IntKind.i64.wrap (0 - r1.1))), ())
 else
  (bits_LeadingZeros64 k (IntKind.u64.wrap x0)).bind fun r2 =>
  bif ((IntKind.u64.wrap x0) == 0) then
   some ((0, false, 0, 0), ())
  else
   if r2.1 < 0 then none else
   some ((1, (decide (x0 < 0)), (IntKind.u64.wrap ((IntKind.u64.wrap x0) * 2 ^ min (Int.toNat r2.1) IntKind.u64.bits)), (IntKind.i64.wrap (0 - r2.1))), ())
theorem num_Of.ok (k : Nat) : SpecOK Tryz.prog G0 14 ⟨[(.int .i64)], [T23], fun x => num_Of k x.1⟩ :=
 evF_sound (E := (e37 k)) (fn := Tryz.f14) (e37.ok k) (by kernel_rfl) (by kernel_rfl) (by kernel_rfl) 8 .n trivial (fun xs => by kernel_rfl)
def e38 (k : Nat) : Env := (e37 k).add 14 ⟨[(.int .i64)], [T23], fun x => num_Of k x.1⟩
theorem e38.ok (k : Nat) : (e38 k).OK Tryz.prog := (e37.ok k).add (num_Of.ok k)
def peloruslaw08_Of (k : Nat) (x0 : Ty.den (.int .i64)) (x1 : Ty.den (.int .i64)) : Option (HL [T25]) :=
 (num_Of k x0).bind fun r1 =>
 (num_Of k x1).bind fun r2 =>
 (iv_Make k r1.1 r2.1).bind fun r3 =>
 some (r3.1, ())
theorem peloruslaw08_Of.ok (k : Nat) : SpecOK Tryz.prog G0 15 ⟨[(.int .i64), (.int .i64)], [T25], fun x => peloruslaw08_Of k x.1 x.2.1⟩ :=
 evF_sound (E := (e38 k)) (fn := Tryz.f15) (e38.ok k) (by kernel_rfl) (by kernel_rfl) (by kernel_rfl) 8 .n trivial (fun xs => by kernel_rfl)
def e39 (k : Nat) : Env := (e38 k).add 15 ⟨[(.int .i64), (.int .i64)], [T25], fun x => peloruslaw08_Of k x.1 x.2.1⟩
theorem e39.ok (k : Nat) : (e39 k).OK Tryz.prog := (e38.ok k).add (peloruslaw08_Of.ok k)
def iv_Point (k : Nat) (x0 : Ty.den T23) : Option (HL [T25]) :=
 (iv_Make k x0 x0).bind fun r1 =>
 some (r1.1, ())
theorem iv_Point.ok (k : Nat) : SpecOK Tryz.prog G0 16 ⟨[T23], [T25], fun x => iv_Point k x.1⟩ :=
 evF_sound (E := (e39 k)) (fn := Tryz.f16) (e39.ok k) (by kernel_rfl) (by kernel_rfl) (by kernel_rfl) 8 .n trivial (fun xs => by kernel_rfl)
def e40 (k : Nat) : Env := (e39 k).add 16 ⟨[T23], [T25], fun x => iv_Point k x.1⟩
theorem e40.ok (k : Nat) : (e40 k).OK Tryz.prog := (e39.ok k).add (iv_Point.ok k)
abbrev peloruslaw18_Plain_l0_i : Mask := ⟨[(0, 1, (.v T30)), (0, 2, (.k (.ptr 2 0 0))), (0, 5, (.k (.arr 13 0))), (0, 6, (.v (.int .i64)))], [(2, .cells (.v T28)), (13, .arr 26 T25)], [], 0⟩
abbrev peloruslaw18_Plain_l0_o : List Out := [⟨.exit 0, ⟨[(0, 1, (.v T30)), (0, 5, (.k (.arr 13 0)))], [(13, .arr 26 T25)], [], 0⟩⟩]
def peloruslaw18_Plain_l0 (k : Nat) : Nat → Mask.den peloruslaw18_Plain_l0_i → Option (denS peloruslaw18_Plain_l0_o)
 | 0, _ => none
 | m + 1, x =>
  bif (decide (x.1.2.2.2.1 < (x.2.1.2.2.length : Int))) then
   if 0 ≤ x.1.2.2.2.1 then (x.2.1.2.2[Int.toNat x.1.2.2.2.1]?).bind fun y2 =>
    if (x.2.2.1.length + [y2.2.1].length) * 72 ≤ 140737488355328 then
     if 0 ≤ x.1.2.2.2.1 then (x.2.1.2.2[Int.toNat x.1.2.2.2.1]?).bind fun y3 =>
      if ((x.2.2.1 ++ [y2.2.1]).length + [y3.2.2].length) * 72 ≤ 140737488355328 then
       if 0 ≤ x.1.2.2.2.1 then (x.2.1.2.2[Int.toNat x.1.2.2.2.1]?).bind fun y4 =>
        (iv_Point k y4.1).bind fun r5 =>
        if (((x.2.2.1 ++ [y2.2.1]) ++ [y3.2.2]).length + [r5.1].length) * 72 ≤ 140737488355328 then
         peloruslaw18_Plain_l0 k m ((x.1.1, (), (), (IntKind.i64.wrap (x.1.2.2.2.1 + 1)), ()), (x.2.1, (((x.2.2.1 ++ [y2.2.1]) ++ [y3.2.2]) ++ [r5.1]), ()))
        else none
       else none
      else none
     else none
    else none
   else none
  else
   some (Sum.inl ((x.1.1, (), ()), (x.2.2.1, ())))
abbrev peloruslaw18_Plain_l0_seg (k : Nat) : Seg := ⟨⟨0, 101, false, [], []⟩, 6, [.b, .s2, .s1, .s2, .s2, .s2], peloruslaw18_Plain_l0_i, peloruslaw18_Plain_l0_o, peloruslaw18_Plain_l0 k k⟩
theorem peloruslaw18_Plain_l0_seg.ok (k : Nat) : SegOK Tryz.prog (e40 k) (peloruslaw18_Plain_l0_seg k) :=
 SegOK.loop (e40.ok k) (by kernel_rfl) (S := peloruslaw18_Plain_l0_seg k) (c := atR (codeOf (e40 k) 6) [.l, .b, .s2, .s1, .s2, .s2, .s2]) (by kernel_rfl) (peloruslaw18_Plain_l0 k) k rfl (fun _ => rfl) 8 .n trivial (fun k' x => by kernel_rfl)
abbrev peloruslaw18_Plain_l1_i : Mask := ⟨[(0, 5, (.k (.arr 13 0))), (0, 7, (.v (.int .i64)))], [(13, .arr 26 T25)], [], 0⟩
abbrev peloruslaw18_Plain_l1_o : List Out := [⟨.ret, ⟨[(0, 4, (.v .bool))], [], [], 0⟩⟩, ⟨.exit 2, ⟨[], [], [], 0⟩⟩]
def peloruslaw18_Plain_l1 (k : Nat) : Nat → Mask.den peloruslaw18_Plain_l1_i → Option (denS peloruslaw18_Plain_l1_o)
 | 0, _ => none
 | m + 1, x =>
  bif (decide (x.1.2.1 < (x.2.1.length : Int))) then
   if 0 ≤ x.1.2.1 then (x.2.1[Int.toNat x.1.2.1]?).bind fun _ =>
    (x.2.1[(Int.toNat x.1.2.1)]?).bind fun y9 =>
    bif (decide (y9.2.1.2.2.2 > 300)) then
     some (Sum.inl ((false, ()), ()))
    else
     if 0 ≤ x.1.2.1 then (x.2.1[Int.toNat x.1.2.1]?).bind fun _ =>
      (x.2.1[(Int.toNat x.1.2.1)]?).bind fun y11 =>
      bif (decide (y11.2.1.2.2.2 < (-300))) then
       some (Sum.inl ((false, ()), ()))
      else
       if 0 ≤ x.1.2.1 then (x.2.1[Int.toNat x.1.2.1]?).bind fun _ =>
        (x.2.1[(Int.toNat x.1.2.1)]?).bind fun y13 =>
        bif (decide (y13.2.2.2.2.2 > 300)) then
         some (Sum.inl ((false, ()), ()))
        else
         if 0 ≤ x.1.2.1 then (x.2.1[Int.toNat x.1.2.1]?).bind fun _ =>
          (x.2.1[(Int.toNat x.1.2.1)]?).bind fun y15 =>
          bif (decide (y15.2.2.2.2.2 < (-300))) then
           some (Sum.inl ((false, ()), ()))
          else
           peloruslaw18_Plain_l1 k m (((), (IntKind.i64.wrap (x.1.2.1 + 1)), ()), (x.2.1, ()))
         else none
       else none
     else none
   else none
  else
   some (Sum.inr (Sum.inl ((), ())))
abbrev peloruslaw18_Plain_l1_seg (k : Nat) : Seg := ⟨⟨0, 101, false, [], []⟩, 6, [.b, .s2, .s1, .s2, .s2, .s2, .s2, .s2], peloruslaw18_Plain_l1_i, peloruslaw18_Plain_l1_o, peloruslaw18_Plain_l1 k k⟩
theorem peloruslaw18_Plain_l1_seg.ok (k : Nat) : SegOK Tryz.prog (e40 k) (peloruslaw18_Plain_l1_seg k) :=
 SegOK.loop (e40.ok k) (by kernel_rfl) (S := peloruslaw18_Plain_l1_seg k) (c := atR (codeOf (e40 k) 6) [.l, .b, .s2, .s1, .s2, .s2, .s2, .s2, .s2]) (by kernel_rfl) (peloruslaw18_Plain_l1 k) k rfl (fun _ => rfl) 8 .n trivial (fun k' x => by kernel_rfl)
def peloruslaw18_Plain (k : Nat) (x0 : Ty.den T28) (x1 : Ty.den T30) : Option (HL [.bool]) :=
 (iv_Point k x0.1).bind fun r1 =>
 bif (decide ((x0.2.2.length : Int) > 20)) then
  some (false, ())
 else
  bif (decide ((x1.length : Int) > 20)) then
   some (false, ())
  else
   (peloruslaw18_Plain_l0 k k ((x1, (), (), 0, ()), (x0, [x0.2.1, r1.1], ()))).bind fun q6 =>
   Sum.elim (fun z7 =>
     if (z7.2.1.length + z7.1.1.length) * 72 ≤ 140737488355328 then
      (peloruslaw18_Plain_l1 k k (((), 0, ()), ((z7.2.1 ++ z7.1.1), ()))).bind fun q16 =>
      Sum.elim (fun z17 =>
        some (z17.1.1, ()))
       (fun q16' =>
        Sum.elim (fun z18 =>
          some (true, ()))
         (fun q16'' =>
          none) q16') q16
     else none)
    (fun q6' =>
     none) q6
theorem peloruslaw18_Plain.ok (k : Nat) : SpecOK Tryz.prog G0 6 ⟨[T28, T30], [.bool], fun x => peloruslaw18_Plain k x.1 x.2.1⟩ :=
 evF_sound (E := (e40 k)) (fn := Tryz.f6) (e40.ok k) (by kernel_rfl) (by kernel_rfl) (by kernel_rfl) 8 (.two .n (.two (.own 5 .n) (.two .n (.two (.two .n (.two (.use (peloruslaw18_Plain_l0_seg k)) .n)) (.two .n (.two (.two .n (.two (.use (peloruslaw18_Plain_l1_seg k)) .n)) .n)))))) ⟨trivial, ⟨trivial, ⟨trivial, ⟨⟨trivial, ⟨(peloruslaw18_Plain_l0_seg.ok k), trivial⟩⟩, ⟨trivial, ⟨⟨trivial, ⟨(peloruslaw18_Plain_l1_seg.ok k), trivial⟩⟩, trivial⟩⟩⟩⟩⟩⟩ (fun xs => by kernel_rfl)
def e41 (k : Nat) : Env := (e40 k).add 6 ⟨[T28, T30], [.bool], fun x => peloruslaw18_Plain k x.1 x.2.1⟩
theorem e41.ok (k : Nat) : (e41 k).OK Tryz.prog := (e40.ok k).add (peloruslaw18_Plain.ok k)
def pelorusref08_None (k : Nat) : Option (HL [T25]) :=
 some ((true, (0, false, 0, 0), 0, false, 0, 0), ())
theorem pelorusref08_None.ok (k : Nat) : SpecOK Tryz.prog G0 40 ⟨[], [T25], fun x => pelorusref08_None k⟩ :=
 evF_sound (E := (e41 k)) (fn := Tryz.f40) (e41.ok k) (by kernel_rfl) (by kernel_rfl) (by kernel_rfl) 8 .n trivial (fun xs => by kernel_rfl)
def e42 (k : Nat) : Env := (e41 k).add 40 ⟨[], [T25], fun x => pelorusref08_None k⟩
theorem e42.ok (k : Nat) : (e42 k).OK Tryz.prog := (e41.ok k).add (pelorusref08_None.ok k)
def pelorusref05_May (k : Nat) (x0 : Ty.den T23) : Option (HL [.bool]) :=
 bif (x0.1 == 1) then
  bif (decide (x0.2.2.1 ≥ 9223372036854775808)) then
   bif (decide (x0.2.2.2 ≥ (-1048576))) then
    some ((decide (x0.2.2.2 ≤ 1048576)), ())
   else
    some (false, ())
  else
   some (false, ())
 else
  bif (x0.1 == 2) then
   bif (x0.2.2.1 == 0) then
    some ((x0.2.2.2 == 0), ())
   else
    some (false, ())
  else
   bif (x0.1 == 0) then
    bif (!x0.2.1) then
     bif (x0.2.2.1 == 0) then
      some ((x0.2.2.2 == 0), ())
     else
      some (false, ())
    else
     some (false, ())
   else
    some (false, ())
theorem pelorusref05_May.ok (k : Nat) : SpecOK Tryz.prog G0 70 ⟨[T23], [.bool], fun x => pelorusref05_May k x.1⟩ :=
 evF_sound (E := (e42 k)) (fn := Tryz.f70) (e42.ok k) (by kernel_rfl) (by kernel_rfl) (by kernel_rfl) 8 .n trivial (fun xs => by kernel_rfl)
def e43 (k : Nat) : Env := (e42 k).add 70 ⟨[T23], [.bool], fun x => pelorusref05_May k x.1⟩
theorem e43.ok (k : Nat) : (e43 k).OK Tryz.prog := (e42.ok k).add (pelorusref05_May.ok k)
def pelorusref05_fair (k : Nat) (x0 : Ty.den T23) : Option (HL [T23]) :=
 (pelorusref05_May k x0).bind fun r1 =>
 bif (!r1.1) then
  some ((0, false, 0, 0), ())
 else
  some (x0, ())
theorem pelorusref05_fair.ok (k : Nat) : SpecOK Tryz.prog G0 97 ⟨[T23], [T23], fun x => pelorusref05_fair k x.1⟩ :=
 evF_sound (E := (e43 k)) (fn := Tryz.f97) (e43.ok k) (by kernel_rfl) (by kernel_rfl) (by kernel_rfl) 8 .n trivial (fun xs => by kernel_rfl)
def e44 (k : Nat) : Env := (e43 k).add 97 ⟨[T23], [T23], fun x => pelorusref05_fair k x.1⟩
theorem e44.ok (k : Nat) : (e44 k).OK Tryz.prog := (e43.ok k).add (pelorusref05_fair.ok k)
def pelorusref05_Sign (k : Nat) (x0 : Ty.den T23) : Option (HL [(.int .i64)]) :=
 (pelorusref05_fair k x0).bind fun r1 =>
 bif (r1.1.1 == 0) then
  some (0, ())
 else
  bif r1.1.2.1 then
   some ((-1), ())
  else
   some (1, ())
theorem pelorusref05_Sign.ok (k : Nat) : SpecOK Tryz.prog G0 98 ⟨[T23], [(.int .i64)], fun x => pelorusref05_Sign k x.1⟩ :=
 evF_sound (E := (e44 k)) (fn := Tryz.f98) (e44.ok k) (by kernel_rfl) (by kernel_rfl) (by kernel_rfl) 8 .n trivial (fun xs => by kernel_rfl)
def e45 (k : Nat) : Env := (e44 k).add 98 ⟨[T23], [(.int .i64)], fun x => pelorusref05_Sign k x.1⟩
theorem e45.ok (k : Nat) : (e45 k).OK Tryz.prog := (e44.ok k).add (pelorusref05_Sign.ok k)
def pelorusref05_Cmp (k : Nat) (x0 : Ty.den T23) (x1 : Ty.den T23) : Option (HL [(.int .i64)]) :=
 (pelorusref05_fair k x0).bind fun r1 =>
 (pelorusref05_fair k x1).bind fun r2 =>
 (pelorusref05_Sign k r1.1).bind fun r3 =>
 (pelorusref05_Sign k r2.1).bind fun r4 =>
 bif (r3.1 != r4.1) then
  bif (decide (r3.1 < r4.1)) then
   some ((-1), ())
  else
   some (1, ())
 else
  bif (r3.1 == 0) then
   some (0, ())
  else
   bif (beqT T23 r1.1 r2.1) then
    some (0, ())
   else
    bif (r1.1.1 == 2) then
     some (r3.1, ())
    else
     bif (r2.1.1 != 2) then
      bif (decide (r1.1.2.2.2 > r2.1.2.2.2)) then
       some (r3.1, ())
      else
       bif (r1.1.2.2.2 == r2.1.2.2.2) then
        bif (decide (r1.1.2.2.1 > r2.1.2.2.1)) then
         some (r3.1, ())
        else
         some ((IntKind.i64.wrap (0 - r3.1)), ())
       else
        some ((IntKind.i64.wrap (0 - r3.1)), ())
     else
      some ((IntKind.i64.wrap (0 - r3.1)), ())
theorem pelorusref05_Cmp.ok (k : Nat) : SpecOK Tryz.prog G0 69 ⟨[T23, T23], [(.int .i64)], fun x => pelorusref05_Cmp k x.1 x.2.1⟩ :=
 evF_sound (E := (e45 k)) (fn := Tryz.f69) (e45.ok k) (by kernel_rfl) (by kernel_rfl) (by kernel_rfl) 8 .n trivial (fun xs => by kernel_rfl)
def e46 (k : Nat) : Env := (e45 k).add 69 ⟨[T23, T23], [(.int .i64)], fun x => pelorusref05_Cmp k x.1 x.2.1⟩
theorem e46.ok (k : Nat) : (e46 k).OK Tryz.prog := (e45.ok k).add (pelorusref05_Cmp.ok k)
def pelorusref05_Infinite (k : Nat) (x0 : Ty.den .bool) : Option (HL [T23]) :=
 some ((2, x0, 0, 0), ())
theorem pelorusref05_Infinite.ok (k : Nat) : SpecOK Tryz.prog G0 71 ⟨[.bool], [T23], fun x => pelorusref05_Infinite k x.1⟩ :=
 evF_sound (E := (e46 k)) (fn := Tryz.f71) (e46.ok k) (by kernel_rfl) (by kernel_rfl) (by kernel_rfl) 8 .n trivial (fun xs => by kernel_rfl)
def e47 (k : Nat) : Env := (e46 k).add 71 ⟨[.bool], [T23], fun x => pelorusref05_Infinite k x.1⟩
theorem e47.ok (k : Nat) : (e47 k).OK Tryz.prog := (e46.ok k).add (pelorusref05_Infinite.ok k)
def pelorusref08_May (k : Nat) (x0 : Ty.den T25) : Option (HL [.bool]) :=
 bif x0.1 then
  (pelorusref08_None k).bind fun r1 =>
  some ((beqT T25 x0 r1.1), ())
 else
  (pelorusref05_May k x0.2.1).bind fun r2 =>
  (pelorusref05_May k x0.2.2).bind fun r3 =>
  bif r2.1 then
   bif r3.1 then
    (pelorusref05_Cmp k x0.2.1 x0.2.2).bind fun r4 =>
    bif (decide (r4.1 ≤ 0)) then
     (pelorusref05_Infinite k false).bind fun r5 =>
     bif (!(beqT T23 x0.2.1 r5.1)) then
      (pelorusref05_Infinite k true).bind fun r6 =>
      some ((!(beqT T23 x0.2.2 r6.1)), ())
     else
      some (false, ())
    else
     some (false, ())
   else
    some (false, ())
  else
   some (false, ())
theorem pelorusref08_May.ok (k : Nat) : SpecOK Tryz.prog G0 27 ⟨[T25], [.bool], fun x => pelorusref08_May k x.1⟩ :=
 evF_sound (E := (e47 k)) (fn := Tryz.f27) (e47.ok k) (by kernel_rfl) (by kernel_rfl) (by kernel_rfl) 8 .n trivial (fun xs => by kernel_rfl)
def e48 (k : Nat) : Env := (e47 k).add 27 ⟨[T25], [.bool], fun x => pelorusref08_May k x.1⟩
theorem e48.ok (k : Nat) : (e48 k).OK Tryz.prog := (e47.ok k).add (pelorusref08_May.ok k)
def pelorusref17_when (k : Nat) (x0 : Ty.den T23) : Option (HL [.bool]) :=
 (pelorusref05_May k x0).bind fun r1 =>
 bif r1.1 then
  some ((x0.1 != 2), ())
 else
  some (false, ())
theorem pelorusref17_when.ok (k : Nat) : SpecOK Tryz.prog G0 68 ⟨[T23], [.bool], fun x => pelorusref17_when k x.1⟩ :=
 evF_sound (E := (e48 k)) (fn := Tryz.f68) (e48.ok k) (by kernel_rfl) (by kernel_rfl) (by kernel_rfl) 8 .n trivial (fun xs => by kernel_rfl)
def e49 (k : Nat) : Env := (e48 k).add 68 ⟨[T23], [.bool], fun x => pelorusref17_when k x.1⟩
theorem e49.ok (k : Nat) : (e49 k).OK Tryz.prog := (e48.ok k).add (pelorusref17_when.ok k)
abbrev pelorusref17_May_l0_i : Mask := ⟨[(0, 1, (.k (.ptr 1 0 0))), (0, 5, (.k (.ptr 5 0 0))), (0, 6, (.v (.int .i64)))], [(1, .cells (.v T28)), (5, .cells (.v T23))], [], 0⟩
abbrev pelorusref17_May_l0_o : List Out := [⟨.ret, ⟨[(0, 2, (.v .bool))], [], [], 0⟩⟩, ⟨.exit 0, ⟨[], [], [], 0⟩⟩]
def pelorusref17_May_l0 (k : Nat) : Nat → Mask.den pelorusref17_May_l0_i → Option (denS pelorusref17_May_l0_o)
 | 0, _ => none
 | m + 1, x =>
  bif (decide (x.1.2.2.1 < (x.2.1.2.2.length : Int))) then
   if 0 ≤ x.1.2.2.1 then (x.2.1.2.2[Int.toNat x.1.2.2.1]?).bind fun y3 =>
    (pelorusref17_when k y3.1).bind fun r4 =>
    (pelorusref08_May k y3.2.1).bind fun r5 =>
    (pelorusref08_May k y3.2.2).bind fun r6 =>
    bif (!r4.1) then
     some (Sum.inl ((false, ()), ()))
    else
     bif (!r5.1) then
      some (Sum.inl ((false, ()), ()))
     else
      bif (!r6.1) then
       some (Sum.inl ((false, ()), ()))
      else
       (pelorusref05_Cmp k y3.1 x.2.2.1).bind fun r7 =>
       bif (decide (r7.1 ≤ 0)) then
        some (Sum.inl ((false, ()), ()))
       else
        pelorusref17_May_l0 k m (((), (), (IntKind.i64.wrap (x.1.2.2.1 + 1)), ()), (x.2.1, y3.1, ()))
   else none
  else
   some (Sum.inr (Sum.inl ((), ())))
abbrev pelorusref17_May_l0_seg (k : Nat) : Seg := ⟨⟨0, 71, false, [], []⟩, 26, [.b, .s2, .s1, .s2, .s2, .s2, .s2, .s2], pelorusref17_May_l0_i, pelorusref17_May_l0_o, pelorusref17_May_l0 k k⟩
theorem pelorusref17_May_l0_seg.ok (k : Nat) : SegOK Tryz.prog (e49 k) (pelorusref17_May_l0_seg k) :=
 SegOK.loop (e49.ok k) (by kernel_rfl) (S := pelorusref17_May_l0_seg k) (c := atR (codeOf (e49 k) 26) [.l, .b, .s2, .s1, .s2, .s2, .s2, .s2, .s2]) (by kernel_rfl) (pelorusref17_May_l0 k) k rfl (fun _ => rfl) 8 .n trivial (fun k' x => by kernel_rfl)
def pelorusref17_May (k : Nat) (x0 : Ty.den T28) : Option (HL [.bool]) :=
 (pelorusref17_when k x0.1).bind fun r1 =>
 (pelorusref08_May k x0.2.1).bind fun r2 =>
 bif (!r1.1) then
  some (false, ())
 else
  bif (!r2.1) then
   some (false, ())
  else
   bif (decide ((x0.2.2.length : Int) > 64)) then
    some (false, ())
   else
    (pelorusref17_May_l0 k k (((), (), 0, ()), (x0, x0.1, ()))).bind fun q8 =>
    Sum.elim (fun z9 =>
      some (z9.1.1, ()))
     (fun q8' =>
      Sum.elim (fun z10 =>
        some (true, ()))
       (fun q8'' =>
        none) q8') q8
theorem pelorusref17_May.ok (k : Nat) : SpecOK Tryz.prog G0 26 ⟨[T28], [.bool], fun x => pelorusref17_May k x.1⟩ :=
 evF_sound (E := (e49 k)) (fn := Tryz.f26) (e49.ok k) (by kernel_rfl) (by kernel_rfl) (by kernel_rfl) 8 (.two .n (.two .n (.two .n (.two .n (.two .n (.two (.two .n (.two (.use (pelorusref17_May_l0_seg k)) .n)) .n)))))) ⟨trivial, ⟨trivial, ⟨trivial, ⟨trivial, ⟨trivial, ⟨⟨trivial, ⟨(pelorusref17_May_l0_seg.ok k), trivial⟩⟩, trivial⟩⟩⟩⟩⟩⟩ (fun xs => by kernel_rfl)
def e50 (k : Nat) : Env := (e49 k).add 26 ⟨[T28], [.bool], fun x => pelorusref17_May k x.1⟩
theorem e50.ok (k : Nat) : (e50 k).OK Tryz.prog := (e49.ok k).add (pelorusref17_May.ok k)
def pelorusref17_When (k : Nat) (x0 : Ty.den T28) (x1 : Ty.den (.int .i64)) : Option (HL [T23]) :=
 bif (x1 == 0) then
  some (x0.1, ())
 else
  if 0 ≤ (IntKind.i64.wrap (x1 - 1)) then (x0.2.2[Int.toNat (IntKind.i64.wrap (x1 - 1))]?).bind fun y1 =>
   some (y1.1, ())
  else none
theorem pelorusref17_When.ok (k : Nat) : SpecOK Tryz.prog G0 41 ⟨[T28, (.int .i64)], [T23], fun x => pelorusref17_When k x.1 x.2.1⟩ :=
 evF_sound (E := (e50 k)) (fn := Tryz.f41) (e50.ok k) (by kernel_rfl) (by kernel_rfl) (by kernel_rfl) 8 .n trivial (fun xs => by kernel_rfl)
def e51 (k : Nat) : Env := (e50 k).add 41 ⟨[T28, (.int .i64)], [T23], fun x => pelorusref17_When k x.1 x.2.1⟩
theorem e51.ok (k : Nat) : (e51 k).OK Tryz.prog := (e50.ok k).add (pelorusref17_When.ok k)
def pelorusref08_Fair (k : Nat) (x0 : Ty.den T25) : Option (HL [T25]) :=
 (pelorusref08_May k x0).bind fun r1 =>
 bif (!r1.1) then
  (pelorusref08_None k).bind fun r2 =>
  some (r2.1, ())
 else
  some (x0, ())
theorem pelorusref08_Fair.ok (k : Nat) : SpecOK Tryz.prog G0 74 ⟨[T25], [T25], fun x => pelorusref08_Fair k x.1⟩ :=
 evF_sound (E := (e51 k)) (fn := Tryz.f74) (e51.ok k) (by kernel_rfl) (by kernel_rfl) (by kernel_rfl) 8 .n trivial (fun xs => by kernel_rfl)
def e52 (k : Nat) : Env := (e51 k).add 74 ⟨[T25], [T25], fun x => pelorusref08_Fair k x.1⟩
theorem e52.ok (k : Nat) : (e52 k).OK Tryz.prog := (e51.ok k).add (pelorusref08_Fair.ok k)
def pelorusref06_Fair (k : Nat) (x0 : Ty.den T23) : Option (HL [T23]) :=
 (pelorusref05_May k x0).bind fun r1 =>
 bif (!r1.1) then
  some ((0, false, 0, 0), ())
 else
  some (x0, ())
theorem pelorusref06_Fair.ok (k : Nat) : SpecOK Tryz.prog G0 82 ⟨[T23], [T23], fun x => pelorusref06_Fair k x.1⟩ :=
 evF_sound (E := (e52 k)) (fn := Tryz.f82) (e52.ok k) (by kernel_rfl) (by kernel_rfl) (by kernel_rfl) 8 .n trivial (fun xs => by kernel_rfl)
def e53 (k : Nat) : Env := (e52 k).add 82 ⟨[T23], [T23], fun x => pelorusref06_Fair k x.1⟩
theorem e53.ok (k : Nat) : (e53 k).OK Tryz.prog := (e52.ok k).add (pelorusref06_Fair.ok k)
def pelorusref08_Make (k : Nat) (x0 : Ty.den T23) (x1 : Ty.den T23) : Option (HL [T25]) :=
 (pelorusref06_Fair k x0).bind fun r1 =>
 (pelorusref06_Fair k x1).bind fun r2 =>
 (pelorusref08_Fair k (false, r1.1, r2.1)).bind fun r3 =>
 some (r3.1, ())
theorem pelorusref08_Make.ok (k : Nat) : SpecOK Tryz.prog G0 42 ⟨[T23, T23], [T25], fun x => pelorusref08_Make k x.1 x.2.1⟩ :=
 evF_sound (E := (e53 k)) (fn := Tryz.f42) (e53.ok k) (by kernel_rfl) (by kernel_rfl) (by kernel_rfl) 8 .n trivial (fun xs => by kernel_rfl)
def e54 (k : Nat) : Env := (e53 k).add 42 ⟨[T23, T23], [T25], fun x => pelorusref08_Make k x.1 x.2.1⟩
theorem e54.ok (k : Nat) : (e54 k).OK Tryz.prog := (e53.ok k).add (pelorusref08_Make.ok k)
abbrev pelorusref01_Trim_l0_i : Mask := ⟨[(0, 0, (.v T93)), (0, 3, (.v (.int .i64)))], [], [], 0⟩
abbrev pelorusref01_Trim_l0_o : List Out := [⟨.exit 0, ⟨[(0, 0, (.v T93)), (0, 3, (.v (.int .i64)))], [], [], 0⟩⟩]
def pelorusref01_Trim_l0 (k : Nat) : Nat → Mask.den pelorusref01_Trim_l0_i → Option (denS pelorusref01_Trim_l0_o)
 | 0, _ => none
 | m + 1, x =>
  bif (decide (x.1.2.1 > 0)) then
   if 0 ≤ (IntKind.i64.wrap (x.1.2.1 - 1)) then (x.1.1[Int.toNat (IntKind.i64.wrap (x.1.2.1 - 1))]?).bind fun y1 =>
    bif (y1 == 0) then
     pelorusref01_Trim_l0 k m ((x.1.1, (IntKind.i64.wrap (x.1.2.1 - 1)), ()), ())
    else
     some (Sum.inl ((x.1.1, x.1.2.1, ()), ()))
   else none
  else
   some (Sum.inl ((x.1.1, x.1.2.1, ()), ()))
abbrev pelorusref01_Trim_l0_seg (k : Nat) : Seg := ⟨⟨0, 22, false, [], []⟩, 123, [.b, .s1, .s2, .s2], pelorusref01_Trim_l0_i, pelorusref01_Trim_l0_o, pelorusref01_Trim_l0 k k⟩
theorem pelorusref01_Trim_l0_seg.ok (k : Nat) : SegOK Tryz.prog (e54 k) (pelorusref01_Trim_l0_seg k) :=
 SegOK.loop (e54.ok k) (by kernel_rfl) (S := pelorusref01_Trim_l0_seg k) (c := atR (codeOf (e54 k) 123) [.l, .b, .s1, .s2, .s2]) (by kernel_rfl) (pelorusref01_Trim_l0 k) k rfl (fun _ => rfl) 8 .n trivial (fun k' x => by kernel_rfl)
def pelorusref01_Trim (k : Nat) (x0 : Ty.den T93) : Option (HL [T93]) :=
 (pelorusref01_Trim_l0 k k ((x0, (x0.length : Int), ()), ())).bind fun q2 =>
 Sum.elim (fun z3 =>
   if (0 : Int) ≤ 0 ∧ 0 ≤ z3.1.2.1 ∧ z3.1.2.1 ≤ (z3.1.1.length : Int) then
    if (List.drop (Int.toNat 0) (List.take (Int.toNat z3.1.2.1) z3.1.1)).length * 4 ≤ 140737488355328 then
     some ((List.drop (Int.toNat 0) (List.take (Int.toNat z3.1.2.1) z3.1.1)), ())
    else none
   else none)
  (fun q2' =>
   none) q2
theorem pelorusref01_Trim.ok (k : Nat) : SpecOK Tryz.prog G0 123 ⟨[T93], [T93], fun x => pelorusref01_Trim k x.1⟩ :=
 evF_sound (E := (e54 k)) (fn := Tryz.f123) (e54.ok k) (by kernel_rfl) (by kernel_rfl) (by kernel_rfl) 8 (.two .n (.two .n (.two (.two (.use (pelorusref01_Trim_l0_seg k)) .n) .n))) ⟨trivial, ⟨trivial, ⟨⟨(pelorusref01_Trim_l0_seg.ok k), trivial⟩, trivial⟩⟩⟩ (fun xs => by kernel_rfl)
def e55 (k : Nat) : Env := (e54 k).add 123 ⟨[T93], [T93], fun x => pelorusref01_Trim k x.1⟩
theorem e55.ok (k : Nat) : (e55 k).OK Tryz.prog := (e54.ok k).add (pelorusref01_Trim.ok k)
def pelorusref02_Make (k : Nat) (x0 : Ty.den .bool) (x1 : Ty.den T93) : Option (HL [T94]) :=
 (pelorusref01_Trim k x1).bind fun r1 =>
 bif x0 then
  some (((decide ((r1.1.length : Int) > 0)), r1.1), ())
 else
  some ((false, r1.1), ())
theorem pelorusref02_Make.ok (k : Nat) : SpecOK Tryz.prog G0 111 ⟨[.bool, T93], [T94], fun x => pelorusref02_Make k x.1 x.2.1⟩ :=
 evF_sound (E := (e55 k)) (fn := Tryz.f111) (e55.ok k) (by kernel_rfl) (by kernel_rfl) (by kernel_rfl) 8 .n trivial (fun xs => by kernel_rfl)
def e56 (k : Nat) : Env := (e55 k).add 111 ⟨[.bool, T93], [T94], fun x => pelorusref02_Make k x.1 x.2.1⟩
theorem e56.ok (k : Nat) : (e56 k).OK Tryz.prog := (e55.ok k).add (pelorusref02_Make.ok k)
abbrev pelorusref01_Len_l0_i : Mask := ⟨[(0, 4, (.v (.int .i64))), (0, 5, (.v (.int .u32)))], [], [], 0⟩
abbrev pelorusref01_Len_l0_o : List Out := [⟨.exit 0, ⟨[(0, 4, (.v (.int .i64)))], [], [], 0⟩⟩]
def pelorusref01_Len_l0 (k : Nat) : Nat → Mask.den pelorusref01_Len_l0_i → Option (denS pelorusref01_Len_l0_o)
 | 0, _ => none
 | m + 1, x =>
  bif (decide (x.1.2.1 > 0)) then
   pelorusref01_Len_l0 k m (((IntKind.i64.wrap (x.1.1 + 1)), (IntKind.u32.wrap (Int.tdiv x.1.2.1 2)), ()), ())
  else
   some (Sum.inl ((x.1.1, ()), ()))
abbrev pelorusref01_Len_l0_seg (k : Nat) : Seg := ⟨⟨0, 28, false, [], []⟩, 113, [.b, .s2, .s1, .s2, .s2, .s2, .s2], pelorusref01_Len_l0_i, pelorusref01_Len_l0_o, pelorusref01_Len_l0 k k⟩
theorem pelorusref01_Len_l0_seg.ok (k : Nat) : SegOK Tryz.prog (e56 k) (pelorusref01_Len_l0_seg k) :=
 SegOK.loop (e56.ok k) (by kernel_rfl) (S := pelorusref01_Len_l0_seg k) (c := atR (codeOf (e56 k) 113) [.l, .b, .s2, .s1, .s2, .s2, .s2, .s2]) (by kernel_rfl) (pelorusref01_Len_l0 k) k rfl (fun _ => rfl) 8 .n trivial (fun k' x => by kernel_rfl)
def pelorusref01_Len (k : Nat) (x0 : Ty.den T93) : Option (HL [(.int .i64)]) :=
 (pelorusref01_Trim k x0).bind fun r1 =>
 bif ((r1.1.length : Int) == 0) then
  some (0, ())
 else
  if 0 ≤ (IntKind.i64.wrap ((r1.1.length : Int) - 1)) then (r1.1[Int.toNat (IntKind.i64.wrap ((r1.1.length : Int) - 1))]?).bind fun y2 =>
   (pelorusref01_Len_l0 k k (((IntKind.i64.wrap (32 * (IntKind.i64.wrap ((r1.1.length : Int) - 1)))), y2, ()), ())).bind fun q3 =>
   Sum.elim (fun z4 =>
     some (z4.1.1, ()))
    (fun q3' =>
     none) q3
  else none
theorem pelorusref01_Len.ok (k : Nat) : SpecOK Tryz.prog G0 113 ⟨[T93], [(.int .i64)], fun x => pelorusref01_Len k x.1⟩ :=
 evF_sound (E := (e56 k)) (fn := Tryz.f113) (e56.ok k) (by kernel_rfl) (by kernel_rfl) (by kernel_rfl) 8 (.two .n (.two .n (.two .n (.two .n (.two (.two .n (.two (.use (pelorusref01_Len_l0_seg k)) .n)) .n))))) ⟨trivial, ⟨trivial, ⟨trivial, ⟨trivial, ⟨⟨trivial, ⟨(pelorusref01_Len_l0_seg.ok k), trivial⟩⟩, trivial⟩⟩⟩⟩⟩ (fun xs => by kernel_rfl)
def e57 (k : Nat) : Env := (e56 k).add 113 ⟨[T93], [(.int .i64)], fun x => pelorusref01_Len k x.1⟩
theorem e57.ok (k : Nat) : (e57 k).OK Tryz.prog := (e56.ok k).add (pelorusref01_Len.ok k)
def pelorusref01_at (k : Nat) (x0 : Ty.den T93) (x1 : Ty.den (.int .i64)) : Option (HL [(.int .u64)]) :=
 bif (decide (x1 ≥ (x0.length : Int))) then
  some (0, ())
 else
  if 0 ≤ x1 then (x0[Int.toNat x1]?).bind fun y1 =>
   some ((IntKind.u64.wrap y1), ())
  else none
theorem pelorusref01_at.ok (k : Nat) : SpecOK Tryz.prog G0 126 ⟨[T93, (.int .i64)], [(.int .u64)], fun x => pelorusref01_at k x.1 x.2.1⟩ :=
 evF_sound (E := (e57 k)) (fn := Tryz.f126) (e57.ok k) (by kernel_rfl) (by kernel_rfl) (by kernel_rfl) 8 .n trivial (fun xs => by kernel_rfl)
def e58 (k : Nat) : Env := (e57 k).add 126 ⟨[T93, (.int .i64)], [(.int .u64)], fun x => pelorusref01_at k x.1 x.2.1⟩
theorem e58.ok (k : Nat) : (e58 k).OK Tryz.prog := (e57.ok k).add (pelorusref01_at.ok k)
abbrev pelorusref01_Add_l0_i : Mask := ⟨[(0, 0, (.v T93)), (0, 1, (.v T93)), (0, 5, (.k (.arr 39 0))), (0, 6, (.v (.int .u64))), (0, 7, (.v (.int .i64)))], [(39, .arr 120 (.int .u32))], [], 0⟩
abbrev pelorusref01_Add_l0_o : List Out := [⟨.exit 0, ⟨[(0, 5, (.k (.arr 39 0)))], [(39, .arr 120 (.int .u32))], [], 0⟩⟩]
def pelorusref01_Add_l0 (k : Nat) : Nat → Mask.den pelorusref01_Add_l0_i → Option (denS pelorusref01_Add_l0_o)
 | 0, _ => none
 | m + 1, x =>
  bif (decide (x.1.2.2.2.2.1 < (x.1.1.length : Int))) then
   (pelorusref01_at k x.1.1 x.1.2.2.2.2.1).bind fun r3 =>
   (pelorusref01_at k x.1.2.1 x.1.2.2.2.2.1).bind fun r4 =>
   if (x.2.1.length + [(IntKind.u32.wrap (Int.tmod (IntKind.u64.wrap ((IntKind.u64.wrap (r3.1 + r4.1)) + x.1.2.2.2.1)) 4294967296))].length) * 4 ≤ 140737488355328 then
    pelorusref01_Add_l0 k m ((x.1.1, x.1.2.1, (), (IntKind.u64.wrap (Int.tdiv (IntKind.u64.wrap ((IntKind.u64.wrap (r3.1 + r4.1)) + x.1.2.2.2.1)) 4294967296)), (IntKind.i64.wrap (x.1.2.2.2.2.1 + 1)), ()), ((x.2.1 ++ [(IntKind.u32.wrap (Int.tmod (IntKind.u64.wrap ((IntKind.u64.wrap (r3.1 + r4.1)) + x.1.2.2.2.1)) 4294967296))]), ()))
   else none
  else
   bif (decide (x.1.2.2.2.2.1 < (x.1.2.1.length : Int))) then
    (pelorusref01_at k x.1.1 x.1.2.2.2.2.1).bind fun r5 =>
    (pelorusref01_at k x.1.2.1 x.1.2.2.2.2.1).bind fun r6 =>
    if (x.2.1.length + [(IntKind.u32.wrap (Int.tmod (IntKind.u64.wrap ((IntKind.u64.wrap (r5.1 + r6.1)) + x.1.2.2.2.1)) 4294967296))].length) * 4 ≤ 140737488355328 then
     pelorusref01_Add_l0 k m ((x.1.1, x.1.2.1, (), (IntKind.u64.wrap (Int.tdiv (IntKind.u64.wrap ((IntKind.u64.wrap (r5.1 + r6.1)) + x.1.2.2.2.1)) 4294967296)), (IntKind.i64.wrap (x.1.2.2.2.2.1 + 1)), ()), ((x.2.1 ++ [(IntKind.u32.wrap (Int.tmod (IntKind.u64.wrap ((IntKind.u64.wrap (r5.1 + r6.1)) + x.1.2.2.2.1)) 4294967296))]), ()))
    else none
   else
    bif (decide (x.1.2.2.2.1 > 0)) then
     (pelorusref01_at k x.1.1 x.1.2.2.2.2.1).bind fun r7 =>
     (pelorusref01_at k x.1.2.1 x.1.2.2.2.2.1).bind fun r8 =>
     if (x.2.1.length + [(IntKind.u32.wrap (Int.tmod (IntKind.u64.wrap ((IntKind.u64.wrap (r7.1 + r8.1)) + x.1.2.2.2.1)) 4294967296))].length) * 4 ≤ 140737488355328 then
      pelorusref01_Add_l0 k m ((x.1.1, x.1.2.1, (), (IntKind.u64.wrap (Int.tdiv (IntKind.u64.wrap ((IntKind.u64.wrap (r7.1 + r8.1)) + x.1.2.2.2.1)) 4294967296)), (IntKind.i64.wrap (x.1.2.2.2.2.1 + 1)), ()), ((x.2.1 ++ [(IntKind.u32.wrap (Int.tmod (IntKind.u64.wrap ((IntKind.u64.wrap (r7.1 + r8.1)) + x.1.2.2.2.1)) 4294967296))]), ()))
     else none
    else
     some (Sum.inl (((), ()), (x.2.1, ())))
abbrev pelorusref01_Add_l0_seg (k : Nat) : Seg := ⟨⟨0, 44, false, [], []⟩, 118, [.b, .s2, .s1, .s2, .s2, .s2], pelorusref01_Add_l0_i, pelorusref01_Add_l0_o, pelorusref01_Add_l0 k k⟩
theorem pelorusref01_Add_l0_seg.ok (k : Nat) : SegOK Tryz.prog (e58 k) (pelorusref01_Add_l0_seg k) :=
 SegOK.loop (e58.ok k) (by kernel_rfl) (S := pelorusref01_Add_l0_seg k) (c := atR (codeOf (e58 k) 118) [.l, .b, .s2, .s1, .s2, .s2, .s2]) (by kernel_rfl) (pelorusref01_Add_l0 k) k rfl (fun _ => rfl) 8 .n trivial (fun k' x => by kernel_rfl)
def pelorusref01_Add (k : Nat) (x0 : Ty.den T93) (x1 : Ty.den T93) : Option (HL [T93]) :=
 (pelorusref01_Add_l0 k k ((x0, x1, (), 0, 0, ()), ([], ()))).bind fun q9 =>
 Sum.elim (fun z10 =>
   (pelorusref01_Trim k z10.2.1).bind fun r11 =>
   some (r11.1, ()))
  (fun q9' =>
   none) q9
theorem pelorusref01_Add.ok (k : Nat) : SpecOK Tryz.prog G0 118 ⟨[T93, T93], [T93], fun x => pelorusref01_Add k x.1 x.2.1⟩ :=
 evF_sound (E := (e58 k)) (fn := Tryz.f118) (e58.ok k) (by kernel_rfl) (by kernel_rfl) (by kernel_rfl) 8 (.two .n (.two .n (.two .n (.two (.two .n (.two (.use (pelorusref01_Add_l0_seg k)) .n)) (.two (.own 1 .n) .n))))) ⟨trivial, ⟨trivial, ⟨trivial, ⟨⟨trivial, ⟨(pelorusref01_Add_l0_seg.ok k), trivial⟩⟩, ⟨trivial, trivial⟩⟩⟩⟩⟩ (fun xs => by kernel_rfl)
def e59 (k : Nat) : Env := (e58 k).add 118 ⟨[T93, T93], [T93], fun x => pelorusref01_Add k x.1 x.2.1⟩
theorem e59.ok (k : Nat) : (e59 k).OK Tryz.prog := (e58.ok k).add (pelorusref01_Add.ok k)
abbrev pelorusref01_Cmp_l0_i : Mask := ⟨[(0, 5, (.v T93)), (0, 6, (.v T93)), (0, 7, (.v (.int .i64)))], [], [], 0⟩
abbrev pelorusref01_Cmp_l0_o : List Out := [⟨.ret, ⟨[(0, 4, (.v (.int .i64)))], [], [], 0⟩⟩, ⟨.exit 0, ⟨[], [], [], 0⟩⟩]
def pelorusref01_Cmp_l0 (k : Nat) : Nat → Mask.den pelorusref01_Cmp_l0_i → Option (denS pelorusref01_Cmp_l0_o)
 | 0, _ => none
 | m + 1, x =>
  bif (decide (x.1.2.2.1 ≥ 0)) then
   if 0 ≤ x.1.2.2.1 then (x.1.1[Int.toNat x.1.2.2.1]?).bind fun y3 =>
    if 0 ≤ x.1.2.2.1 then (x.1.2.1[Int.toNat x.1.2.2.1]?).bind fun y4 =>
     bif (decide (y3 < y4)) then
      some (Sum.inl (((-1), ()), ()))
     else
      if 0 ≤ x.1.2.2.1 then (x.1.1[Int.toNat x.1.2.2.1]?).bind fun y5 =>
       if 0 ≤ x.1.2.2.1 then (x.1.2.1[Int.toNat x.1.2.2.1]?).bind fun y6 =>
        bif (decide (y5 > y6)) then
         some (Sum.inl ((1, ()), ()))
        else
         pelorusref01_Cmp_l0 k m ((x.1.1, x.1.2.1, (IntKind.i64.wrap (x.1.2.2.1 - 1)), ()), ())
       else none
      else none
    else none
   else none
  else
   some (Sum.inr (Sum.inl ((), ())))
abbrev pelorusref01_Cmp_l0_seg (k : Nat) : Seg := ⟨⟨0, 47, false, [], []⟩, 132, [.b, .s2, .s1, .s2, .s2, .s2, .s2], pelorusref01_Cmp_l0_i, pelorusref01_Cmp_l0_o, pelorusref01_Cmp_l0 k k⟩
theorem pelorusref01_Cmp_l0_seg.ok (k : Nat) : SegOK Tryz.prog (e59 k) (pelorusref01_Cmp_l0_seg k) :=
 SegOK.loop (e59.ok k) (by kernel_rfl) (S := pelorusref01_Cmp_l0_seg k) (c := atR (codeOf (e59 k) 132) [.l, .b, .s2, .s1, .s2, .s2, .s2, .s2]) (by kernel_rfl) (pelorusref01_Cmp_l0 k) k rfl (fun _ => rfl) 8 .n trivial (fun k' x => by kernel_rfl)
def pelorusref01_Cmp (k : Nat) (x0 : Ty.den T93) (x1 : Ty.den T93) : Option (HL [(.int .i64)]) :=
 (pelorusref01_Trim k x0).bind fun r1 =>
 (pelorusref01_Trim k x1).bind fun r2 =>
 bif ((r1.1.length : Int) != (r2.1.length : Int)) then
  bif (decide ((r1.1.length : Int) < (r2.1.length : Int))) then
   some ((-1), ())
  else
   some (1, ())
 else
  (pelorusref01_Cmp_l0 k k ((r1.1, r2.1, (IntKind.i64.wrap ((r1.1.length : Int) - 1)), ()), ())).bind fun q7 =>
  Sum.elim (fun z8 =>
    some (z8.1.1, ()))
   (fun q7' =>
    Sum.elim (fun z9 =>
      some (0, ()))
     (fun q7'' =>
      none) q7') q7
theorem pelorusref01_Cmp.ok (k : Nat) : SpecOK Tryz.prog G0 132 ⟨[T93, T93], [(.int .i64)], fun x => pelorusref01_Cmp k x.1 x.2.1⟩ :=
 evF_sound (E := (e59 k)) (fn := Tryz.f132) (e59.ok k) (by kernel_rfl) (by kernel_rfl) (by kernel_rfl) 8 (.two .n (.two .n (.two .n (.two .n (.two (.two .n (.two (.use (pelorusref01_Cmp_l0_seg k)) .n)) .n))))) ⟨trivial, ⟨trivial, ⟨trivial, ⟨trivial, ⟨⟨trivial, ⟨(pelorusref01_Cmp_l0_seg.ok k), trivial⟩⟩, trivial⟩⟩⟩⟩⟩ (fun xs => by kernel_rfl)
def e60 (k : Nat) : Env := (e59 k).add 132 ⟨[T93, T93], [(.int .i64)], fun x => pelorusref01_Cmp k x.1 x.2.1⟩
theorem e60.ok (k : Nat) : (e60 k).OK Tryz.prog := (e59.ok k).add (pelorusref01_Cmp.ok k)
abbrev pelorusref01_Sub_l0_i : Mask := ⟨[(0, 0, (.v T93)), (0, 1, (.v T93)), (0, 6, (.k (.arr 35 0))), (0, 7, (.v (.int .u64))), (0, 8, (.v (.int .i64)))], [(35, .arr 120 (.int .u32))], [], 0⟩
abbrev pelorusref01_Sub_l0_o : List Out := [⟨.exit 0, ⟨[(0, 6, (.k (.arr 35 0)))], [(35, .arr 120 (.int .u32))], [], 0⟩⟩]
def pelorusref01_Sub_l0 (k : Nat) : Nat → Mask.den pelorusref01_Sub_l0_i → Option (denS pelorusref01_Sub_l0_o)
 | 0, _ => none
 | m + 1, x =>
  bif (decide (x.1.2.2.2.2.1 < (x.1.1.length : Int))) then
   (pelorusref01_at k x.1.1 x.1.2.2.2.2.1).bind fun r4 =>
   (pelorusref01_at k x.1.2.1 x.1.2.2.2.2.1).bind fun r5 =>
   if (x.2.1.length + [(IntKind.u32.wrap (Int.tmod (IntKind.u64.wrap ((IntKind.u64.wrap ((IntKind.u64.wrap (4294967296 + r4.1)) - r5.1)) - x.1.2.2.2.1)) 4294967296))].length) * 4 ≤ 140737488355328 then
    pelorusref01_Sub_l0 k m ((x.1.1, x.1.2.1, (), (IntKind.u64.wrap (1 - (IntKind.u64.wrap (Int.tdiv (IntKind.u64.wrap ((IntKind.u64.wrap ((IntKind.u64.wrap (4294967296 + r4.1)) - r5.1)) - x.1.2.2.2.1)) 4294967296)))), (IntKind.i64.wrap (x.1.2.2.2.2.1 + 1)), ()), ((x.2.1 ++ [(IntKind.u32.wrap (Int.tmod (IntKind.u64.wrap ((IntKind.u64.wrap ((IntKind.u64.wrap (4294967296 + r4.1)) - r5.1)) - x.1.2.2.2.1)) 4294967296))]), ()))
   else none
  else
   some (Sum.inl (((), ()), (x.2.1, ())))
abbrev pelorusref01_Sub_l0_seg (k : Nat) : Seg := ⟨⟨0, 41, false, [], []⟩, 127, [.b, .s2, .s1, .s2, .s2, .s2, .s2], pelorusref01_Sub_l0_i, pelorusref01_Sub_l0_o, pelorusref01_Sub_l0 k k⟩
theorem pelorusref01_Sub_l0_seg.ok (k : Nat) : SegOK Tryz.prog (e60 k) (pelorusref01_Sub_l0_seg k) :=
 SegOK.loop (e60.ok k) (by kernel_rfl) (S := pelorusref01_Sub_l0_seg k) (c := atR (codeOf (e60 k) 127) [.l, .b, .s2, .s1, .s2, .s2, .s2, .s2]) (by kernel_rfl) (pelorusref01_Sub_l0 k) k rfl (fun _ => rfl) 8 .n trivial (fun k' x => by kernel_rfl)
def pelorusref01_Sub (k : Nat) (x0 : Ty.den T93) (x1 : Ty.den T93) : Option (HL [T93, .bool]) :=
 (pelorusref01_Cmp k x0 x1).bind fun r1 =>
 bif (decide (r1.1 < 0)) then
  some ([], false, ())
 else
  (pelorusref01_Sub_l0 k k ((x0, x1, (), 0, 0, ()), ([], ()))).bind fun q6 =>
  Sum.elim (fun z7 =>
    (pelorusref01_Trim k z7.2.1).bind fun r8 =>
    some (r8.1, true, ()))
   (fun q6' =>
    none) q6
theorem pelorusref01_Sub.ok (k : Nat) : SpecOK Tryz.prog G0 127 ⟨[T93, T93], [T93, .bool], fun x => pelorusref01_Sub k x.1 x.2.1⟩ :=
 evF_sound (E := (e60 k)) (fn := Tryz.f127) (e60.ok k) (by kernel_rfl) (by kernel_rfl) (by kernel_rfl) 8 (.two .n (.two .n (.two .n (.two .n (.two (.two .n (.two (.use (pelorusref01_Sub_l0_seg k)) .n)) (.two (.own 1 .n) .n)))))) ⟨trivial, ⟨trivial, ⟨trivial, ⟨trivial, ⟨⟨trivial, ⟨(pelorusref01_Sub_l0_seg.ok k), trivial⟩⟩, ⟨trivial, trivial⟩⟩⟩⟩⟩⟩ (fun xs => by kernel_rfl)
def e61 (k : Nat) : Env := (e60 k).add 127 ⟨[T93, T93], [T93, .bool], fun x => pelorusref01_Sub k x.1 x.2.1⟩
theorem e61.ok (k : Nat) : (e61 k).OK Tryz.prog := (e60.ok k).add (pelorusref01_Sub.ok k)
def pelorusref01_bit (k : Nat) (x0 : Ty.den T93) (x1 : Ty.den (.int .i64)) : Option (HL [.bool]) :=
 (pelorusref01_at k x0 (IntKind.i64.wrap (Int.tdiv x1 32))).bind fun r1 =>
 if (IntKind.u64.wrap (Int.tmod x1 32)) < 0 then none else
 some (((Int.tmod (Int.fdiv r1.1 (2 ^ min (Int.toNat (IntKind.u64.wrap (Int.tmod x1 32))) IntKind.u64.bits)) 2) == 1), ())
theorem pelorusref01_bit.ok (k : Nat) : SpecOK Tryz.prog G0 130 ⟨[T93, (.int .i64)], [.bool], fun x => pelorusref01_bit k x.1 x.2.1⟩ :=
 evF_sound (E := (e61 k)) (fn := Tryz.f130) (e61.ok k) (by kernel_rfl) (by kernel_rfl) (by kernel_rfl) 8 .n trivial (fun xs => by kernel_rfl)
def e62 (k : Nat) : Env := (e61 k).add 130 ⟨[T93, (.int .i64)], [.bool], fun x => pelorusref01_bit k x.1 x.2.1⟩
theorem e62.ok (k : Nat) : (e62 k).OK Tryz.prog := (e61.ok k).add (pelorusref01_bit.ok k)
abbrev pelorusref01_set_l0_i : Mask := ⟨[(0, 1, (.v (.int .i64))), (0, 5, (.k (.arr 7 0)))], [(7, .arr 120 (.int .u32))], [], 0⟩
abbrev pelorusref01_set_l0_o : List Out := [⟨.exit 0, ⟨[(0, 1, (.v (.int .i64))), (0, 5, (.k (.arr 7 0)))], [(7, .arr 120 (.int .u32))], [], 0⟩⟩]
def pelorusref01_set_l0 (k : Nat) : Nat → Mask.den pelorusref01_set_l0_i → Option (denS pelorusref01_set_l0_o)
 | 0, _ => none
 | m + 1, x =>
  bif (decide ((x.2.1.length : Int) ≤ (IntKind.i64.wrap (Int.tdiv x.1.1 32)))) then
   if (x.2.1.length + [0].length) * 4 ≤ 140737488355328 then
    pelorusref01_set_l0 k m ((x.1.1, (), ()), ((x.2.1 ++ [0]), ()))
   else none
  else
   some (Sum.inl ((x.1.1, (), ()), (x.2.1, ())))
abbrev pelorusref01_set_l0_seg (k : Nat) : Seg := ⟨⟨0, 31, false, [], []⟩, 131, [.b, .s1, .s2, .s2], pelorusref01_set_l0_i, pelorusref01_set_l0_o, pelorusref01_set_l0 k k⟩
theorem pelorusref01_set_l0_seg.ok (k : Nat) : SegOK Tryz.prog (e62 k) (pelorusref01_set_l0_seg k) :=
 SegOK.loop (e62.ok k) (by kernel_rfl) (S := pelorusref01_set_l0_seg k) (c := atR (codeOf (e62 k) 131) [.l, .b, .s1, .s2, .s2]) (by kernel_rfl) (pelorusref01_set_l0 k) k rfl (fun _ => rfl) 8 .n trivial (fun k' x => by kernel_rfl)
def pelorusref01_set (k : Nat) (x0 : Ty.den T93) (x1 : Ty.den (.int .i64)) : Option (HL [T93]) :=
 if x0.length * 4 ≤ 140737488355328 then
  (pelorusref01_set_l0 k k ((x1, (), ()), (x0, ()))).bind fun q1 =>
  Sum.elim (fun z2 =>
    if 0 ≤ (IntKind.i64.wrap (Int.tdiv z2.1.1 32)) then (z2.2.1[Int.toNat (IntKind.i64.wrap (Int.tdiv z2.1.1 32))]?).bind fun _ =>
     (z2.2.1[(Int.toNat (IntKind.i64.wrap (Int.tdiv z2.1.1 32)))]?).bind fun y4 =>
     if (IntKind.u64.wrap (Int.tmod z2.1.1 32)) < 0 then none else
     if 0 ≤ (IntKind.i64.wrap (Int.tdiv z2.1.1 32)) then (z2.2.1[Int.toNat (IntKind.i64.wrap (Int.tdiv z2.1.1 32))]?).bind fun _ =>
      (z2.2.1[(Int.toNat (IntKind.i64.wrap (Int.tdiv z2.1.1 32)))]?).bind fun y6 =>
      some ((z2.2.1.set (Int.toNat (IntKind.i64.wrap (Int.tdiv z2.1.1 32))) (IntKind.u32.wrap (y4 + (IntKind.u32.wrap (1 * 2 ^ min (Int.toNat (IntKind.u64.wrap (Int.tmod z2.1.1 32))) IntKind.u32.bits))))), ())
     else none
    else none)
   (fun q1' =>
    none) q1
 else none
theorem pelorusref01_set.ok (k : Nat) : SpecOK Tryz.prog G0 131 ⟨[T93, (.int .i64)], [T93], fun x => pelorusref01_set k x.1 x.2.1⟩ :=
 evF_sound (E := (e62 k)) (fn := Tryz.f131) (e62.ok k) (by kernel_rfl) (by kernel_rfl) (by kernel_rfl) 8 (.two .n (.two .n (.two (.two (.use (pelorusref01_set_l0_seg k)) .n) .n))) ⟨trivial, ⟨trivial, ⟨⟨(pelorusref01_set_l0_seg.ok k), trivial⟩, trivial⟩⟩⟩ (fun xs => by kernel_rfl)
def e63 (k : Nat) : Env := (e62 k).add 131 ⟨[T93, (.int .i64)], [T93], fun x => pelorusref01_set k x.1 x.2.1⟩
theorem e63.ok (k : Nat) : (e63 k).OK Tryz.prog := (e62.ok k).add (pelorusref01_set.ok k)
abbrev pelorusref01_Div_l0_i : Mask := ⟨[(0, 0, (.v T93)), (0, 7, (.v T93)), (0, 8, (.v T93)), (0, 9, (.v T93)), (0, 10, (.v (.int .i64)))], [], [], 0⟩
abbrev pelorusref01_Div_l0_o : List Out := [⟨.exit 0, ⟨[(0, 8, (.v T93)), (0, 9, (.v T93))], [], [], 0⟩⟩]
def pelorusref01_Div_l0 (k : Nat) : Nat → Mask.den pelorusref01_Div_l0_i → Option (denS pelorusref01_Div_l0_o)
 | 0, _ => none
 | m + 1, x =>
  bif (decide (x.1.2.2.2.2.1 ≥ 0)) then
   (pelorusref01_Add k x.1.2.2.2.1 x.1.2.2.2.1).bind fun r3 =>
   (pelorusref01_bit k x.1.1 x.1.2.2.2.2.1).bind fun r4 =>
   bif r4.1 then
    (pelorusref01_Add k r3.1 [1]).bind fun r5 =>
    (pelorusref01_Sub k r5.1 x.1.2.1).bind fun r6 =>
    bif r6.2.1 then
     (pelorusref01_set k x.1.2.2.1 x.1.2.2.2.2.1).bind fun r7 =>
     pelorusref01_Div_l0 k m ((x.1.1, x.1.2.1, r7.1, r6.1, (IntKind.i64.wrap (x.1.2.2.2.2.1 - 1)), ()), ())
    else
     pelorusref01_Div_l0 k m ((x.1.1, x.1.2.1, x.1.2.2.1, r5.1, (IntKind.i64.wrap (x.1.2.2.2.2.1 - 1)), ()), ())
   else
    (pelorusref01_Sub k r3.1 x.1.2.1).bind fun r8 =>
    bif r8.2.1 then
     (pelorusref01_set k x.1.2.2.1 x.1.2.2.2.2.1).bind fun r9 =>
     pelorusref01_Div_l0 k m ((x.1.1, x.1.2.1, r9.1, r8.1, (IntKind.i64.wrap (x.1.2.2.2.2.1 - 1)), ()), ())
    else
     pelorusref01_Div_l0 k m ((x.1.1, x.1.2.1, x.1.2.2.1, r3.1, (IntKind.i64.wrap (x.1.2.2.2.2.1 - 1)), ()), ())
  else
   some (Sum.inl ((x.1.2.2.1, x.1.2.2.2.1, ()), ()))
abbrev pelorusref01_Div_l0_seg (k : Nat) : Seg := ⟨⟨0, 51, false, [], []⟩, 125, [.b, .s2, .s1, .s2, .s2, .s2, .s2, .s2], pelorusref01_Div_l0_i, pelorusref01_Div_l0_o, pelorusref01_Div_l0 k k⟩
theorem pelorusref01_Div_l0_seg.ok (k : Nat) : SegOK Tryz.prog (e63 k) (pelorusref01_Div_l0_seg k) :=
 SegOK.loop (e63.ok k) (by kernel_rfl) (S := pelorusref01_Div_l0_seg k) (c := atR (codeOf (e63 k) 125) [.l, .b, .s2, .s1, .s2, .s2, .s2, .s2, .s2]) (by kernel_rfl) (pelorusref01_Div_l0 k) k rfl (fun _ => rfl) 8 .n trivial (fun k' x => by kernel_rfl)
def pelorusref01_Div (k : Nat) (x0 : Ty.den T93) (x1 : Ty.den T93) : Option (HL [T93, T93, .bool]) :=
 (pelorusref01_Trim k x1).bind fun r1 =>
 bif ((r1.1.length : Int) == 0) then
  some ([], [], false, ())
 else
  (pelorusref01_Len k x0).bind fun r2 =>
  (pelorusref01_Div_l0 k k ((x0, r1.1, [], [], (IntKind.i64.wrap (r2.1 - 1)), ()), ())).bind fun q10 =>
  Sum.elim (fun z11 =>
    (pelorusref01_Trim k z11.1.1).bind fun r12 =>
    (pelorusref01_Trim k z11.1.2.1).bind fun r13 =>
    some (r12.1, r13.1, true, ()))
   (fun q10' =>
    none) q10
theorem pelorusref01_Div.ok (k : Nat) : SpecOK Tryz.prog G0 125 ⟨[T93, T93], [T93, T93, .bool], fun x => pelorusref01_Div k x.1 x.2.1⟩ :=
 evF_sound (E := (e63 k)) (fn := Tryz.f125) (e63.ok k) (by kernel_rfl) (by kernel_rfl) (by kernel_rfl) 8 (.two .n (.two .n (.two .n (.two .n (.two .n (.two (.two .n (.two (.use (pelorusref01_Div_l0_seg k)) .n)) .n)))))) ⟨trivial, ⟨trivial, ⟨trivial, ⟨trivial, ⟨trivial, ⟨⟨trivial, ⟨(pelorusref01_Div_l0_seg.ok k), trivial⟩⟩, trivial⟩⟩⟩⟩⟩⟩ (fun xs => by kernel_rfl)
def e64 (k : Nat) : Env := (e63 k).add 125 ⟨[T93, T93], [T93, T93, .bool], fun x => pelorusref01_Div k x.1 x.2.1⟩
theorem e64.ok (k : Nat) : (e64 k).OK Tryz.prog := (e63.ok k).add (pelorusref01_Div.ok k)
def pelorusref01_Shr (k : Nat) (x0 : Ty.den T93) (x1 : Ty.den (.int .i64)) : Option (HL [T93]) :=
 bif (decide (x1 < 1)) then
  (pelorusref01_Trim k x0).bind fun r1 =>
  some (r1.1, ())
 else
  bif (decide (x1 ≥ (IntKind.i64.wrap (32 * (x0.length : Int))))) then
   some ([], ())
  else
   if (0 : Int) ≤ (IntKind.i64.wrap (Int.tdiv x1 32)) ∧ (IntKind.i64.wrap (Int.tdiv x1 32)) ≤ (x0.length : Int) ∧ (x0.length : Int) ≤ (x0.length : Int) then
    (pelorusref01_Trim k (List.drop (Int.toNat (IntKind.i64.wrap (Int.tdiv x1 32))) (List.take (Int.toNat (x0.length : Int)) x0))).bind fun r2 =>
    if (IntKind.u64.wrap (Int.tmod x1 32)) < 0 then none else
    (pelorusref01_Div k r2.1 [(IntKind.u32.wrap (1 * 2 ^ min (Int.toNat (IntKind.u64.wrap (Int.tmod x1 32))) IntKind.u32.bits))]).bind fun r3 =>
    some (r3.1, ())
   else none
theorem pelorusref01_Shr.ok (k : Nat) : SpecOK Tryz.prog G0 117 ⟨[T93, (.int .i64)], [T93], fun x => pelorusref01_Shr k x.1 x.2.1⟩ :=
 evF_sound (E := (e64 k)) (fn := Tryz.f117) (e64.ok k) (by kernel_rfl) (by kernel_rfl) (by kernel_rfl) 8 .n trivial (fun xs => by kernel_rfl)
def e65 (k : Nat) : Env := (e64 k).add 117 ⟨[T93, (.int .i64)], [T93], fun x => pelorusref01_Shr k x.1 x.2.1⟩
theorem e65.ok (k : Nat) : (e65 k).OK Tryz.prog := (e64.ok k).add (pelorusref01_Shr.ok k)
def pelorusref03_even (k : Nat) (x0 : Ty.den T93) : Option (HL [.bool]) :=
 bif (decide ((x0.length : Int) > 0)) then
  if 0 ≤ 0 then (x0[Int.toNat 0]?).bind fun y1 =>
   some (((Int.tmod y1 2) == 0), ())
  else none
 else
  some (false, ())
theorem pelorusref03_even.ok (k : Nat) : SpecOK Tryz.prog G0 122 ⟨[T93], [.bool], fun x => pelorusref03_even k x.1⟩ :=
 evF_sound (E := (e65 k)) (fn := Tryz.f122) (e65.ok k) (by kernel_rfl) (by kernel_rfl) (by kernel_rfl) 8 .n trivial (fun xs => by kernel_rfl)
def e66 (k : Nat) : Env := (e65 k).add 122 ⟨[T93], [.bool], fun x => pelorusref03_even k x.1⟩
theorem e66.ok (k : Nat) : (e66 k).OK Tryz.prog := (e65.ok k).add (pelorusref03_even.ok k)
abbrev pelorusref03_Make_l0_i : Mask := ⟨[(0, 1, (.v (.int .i64))), (0, 4, (.k (.ptr 4 0 0))), (0, 5, (.k (.ptr 5 0 0))), (0, 6, (.v (.int .i64)))], [(4, .cells (.pr (.pr (.v .bool) (.v T93)) (.v (.int .i64)))), (5, .cells (.v T94))], [], 0⟩
abbrev pelorusref03_Make_l0_o : List Out := [⟨.exit 0, ⟨[(0, 1, (.v (.int .i64))), (0, 4, (.k (.ptr 4 0 0))), (0, 5, (.k (.ptr 5 0 0)))], [(4, .cells (.pr (.pr (.v .bool) (.v T93)) (.v (.int .i64)))), (5, .cells (.v T94))], [], 0⟩⟩]
def pelorusref03_Make_l0 (k : Nat) : Nat → Mask.den pelorusref03_Make_l0_i → Option (denS pelorusref03_Make_l0_o)
 | 0, _ => none
 | m + 1, x =>
  bif (decide (x.1.2.2.2.1 < 4000000)) then
   (pelorusref03_even k x.2.2.1.2).bind fun r2 =>
   bif (!r2.1) then
    some (Sum.inl ((x.1.1, (), (), ()), (((x.2.1.1.1, x.2.1.1.2), x.2.1.2), x.2.2.1, ())))
   else
    (pelorusref01_Shr k x.2.2.1.2 1).bind fun r3 =>
    pelorusref03_Make_l0 k m (((IntKind.i64.wrap (x.1.1 + 1)), (), (), (IntKind.i64.wrap (x.1.2.2.2.1 + 1)), ()), (((x.2.1.1.1, x.2.1.1.2), x.2.1.2), (x.2.2.1.1, r3.1), ()))
  else
   some (Sum.inl ((x.1.1, (), (), ()), (((x.2.1.1.1, x.2.1.1.2), x.2.1.2), x.2.2.1, ())))
abbrev pelorusref03_Make_l0_seg (k : Nat) : Seg := ⟨⟨0, 49, false, [], []⟩, 110, [.b, .s2, .s1, .s2, .s2, .s2], pelorusref03_Make_l0_i, pelorusref03_Make_l0_o, pelorusref03_Make_l0 k k⟩
theorem pelorusref03_Make_l0_seg.ok (k : Nat) : SegOK Tryz.prog (e66 k) (pelorusref03_Make_l0_seg k) :=
 SegOK.loop (e66.ok k) (by kernel_rfl) (S := pelorusref03_Make_l0_seg k) (c := atR (codeOf (e66 k) 110) [.l, .b, .s2, .s1, .s2, .s2, .s2]) (by kernel_rfl) (pelorusref03_Make_l0 k) k rfl (fun _ => rfl) 8 .n trivial (fun k' x => by kernel_rfl)
def pelorusref03_Make (k : Nat) (x0 : Ty.den T94) (x1 : Ty.den (.int .i64)) : Option (HL [T96]) :=
 (pelorusref02_Make k x0.1 x0.2).bind fun r1 =>
 bif ((r1.1.2.length : Int) == 0) then
  some (((false, []), 0), ())
 else
  bif (decide (x1 < (-4194304))) then
   some (((false, []), 0), ())
  else
   bif (decide (x1 > 4194304)) then
    some (((false, []), 0), ())
   else
    (pelorusref03_Make_l0 k k ((x1, (), (), 0, ()), (((false, []), 0), r1.1, ()))).bind fun q4 =>
    Sum.elim (fun z5 =>
      bif (decide (z5.1.1 > 4194304)) then
       some (((false, []), 0), ())
      else
       some ((z5.2.2.1, z5.1.1), ()))
     (fun q4' =>
      none) q4
theorem pelorusref03_Make.ok (k : Nat) : SpecOK Tryz.prog G0 110 ⟨[T94, (.int .i64)], [T96], fun x => pelorusref03_Make k x.1 x.2.1⟩ :=
 evF_sound (E := (e66 k)) (fn := Tryz.f110) (e66.ok k) (by kernel_rfl) (by kernel_rfl) (by kernel_rfl) 8 (.two .n (.two .n (.two .n (.two (.two .n (.two (.use (pelorusref03_Make_l0_seg k)) .n)) .n)))) ⟨trivial, ⟨trivial, ⟨trivial, ⟨⟨trivial, ⟨(pelorusref03_Make_l0_seg.ok k), trivial⟩⟩, trivial⟩⟩⟩⟩ (fun xs => by kernel_rfl)
def e67 (k : Nat) : Env := (e66 k).add 110 ⟨[T94, (.int .i64)], [T96], fun x => pelorusref03_Make k x.1 x.2.1⟩
theorem e67.ok (k : Nat) : (e67 k).OK Tryz.prog := (e66.ok k).add (pelorusref03_Make.ok k)
def pelorusref05_limbs (k : Nat) (x0 : Ty.den (.int .u64)) : Option (HL [T93]) :=
 some ([(IntKind.u32.wrap (Int.tmod x0 4294967296)), (IntKind.u32.wrap (IntKind.u64.wrap (Int.tdiv x0 4294967296)))], ())
theorem pelorusref05_limbs.ok (k : Nat) : SpecOK Tryz.prog G0 112 ⟨[(.int .u64)], [T93], fun x => pelorusref05_limbs k x.1⟩ :=
 evF_sound (E := (e67 k)) (fn := Tryz.f112) (e67.ok k) (by kernel_rfl) (by kernel_rfl) (by kernel_rfl) 8 .n trivial (fun xs => by kernel_rfl)
def e68 (k : Nat) : Env := (e67 k).add 112 ⟨[(.int .u64)], [T93], fun x => pelorusref05_limbs k x.1⟩
theorem e68.ok (k : Nat) : (e68 k).OK Tryz.prog := (e67.ok k).add (pelorusref05_limbs.ok k)
def pelorusref05_Exact (k : Nat) (x0 : Ty.den T23) : Option (HL [T96, .bool]) :=
 (pelorusref05_May k x0).bind fun r1 =>
 bif (!r1.1) then
  some (((false, []), 0), false, ())
 else
  bif (x0.1 == 2) then
   some (((false, []), 0), false, ())
  else
   bif (x0.1 == 0) then
    some (((false, []), 0), true, ())
   else
    (pelorusref05_limbs k x0.2.2.1).bind fun r2 =>
    (pelorusref02_Make k x0.2.1 r2.1).bind fun r3 =>
    (pelorusref03_Make k r3.1 x0.2.2.2).bind fun r4 =>
    some (r4.1, true, ())
theorem pelorusref05_Exact.ok (k : Nat) : SpecOK Tryz.prog G0 99 ⟨[T23], [T96, .bool], fun x => pelorusref05_Exact k x.1⟩ :=
 evF_sound (E := (e68 k)) (fn := Tryz.f99) (e68.ok k) (by kernel_rfl) (by kernel_rfl) (by kernel_rfl) 8 .n trivial (fun xs => by kernel_rfl)
def e69 (k : Nat) : Env := (e68 k).add 99 ⟨[T23], [T96, .bool], fun x => pelorusref05_Exact k x.1⟩
theorem e69.ok (k : Nat) : (e69 k).OK Tryz.prog := (e68.ok k).add (pelorusref05_Exact.ok k)
def pelorusref05_finite (k : Nat) (x0 : Ty.den .bool) (x1 : Ty.den (.int .u64)) (x2 : Ty.den (.int .i64)) (x3 : Ty.den .bool) : Option (HL [T23]) :=
 bif (decide (x2 > 1048576)) then
  bif x3 then
   (pelorusref05_Infinite k x0).bind fun r1 =>
   some (r1.1, ())
  else
   some ((1, x0, 18446744073709551615, 1048576), ())
 else
  bif (decide (x2 < (-1048576))) then
   bif x3 then
    some ((1, x0, 9223372036854775808, (-1048576)), ())
   else
    some ((0, false, 0, 0), ())
  else
   some ((1, x0, x1, x2), ())
theorem pelorusref05_finite.ok (k : Nat) : SpecOK Tryz.prog G0 114 ⟨[.bool, (.int .u64), (.int .i64), .bool], [T23], fun x => pelorusref05_finite k x.1 x.2.1 x.2.2.1 x.2.2.2.1⟩ :=
 evF_sound (E := (e69 k)) (fn := Tryz.f114) (e69.ok k) (by kernel_rfl) (by kernel_rfl) (by kernel_rfl) 8 .n trivial (fun xs => by kernel_rfl)
def e70 (k : Nat) : Env := (e69 k).add 114 ⟨[.bool, (.int .u64), (.int .i64), .bool], [T23], fun x => pelorusref05_finite k x.1 x.2.1 x.2.2.1 x.2.2.2.1⟩
theorem e70.ok (k : Nat) : (e70 k).OK Tryz.prog := (e69.ok k).add (pelorusref05_finite.ok k)
abbrev pelorusref05_word_l0_i : Mask := ⟨[(0, 0, (.v T93)), (0, 3, (.v (.int .u64))), (0, 4, (.v (.int .i64)))], [], [], 0⟩
abbrev pelorusref05_word_l0_o : List Out := [⟨.exit 0, ⟨[(0, 3, (.v (.int .u64)))], [], [], 0⟩⟩]
def pelorusref05_word_l0 (k : Nat) : Nat → Mask.den pelorusref05_word_l0_i → Option (denS pelorusref05_word_l0_o)
 | 0, _ => none
 | m + 1, x =>
  bif (decide (x.1.2.2.1 ≥ 0)) then
   if 0 ≤ x.1.2.2.1 then (x.1.1[Int.toNat x.1.2.2.1]?).bind fun y1 =>
    pelorusref05_word_l0 k m ((x.1.1, (IntKind.u64.wrap ((IntKind.u64.wrap (x.1.2.1 * 4294967296)) + (IntKind.u64.wrap y1))), (IntKind.i64.wrap (x.1.2.2.1 - 1)), ()), ())
   else none
  else
   some (Sum.inl ((x.1.2.1, ()), ()))
abbrev pelorusref05_word_l0_seg (k : Nat) : Seg := ⟨⟨0, 21, false, [], []⟩, 115, [.b, .s2, .s1, .s2, .s2], pelorusref05_word_l0_i, pelorusref05_word_l0_o, pelorusref05_word_l0 k k⟩
theorem pelorusref05_word_l0_seg.ok (k : Nat) : SegOK Tryz.prog (e70 k) (pelorusref05_word_l0_seg k) :=
 SegOK.loop (e70.ok k) (by kernel_rfl) (S := pelorusref05_word_l0_seg k) (c := atR (codeOf (e70 k) 115) [.l, .b, .s2, .s1, .s2, .s2]) (by kernel_rfl) (pelorusref05_word_l0 k) k rfl (fun _ => rfl) 8 .n trivial (fun k' x => by kernel_rfl)
def pelorusref05_word (k : Nat) (x0 : Ty.den T93) : Option (HL [(.int .u64)]) :=
 (pelorusref05_word_l0 k k ((x0, 0, (IntKind.i64.wrap ((x0.length : Int) - 1)), ()), ())).bind fun q2 =>
 Sum.elim (fun z3 =>
   some (z3.1.1, ()))
  (fun q2' =>
   none) q2
theorem pelorusref05_word.ok (k : Nat) : SpecOK Tryz.prog G0 115 ⟨[T93], [(.int .u64)], fun x => pelorusref05_word k x.1⟩ :=
 evF_sound (E := (e70 k)) (fn := Tryz.f115) (e70.ok k) (by kernel_rfl) (by kernel_rfl) (by kernel_rfl) 8 (.two .n (.two .n (.two (.two .n (.two (.use (pelorusref05_word_l0_seg k)) .n)) .n))) ⟨trivial, ⟨trivial, ⟨⟨trivial, ⟨(pelorusref05_word_l0_seg.ok k), trivial⟩⟩, trivial⟩⟩⟩ (fun xs => by kernel_rfl)
def e71 (k : Nat) : Env := (e70 k).add 115 ⟨[T93], [(.int .u64)], fun x => pelorusref05_word k x.1⟩
theorem e71.ok (k : Nat) : (e71 k).OK Tryz.prog := (e70.ok k).add (pelorusref05_word.ok k)
abbrev pelorusref01_Mul_l1_i : Mask := ⟨[(0, 0, (.v T93)), (0, 1, (.v T93)), (0, 5, (.k (.arr 19 0))), (0, 6, (.v (.int .i64))), (0, 8, (.k (.arr 48 0))), (0, 9, (.v (.int .u64))), (0, 10, (.v (.int .i64)))], [(19, .arr 120 (.int .u32)), (48, .arr 120 (.int .u32))], [], 0⟩
abbrev pelorusref01_Mul_l1_o : List Out := [⟨.exit 2, ⟨[(0, 0, (.v T93)), (0, 1, (.v T93)), (0, 5, (.k (.arr 19 0))), (0, 6, (.v (.int .i64))), (0, 8, (.k (.arr 48 0))), (0, 9, (.v (.int .u64)))], [(19, .arr 120 (.int .u32)), (48, .arr 120 (.int .u32))], [], 0⟩⟩]
def pelorusref01_Mul_l1 (k : Nat) : Nat → Mask.den pelorusref01_Mul_l1_i → Option (denS pelorusref01_Mul_l1_o)
 | 0, _ => none
 | m + 1, x =>
  bif (decide (x.1.2.2.2.2.2.2.1 < (x.1.1.length : Int))) then
   if 0 ≤ x.1.2.2.2.2.2.2.1 then (x.1.1[Int.toNat x.1.2.2.2.2.2.2.1]?).bind fun y3 =>
    if 0 ≤ x.1.2.2.2.1 then (x.1.2.1[Int.toNat x.1.2.2.2.1]?).bind fun y4 =>
     if (x.2.2.1.length + [(IntKind.u32.wrap (Int.tmod (IntKind.u64.wrap ((IntKind.u64.wrap ((IntKind.u64.wrap y3) * (IntKind.u64.wrap y4))) + x.1.2.2.2.2.2.1)) 4294967296))].length) * 4 ≤ 140737488355328 then
      pelorusref01_Mul_l1 k m ((x.1.1, x.1.2.1, (), x.1.2.2.2.1, (), (IntKind.u64.wrap (Int.tdiv (IntKind.u64.wrap ((IntKind.u64.wrap ((IntKind.u64.wrap y3) * (IntKind.u64.wrap y4))) + x.1.2.2.2.2.2.1)) 4294967296)), (IntKind.i64.wrap (x.1.2.2.2.2.2.2.1 + 1)), ()), (x.2.1, (x.2.2.1 ++ [(IntKind.u32.wrap (Int.tmod (IntKind.u64.wrap ((IntKind.u64.wrap ((IntKind.u64.wrap y3) * (IntKind.u64.wrap y4))) + x.1.2.2.2.2.2.1)) 4294967296))]), ()))
     else none
    else none
   else none
  else
   some (Sum.inl ((x.1.1, x.1.2.1, (), x.1.2.2.2.1, (), x.1.2.2.2.2.2.1, ()), (x.2.1, x.2.2.1, ())))
abbrev pelorusref01_Mul_l1_seg (k : Nat) : Seg := ⟨⟨0, 61, false, [], []⟩, 124, [.b, .s2, .s1, .s2, .s2, .s2, .s2, .s2, .b, .s1, .s2, .l, .b, .s2, .s1, .s2, .s2], pelorusref01_Mul_l1_i, pelorusref01_Mul_l1_o, pelorusref01_Mul_l1 k k⟩
theorem pelorusref01_Mul_l1_seg.ok (k : Nat) : SegOK Tryz.prog (e71 k) (pelorusref01_Mul_l1_seg k) :=
 SegOK.loop (e71.ok k) (by kernel_rfl) (S := pelorusref01_Mul_l1_seg k) (c := atR (codeOf (e71 k) 124) [.l, .b, .s2, .s1, .s2, .s2, .s2, .s2, .s2, .b, .s1, .s2, .l, .b, .s2, .s1, .s2, .s2]) (by kernel_rfl) (pelorusref01_Mul_l1 k) k rfl (fun _ => rfl) 8 .n trivial (fun k' x => by kernel_rfl)
abbrev pelorusref01_Mul_l0_i : Mask := ⟨[(0, 0, (.v T93)), (0, 1, (.v T93)), (0, 5, (.v T93)), (0, 6, (.v (.int .i64)))], [], [], 0⟩
abbrev pelorusref01_Mul_l0_o : List Out := [⟨.exit 0, ⟨[(0, 5, (.v T93))], [], [], 0⟩⟩]
def pelorusref01_Mul_l0 (k : Nat) : Nat → Mask.den pelorusref01_Mul_l0_i → Option (denS pelorusref01_Mul_l0_o)
 | 0, _ => none
 | m + 1, x =>
  bif (decide (x.1.2.2.2.1 ≥ 0)) then
   if ([0].length + x.1.2.2.1.length) * 4 ≤ 140737488355328 then
    (pelorusref01_Mul_l1 k k ((x.1.1, x.1.2.1, (), x.1.2.2.2.1, (), 0, 0, ()), (([0] ++ x.1.2.2.1), [], ()))).bind fun q5 =>
    Sum.elim (fun z9 =>
      if (z9.2.2.1.length + [(IntKind.u32.wrap z9.1.2.2.2.2.2.1)].length) * 4 ≤ 140737488355328 then
       (pelorusref01_Add k z9.2.1 (z9.2.2.1 ++ [(IntKind.u32.wrap z9.1.2.2.2.2.2.1)])).bind fun r10 =>
       pelorusref01_Mul_l0 k m ((z9.1.1, z9.1.2.1, r10.1, (IntKind.i64.wrap (z9.1.2.2.2.1 - 1)), ()), ())
      else none)
     (fun q5' =>
      none) q5
   else none
  else
   some (Sum.inl ((x.1.2.2.1, ()), ()))
abbrev pelorusref01_Mul_l0_seg (k : Nat) : Seg := ⟨⟨0, 61, false, [], []⟩, 124, [.b, .s2, .s1, .s2, .s2], pelorusref01_Mul_l0_i, pelorusref01_Mul_l0_o, pelorusref01_Mul_l0 k k⟩
theorem pelorusref01_Mul_l0_seg.ok (k : Nat) : SegOK Tryz.prog (e71 k) (pelorusref01_Mul_l0_seg k) :=
 SegOK.loop (e71.ok k) (by kernel_rfl) (S := pelorusref01_Mul_l0_seg k) (c := atR (codeOf (e71 k) 124) [.l, .b, .s2, .s1, .s2, .s2]) (by kernel_rfl) (pelorusref01_Mul_l0 k) k rfl (fun _ => rfl) 8 (.two .n (.two (.two (.two (.own 0 .n) (.two .n (.two .n (.two .n (.two .n (.two (.two .n (.two (.use (pelorusref01_Mul_l1_seg k)) .n)) (.two .n (.own 2 .n)))))))) .n) .n)) ⟨trivial, ⟨⟨⟨trivial, ⟨trivial, ⟨trivial, ⟨trivial, ⟨trivial, ⟨⟨trivial, ⟨(pelorusref01_Mul_l1_seg.ok k), trivial⟩⟩, ⟨trivial, trivial⟩⟩⟩⟩⟩⟩⟩, trivial⟩, trivial⟩⟩ (fun k' x => by kernel_rfl)
def pelorusref01_Mul (k : Nat) (x0 : Ty.den T93) (x1 : Ty.den T93) : Option (HL [T93]) :=
 (pelorusref01_Mul_l0 k k ((x0, x1, [], (IntKind.i64.wrap ((x1.length : Int) - 1)), ()), ())).bind fun q6 =>
 Sum.elim (fun z7 =>
   (pelorusref01_Trim k z7.1.1).bind fun r8 =>
   some (r8.1, ()))
  (fun q6' =>
   none) q6
theorem pelorusref01_Mul.ok (k : Nat) : SpecOK Tryz.prog G0 124 ⟨[T93, T93], [T93], fun x => pelorusref01_Mul k x.1 x.2.1⟩ :=
 evF_sound (E := (e71 k)) (fn := Tryz.f124) (e71.ok k) (by kernel_rfl) (by kernel_rfl) (by kernel_rfl) 8 (.two .n (.two .n (.two (.two .n (.two (.use (pelorusref01_Mul_l0_seg k)) .n)) .n))) ⟨trivial, ⟨trivial, ⟨⟨trivial, ⟨(pelorusref01_Mul_l0_seg.ok k), trivial⟩⟩, trivial⟩⟩⟩ (fun xs => by kernel_rfl)
def e72 (k : Nat) : Env := (e71 k).add 124 ⟨[T93, T93], [T93], fun x => pelorusref01_Mul k x.1 x.2.1⟩
theorem e72.ok (k : Nat) : (e72 k).OK Tryz.prog := (e71.ok k).add (pelorusref01_Mul.ok k)
def pelorusref01_Shl (k : Nat) (x0 : Ty.den T93) (x1 : Ty.den (.int .i64)) : Option (HL [T93]) :=
 bif (decide (x1 < 1)) then
  (pelorusref01_Trim k x0).bind fun r1 =>
  some (r1.1, ())
 else
  bif (decide (x1 > 16777216)) then
   some ([], ())
  else
   if (IntKind.i64.wrap (Int.tdiv x1 32)) = (IntKind.i64.wrap (Int.tdiv x1 32)) ∧ 0 ≤ (IntKind.i64.wrap (Int.tdiv x1 32)) ∧ Int.toNat (IntKind.i64.wrap (Int.tdiv x1 32)) * 4 ≤ 140737488355328 then
    if ((List.replicate (Int.toNat (IntKind.i64.wrap (Int.tdiv x1 32))) (0 : Int)).length + x0.length) * 4 ≤ 140737488355328 then
     if (IntKind.u64.wrap (Int.tmod x1 32)) < 0 then none else
     (pelorusref01_Mul k ((List.replicate (Int.toNat (IntKind.i64.wrap (Int.tdiv x1 32))) (0 : Int)) ++ x0) [(IntKind.u32.wrap (1 * 2 ^ min (Int.toNat (IntKind.u64.wrap (Int.tmod x1 32))) IntKind.u32.bits))]).bind fun r2 =>
     some (r2.1, ())
    else none
   else none
theorem pelorusref01_Shl.ok (k : Nat) : SpecOK Tryz.prog G0 116 ⟨[T93, (.int .i64)], [T93], fun x => pelorusref01_Shl k x.1 x.2.1⟩ :=
 evF_sound (E := (e72 k)) (fn := Tryz.f116) (e72.ok k) (by kernel_rfl) (by kernel_rfl) (by kernel_rfl) 8 (.two .n (.two .n (.two .n (.two .n (.two .n (.two .n (.two (.own 3 .n) .n))))))) ⟨trivial, ⟨trivial, ⟨trivial, ⟨trivial, ⟨trivial, ⟨trivial, ⟨trivial, trivial⟩⟩⟩⟩⟩⟩⟩ (fun xs => by kernel_rfl)
def e73 (k : Nat) : Env := (e72 k).add 116 ⟨[T93, (.int .i64)], [T93], fun x => pelorusref01_Shl k x.1 x.2.1⟩
theorem e73.ok (k : Nat) : (e73 k).OK Tryz.prog := (e72.ok k).add (pelorusref01_Shl.ok k)
def pelorusref05_Round (k : Nat) (x0 : Ty.den T96) (x1 : Ty.den .bool) : Option (HL [T23]) :=
 (pelorusref03_Make k x0.1 x0.2).bind fun r1 =>
 bif ((r1.1.1.2.length : Int) == 0) then
  some ((0, false, 0, 0), ())
 else
  (pelorusref01_Len k r1.1.1.2).bind fun r2 =>
  bif (decide (r2.1 ≤ 64)) then
   (pelorusref01_Shl k r1.1.1.2 (IntKind.i64.wrap (64 - r2.1))).bind fun r3 =>
   (pelorusref05_word k r3.1).bind fun r4 =>
   (pelorusref05_finite k r1.1.1.1 r4.1 (IntKind.i64.wrap ((IntKind.i64.wrap (r1.1.2 + r2.1)) - 64)) (!(x1 == r1.1.1.1))).bind fun r5 =>
   some (r5.1, ())
  else
   (pelorusref01_Shr k r1.1.1.2 (IntKind.i64.wrap (r2.1 - 64))).bind fun r6 =>
   bif (!(x1 == r1.1.1.1)) then
    (pelorusref01_Add k r6.1 [1]).bind fun r7 =>
    (pelorusref01_Len k r7.1).bind fun r8 =>
    bif (decide (r8.1 > 64)) then
     (pelorusref01_Shr k r7.1 1).bind fun r9 =>
     (pelorusref05_word k r9.1).bind fun r10 =>
     (pelorusref05_finite k r1.1.1.1 r10.1 (IntKind.i64.wrap ((IntKind.i64.wrap ((IntKind.i64.wrap (r1.1.2 + r2.1)) - 64)) + 1)) (!(x1 == r1.1.1.1))).bind fun r11 =>
     some (r11.1, ())
    else
     (pelorusref05_word k r7.1).bind fun r12 =>
     (pelorusref05_finite k r1.1.1.1 r12.1 (IntKind.i64.wrap ((IntKind.i64.wrap (r1.1.2 + r2.1)) - 64)) (!(x1 == r1.1.1.1))).bind fun r13 =>
     some (r13.1, ())
   else
    (pelorusref05_word k r6.1).bind fun r14 =>
    (pelorusref05_finite k r1.1.1.1 r14.1 (IntKind.i64.wrap ((IntKind.i64.wrap (r1.1.2 + r2.1)) - 64)) (!(x1 == r1.1.1.1))).bind fun r15 =>
    some (r15.1, ())
theorem pelorusref05_Round.ok (k : Nat) : SpecOK Tryz.prog G0 100 ⟨[T96, .bool], [T23], fun x => pelorusref05_Round k x.1 x.2.1⟩ :=
 evF_sound (E := (e73 k)) (fn := Tryz.f100) (e73.ok k) (by kernel_rfl) (by kernel_rfl) (by kernel_rfl) 8 .n trivial (fun xs => by kernel_rfl)
def e74 (k : Nat) : Env := (e73 k).add 100 ⟨[T96, .bool], [T23], fun x => pelorusref05_Round k x.1 x.2.1⟩
theorem e74.ok (k : Nat) : (e74 k).OK Tryz.prog := (e73.ok k).add (pelorusref05_Round.ok k)
def pelorusref02_Add (k : Nat) (x0 : Ty.den T94) (x1 : Ty.den T94) : Option (HL [T94]) :=
 bif (x0.1 == x1.1) then
  (pelorusref01_Add k x0.2 x1.2).bind fun r1 =>
  (pelorusref02_Make k x0.1 r1.1).bind fun r2 =>
  some (r2.1, ())
 else
  (pelorusref01_Sub k x0.2 x1.2).bind fun r3 =>
  bif r3.2.1 then
   (pelorusref02_Make k x0.1 r3.1).bind fun r4 =>
   some (r4.1, ())
  else
   (pelorusref01_Sub k x1.2 x0.2).bind fun r5 =>
   (pelorusref02_Make k x1.1 r5.1).bind fun r6 =>
   some (r6.1, ())
theorem pelorusref02_Add.ok (k : Nat) : SpecOK Tryz.prog G0 119 ⟨[T94, T94], [T94], fun x => pelorusref02_Add k x.1 x.2.1⟩ :=
 evF_sound (E := (e74 k)) (fn := Tryz.f119) (e74.ok k) (by kernel_rfl) (by kernel_rfl) (by kernel_rfl) 8 .n trivial (fun xs => by kernel_rfl)
def e75 (k : Nat) : Env := (e74 k).add 119 ⟨[T94, T94], [T94], fun x => pelorusref02_Add k x.1 x.2.1⟩
theorem e75.ok (k : Nat) : (e75 k).OK Tryz.prog := (e74.ok k).add (pelorusref02_Add.ok k)
def pelorusref03_Two (k : Nat) (x0 : Ty.den T96) (x1 : Ty.den T96) : Option (HL [T96]) :=
 (pelorusref03_Make k x0.1 x0.2).bind fun r1 =>
 (pelorusref03_Make k x1.1 x1.2).bind fun r2 =>
 bif ((r1.1.1.2.length : Int) == 0) then
  some (r2.1, ())
 else
  bif ((r2.1.1.2.length : Int) == 0) then
   some (r1.1, ())
  else
   bif (decide (r1.1.2 > r2.1.2)) then
    (pelorusref01_Shl k r1.1.1.2 (IntKind.i64.wrap (r1.1.2 - r2.1.2))).bind fun r3 =>
    (pelorusref02_Make k r1.1.1.1 r3.1).bind fun r4 =>
    (pelorusref02_Add k r2.1.1 r4.1).bind fun r5 =>
    (pelorusref03_Make k r5.1 r2.1.2).bind fun r6 =>
    some (r6.1, ())
   else
    (pelorusref01_Shl k r2.1.1.2 (IntKind.i64.wrap (r2.1.2 - r1.1.2))).bind fun r7 =>
    (pelorusref02_Make k r2.1.1.1 r7.1).bind fun r8 =>
    (pelorusref02_Add k r1.1.1 r8.1).bind fun r9 =>
    (pelorusref03_Make k r9.1 r1.1.2).bind fun r10 =>
    some (r10.1, ())
theorem pelorusref03_Two.ok (k : Nat) : SpecOK Tryz.prog G0 101 ⟨[T96, T96], [T96], fun x => pelorusref03_Two k x.1 x.2.1⟩ :=
 evF_sound (E := (e75 k)) (fn := Tryz.f101) (e75.ok k) (by kernel_rfl) (by kernel_rfl) (by kernel_rfl) 8 .n trivial (fun xs => by kernel_rfl)
def e76 (k : Nat) : Env := (e75 k).add 101 ⟨[T96, T96], [T96], fun x => pelorusref03_Two k x.1 x.2.1⟩
theorem e76.ok (k : Nat) : (e76 k).OK Tryz.prog := (e75.ok k).add (pelorusref03_Two.ok k)
def pelorusref06_Add (k : Nat) (x0 : Ty.den T23) (x1 : Ty.den T23) (x2 : Ty.den .bool) : Option (HL [T23]) :=
 (pelorusref06_Fair k x0).bind fun r1 =>
 (pelorusref06_Fair k x1).bind fun r2 =>
 bif (r1.1.1 == 2) then
  bif (r2.1.1 == 2) then
   bif (!(r1.1.2.1 == r2.1.2.1)) then
    (pelorusref05_Infinite k (!x2)).bind fun r3 =>
    some (r3.1, ())
   else
    bif (r1.1.1 == 2) then
     some (r1.1, ())
    else
     bif (r2.1.1 == 2) then
      some (r2.1, ())
     else
      (pelorusref05_Exact k r1.1).bind fun r4 =>
      (pelorusref05_Exact k r2.1).bind fun r5 =>
      (pelorusref03_Two k r4.1 r5.1).bind fun r6 =>
      (pelorusref05_Round k r6.1 x2).bind fun r7 =>
      some (r7.1, ())
  else
   bif (r1.1.1 == 2) then
    some (r1.1, ())
   else
    bif (r2.1.1 == 2) then
     some (r2.1, ())
    else
     (pelorusref05_Exact k r1.1).bind fun r8 =>
     (pelorusref05_Exact k r2.1).bind fun r9 =>
     (pelorusref03_Two k r8.1 r9.1).bind fun r10 =>
     (pelorusref05_Round k r10.1 x2).bind fun r11 =>
     some (r11.1, ())
 else
  bif (r1.1.1 == 2) then
   some (r1.1, ())
  else
   bif (r2.1.1 == 2) then
    some (r2.1, ())
   else
    (pelorusref05_Exact k r1.1).bind fun r12 =>
    (pelorusref05_Exact k r2.1).bind fun r13 =>
    (pelorusref03_Two k r12.1 r13.1).bind fun r14 =>
    (pelorusref05_Round k r14.1 x2).bind fun r15 =>
    some (r15.1, ())
theorem pelorusref06_Add.ok (k : Nat) : SpecOK Tryz.prog G0 77 ⟨[T23, T23, .bool], [T23], fun x => pelorusref06_Add k x.1 x.2.1 x.2.2.1⟩ :=
 evF_sound (E := (e76 k)) (fn := Tryz.f77) (e76.ok k) (by kernel_rfl) (by kernel_rfl) (by kernel_rfl) 8 .n trivial (fun xs => by kernel_rfl)
def e77 (k : Nat) : Env := (e76 k).add 77 ⟨[T23, T23, .bool], [T23], fun x => pelorusref06_Add k x.1 x.2.1 x.2.2.1⟩
theorem e77.ok (k : Nat) : (e77 k).OK Tryz.prog := (e76.ok k).add (pelorusref06_Add.ok k)
def pelorusref05_Neg (k : Nat) (x0 : Ty.den T23) : Option (HL [T23]) :=
 (pelorusref05_fair k x0).bind fun r1 =>
 bif (r1.1.1 != 0) then
  some ((r1.1.1, (!r1.1.2.1), r1.1.2.2), ())
 else
  some (r1.1, ())
theorem pelorusref05_Neg.ok (k : Nat) : SpecOK Tryz.prog G0 83 ⟨[T23], [T23], fun x => pelorusref05_Neg k x.1⟩ :=
 evF_sound (E := (e77 k)) (fn := Tryz.f83) (e77.ok k) (by kernel_rfl) (by kernel_rfl) (by kernel_rfl) 8 .n trivial (fun xs => by kernel_rfl)
def e78 (k : Nat) : Env := (e77 k).add 83 ⟨[T23], [T23], fun x => pelorusref05_Neg k x.1⟩
theorem e78.ok (k : Nat) : (e78 k).OK Tryz.prog := (e77.ok k).add (pelorusref05_Neg.ok k)
def pelorusref06_Sub (k : Nat) (x0 : Ty.den T23) (x1 : Ty.den T23) (x2 : Ty.den .bool) : Option (HL [T23]) :=
 (pelorusref05_Neg k x1).bind fun r1 =>
 (pelorusref06_Add k x0 r1.1 x2).bind fun r2 =>
 some (r2.1, ())
theorem pelorusref06_Sub.ok (k : Nat) : SpecOK Tryz.prog G0 43 ⟨[T23, T23, .bool], [T23], fun x => pelorusref06_Sub k x.1 x.2.1 x.2.2.1⟩ :=
 evF_sound (E := (e78 k)) (fn := Tryz.f43) (e78.ok k) (by kernel_rfl) (by kernel_rfl) (by kernel_rfl) 8 .n trivial (fun xs => by kernel_rfl)
def e79 (k : Nat) : Env := (e78 k).add 43 ⟨[T23, T23, .bool], [T23], fun x => pelorusref06_Sub k x.1 x.2.1 x.2.2.1⟩
theorem e79.ok (k : Nat) : (e79 k).OK Tryz.prog := (e78.ok k).add (pelorusref06_Sub.ok k)
def pelorusref18_Time (k : Nat) (x0 : Ty.den T28) (x1 : Ty.den (.int .i64)) : Option (HL [T25]) :=
 (pelorusref17_May k x0).bind fun r1 =>
 bif (!r1.1) then
  (pelorusref08_None k).bind fun r2 =>
  some (r2.1, ())
 else
  bif (decide (x1 < 0)) then
   (pelorusref08_None k).bind fun r3 =>
   some (r3.1, ())
  else
   bif (decide (x1 ≥ (x0.2.2.length : Int))) then
    (pelorusref08_None k).bind fun r4 =>
    some (r4.1, ())
   else
    (pelorusref17_When k x0 x1).bind fun r5 =>
    (pelorusref17_When k x0 (IntKind.i64.wrap (x1 + 1))).bind fun r6 =>
    (pelorusref06_Sub k r6.1 r5.1 false).bind fun r7 =>
    (pelorusref06_Sub k r6.1 r5.1 true).bind fun r8 =>
    (pelorusref08_Make k r7.1 r8.1).bind fun r9 =>
    some (r9.1, ())
theorem pelorusref18_Time.ok (k : Nat) : SpecOK Tryz.prog G0 11 ⟨[T28, (.int .i64)], [T25], fun x => pelorusref18_Time k x.1 x.2.1⟩ :=
 evF_sound (E := (e79 k)) (fn := Tryz.f11) (e79.ok k) (by kernel_rfl) (by kernel_rfl) (by kernel_rfl) 8 .n trivial (fun xs => by kernel_rfl)
def e80 (k : Nat) : Env := (e79 k).add 11 ⟨[T28, (.int .i64)], [T25], fun x => pelorusref18_Time k x.1 x.2.1⟩
theorem e80.ok (k : Nat) : (e80 k).OK Tryz.prog := (e79.ok k).add (pelorusref18_Time.ok k)
abbrev pelorusref05_Most_l0_i : Mask := ⟨[(0, 0, (.v T39)), (0, 2, (.k (.ptr 2 0 0))), (0, 3, (.k (.ptr 3 0 0))), (0, 4, (.v (.int .i64)))], [(2, .cells (.v T23)), (3, .cells (.v T23))], [], 0⟩
abbrev pelorusref05_Most_l0_o : List Out := [⟨.exit 0, ⟨[(0, 2, (.k (.ptr 2 0 0))), (0, 3, (.k (.ptr 3 0 0)))], [(2, .cells (.v T23)), (3, .cells (.v T23))], [], 0⟩⟩]
def pelorusref05_Most_l0 (k : Nat) : Nat → Mask.den pelorusref05_Most_l0_i → Option (denS pelorusref05_Most_l0_o)
 | 0, _ => none
 | m + 1, x =>
  bif (decide (x.1.2.2.2.1 < (x.1.1.length : Int))) then
   if 0 ≤ x.1.2.2.2.1 then (x.1.1[Int.toNat x.1.2.2.2.1]?).bind fun y2 =>
    (pelorusref05_Cmp k y2 x.2.2.1).bind fun r3 =>
    bif (decide (r3.1 > 0)) then
     if 0 ≤ x.1.2.2.2.1 then (x.1.1[Int.toNat x.1.2.2.2.1]?).bind fun y4 =>
      (pelorusref05_fair k y4).bind fun r5 =>
      pelorusref05_Most_l0 k m ((x.1.1, (), (), (IntKind.i64.wrap (x.1.2.2.2.1 + 1)), ()), (x.2.1, r5.1, ()))
     else none
    else
     pelorusref05_Most_l0 k m ((x.1.1, (), (), (IntKind.i64.wrap (x.1.2.2.2.1 + 1)), ()), (x.2.1, x.2.2.1, ()))
   else none
  else
   some (Sum.inl (((), (), ()), (x.2.1, x.2.2.1, ())))
abbrev pelorusref05_Most_l0_seg (k : Nat) : Seg := ⟨⟨0, 25, false, [], []⟩, 75, [.b, .s2, .s1, .s2, .s2], pelorusref05_Most_l0_i, pelorusref05_Most_l0_o, pelorusref05_Most_l0 k k⟩
theorem pelorusref05_Most_l0_seg.ok (k : Nat) : SegOK Tryz.prog (e80 k) (pelorusref05_Most_l0_seg k) :=
 SegOK.loop (e80.ok k) (by kernel_rfl) (S := pelorusref05_Most_l0_seg k) (c := atR (codeOf (e80 k) 75) [.l, .b, .s2, .s1, .s2, .s2]) (by kernel_rfl) (pelorusref05_Most_l0 k) k rfl (fun _ => rfl) 8 .n trivial (fun k' x => by kernel_rfl)
def pelorusref05_Most (k : Nat) (x0 : Ty.den T39) : Option (HL [T23]) :=
 (pelorusref05_Infinite k true).bind fun r1 =>
 (pelorusref05_Most_l0 k k ((x0, (), (), 0, ()), ((0, false, 0, 0), r1.1, ()))).bind fun q6 =>
 Sum.elim (fun z7 =>
   some (z7.2.2.1, ()))
  (fun q6' =>
   none) q6
theorem pelorusref05_Most.ok (k : Nat) : SpecOK Tryz.prog G0 75 ⟨[T39], [T23], fun x => pelorusref05_Most k x.1⟩ :=
 evF_sound (E := (e80 k)) (fn := Tryz.f75) (e80.ok k) (by kernel_rfl) (by kernel_rfl) (by kernel_rfl) 8 (.two .n (.two .n (.two (.two .n (.two (.use (pelorusref05_Most_l0_seg k)) .n)) .n))) ⟨trivial, ⟨trivial, ⟨⟨trivial, ⟨(pelorusref05_Most_l0_seg.ok k), trivial⟩⟩, trivial⟩⟩⟩ (fun xs => by kernel_rfl)
def e81 (k : Nat) : Env := (e80 k).add 75 ⟨[T39], [T23], fun x => pelorusref05_Most k x.1⟩
theorem e81.ok (k : Nat) : (e81 k).OK Tryz.prog := (e80.ok k).add (pelorusref05_Most.ok k)
abbrev pelorusref05_Least_l0_i : Mask := ⟨[(0, 0, (.v T39)), (0, 2, (.k (.ptr 2 0 0))), (0, 3, (.k (.ptr 3 0 0))), (0, 4, (.v (.int .i64)))], [(2, .cells (.v T23)), (3, .cells (.v T23))], [], 0⟩
abbrev pelorusref05_Least_l0_o : List Out := [⟨.exit 0, ⟨[(0, 2, (.k (.ptr 2 0 0))), (0, 3, (.k (.ptr 3 0 0)))], [(2, .cells (.v T23)), (3, .cells (.v T23))], [], 0⟩⟩]
def pelorusref05_Least_l0 (k : Nat) : Nat → Mask.den pelorusref05_Least_l0_i → Option (denS pelorusref05_Least_l0_o)
 | 0, _ => none
 | m + 1, x =>
  bif (decide (x.1.2.2.2.1 < (x.1.1.length : Int))) then
   if 0 ≤ x.1.2.2.2.1 then (x.1.1[Int.toNat x.1.2.2.2.1]?).bind fun y2 =>
    (pelorusref05_Cmp k y2 x.2.2.1).bind fun r3 =>
    bif (decide (r3.1 < 0)) then
     if 0 ≤ x.1.2.2.2.1 then (x.1.1[Int.toNat x.1.2.2.2.1]?).bind fun y4 =>
      (pelorusref05_fair k y4).bind fun r5 =>
      pelorusref05_Least_l0 k m ((x.1.1, (), (), (IntKind.i64.wrap (x.1.2.2.2.1 + 1)), ()), (x.2.1, r5.1, ()))
     else none
    else
     pelorusref05_Least_l0 k m ((x.1.1, (), (), (IntKind.i64.wrap (x.1.2.2.2.1 + 1)), ()), (x.2.1, x.2.2.1, ()))
   else none
  else
   some (Sum.inl (((), (), ()), (x.2.1, x.2.2.1, ())))
abbrev pelorusref05_Least_l0_seg (k : Nat) : Seg := ⟨⟨0, 25, false, [], []⟩, 76, [.b, .s2, .s1, .s2, .s2], pelorusref05_Least_l0_i, pelorusref05_Least_l0_o, pelorusref05_Least_l0 k k⟩
theorem pelorusref05_Least_l0_seg.ok (k : Nat) : SegOK Tryz.prog (e81 k) (pelorusref05_Least_l0_seg k) :=
 SegOK.loop (e81.ok k) (by kernel_rfl) (S := pelorusref05_Least_l0_seg k) (c := atR (codeOf (e81 k) 76) [.l, .b, .s2, .s1, .s2, .s2]) (by kernel_rfl) (pelorusref05_Least_l0 k) k rfl (fun _ => rfl) 8 .n trivial (fun k' x => by kernel_rfl)
def pelorusref05_Least (k : Nat) (x0 : Ty.den T39) : Option (HL [T23]) :=
 (pelorusref05_Infinite k false).bind fun r1 =>
 (pelorusref05_Least_l0 k k ((x0, (), (), 0, ()), ((0, false, 0, 0), r1.1, ()))).bind fun q6 =>
 Sum.elim (fun z7 =>
   some (z7.2.2.1, ()))
  (fun q6' =>
   none) q6
theorem pelorusref05_Least.ok (k : Nat) : SpecOK Tryz.prog G0 76 ⟨[T39], [T23], fun x => pelorusref05_Least k x.1⟩ :=
 evF_sound (E := (e81 k)) (fn := Tryz.f76) (e81.ok k) (by kernel_rfl) (by kernel_rfl) (by kernel_rfl) 8 (.two .n (.two .n (.two (.two .n (.two (.use (pelorusref05_Least_l0_seg k)) .n)) .n))) ⟨trivial, ⟨trivial, ⟨⟨trivial, ⟨(pelorusref05_Least_l0_seg.ok k), trivial⟩⟩, trivial⟩⟩⟩ (fun xs => by kernel_rfl)
def e82 (k : Nat) : Env := (e81 k).add 76 ⟨[T39], [T23], fun x => pelorusref05_Least k x.1⟩
theorem e82.ok (k : Nat) : (e82 k).OK Tryz.prog := (e81.ok k).add (pelorusref05_Least.ok k)
def pelorusref08_Two (k : Nat) (x0 : Ty.den T25) (x1 : Ty.den T25) : Option (HL [T25]) :=
 (pelorusref08_Fair k x0).bind fun r1 =>
 (pelorusref08_Fair k x1).bind fun r2 =>
 bif r1.1.1 then
  (pelorusref08_None k).bind fun r3 =>
  some (r3.1, ())
 else
  bif r2.1.1 then
   (pelorusref08_None k).bind fun r4 =>
   some (r4.1, ())
  else
   (pelorusref05_Most k [r1.1.2.1, r2.1.2.1]).bind fun r5 =>
   (pelorusref05_Least k [r1.1.2.2, r2.1.2.2]).bind fun r6 =>
   (pelorusref08_Make k r5.1 r6.1).bind fun r7 =>
   some (r7.1, ())
theorem pelorusref08_Two.ok (k : Nat) : SpecOK Tryz.prog G0 31 ⟨[T25, T25], [T25], fun x => pelorusref08_Two k x.1 x.2.1⟩ :=
 evF_sound (E := (e82 k)) (fn := Tryz.f31) (e82.ok k) (by kernel_rfl) (by kernel_rfl) (by kernel_rfl) 8 .n trivial (fun xs => by kernel_rfl)
def e83 (k : Nat) : Env := (e82 k).add 31 ⟨[T25, T25], [T25], fun x => pelorusref08_Two k x.1 x.2.1⟩
theorem e83.ok (k : Nat) : (e83 k).OK Tryz.prog := (e82.ok k).add (pelorusref08_Two.ok k)
def pelorusref17_gate (k : Nat) (x0 : Ty.den T28) (x1 : Ty.den (.int .i64)) : Option (HL [T25]) :=
 bif (decide (x1 > 0)) then
  if 0 ≤ (IntKind.i64.wrap (x1 - 1)) then (x0.2.2[Int.toNat (IntKind.i64.wrap (x1 - 1))]?).bind fun y1 =>
   if 0 ≤ (IntKind.i64.wrap (x1 - 1)) then (x0.2.2[Int.toNat (IntKind.i64.wrap (x1 - 1))]?).bind fun y2 =>
    (pelorusref08_Two k y1.2.2 y2.2.1).bind fun r3 =>
    bif (decide (x1 < (x0.2.2.length : Int))) then
     if 0 ≤ x1 then (x0.2.2[Int.toNat x1]?).bind fun y4 =>
      (pelorusref08_Two k r3.1 y4.2.1).bind fun r5 =>
      some (r5.1, ())
     else none
    else
     some (r3.1, ())
   else none
  else none
 else
  bif (decide (x1 < (x0.2.2.length : Int))) then
   if 0 ≤ x1 then (x0.2.2[Int.toNat x1]?).bind fun y6 =>
    (pelorusref08_Two k x0.2.1 y6.2.1).bind fun r7 =>
    some (r7.1, ())
   else none
  else
   some (x0.2.1, ())
theorem pelorusref17_gate.ok (k : Nat) : SpecOK Tryz.prog G0 72 ⟨[T28, (.int .i64)], [T25], fun x => pelorusref17_gate k x.1 x.2.1⟩ :=
 evF_sound (E := (e83 k)) (fn := Tryz.f72) (e83.ok k) (by kernel_rfl) (by kernel_rfl) (by kernel_rfl) 8 .n trivial (fun xs => by kernel_rfl)
def e84 (k : Nat) : Env := (e83 k).add 72 ⟨[T28, (.int .i64)], [T25], fun x => pelorusref17_gate k x.1 x.2.1⟩
theorem e84.ok (k : Nat) : (e84 k).OK Tryz.prog := (e83.ok k).add (pelorusref17_gate.ok k)
abbrev pelorusref17_empty_l0_i : Mask := ⟨[(0, 1, (.k (.ptr 1 0 0))), (0, 3, (.v (.int .i64)))], [(1, .cells (.v T28))], [], 0⟩
abbrev pelorusref17_empty_l0_o : List Out := [⟨.ret, ⟨[(0, 2, (.v .bool))], [], [], 0⟩⟩, ⟨.exit 0, ⟨[], [], [], 0⟩⟩]
def pelorusref17_empty_l0 (k : Nat) : Nat → Mask.den pelorusref17_empty_l0_i → Option (denS pelorusref17_empty_l0_o)
 | 0, _ => none
 | m + 1, x =>
  bif (decide (x.1.2.1 < (x.2.1.2.2.length : Int))) then
   if 0 ≤ x.1.2.1 then (x.2.1.2.2[Int.toNat x.1.2.1]?).bind fun y1 =>
    bif y1.2.1.1 then
     some (Sum.inl ((true, ()), ()))
    else
     if 0 ≤ x.1.2.1 then (x.2.1.2.2[Int.toNat x.1.2.1]?).bind fun y2 =>
      bif y2.2.2.1 then
       some (Sum.inl ((true, ()), ()))
      else
       pelorusref17_empty_l0 k m (((), (IntKind.i64.wrap (x.1.2.1 + 1)), ()), (x.2.1, ()))
     else none
   else none
  else
   some (Sum.inr (Sum.inl ((), ())))
abbrev pelorusref17_empty_l0_seg (k : Nat) : Seg := ⟨⟨0, 30, false, [], []⟩, 73, [.b, .s2, .s1, .s2, .s2], pelorusref17_empty_l0_i, pelorusref17_empty_l0_o, pelorusref17_empty_l0 k k⟩
theorem pelorusref17_empty_l0_seg.ok (k : Nat) : SegOK Tryz.prog (e84 k) (pelorusref17_empty_l0_seg k) :=
 SegOK.loop (e84.ok k) (by kernel_rfl) (S := pelorusref17_empty_l0_seg k) (c := atR (codeOf (e84 k) 73) [.l, .b, .s2, .s1, .s2, .s2]) (by kernel_rfl) (pelorusref17_empty_l0 k) k rfl (fun _ => rfl) 8 .n trivial (fun k' x => by kernel_rfl)
def pelorusref17_empty (k : Nat) (x0 : Ty.den T28) : Option (HL [.bool]) :=
 bif x0.2.1.1 then
  some (true, ())
 else
  (pelorusref17_empty_l0 k k (((), 0, ()), (x0, ()))).bind fun q3 =>
  Sum.elim (fun z4 =>
    some (z4.1.1, ()))
   (fun q3' =>
    Sum.elim (fun z5 =>
      some (false, ()))
     (fun q3'' =>
      none) q3') q3
theorem pelorusref17_empty.ok (k : Nat) : SpecOK Tryz.prog G0 73 ⟨[T28], [.bool], fun x => pelorusref17_empty k x.1⟩ :=
 evF_sound (E := (e84 k)) (fn := Tryz.f73) (e84.ok k) (by kernel_rfl) (by kernel_rfl) (by kernel_rfl) 8 (.two .n (.two .n (.two (.two .n (.two (.use (pelorusref17_empty_l0_seg k)) .n)) .n))) ⟨trivial, ⟨trivial, ⟨⟨trivial, ⟨(pelorusref17_empty_l0_seg.ok k), trivial⟩⟩, trivial⟩⟩⟩ (fun xs => by kernel_rfl)
def e85 (k : Nat) : Env := (e84 k).add 73 ⟨[T28], [.bool], fun x => pelorusref17_empty k x.1⟩
theorem e85.ok (k : Nat) : (e85 k).OK Tryz.prog := (e84.ok k).add (pelorusref17_empty.ok k)
abbrev pelorusref17_Fit_l0_i : Mask := ⟨[(0, 1, (.k (.ptr 1 0 0))), (0, 2, (.k (.ptr 2 0 0))), (0, 4, (.k (.ptr 4 0 0))), (0, 5, (.v (.int .i64)))], [(1, .cells (.v T28)), (2, .cells (.pr (.v T23) (.pr (.v T25) (.v T27)))), (4, .cells (.pr (.v T23) (.pr (.v T25) (.k (.arr 45 0))))), (45, .arr 41 T40)], [], 0⟩
abbrev pelorusref17_Fit_l0_o : List Out := [⟨.exit 0, ⟨[(0, 2, (.k (.ptr 2 0 0))), (0, 4, (.k (.ptr 4 0 0)))], [(2, .cells (.pr (.v T23) (.pr (.v T25) (.v T27)))), (4, .cells (.pr (.v T23) (.pr (.v T25) (.k (.arr 45 0))))), (45, .arr 41 T40)], [], 0⟩⟩]
def pelorusref17_Fit_l0 (k : Nat) : Nat → Mask.den pelorusref17_Fit_l0_i → Option (denS pelorusref17_Fit_l0_o)
 | 0, _ => none
 | m + 1, x =>
  bif (decide (x.1.2.2.2.1 < (x.2.1.2.2.length : Int))) then
   if 0 ≤ x.1.2.2.2.1 then (x.2.1.2.2[Int.toNat x.1.2.2.2.1]?).bind fun y6 =>
    if 0 ≤ x.1.2.2.2.1 then (x.2.1.2.2[Int.toNat x.1.2.2.2.1]?).bind fun y7 =>
     (pelorusref17_gate k x.2.1 (IntKind.i64.wrap (x.1.2.2.2.1 + 1))).bind fun r8 =>
     if (x.2.2.2.2.1.length + [(y6.1, y7.2.1, r8.1)].length) * 176 ≤ 140737488355328 then
      pelorusref17_Fit_l0 k m (((), (), (), (IntKind.i64.wrap (x.1.2.2.2.1 + 1)), ()), (x.2.1, (x.2.2.1.1, (x.2.2.1.2.1, x.2.2.1.2.2)), (x.2.2.2.1.1, (x.2.2.2.1.2.1, ())), (x.2.2.2.2.1 ++ [(y6.1, y7.2.1, r8.1)]), ()))
     else none
    else none
   else none
  else
   some (Sum.inl (((), (), ()), ((x.2.2.1.1, (x.2.2.1.2.1, x.2.2.1.2.2)), (x.2.2.2.1.1, (x.2.2.2.1.2.1, ())), x.2.2.2.2.1, ())))
abbrev pelorusref17_Fit_l0_seg (k : Nat) : Seg := ⟨⟨0, 72, false, [], []⟩, 28, [.b, .s2, .s1, .s2, .s2, .s2, .s2], pelorusref17_Fit_l0_i, pelorusref17_Fit_l0_o, pelorusref17_Fit_l0 k k⟩
theorem pelorusref17_Fit_l0_seg.ok (k : Nat) : SegOK Tryz.prog (e85 k) (pelorusref17_Fit_l0_seg k) :=
 SegOK.loop (e85.ok k) (by kernel_rfl) (S := pelorusref17_Fit_l0_seg k) (c := atR (codeOf (e85 k) 28) [.l, .b, .s2, .s1, .s2, .s2, .s2, .s2]) (by kernel_rfl) (pelorusref17_Fit_l0 k) k rfl (fun _ => rfl) 8 .n trivial (fun k' x => by kernel_rfl)
abbrev pelorusref17_Fit_l1_i : Mask := ⟨[(0, 2, (.k (.ptr 2 0 0))), (0, 4, (.k (.ptr 4 0 0))), (0, 7, (.v (.int .i64)))], [(2, .cells (.pr (.v T23) (.pr (.v T25) (.v T27)))), (4, .cells (.pr (.v T23) (.pr (.v T25) (.k (.arr 45 0))))), (45, .arr 41 T40)], [], 0⟩
abbrev pelorusref17_Fit_l1_o : List Out := [⟨.exit 2, ⟨[(0, 2, (.k (.ptr 2 0 0))), (0, 4, (.k (.ptr 4 0 0)))], [(2, .cells (.pr (.v T23) (.pr (.v T25) (.v T27)))), (4, .cells (.pr (.v T23) (.pr (.v T25) (.k (.arr 45 0))))), (45, .arr 41 T40)], [], 0⟩⟩]
def pelorusref17_Fit_l1 (k : Nat) : Nat → Mask.den pelorusref17_Fit_l1_i → Option (denS pelorusref17_Fit_l1_o)
 | 0, _ => none
 | m + 1, x =>
  bif (decide (x.1.2.2.1 < (x.2.2.2.1.length : Int))) then
   (pelorusref08_None k).bind fun r13 =>
   if 0 ≤ x.1.2.2.1 then (x.2.2.2.1[Int.toNat x.1.2.2.1]?).bind fun _ =>
    (x.2.2.2.1[(Int.toNat x.1.2.2.1)]?).bind fun y15 =>
    (pelorusref08_None k).bind fun r16 =>
    if 0 ≤ x.1.2.2.1 then ((x.2.2.2.1.set (Int.toNat x.1.2.2.1) (y15.1, r13.1, y15.2.2))[Int.toNat x.1.2.2.1]?).bind fun _ =>
     ((x.2.2.2.1.set (Int.toNat x.1.2.2.1) (y15.1, r13.1, y15.2.2))[(Int.toNat x.1.2.2.1)]?).bind fun y18 =>
     pelorusref17_Fit_l1 k m (((), (), (IntKind.i64.wrap (x.1.2.2.1 + 1)), ()), ((x.2.1.1, (x.2.1.2.1, x.2.1.2.2)), (x.2.2.1.1, (x.2.2.1.2.1, ())), ((x.2.2.2.1.set (Int.toNat x.1.2.2.1) (y15.1, r13.1, y15.2.2)).set (Int.toNat x.1.2.2.1) (y18.1, y18.2.1, r16.1)), ()))
    else none
   else none
  else
   some (Sum.inl (((), (), ()), ((x.2.1.1, (x.2.1.2.1, x.2.1.2.2)), (x.2.2.1.1, (x.2.2.1.2.1, ())), x.2.2.2.1, ())))
abbrev pelorusref17_Fit_l1_seg (k : Nat) : Seg := ⟨⟨0, 72, false, [], []⟩, 28, [.b, .s2, .s2, .c1, .s2, .s1, .s2, .s2, .s2, .s2, .s2, .s2], pelorusref17_Fit_l1_i, pelorusref17_Fit_l1_o, pelorusref17_Fit_l1 k k⟩
theorem pelorusref17_Fit_l1_seg.ok (k : Nat) : SegOK Tryz.prog (e85 k) (pelorusref17_Fit_l1_seg k) :=
 SegOK.loop (e85.ok k) (by kernel_rfl) (S := pelorusref17_Fit_l1_seg k) (c := atR (codeOf (e85 k) 28) [.l, .b, .s2, .s2, .c1, .s2, .s1, .s2, .s2, .s2, .s2, .s2, .s2]) (by kernel_rfl) (pelorusref17_Fit_l1 k) k rfl (fun _ => rfl) 8 .n trivial (fun k' x => by kernel_rfl)
def pelorusref17_Fit (k : Nat) (x0 : Ty.den T28) : Option (HL [T28]) :=
 (pelorusref17_May k x0).bind fun r1 =>
 bif (!r1.1) then
  some (x0, ())
 else
  (pelorusref17_gate k x0 0).bind fun r2 =>
  (pelorusref17_Fit_l0 k k (((), (), (), 0, ()), (x0, ((0, false, 0, 0), ((false, (0, false, 0, 0), 0, false, 0, 0), [])), (x0.1, (r2.1, ())), [], ()))).bind fun q9 =>
  Sum.elim (fun z10 =>
    (pelorusref17_empty k (z10.2.2.1.1, z10.2.2.1.2.1, z10.2.2.2.1)).bind fun r11 =>
    bif r11.1 then
     (pelorusref08_None k).bind fun r12 =>
     (pelorusref17_Fit_l1 k k (((), (), 0, ()), ((z10.2.1.1, (z10.2.1.2.1, z10.2.1.2.2)), (z10.2.2.1.1, (r12.1, ())), z10.2.2.2.1, ()))).bind fun q19 =>
     Sum.elim (fun z20 =>
       some ((z20.2.2.1.1, z20.2.2.1.2.1, z20.2.2.2.1), ()))
      (fun q19' =>
       none) q19
    else
     some ((z10.2.2.1.1, z10.2.2.1.2.1, z10.2.2.2.1), ()))
   (fun q9' =>
    none) q9
theorem pelorusref17_Fit.ok (k : Nat) : SpecOK Tryz.prog G0 28 ⟨[T28], [T28], fun x => pelorusref17_Fit k x.1⟩ :=
 evF_sound (E := (e85 k)) (fn := Tryz.f28) (e85.ok k) (by kernel_rfl) (by kernel_rfl) (by kernel_rfl) 8 (.two .n (.two .n (.two .n (.two .n (.two (.two .n (.two (.use (pelorusref17_Fit_l0_seg k)) .n)) (.two .n (.two (.two .n (.two (.two .n (.two .n (.two (.use (pelorusref17_Fit_l1_seg k)) .n))) .n)) .n))))))) ⟨trivial, ⟨trivial, ⟨trivial, ⟨trivial, ⟨⟨trivial, ⟨(pelorusref17_Fit_l0_seg.ok k), trivial⟩⟩, ⟨trivial, ⟨⟨trivial, ⟨⟨trivial, ⟨trivial, ⟨(pelorusref17_Fit_l1_seg.ok k), trivial⟩⟩⟩, trivial⟩⟩, trivial⟩⟩⟩⟩⟩⟩⟩ (fun xs => by kernel_rfl)
def e86 (k : Nat) : Env := (e85 k).add 28 ⟨[T28], [T28], fun x => pelorusref17_Fit k x.1⟩
theorem e86.ok (k : Nat) : (e86 k).OK Tryz.prog := (e85.ok k).add (pelorusref17_Fit.ok k)
def pelorusref18_gate (k : Nat) (x0 : Ty.den T28) (x1 : Ty.den (.int .i64)) : Option (HL [T25]) :=
 bif (x1 == 0) then
  some (x0.2.1, ())
 else
  if 0 ≤ (IntKind.i64.wrap (x1 - 1)) then (x0.2.2[Int.toNat (IntKind.i64.wrap (x1 - 1))]?).bind fun y1 =>
   some (y1.2.2, ())
  else none
theorem pelorusref18_gate.ok (k : Nat) : SpecOK Tryz.prog G0 29 ⟨[T28, (.int .i64)], [T25], fun x => pelorusref18_gate k x.1 x.2.1⟩ :=
 evF_sound (E := (e86 k)) (fn := Tryz.f29) (e86.ok k) (by kernel_rfl) (by kernel_rfl) (by kernel_rfl) 8 .n trivial (fun xs => by kernel_rfl)
def e87 (k : Nat) : Env := (e86 k).add 29 ⟨[T28, (.int .i64)], [T25], fun x => pelorusref18_gate k x.1 x.2.1⟩
theorem e87.ok (k : Nat) : (e87 k).OK Tryz.prog := (e86.ok k).add (pelorusref18_gate.ok k)
def pelorusref09_Two (k : Nat) (x0 : Ty.den T25) (x1 : Ty.den T25) : Option (HL [T25]) :=
 (pelorusref08_Fair k x0).bind fun r1 =>
 (pelorusref08_Fair k x1).bind fun r2 =>
 bif r1.1.1 then
  (pelorusref08_None k).bind fun r3 =>
  some (r3.1, ())
 else
  bif r2.1.1 then
   (pelorusref08_None k).bind fun r4 =>
   some (r4.1, ())
  else
   (pelorusref06_Add k r1.1.2.1 r2.1.2.1 false).bind fun r5 =>
   (pelorusref06_Add k r1.1.2.2 r2.1.2.2 true).bind fun r6 =>
   (pelorusref08_Make k r5.1 r6.1).bind fun r7 =>
   some (r7.1, ())
theorem pelorusref09_Two.ok (k : Nat) : SpecOK Tryz.prog G0 32 ⟨[T25, T25], [T25], fun x => pelorusref09_Two k x.1 x.2.1⟩ :=
 evF_sound (E := (e87 k)) (fn := Tryz.f32) (e87.ok k) (by kernel_rfl) (by kernel_rfl) (by kernel_rfl) 8 .n trivial (fun xs => by kernel_rfl)
def e88 (k : Nat) : Env := (e87 k).add 32 ⟨[T25, T25], [T25], fun x => pelorusref09_Two k x.1 x.2.1⟩
theorem e88.ok (k : Nat) : (e88 k).OK Tryz.prog := (e87.ok k).add (pelorusref09_Two.ok k)
def pelorusref02_Two (k : Nat) (x0 : Ty.den T94) (x1 : Ty.den T94) : Option (HL [T94]) :=
 (pelorusref01_Mul k x0.2 x1.2).bind fun r1 =>
 (pelorusref02_Make k (!(x0.1 == x1.1)) r1.1).bind fun r2 =>
 some (r2.1, ())
theorem pelorusref02_Two.ok (k : Nat) : SpecOK Tryz.prog G0 120 ⟨[T94, T94], [T94], fun x => pelorusref02_Two k x.1 x.2.1⟩ :=
 evF_sound (E := (e88 k)) (fn := Tryz.f120) (e88.ok k) (by kernel_rfl) (by kernel_rfl) (by kernel_rfl) 8 .n trivial (fun xs => by kernel_rfl)
def e89 (k : Nat) : Env := (e88 k).add 120 ⟨[T94, T94], [T94], fun x => pelorusref02_Two k x.1 x.2.1⟩
theorem e89.ok (k : Nat) : (e89 k).OK Tryz.prog := (e88.ok k).add (pelorusref02_Two.ok k)
def pelorusref03_Mul (k : Nat) (x0 : Ty.den T96) (x1 : Ty.den T96) : Option (HL [T96]) :=
 (pelorusref03_Make k x0.1 x0.2).bind fun r1 =>
 (pelorusref03_Make k x1.1 x1.2).bind fun r2 =>
 (pelorusref02_Two k r1.1.1 r2.1.1).bind fun r3 =>
 (pelorusref03_Make k r3.1 (IntKind.i64.wrap (r1.1.2 + r2.1.2))).bind fun r4 =>
 some (r4.1, ())
theorem pelorusref03_Mul.ok (k : Nat) : SpecOK Tryz.prog G0 102 ⟨[T96, T96], [T96], fun x => pelorusref03_Mul k x.1 x.2.1⟩ :=
 evF_sound (E := (e89 k)) (fn := Tryz.f102) (e89.ok k) (by kernel_rfl) (by kernel_rfl) (by kernel_rfl) 8 .n trivial (fun xs => by kernel_rfl)
def e90 (k : Nat) : Env := (e89 k).add 102 ⟨[T96, T96], [T96], fun x => pelorusref03_Mul k x.1 x.2.1⟩
theorem e90.ok (k : Nat) : (e90 k).OK Tryz.prog := (e89.ok k).add (pelorusref03_Mul.ok k)
def pelorusref06_Mul (k : Nat) (x0 : Ty.den T23) (x1 : Ty.den T23) (x2 : Ty.den .bool) : Option (HL [T23]) :=
 (pelorusref06_Fair k x0).bind fun r1 =>
 (pelorusref06_Fair k x1).bind fun r2 =>
 bif (r1.1.1 == 0) then
  some ((0, false, 0, 0), ())
 else
  bif (r2.1.1 == 0) then
   some ((0, false, 0, 0), ())
  else
   bif (r1.1.1 == 2) then
    (pelorusref05_Infinite k (!(r1.1.2.1 == r2.1.2.1))).bind fun r3 =>
    some (r3.1, ())
   else
    bif (r2.1.1 == 2) then
     (pelorusref05_Infinite k (!(r1.1.2.1 == r2.1.2.1))).bind fun r4 =>
     some (r4.1, ())
    else
     (pelorusref05_Exact k r1.1).bind fun r5 =>
     (pelorusref05_Exact k r2.1).bind fun r6 =>
     (pelorusref03_Mul k r5.1 r6.1).bind fun r7 =>
     (pelorusref05_Round k r7.1 x2).bind fun r8 =>
     some (r8.1, ())
theorem pelorusref06_Mul.ok (k : Nat) : SpecOK Tryz.prog G0 78 ⟨[T23, T23, .bool], [T23], fun x => pelorusref06_Mul k x.1 x.2.1 x.2.2.1⟩ :=
 evF_sound (E := (e90 k)) (fn := Tryz.f78) (e90.ok k) (by kernel_rfl) (by kernel_rfl) (by kernel_rfl) 8 .n trivial (fun xs => by kernel_rfl)
def e91 (k : Nat) : Env := (e90 k).add 78 ⟨[T23, T23, .bool], [T23], fun x => pelorusref06_Mul k x.1 x.2.1 x.2.2.1⟩
theorem e91.ok (k : Nat) : (e91 k).OK Tryz.prog := (e90.ok k).add (pelorusref06_Mul.ok k)
abbrev pelorusref09_Mul_l0_i : Mask := ⟨[(0, 4, (.k (.ptr 4 0 0))), (0, 7, (.v T39)), (0, 8, (.v T39)), (0, 9, (.k (.arr 56 0))), (0, 10, (.k (.arr 68 0))), (0, 11, (.v (.int .i64)))], [(4, .cells (.v T25)), (56, .arr 24 T23), (68, .arr 24 T23)], [], 0⟩
abbrev pelorusref09_Mul_l0_o : List Out := [⟨.exit 0, ⟨[(0, 4, (.k (.ptr 4 0 0))), (0, 9, (.k (.arr 56 0))), (0, 10, (.k (.arr 68 0)))], [(4, .cells (.v T25)), (56, .arr 24 T23), (68, .arr 24 T23)], [], 0⟩⟩]
def pelorusref09_Mul_l0 (k : Nat) : Nat → Mask.den pelorusref09_Mul_l0_i → Option (denS pelorusref09_Mul_l0_o)
 | 0, _ => none
 | m + 1, x =>
  bif (decide (x.1.2.2.2.2.2.1 < 4)) then
   if 0 ≤ x.1.2.2.2.2.2.1 then (x.1.2.1[Int.toNat x.1.2.2.2.2.2.1]?).bind fun y14 =>
    if 0 ≤ x.1.2.2.2.2.2.1 then (x.1.2.2.1[Int.toNat x.1.2.2.2.2.2.1]?).bind fun y15 =>
     (pelorusref06_Mul k y14 y15 false).bind fun r16 =>
     if (x.2.2.1.length + [r16.1].length) * 32 ≤ 140737488355328 then
      if 0 ≤ x.1.2.2.2.2.2.1 then (x.1.2.1[Int.toNat x.1.2.2.2.2.2.1]?).bind fun y17 =>
       if 0 ≤ x.1.2.2.2.2.2.1 then (x.1.2.2.1[Int.toNat x.1.2.2.2.2.2.1]?).bind fun y18 =>
        (pelorusref06_Mul k y17 y18 true).bind fun r19 =>
        if (x.2.2.2.1.length + [r19.1].length) * 32 ≤ 140737488355328 then
         pelorusref09_Mul_l0 k m (((), x.1.2.1, x.1.2.2.1, (), (), (IntKind.i64.wrap (x.1.2.2.2.2.2.1 + 1)), ()), (x.2.1, (x.2.2.1 ++ [r16.1]), (x.2.2.2.1 ++ [r19.1]), ()))
        else none
       else none
      else none
     else none
    else none
   else none
  else
   some (Sum.inl (((), (), (), ()), (x.2.1, x.2.2.1, x.2.2.2.1, ())))
abbrev pelorusref09_Mul_l0_seg (k : Nat) : Seg := ⟨⟨0, 74, false, [], []⟩, 33, [.b, .s2, .s1, .s2, .s2, .s2, .s2, .s2, .s2, .s2, .s2], pelorusref09_Mul_l0_i, pelorusref09_Mul_l0_o, pelorusref09_Mul_l0 k k⟩
theorem pelorusref09_Mul_l0_seg.ok (k : Nat) : SegOK Tryz.prog (e91 k) (pelorusref09_Mul_l0_seg k) :=
 SegOK.loop (e91.ok k) (by kernel_rfl) (S := pelorusref09_Mul_l0_seg k) (c := atR (codeOf (e91 k) 33) [.l, .b, .s2, .s1, .s2, .s2, .s2, .s2, .s2, .s2, .s2, .s2]) (by kernel_rfl) (pelorusref09_Mul_l0 k) k rfl (fun _ => rfl) 8 .n trivial (fun k' x => by kernel_rfl)
def pelorusref09_Mul (k : Nat) (x0 : Ty.den T25) (x1 : Ty.den T25) : Option (HL [T25]) :=
 (pelorusref08_Fair k x0).bind fun r1 =>
 (pelorusref08_Fair k x1).bind fun r2 =>
 bif r1.1.1 then
  (pelorusref08_None k).bind fun r3 =>
  some (r3.1, ())
 else
  bif r2.1.1 then
   (pelorusref08_None k).bind fun r4 =>
   some (r4.1, ())
  else
   (pelorusref09_Mul_l0 k k (((), [r1.1.2.1, r1.1.2.1, r1.1.2.2, r1.1.2.2], [r2.1.2.1, r2.1.2.2, r2.1.2.1, r2.1.2.2], (), (), 0, ()), ((false, (0, false, 0, 0), 0, false, 0, 0), [], [], ()))).bind fun q20 =>
   Sum.elim (fun z21 =>
     (pelorusref05_Least k z21.2.2.1).bind fun r22 =>
     (pelorusref05_Most k z21.2.2.2.1).bind fun r23 =>
     (pelorusref08_Make k r22.1 r23.1).bind fun r24 =>
     some (r24.1, ()))
    (fun q20' =>
     none) q20
theorem pelorusref09_Mul.ok (k : Nat) : SpecOK Tryz.prog G0 33 ⟨[T25, T25], [T25], fun x => pelorusref09_Mul k x.1 x.2.1⟩ :=
 evF_sound (E := (e91 k)) (fn := Tryz.f33) (e91.ok k) (by kernel_rfl) (by kernel_rfl) (by kernel_rfl) 8 (.two .n (.two .n (.two .n (.two .n (.two .n (.two .n (.two .n (.two .n (.two (.two .n (.two (.use (pelorusref09_Mul_l0_seg k)) .n)) .n))))))))) ⟨trivial, ⟨trivial, ⟨trivial, ⟨trivial, ⟨trivial, ⟨trivial, ⟨trivial, ⟨trivial, ⟨⟨trivial, ⟨(pelorusref09_Mul_l0_seg.ok k), trivial⟩⟩, trivial⟩⟩⟩⟩⟩⟩⟩⟩⟩ (fun xs => by kernel_rfl)
def e92 (k : Nat) : Env := (e91 k).add 33 ⟨[T25, T25], [T25], fun x => pelorusref09_Mul k x.1 x.2.1⟩
theorem e92.ok (k : Nat) : (e92 k).OK Tryz.prog := (e91.ok k).add (pelorusref09_Mul.ok k)
def pelorusref18_path (k : Nat) (x0 : Ty.den T25) (x1 : Ty.den T25) : Option (HL [T25]) :=
 (pelorusref08_Make k (0, false, 0, 0) x1.2.2).bind fun r1 =>
 (pelorusref09_Mul k x0 r1.1).bind fun r2 =>
 some (r2.1, ())
theorem pelorusref18_path.ok (k : Nat) : SpecOK Tryz.prog G0 34 ⟨[T25, T25], [T25], fun x => pelorusref18_path k x.1 x.2.1⟩ :=
 evF_sound (E := (e92 k)) (fn := Tryz.f34) (e92.ok k) (by kernel_rfl) (by kernel_rfl) (by kernel_rfl) 8 .n trivial (fun xs => by kernel_rfl)
def e93 (k : Nat) : Env := (e92 k).add 34 ⟨[T25, T25], [T25], fun x => pelorusref18_path k x.1 x.2.1⟩
theorem e93.ok (k : Nat) : (e93 k).OK Tryz.prog := (e92.ok k).add (pelorusref18_path.ok k)
def pelorusref09_Neg (k : Nat) (x0 : Ty.den T25) : Option (HL [T25]) :=
 (pelorusref08_Fair k x0).bind fun r1 =>
 bif r1.1.1 then
  some (r1.1, ())
 else
  (pelorusref05_Neg k r1.1.2.2).bind fun r2 =>
  (pelorusref05_Neg k r1.1.2.1).bind fun r3 =>
  (pelorusref08_Make k r2.1 r3.1).bind fun r4 =>
  some (r4.1, ())
theorem pelorusref09_Neg.ok (k : Nat) : SpecOK Tryz.prog G0 79 ⟨[T25], [T25], fun x => pelorusref09_Neg k x.1⟩ :=
 evF_sound (E := (e93 k)) (fn := Tryz.f79) (e93.ok k) (by kernel_rfl) (by kernel_rfl) (by kernel_rfl) 8 .n trivial (fun xs => by kernel_rfl)
def e94 (k : Nat) : Env := (e93 k).add 79 ⟨[T25], [T25], fun x => pelorusref09_Neg k x.1⟩
theorem e94.ok (k : Nat) : (e94 k).OK Tryz.prog := (e93.ok k).add (pelorusref09_Neg.ok k)
def pelorusref09_Sub (k : Nat) (x0 : Ty.den T25) (x1 : Ty.den T25) : Option (HL [T25]) :=
 (pelorusref09_Neg k x1).bind fun r1 =>
 (pelorusref09_Two k x0 r1.1).bind fun r2 =>
 some (r2.1, ())
theorem pelorusref09_Sub.ok (k : Nat) : SpecOK Tryz.prog G0 35 ⟨[T25, T25], [T25], fun x => pelorusref09_Sub k x.1 x.2.1⟩ :=
 evF_sound (E := (e94 k)) (fn := Tryz.f35) (e94.ok k) (by kernel_rfl) (by kernel_rfl) (by kernel_rfl) 8 .n trivial (fun xs => by kernel_rfl)
def e95 (k : Nat) : Env := (e94 k).add 35 ⟨[T25, T25], [T25], fun x => pelorusref09_Sub k x.1 x.2.1⟩
theorem e95.ok (k : Nat) : (e95 k).OK Tryz.prog := (e94.ok k).add (pelorusref09_Sub.ok k)
abbrev pelorusref18_Contract_l0_i : Mask := ⟨[(0, 1, (.v T30)), (0, 2, (.k (.ptr 2 0 0))), (0, 4, (.k (.ptr 4 0 0))), (0, 7, (.v (.int .i64)))], [(2, .cells (.v T28)), (4, .cells (.pr (.v T23) (.pr (.v T25) (.v T27))))], [], 0⟩
abbrev pelorusref18_Contract_l0_o : List Out := [⟨.ret, ⟨[(0, 4, (.k (.ptr 4 0 0))), (0, 5, (.v (.int .i64)))], [(4, .cells (.pr (.v T23) (.pr (.v T25) (.v T27))))], [], 0⟩⟩, ⟨.exit 0, ⟨[(0, 1, (.v T30)), (0, 2, (.k (.ptr 2 0 0))), (0, 4, (.k (.ptr 4 0 0)))], [(2, .cells (.v T28)), (4, .cells (.pr (.v T23) (.pr (.v T25) (.v T27))))], [], 0⟩⟩]
def pelorusref18_Contract_l0 (k : Nat) : Nat → Mask.den pelorusref18_Contract_l0_i → Option (denS pelorusref18_Contract_l0_o)
 | 0, _ => none
 | m + 1, x =>
  bif (decide (x.1.2.2.2.1 < (x.1.1.length : Int))) then
   if 0 ≤ x.1.2.2.2.1 then (x.1.1[Int.toNat x.1.2.2.2.1]?).bind fun y2 =>
    (pelorusref08_May k y2).bind fun r3 =>
    bif (!r3.1) then
     some (Sum.inl (((), 1, ()), (((0, false, 0, 0), ((false, (0, false, 0, 0), 0, false, 0, 0), [])), ())))
    else
     pelorusref18_Contract_l0 k m ((x.1.1, (), (), (IntKind.i64.wrap (x.1.2.2.2.1 + 1)), ()), (x.2.1, (x.2.2.1.1, (x.2.2.1.2.1, x.2.2.1.2.2)), ()))
   else none
  else
   some (Sum.inr (Sum.inl ((x.1.1, (), (), ()), (x.2.1, (x.2.2.1.1, (x.2.2.1.2.1, x.2.2.1.2.2)), ()))))
abbrev pelorusref18_Contract_l0_seg (k : Nat) : Seg := ⟨⟨0, 145, false, [], []⟩, 8, [.b, .s2, .s1, .s2, .s2, .s2], pelorusref18_Contract_l0_i, pelorusref18_Contract_l0_o, pelorusref18_Contract_l0 k k⟩
theorem pelorusref18_Contract_l0_seg.ok (k : Nat) : SegOK Tryz.prog (e95 k) (pelorusref18_Contract_l0_seg k) :=
 SegOK.loop (e95.ok k) (by kernel_rfl) (S := pelorusref18_Contract_l0_seg k) (c := atR (codeOf (e95 k) 8) [.l, .b, .s2, .s1, .s2, .s2, .s2]) (by kernel_rfl) (pelorusref18_Contract_l0 k) k rfl (fun _ => rfl) 8 .n trivial (fun k' x => by kernel_rfl)
abbrev pelorusref18_Contract_l2_i : Mask := ⟨[(0, 1, (.v T30)), (0, 4, (.k (.ptr 4 0 0))), (513, 1, (.k (.ptr 2101249 0 0))), (513, 2, (.k (.ptr 2101250 0 0))), (513, 4, (.k (.ptr 2101252 0 0))), (513, 5, (.v (.int .i64)))], [(4, .cells (.pr (.v T23) (.pr (.v T25) (.v T27)))), (2101249, .cells (.v T28)), (2101250, .cells (.pr (.v T23) (.pr (.v T25) (.v T27)))), (2101252, .cells (.pr (.v T23) (.pr (.v T25) (.k (.arr 2101293 0))))), (2101293, .arr 41 T40)], [], 0⟩
abbrev pelorusref18_Contract_l2_o : List Out := [⟨.exit 0, ⟨[(0, 1, (.v T30)), (0, 4, (.k (.ptr 4 0 0))), (513, 2, (.k (.ptr 2101250 0 0))), (513, 4, (.k (.ptr 2101252 0 0)))], [(4, .cells (.pr (.v T23) (.pr (.v T25) (.v T27)))), (2101250, .cells (.pr (.v T23) (.pr (.v T25) (.v T27)))), (2101252, .cells (.pr (.v T23) (.pr (.v T25) (.k (.arr 2101293 0))))), (2101293, .arr 41 T40)], [], 0⟩⟩]
def pelorusref18_Contract_l2 (k : Nat) : Nat → Mask.den pelorusref18_Contract_l2_i → Option (denS pelorusref18_Contract_l2_o)
 | 0, _ => none
 | m + 1, x =>
  bif (decide (x.1.2.2.2.2.2.1 < (x.2.2.1.2.2.length : Int))) then
   if 0 ≤ x.1.2.2.2.2.2.1 then (x.2.2.1.2.2[Int.toNat x.1.2.2.2.2.2.1]?).bind fun y25 =>
    if 0 ≤ x.1.2.2.2.2.2.1 then (x.2.2.1.2.2[Int.toNat x.1.2.2.2.2.2.1]?).bind fun y26 =>
     (pelorusref17_gate k x.2.2.1 (IntKind.i64.wrap (x.1.2.2.2.2.2.1 + 1))).bind fun r27 =>
     if (x.2.2.2.2.2.1.length + [(y25.1, y26.2.1, r27.1)].length) * 176 ≤ 140737488355328 then
      pelorusref18_Contract_l2 k m ((x.1.1, (), (), (), (), (IntKind.i64.wrap (x.1.2.2.2.2.2.1 + 1)), ()), ((x.2.1.1, (x.2.1.2.1, x.2.1.2.2)), x.2.2.1, (x.2.2.2.1.1, (x.2.2.2.1.2.1, x.2.2.2.1.2.2)), (x.2.2.2.2.1.1, (x.2.2.2.2.1.2.1, ())), (x.2.2.2.2.2.1 ++ [(y25.1, y26.2.1, r27.1)]), ()))
     else none
    else none
   else none
  else
   some (Sum.inl ((x.1.1, (), (), (), ()), ((x.2.1.1, (x.2.1.2.1, x.2.1.2.2)), (x.2.2.2.1.1, (x.2.2.2.1.2.1, x.2.2.2.1.2.2)), (x.2.2.2.2.1.1, (x.2.2.2.2.1.2.1, ())), x.2.2.2.2.2.1, ())))
abbrev pelorusref18_Contract_l2_seg (k : Nat) : Seg := ⟨⟨513, 72, false, [0], []⟩, 28, [.b, .s2, .s1, .s2, .s2, .s2, .s2], pelorusref18_Contract_l2_i, pelorusref18_Contract_l2_o, pelorusref18_Contract_l2 k k⟩
theorem pelorusref18_Contract_l2_seg.ok (k : Nat) : SegOK Tryz.prog (e95 k) (pelorusref18_Contract_l2_seg k) :=
 SegOK.loop (e95.ok k) (by kernel_rfl) (S := pelorusref18_Contract_l2_seg k) (c := atR (codeOf (e95 k) 28) [.l, .b, .s2, .s1, .s2, .s2, .s2, .s2]) (by kernel_rfl) (pelorusref18_Contract_l2 k) k rfl (fun _ => rfl) 8 .n trivial (fun k' x => by kernel_rfl)
abbrev pelorusref18_Contract_l3_i : Mask := ⟨[(0, 1, (.v T30)), (0, 4, (.k (.ptr 4 0 0))), (513, 2, (.k (.ptr 2101250 0 0))), (513, 4, (.k (.ptr 2101252 0 0))), (513, 7, (.v (.int .i64)))], [(4, .cells (.pr (.v T23) (.pr (.v T25) (.v T27)))), (2101250, .cells (.pr (.v T23) (.pr (.v T25) (.v T27)))), (2101252, .cells (.pr (.v T23) (.pr (.v T25) (.k (.arr 2101293 0))))), (2101293, .arr 41 T40)], [], 0⟩
abbrev pelorusref18_Contract_l3_o : List Out := [⟨.exit 2, ⟨[(0, 1, (.v T30)), (0, 4, (.k (.ptr 4 0 0))), (513, 2, (.k (.ptr 2101250 0 0))), (513, 4, (.k (.ptr 2101252 0 0)))], [(4, .cells (.pr (.v T23) (.pr (.v T25) (.v T27)))), (2101250, .cells (.pr (.v T23) (.pr (.v T25) (.v T27)))), (2101252, .cells (.pr (.v T23) (.pr (.v T25) (.k (.arr 2101293 0))))), (2101293, .arr 41 T40)], [], 0⟩⟩]
def pelorusref18_Contract_l3 (k : Nat) : Nat → Mask.den pelorusref18_Contract_l3_i → Option (denS pelorusref18_Contract_l3_o)
 | 0, _ => none
 | m + 1, x =>
  bif (decide (x.1.2.2.2.2.1 < (x.2.2.2.2.1.length : Int))) then
   (pelorusref08_None k).bind fun r32 =>
   if 0 ≤ x.1.2.2.2.2.1 then (x.2.2.2.2.1[Int.toNat x.1.2.2.2.2.1]?).bind fun _ =>
    (x.2.2.2.2.1[(Int.toNat x.1.2.2.2.2.1)]?).bind fun y34 =>
    (pelorusref08_None k).bind fun r35 =>
    if 0 ≤ x.1.2.2.2.2.1 then ((x.2.2.2.2.1.set (Int.toNat x.1.2.2.2.2.1) (y34.1, r32.1, y34.2.2))[Int.toNat x.1.2.2.2.2.1]?).bind fun _ =>
     ((x.2.2.2.2.1.set (Int.toNat x.1.2.2.2.2.1) (y34.1, r32.1, y34.2.2))[(Int.toNat x.1.2.2.2.2.1)]?).bind fun y37 =>
     pelorusref18_Contract_l3 k m ((x.1.1, (), (), (), (IntKind.i64.wrap (x.1.2.2.2.2.1 + 1)), ()), ((x.2.1.1, (x.2.1.2.1, x.2.1.2.2)), (x.2.2.1.1, (x.2.2.1.2.1, x.2.2.1.2.2)), (x.2.2.2.1.1, (x.2.2.2.1.2.1, ())), ((x.2.2.2.2.1.set (Int.toNat x.1.2.2.2.2.1) (y34.1, r32.1, y34.2.2)).set (Int.toNat x.1.2.2.2.2.1) (y37.1, y37.2.1, r35.1)), ()))
    else none
   else none
  else
   some (Sum.inl ((x.1.1, (), (), (), ()), ((x.2.1.1, (x.2.1.2.1, x.2.1.2.2)), (x.2.2.1.1, (x.2.2.1.2.1, x.2.2.1.2.2)), (x.2.2.2.1.1, (x.2.2.2.1.2.1, ())), x.2.2.2.2.1, ())))
abbrev pelorusref18_Contract_l3_seg (k : Nat) : Seg := ⟨⟨513, 72, false, [0], []⟩, 28, [.b, .s2, .s2, .c1, .s2, .s1, .s2, .s2, .s2, .s2, .s2, .s2], pelorusref18_Contract_l3_i, pelorusref18_Contract_l3_o, pelorusref18_Contract_l3 k k⟩
theorem pelorusref18_Contract_l3_seg.ok (k : Nat) : SegOK Tryz.prog (e95 k) (pelorusref18_Contract_l3_seg k) :=
 SegOK.loop (e95.ok k) (by kernel_rfl) (S := pelorusref18_Contract_l3_seg k) (c := atR (codeOf (e95 k) 28) [.l, .b, .s2, .s2, .c1, .s2, .s1, .s2, .s2, .s2, .s2, .s2, .s2]) (by kernel_rfl) (pelorusref18_Contract_l3 k) k rfl (fun _ => rfl) 8 .n trivial (fun k' x => by kernel_rfl)
abbrev pelorusref18_Contract_l4_i : Mask := ⟨[(0, 1, (.v T30)), (0, 4, (.k (.ptr 4 0 0))), (0, 9, (.k (.ptr 9 0 0))), (0, 10, (.v (.int .i64)))], [(4, .cells (.pr (.v T23) (.pr (.v T25) (.v T27)))), (9, .cells (.pr (.v T23) (.pr (.v T25) (.k (.arr 44 0))))), (44, .arr 41 T40)], [], 0⟩
abbrev pelorusref18_Contract_l4_o : List Out := [⟨.exit 2, ⟨[(0, 1, (.v T30)), (0, 4, (.k (.ptr 4 0 0))), (0, 9, (.k (.ptr 9 0 0)))], [(4, .cells (.pr (.v T23) (.pr (.v T25) (.v T27)))), (9, .cells (.pr (.v T23) (.pr (.v T25) (.k (.arr 44 0))))), (44, .arr 41 T40)], [], 0⟩⟩]
def pelorusref18_Contract_l4 (k : Nat) : Nat → Mask.den pelorusref18_Contract_l4_i → Option (denS pelorusref18_Contract_l4_o)
 | 0, _ => none
 | m + 1, x =>
  bif (decide (x.1.2.2.2.1 < (x.1.1.length : Int))) then
   (pelorusref18_Time k (x.2.2.1.1, x.2.2.1.2.1, x.2.2.2.1) x.1.2.2.2.1).bind fun r39 =>
   (pelorusref18_gate k (x.2.2.1.1, x.2.2.1.2.1, x.2.2.2.1) x.1.2.2.2.1).bind fun r40 =>
   (pelorusref18_gate k (x.2.2.1.1, x.2.2.1.2.1, x.2.2.2.1) (IntKind.i64.wrap (x.1.2.2.2.1 + 1))).bind fun r41 =>
   if 0 ≤ x.1.2.2.2.1 then (x.1.1[Int.toNat x.1.2.2.2.1]?).bind fun y42 =>
    (pelorusref09_Mul k y42 r39.1).bind fun r43 =>
    (pelorusref09_Two k r40.1 r43.1).bind fun r44 =>
    (pelorusref08_Two k r41.1 r44.1).bind fun r45 =>
    bif ((IntKind.i64.wrap (x.1.2.2.2.1 + 1)) == 0) then
     if 0 ≤ x.1.2.2.2.1 then (x.2.2.2.1[Int.toNat x.1.2.2.2.1]?).bind fun _ =>
      (x.2.2.2.1[(Int.toNat x.1.2.2.2.1)]?).bind fun y47 =>
      if 0 ≤ x.1.2.2.2.1 then (x.1.1[Int.toNat x.1.2.2.2.1]?).bind fun y48 =>
       (pelorusref18_path k y48 r39.1).bind fun r49 =>
       (pelorusref09_Two k r40.1 r49.1).bind fun r50 =>
       (pelorusref08_Two k y47.2.1 r50.1).bind fun r51 =>
       if 0 ≤ x.1.2.2.2.1 then (x.2.2.2.1[Int.toNat x.1.2.2.2.1]?).bind fun _ =>
        (x.2.2.2.1[(Int.toNat x.1.2.2.2.1)]?).bind fun y53 =>
        pelorusref18_Contract_l4 k m ((x.1.1, (), (), (IntKind.i64.wrap (x.1.2.2.2.1 + 1)), ()), ((x.2.1.1, (x.2.1.2.1, x.2.1.2.2)), (x.2.2.1.1, (r45.1, ())), (x.2.2.2.1.set (Int.toNat x.1.2.2.2.1) (y53.1, r51.1, y53.2.2)), ()))
       else none
      else none
     else none
    else
     if 0 ≤ (IntKind.i64.wrap ((IntKind.i64.wrap (x.1.2.2.2.1 + 1)) - 1)) then (x.2.2.2.1[Int.toNat (IntKind.i64.wrap ((IntKind.i64.wrap (x.1.2.2.2.1 + 1)) - 1))]?).bind fun _ =>
      (x.2.2.2.1[(Int.toNat (IntKind.i64.wrap ((IntKind.i64.wrap (x.1.2.2.2.1 + 1)) - 1)))]?).bind fun y55 =>
      if 0 ≤ x.1.2.2.2.1 then ((x.2.2.2.1.set (Int.toNat (IntKind.i64.wrap ((IntKind.i64.wrap (x.1.2.2.2.1 + 1)) - 1))) (y55.1, y55.2.1, r45.1))[Int.toNat x.1.2.2.2.1]?).bind fun _ =>
       ((x.2.2.2.1.set (Int.toNat (IntKind.i64.wrap ((IntKind.i64.wrap (x.1.2.2.2.1 + 1)) - 1))) (y55.1, y55.2.1, r45.1))[(Int.toNat x.1.2.2.2.1)]?).bind fun y57 =>
       if 0 ≤ x.1.2.2.2.1 then (x.1.1[Int.toNat x.1.2.2.2.1]?).bind fun y58 =>
        (pelorusref18_path k y58 r39.1).bind fun r59 =>
        (pelorusref09_Two k r40.1 r59.1).bind fun r60 =>
        (pelorusref08_Two k y57.2.1 r60.1).bind fun r61 =>
        if 0 ≤ x.1.2.2.2.1 then ((x.2.2.2.1.set (Int.toNat (IntKind.i64.wrap ((IntKind.i64.wrap (x.1.2.2.2.1 + 1)) - 1))) (y55.1, y55.2.1, r45.1))[Int.toNat x.1.2.2.2.1]?).bind fun _ =>
         ((x.2.2.2.1.set (Int.toNat (IntKind.i64.wrap ((IntKind.i64.wrap (x.1.2.2.2.1 + 1)) - 1))) (y55.1, y55.2.1, r45.1))[(Int.toNat x.1.2.2.2.1)]?).bind fun y63 =>
         pelorusref18_Contract_l4 k m ((x.1.1, (), (), (IntKind.i64.wrap (x.1.2.2.2.1 + 1)), ()), ((x.2.1.1, (x.2.1.2.1, x.2.1.2.2)), (x.2.2.1.1, (x.2.2.1.2.1, ())), ((x.2.2.2.1.set (Int.toNat (IntKind.i64.wrap ((IntKind.i64.wrap (x.1.2.2.2.1 + 1)) - 1))) (y55.1, y55.2.1, r45.1)).set (Int.toNat x.1.2.2.2.1) (y63.1, r61.1, y63.2.2)), ()))
        else none
       else none
      else none
     else none
   else none
  else
   some (Sum.inl ((x.1.1, (), (), ()), ((x.2.1.1, (x.2.1.2.1, x.2.1.2.2)), (x.2.2.1.1, (x.2.2.1.2.1, ())), x.2.2.2.1, ())))
abbrev pelorusref18_Contract_l4_seg (k : Nat) : Seg := ⟨⟨0, 145, false, [], []⟩, 8, [.b, .s2, .s1, .s2, .s2, .s2, .s2, .s2], pelorusref18_Contract_l4_i, pelorusref18_Contract_l4_o, pelorusref18_Contract_l4 k k⟩
theorem pelorusref18_Contract_l4_seg.ok (k : Nat) : SegOK Tryz.prog (e95 k) (pelorusref18_Contract_l4_seg k) :=
 SegOK.loop (e95.ok k) (by kernel_rfl) (S := pelorusref18_Contract_l4_seg k) (c := atR (codeOf (e95 k) 8) [.l, .b, .s2, .s1, .s2, .s2, .s2, .s2, .s2]) (by kernel_rfl) (pelorusref18_Contract_l4 k) k rfl (fun _ => rfl) 8 (.two .n (.two (.two (.two .n (.two .n (.two (.call 16 3 .n .n) .n))) .n) .n)) ⟨trivial, ⟨⟨⟨trivial, ⟨trivial, ⟨⟨trivial, trivial⟩, trivial⟩⟩⟩, trivial⟩, trivial⟩⟩ (fun k' x => by kernel_rfl)
abbrev pelorusref18_Contract_l5_i : Mask := ⟨[(0, 1, (.v T30)), (0, 4, (.k (.ptr 4 0 0))), (0, 9, (.k (.ptr 9 0 0))), (0, 13, (.v (.int .i64)))], [(4, .cells (.pr (.v T23) (.pr (.v T25) (.v T27)))), (9, .cells (.pr (.v T23) (.pr (.v T25) (.k (.arr 44 0))))), (44, .arr 41 T40)], [], 0⟩
abbrev pelorusref18_Contract_l5_o : List Out := [⟨.exit 4, ⟨[(0, 4, (.k (.ptr 4 0 0))), (0, 9, (.k (.ptr 9 0 0)))], [(4, .cells (.pr (.v T23) (.pr (.v T25) (.v T27)))), (9, .cells (.pr (.v T23) (.pr (.v T25) (.k (.arr 44 0))))), (44, .arr 41 T40)], [], 0⟩⟩]
def pelorusref18_Contract_l5 (k : Nat) : Nat → Mask.den pelorusref18_Contract_l5_i → Option (denS pelorusref18_Contract_l5_o)
 | 0, _ => none
 | m + 1, x =>
  bif (decide (x.1.2.2.2.1 ≥ 0)) then
   (pelorusref18_Time k (x.2.2.1.1, x.2.2.1.2.1, x.2.2.2.1) x.1.2.2.2.1).bind fun r68 =>
   (pelorusref18_gate k (x.2.2.1.1, x.2.2.1.2.1, x.2.2.2.1) (IntKind.i64.wrap (x.1.2.2.2.1 + 1))).bind fun r69 =>
   (pelorusref18_gate k (x.2.2.1.1, x.2.2.1.2.1, x.2.2.2.1) x.1.2.2.2.1).bind fun r70 =>
   if 0 ≤ x.1.2.2.2.1 then (x.1.1[Int.toNat x.1.2.2.2.1]?).bind fun y71 =>
    (pelorusref09_Mul k y71 r68.1).bind fun r72 =>
    (pelorusref09_Sub k r69.1 r72.1).bind fun r73 =>
    (pelorusref08_Two k r70.1 r73.1).bind fun r74 =>
    bif (x.1.2.2.2.1 == 0) then
     if 0 ≤ x.1.2.2.2.1 then (x.2.2.2.1[Int.toNat x.1.2.2.2.1]?).bind fun _ =>
      (x.2.2.2.1[(Int.toNat x.1.2.2.2.1)]?).bind fun y76 =>
      if 0 ≤ x.1.2.2.2.1 then (x.1.1[Int.toNat x.1.2.2.2.1]?).bind fun y77 =>
       (pelorusref18_path k y77 r68.1).bind fun r78 =>
       (pelorusref09_Sub k r69.1 r78.1).bind fun r79 =>
       (pelorusref08_Two k y76.2.1 r79.1).bind fun r80 =>
       if 0 ≤ x.1.2.2.2.1 then (x.2.2.2.1[Int.toNat x.1.2.2.2.1]?).bind fun _ =>
        (x.2.2.2.1[(Int.toNat x.1.2.2.2.1)]?).bind fun y82 =>
        pelorusref18_Contract_l5 k m ((x.1.1, (), (), (IntKind.i64.wrap (x.1.2.2.2.1 - 1)), ()), ((x.2.1.1, (x.2.1.2.1, x.2.1.2.2)), (x.2.2.1.1, (r74.1, ())), (x.2.2.2.1.set (Int.toNat x.1.2.2.2.1) (y82.1, r80.1, y82.2.2)), ()))
       else none
      else none
     else none
    else
     if 0 ≤ (IntKind.i64.wrap (x.1.2.2.2.1 - 1)) then (x.2.2.2.1[Int.toNat (IntKind.i64.wrap (x.1.2.2.2.1 - 1))]?).bind fun _ =>
      (x.2.2.2.1[(Int.toNat (IntKind.i64.wrap (x.1.2.2.2.1 - 1)))]?).bind fun y84 =>
      if 0 ≤ x.1.2.2.2.1 then ((x.2.2.2.1.set (Int.toNat (IntKind.i64.wrap (x.1.2.2.2.1 - 1))) (y84.1, y84.2.1, r74.1))[Int.toNat x.1.2.2.2.1]?).bind fun _ =>
       ((x.2.2.2.1.set (Int.toNat (IntKind.i64.wrap (x.1.2.2.2.1 - 1))) (y84.1, y84.2.1, r74.1))[(Int.toNat x.1.2.2.2.1)]?).bind fun y86 =>
       if 0 ≤ x.1.2.2.2.1 then (x.1.1[Int.toNat x.1.2.2.2.1]?).bind fun y87 =>
        (pelorusref18_path k y87 r68.1).bind fun r88 =>
        (pelorusref09_Sub k r69.1 r88.1).bind fun r89 =>
        (pelorusref08_Two k y86.2.1 r89.1).bind fun r90 =>
        if 0 ≤ x.1.2.2.2.1 then ((x.2.2.2.1.set (Int.toNat (IntKind.i64.wrap (x.1.2.2.2.1 - 1))) (y84.1, y84.2.1, r74.1))[Int.toNat x.1.2.2.2.1]?).bind fun _ =>
         ((x.2.2.2.1.set (Int.toNat (IntKind.i64.wrap (x.1.2.2.2.1 - 1))) (y84.1, y84.2.1, r74.1))[(Int.toNat x.1.2.2.2.1)]?).bind fun y92 =>
         pelorusref18_Contract_l5 k m ((x.1.1, (), (), (IntKind.i64.wrap (x.1.2.2.2.1 - 1)), ()), ((x.2.1.1, (x.2.1.2.1, x.2.1.2.2)), (x.2.2.1.1, (x.2.2.1.2.1, ())), ((x.2.2.2.1.set (Int.toNat (IntKind.i64.wrap (x.1.2.2.2.1 - 1))) (y84.1, y84.2.1, r74.1)).set (Int.toNat x.1.2.2.2.1) (y92.1, r90.1, y92.2.2)), ()))
        else none
       else none
      else none
     else none
   else none
  else
   some (Sum.inl (((), (), ()), ((x.2.1.1, (x.2.1.2.1, x.2.1.2.2)), (x.2.2.1.1, (x.2.2.1.2.1, ())), x.2.2.2.1, ())))
abbrev pelorusref18_Contract_l5_seg (k : Nat) : Seg := ⟨⟨0, 145, false, [], []⟩, 8, [.b, .s2, .s1, .s2, .s2, .s2, .s2, .s2, .s2], pelorusref18_Contract_l5_i, pelorusref18_Contract_l5_o, pelorusref18_Contract_l5 k k⟩
theorem pelorusref18_Contract_l5_seg.ok (k : Nat) : SegOK Tryz.prog (e95 k) (pelorusref18_Contract_l5_seg k) :=
 SegOK.loop (e95.ok k) (by kernel_rfl) (S := pelorusref18_Contract_l5_seg k) (c := atR (codeOf (e95 k) 8) [.l, .b, .s2, .s1, .s2, .s2, .s2, .s2, .s2, .s2]) (by kernel_rfl) (pelorusref18_Contract_l5 k) k rfl (fun _ => rfl) 8 (.two .n (.two (.two (.two .n (.two .n (.two (.call 14 4 .n .n) .n))) .n) .n)) ⟨trivial, ⟨⟨⟨trivial, ⟨trivial, ⟨⟨trivial, trivial⟩, trivial⟩⟩⟩, trivial⟩, trivial⟩⟩ (fun k' x => by kernel_rfl)
def pelorusref18_Contract (k : Nat) (x0 : Ty.den T28) (x1 : Ty.den T30) : Option (HL [T28, (.int .i64)]) :=
 (pelorusref17_May k x0).bind fun r1 =>
 bif (!r1.1) then
  some (((0, false, 0, 0), (false, (0, false, 0, 0), 0, false, 0, 0), []), 1, ())
 else
  bif ((x1.length : Int) != (x0.2.2.length : Int)) then
   some (((0, false, 0, 0), (false, (0, false, 0, 0), 0, false, 0, 0), []), 1, ())
  else
   (pelorusref18_Contract_l0 k k ((x1, (), (), 0, ()), (x0, ((0, false, 0, 0), ((false, (0, false, 0, 0), 0, false, 0, 0), [])), ()))).bind fun q4 =>
   Sum.elim (fun z5 =>
     some (z5.2.1, z5.1.2.1, ()))
    (fun q4' =>
     Sum.elim (fun z6 =>
       (pelorusref17_May k z6.2.1).bind fun r7 =>
       bif (!r7.1) then
        none
       else
        (pelorusref17_gate k z6.2.1 0).bind fun r21 =>
        (pelorusref18_Contract_l2 k k ((z6.1.1, (), (), (), (), 0, ()), ((z6.2.2.1.1, (z6.2.2.1.2.1, z6.2.2.1.2.2)), z6.2.1, ((0, false, 0, 0), ((false, (0, false, 0, 0), 0, false, 0, 0), [])), (z6.2.1.1, (r21.1, ())), [], ()))).bind fun q28 =>
        Sum.elim (fun z29 =>
          (pelorusref17_empty k (z29.2.2.2.1.1, z29.2.2.2.1.2.1, z29.2.2.2.2.1)).bind fun r30 =>
          bif r30.1 then
           (pelorusref08_None k).bind fun r31 =>
           (pelorusref18_Contract_l3 k k ((z29.1.1, (), (), (), 0, ()), ((z29.2.1.1, (z29.2.1.2.1, z29.2.1.2.2)), (z29.2.2.1.1, (z29.2.2.1.2.1, z29.2.2.1.2.2)), (z29.2.2.2.1.1, (r31.1, ())), z29.2.2.2.2.1, ()))).bind fun q38 =>
           Sum.elim (fun z65 =>
             (pelorusref18_Contract_l4 k k ((z65.1.1, (), (), 0, ()), ((z65.2.1.1, (z65.2.1.2.1, z65.2.1.2.2)), (z65.2.2.2.1.1, (z65.2.2.2.1.2.1, ())), z65.2.2.2.2.1, ()))).bind fun q66 =>
             Sum.elim (fun z67 =>
               (pelorusref18_Contract_l5 k k ((z67.1.1, (), (), (IntKind.i64.wrap ((z67.1.1.length : Int) - 1)), ()), ((z67.2.1.1, (z67.2.1.2.1, z67.2.1.2.2)), (z67.2.2.1.1, (z67.2.2.1.2.1, ())), z67.2.2.2.1, ()))).bind fun q93 =>
               Sum.elim (fun z94 =>
                 (pelorusref17_Fit k (z94.2.2.1.1, z94.2.2.1.2.1, z94.2.2.2.1)).bind fun r95 =>
                 some (r95.1, 0, ()))
                (fun q93' =>
                 none) q93)
              (fun q66' =>
               none) q66)
            (fun q38' =>
             none) q38
          else
           (pelorusref18_Contract_l4 k k ((z29.1.1, (), (), 0, ()), ((z29.2.1.1, (z29.2.1.2.1, z29.2.1.2.2)), (z29.2.2.2.1.1, (z29.2.2.2.1.2.1, ())), z29.2.2.2.2.1, ()))).bind fun q64 =>
           Sum.elim (fun z96 =>
             (pelorusref18_Contract_l5 k k ((z96.1.1, (), (), (IntKind.i64.wrap ((z96.1.1.length : Int) - 1)), ()), ((z96.2.1.1, (z96.2.1.2.1, z96.2.1.2.2)), (z96.2.2.1.1, (z96.2.2.1.2.1, ())), z96.2.2.2.1, ()))).bind fun q97 =>
             Sum.elim (fun z98 =>
               (pelorusref17_Fit k (z98.2.2.1.1, z98.2.2.1.2.1, z98.2.2.2.1)).bind fun r99 =>
               some (r99.1, 0, ()))
              (fun q97' =>
               none) q97)
            (fun q64' =>
             none) q64)
         (fun q28' =>
          none) q28)
      (fun q4'' =>
       none) q4') q4
theorem pelorusref18_Contract.ok (k : Nat) : SpecOK Tryz.prog G0 8 ⟨[T28, T30], [T28, (.int .i64)], fun x => pelorusref18_Contract k x.1 x.2.1⟩ :=
 evF_sound (E := (e95 k)) (fn := Tryz.f8) (e95.ok k) (by kernel_rfl) (by kernel_rfl) (by kernel_rfl) 8 (.two .n (.two .n (.two .n (.two (.two .n (.two (.use (pelorusref18_Contract_l0_seg k)) .n)) (.two (.call 1 513 (.two .n (.two .n (.two .n (.two .n (.two (.two .n (.two (.use (pelorusref18_Contract_l2_seg k)) .n)) (.two .n (.two (.two .n (.two (.two .n (.two .n (.two (.use (pelorusref18_Contract_l3_seg k)) .n))) .n)) .n))))))) .n) (.two (.two .n (.two (.use (pelorusref18_Contract_l4_seg k)) .n)) (.two (.two .n (.two (.use (pelorusref18_Contract_l5_seg k)) .n)) (.two (.own 1 .n) .n)))))))) ⟨trivial, ⟨trivial, ⟨trivial, ⟨⟨trivial, ⟨(pelorusref18_Contract_l0_seg.ok k), trivial⟩⟩, ⟨⟨⟨trivial, ⟨trivial, ⟨trivial, ⟨trivial, ⟨⟨trivial, ⟨(pelorusref18_Contract_l2_seg.ok k), trivial⟩⟩, ⟨trivial, ⟨⟨trivial, ⟨⟨trivial, ⟨trivial, ⟨(pelorusref18_Contract_l3_seg.ok k), trivial⟩⟩⟩, trivial⟩⟩, trivial⟩⟩⟩⟩⟩⟩⟩, trivial⟩, ⟨⟨trivial, ⟨(pelorusref18_Contract_l4_seg.ok k), trivial⟩⟩, ⟨⟨trivial, ⟨(pelorusref18_Contract_l5_seg.ok k), trivial⟩⟩, ⟨trivial, trivial⟩⟩⟩⟩⟩⟩⟩⟩ (fun xs => by kernel_rfl)
def e96 (k : Nat) : Env := (e95 k).add 8 ⟨[T28, T30], [T28, (.int .i64)], fun x => pelorusref18_Contract k x.1 x.2.1⟩
theorem e96.ok (k : Nat) : (e96 k).OK Tryz.prog := (e95.ok k).add (pelorusref18_Contract.ok k)
abbrev pelorusref17_Same_l0_i : Mask := ⟨[(0, 2, (.k (.ptr 2 0 0))), (0, 3, (.k (.ptr 3 0 0))), (0, 5, (.v (.int .i64)))], [(2, .cells (.v T28)), (3, .cells (.v T28))], [], 0⟩
abbrev pelorusref17_Same_l0_o : List Out := [⟨.ret, ⟨[(0, 4, (.v .bool))], [], [], 0⟩⟩, ⟨.exit 0, ⟨[], [], [], 0⟩⟩]
def pelorusref17_Same_l0 (k : Nat) : Nat → Mask.den pelorusref17_Same_l0_i → Option (denS pelorusref17_Same_l0_o)
 | 0, _ => none
 | m + 1, x =>
  bif (decide (x.1.2.2.1 < (x.2.1.2.2.length : Int))) then
   if 0 ≤ x.1.2.2.1 then (x.2.1.2.2[Int.toNat x.1.2.2.1]?).bind fun y1 =>
    if 0 ≤ x.1.2.2.1 then (x.2.2.1.2.2[Int.toNat x.1.2.2.1]?).bind fun y2 =>
     bif (!(beqT T40 y1 y2)) then
      some (Sum.inl ((false, ()), ()))
     else
      pelorusref17_Same_l0 k m (((), (), (IntKind.i64.wrap (x.1.2.2.1 + 1)), ()), (x.2.1, x.2.2.1, ()))
    else none
   else none
  else
   some (Sum.inr (Sum.inl ((), ())))
abbrev pelorusref17_Same_l0_seg (k : Nat) : Seg := ⟨⟨0, 45, false, [], []⟩, 9, [.b, .s2, .s1, .s2, .s2], pelorusref17_Same_l0_i, pelorusref17_Same_l0_o, pelorusref17_Same_l0 k k⟩
theorem pelorusref17_Same_l0_seg.ok (k : Nat) : SegOK Tryz.prog (e96 k) (pelorusref17_Same_l0_seg k) :=
 SegOK.loop (e96.ok k) (by kernel_rfl) (S := pelorusref17_Same_l0_seg k) (c := atR (codeOf (e96 k) 9) [.l, .b, .s2, .s1, .s2, .s2]) (by kernel_rfl) (pelorusref17_Same_l0 k) k rfl (fun _ => rfl) 8 .n trivial (fun k' x => by kernel_rfl)
def pelorusref17_Same (k : Nat) (x0 : Ty.den T28) (x1 : Ty.den T28) : Option (HL [.bool]) :=
 bif (!(beqT T23 x0.1 x1.1)) then
  some (false, ())
 else
  bif (!(beqT T25 x0.2.1 x1.2.1)) then
   some (false, ())
  else
   bif ((x0.2.2.length : Int) != (x1.2.2.length : Int)) then
    some (false, ())
   else
    (pelorusref17_Same_l0 k k (((), (), 0, ()), (x0, x1, ()))).bind fun q3 =>
    Sum.elim (fun z4 =>
      some (z4.1.1, ()))
     (fun q3' =>
      Sum.elim (fun z5 =>
        some (true, ()))
       (fun q3'' =>
        none) q3') q3
theorem pelorusref17_Same.ok (k : Nat) : SpecOK Tryz.prog G0 9 ⟨[T28, T28], [.bool], fun x => pelorusref17_Same k x.1 x.2.1⟩ :=
 evF_sound (E := (e96 k)) (fn := Tryz.f9) (e96.ok k) (by kernel_rfl) (by kernel_rfl) (by kernel_rfl) 8 (.two .n (.two .n (.two (.two .n (.two (.use (pelorusref17_Same_l0_seg k)) .n)) .n))) ⟨trivial, ⟨trivial, ⟨⟨trivial, ⟨(pelorusref17_Same_l0_seg.ok k), trivial⟩⟩, trivial⟩⟩⟩ (fun xs => by kernel_rfl)
def e97 (k : Nat) : Env := (e96 k).add 9 ⟨[T28, T28], [.bool], fun x => pelorusref17_Same k x.1 x.2.1⟩
theorem e97.ok (k : Nat) : (e97 k).OK Tryz.prog := (e96.ok k).add (pelorusref17_Same.ok k)
def flow_when (k : Nat) (x0 : Ty.den T28) (x1 : Ty.den (.int .i64)) : Option (HL [T23]) :=
 bif (x1 == 0) then
  some (x0.1, ())
 else
  if 0 ≤ (IntKind.i64.wrap (x1 - 1)) then (x0.2.2[Int.toNat (IntKind.i64.wrap (x1 - 1))]?).bind fun y1 =>
   some (y1.1, ())
  else none
theorem flow_when.ok (k : Nat) : SpecOK Tryz.prog G0 37 ⟨[T28, (.int .i64)], [T23], fun x => flow_when k x.1 x.2.1⟩ :=
 evF_sound (E := (e97 k)) (fn := Tryz.f37) (e97.ok k) (by kernel_rfl) (by kernel_rfl) (by kernel_rfl) 8 .n trivial (fun xs => by kernel_rfl)
def e98 (k : Nat) : Env := (e97 k).add 37 ⟨[T28, (.int .i64)], [T23], fun x => flow_when k x.1 x.2.1⟩
theorem e98.ok (k : Nat) : (e98 k).OK Tryz.prog := (e97.ok k).add (flow_when.ok k)
def arith_Sub (k : Nat) (x0 : Ty.den T23) (x1 : Ty.den T23) (x2 : Ty.den .bool) : Option (HL [T23]) :=
 (num_Neg k x1).bind fun r1 =>
 (arith_Add k x0 r1.1 x2).bind fun r2 =>
 some (r2.1, ())
theorem arith_Sub.ok (k : Nat) : SpecOK Tryz.prog G0 39 ⟨[T23, T23, .bool], [T23], fun x => arith_Sub k x.1 x.2.1 x.2.2.1⟩ :=
 evF_sound (E := (e98 k)) (fn := Tryz.f39) (e98.ok k) (by kernel_rfl) (by kernel_rfl) (by kernel_rfl) 8 .n trivial (fun xs => by kernel_rfl)
def e99 (k : Nat) : Env := (e98 k).add 39 ⟨[T23, T23, .bool], [T23], fun x => arith_Sub k x.1 x.2.1 x.2.2.1⟩
theorem e99.ok (k : Nat) : (e99 k).OK Tryz.prog := (e98.ok k).add (arith_Sub.ok k)
def flow_Time (k : Nat) (x0 : Ty.den T28) (x1 : Ty.den (.int .i64)) : Option (HL [T25]) :=
 (tube_May k x0).bind fun r1 =>
 bif (!r1.1) then
  (iv_None k).bind fun r2 =>
  some (r2.1, ())
 else
  bif (decide (x1 < 0)) then
   (iv_None k).bind fun r3 =>
   some (r3.1, ())
  else
   bif (decide (x1 ≥ (x0.2.2.length : Int))) then
    (iv_None k).bind fun r4 =>
    some (r4.1, ())
   else
    (flow_when k x0 x1).bind fun r5 =>
    (flow_when k x0 (IntKind.i64.wrap (x1 + 1))).bind fun r6 =>
    (arith_Sub k r6.1 r5.1 false).bind fun r7 =>
    (arith_Sub k r6.1 r5.1 true).bind fun r8 =>
    (iv_Make k r7.1 r8.1).bind fun r9 =>
    some (r9.1, ())
theorem flow_Time.ok (k : Nat) : SpecOK Tryz.prog G0 10 ⟨[T28, (.int .i64)], [T25], fun x => flow_Time k x.1 x.2.1⟩ :=
 evF_sound (E := (e99 k)) (fn := Tryz.f10) (e99.ok k) (by kernel_rfl) (by kernel_rfl) (by kernel_rfl) 8 .n trivial (fun xs => by kernel_rfl)
def e100 (k : Nat) : Env := (e99 k).add 10 ⟨[T28, (.int .i64)], [T25], fun x => flow_Time k x.1 x.2.1⟩
theorem e100.ok (k : Nat) : (e100 k).OK Tryz.prog := (e99.ok k).add (flow_Time.ok k)
def pelorusref17_New (k : Nat) (x0 : Ty.den T23) (x1 : Ty.den T25) : Option (HL [T28, (.int .i64)]) :=
 (pelorusref17_May k (x0, x1, [])).bind fun r1 =>
 bif (!r1.1) then
  some (((0, false, 0, 0), (false, (0, false, 0, 0), 0, false, 0, 0), []), 1, ())
 else
  some ((x0, x1, []), 0, ())
theorem pelorusref17_New.ok (k : Nat) : SpecOK Tryz.prog G0 47 ⟨[T23, T25], [T28, (.int .i64)], fun x => pelorusref17_New k x.1 x.2.1⟩ :=
 evF_sound (E := (e100 k)) (fn := Tryz.f47) (e100.ok k) (by kernel_rfl) (by kernel_rfl) (by kernel_rfl) 8 .n trivial (fun xs => by kernel_rfl)
def e101 (k : Nat) : Env := (e100 k).add 47 ⟨[T23, T25], [T28, (.int .i64)], fun x => pelorusref17_New k x.1 x.2.1⟩
theorem e101.ok (k : Nat) : (e101 k).OK Tryz.prog := (e100.ok k).add (pelorusref17_New.ok k)
def pelorusref17_Append (k : Nat) (x0 : Ty.den T28) (x1 : Ty.den T23) (x2 : Ty.den T25) (x3 : Ty.den T25) : Option (HL [T28, (.int .i64)]) :=
 (pelorusref17_May k x0).bind fun r1 =>
 (pelorusref17_when k x1).bind fun r2 =>
 (pelorusref08_May k x2).bind fun r3 =>
 (pelorusref08_May k x3).bind fun r4 =>
 bif (!r1.1) then
  some (((0, false, 0, 0), (false, (0, false, 0, 0), 0, false, 0, 0), []), 1, ())
 else
  bif (!r2.1) then
   some (((0, false, 0, 0), (false, (0, false, 0, 0), 0, false, 0, 0), []), 1, ())
  else
   bif (!r3.1) then
    some (((0, false, 0, 0), (false, (0, false, 0, 0), 0, false, 0, 0), []), 1, ())
   else
    bif (!r4.1) then
     some (((0, false, 0, 0), (false, (0, false, 0, 0), 0, false, 0, 0), []), 1, ())
    else
     bif (decide ((x0.2.2.length : Int) ≥ 64)) then
      some (((0, false, 0, 0), (false, (0, false, 0, 0), 0, false, 0, 0), []), 3, ())
     else
      (pelorusref17_When k x0 (x0.2.2.length : Int)).bind fun r5 =>
      (pelorusref05_Cmp k x1 r5.1).bind fun r6 =>
      bif (decide (r6.1 ≤ 0)) then
       some (((0, false, 0, 0), (false, (0, false, 0, 0), 0, false, 0, 0), []), 6, ())
      else
       if x0.2.2.length * 176 ≤ 140737488355328 then
        if (x0.2.2.length + [(x1, x2, x3)].length) * 176 ≤ 140737488355328 then
         some ((x0.1, x0.2.1, (x0.2.2 ++ [(x1, x2, x3)])), 0, ())
        else none
       else none
theorem pelorusref17_Append.ok (k : Nat) : SpecOK Tryz.prog G0 48 ⟨[T28, T23, T25, T25], [T28, (.int .i64)], fun x => pelorusref17_Append k x.1 x.2.1 x.2.2.1 x.2.2.2.1⟩ :=
 evF_sound (E := (e101 k)) (fn := Tryz.f48) (e101.ok k) (by kernel_rfl) (by kernel_rfl) (by kernel_rfl) 8 .n trivial (fun xs => by kernel_rfl)
def e102 (k : Nat) : Env := (e101 k).add 48 ⟨[T28, T23, T25, T25], [T28, (.int .i64)], fun x => pelorusref17_Append k x.1 x.2.1 x.2.2.1 x.2.2.2.1⟩
theorem e102.ok (k : Nat) : (e102 k).OK Tryz.prog := (e101.ok k).add (pelorusref17_Append.ok k)
def pelorusref08_All (k : Nat) : Option (HL [T25]) :=
 (pelorusref05_Infinite k true).bind fun r1 =>
 (pelorusref05_Infinite k false).bind fun r2 =>
 some ((false, r1.1, r2.1), ())
theorem pelorusref08_All.ok (k : Nat) : SpecOK Tryz.prog G0 49 ⟨[], [T25], fun x => pelorusref08_All k⟩ :=
 evF_sound (E := (e102 k)) (fn := Tryz.f49) (e102.ok k) (by kernel_rfl) (by kernel_rfl) (by kernel_rfl) 8 .n trivial (fun xs => by kernel_rfl)
def e103 (k : Nat) : Env := (e102 k).add 49 ⟨[], [T25], fun x => pelorusref08_All k⟩
theorem e103.ok (k : Nat) : (e103 k).OK Tryz.prog := (e102.ok k).add (pelorusref08_All.ok k)
abbrev pelorusref18_Reach_l0_i : Mask := ⟨[(0, 2, (.v T39)), (0, 3, (.v T30)), (0, 8, (.k (.ptr 8 0 0))), (0, 10, (.k (.ptr 10 0 0))), (0, 11, (.v (.int .i64))), (0, 12, (.v (.int .i64)))], [(8, .cells (.pr (.v T23) (.pr (.v T25) (.v T27)))), (10, .cells (.v T28))], [], 0⟩
abbrev pelorusref18_Reach_l0_o : List Out := [⟨.exit 0, ⟨[(0, 3, (.v T30)), (0, 8, (.k (.ptr 8 0 0))), (0, 10, (.k (.ptr 10 0 0))), (0, 11, (.v (.int .i64)))], [(8, .cells (.pr (.v T23) (.pr (.v T25) (.v T27)))), (10, .cells (.v T28))], [], 0⟩⟩]
def pelorusref18_Reach_l0 (k : Nat) : Nat → Mask.den pelorusref18_Reach_l0_i → Option (denS pelorusref18_Reach_l0_o)
 | 0, _ => none
 | m + 1, x =>
  bif (decide (x.1.2.2.2.2.2.1 < (x.1.1.length : Int))) then
   bif (x.1.2.2.2.2.1 == 0) then
    if 0 ≤ x.1.2.2.2.2.2.1 then (x.1.1[Int.toNat x.1.2.2.2.2.2.1]?).bind fun y2 =>
     (pelorusref08_All k).bind fun r3 =>
     (pelorusref08_All k).bind fun r4 =>
     (pelorusref17_Append k x.2.2.1 y2 r3.1 r4.1).bind fun r5 =>
     pelorusref18_Reach_l0 k m ((x.1.1, x.1.2.1, (), (), r5.2.1, (IntKind.i64.wrap (x.1.2.2.2.2.2.1 + 1)), ()), ((x.2.1.1, (x.2.1.2.1, x.2.1.2.2)), r5.1, ()))
    else none
   else
    some (Sum.inl ((x.1.2.1, (), (), x.1.2.2.2.2.1, ()), ((x.2.1.1, (x.2.1.2.1, x.2.1.2.2)), x.2.2.1, ())))
  else
   some (Sum.inl ((x.1.2.1, (), (), x.1.2.2.2.2.1, ()), ((x.2.1.1, (x.2.1.2.1, x.2.1.2.2)), x.2.2.1, ())))
abbrev pelorusref18_Reach_l0_seg (k : Nat) : Seg := ⟨⟨0, 64, false, [], []⟩, 13, [.b, .s2, .s1, .s2, .s2, .s2], pelorusref18_Reach_l0_i, pelorusref18_Reach_l0_o, pelorusref18_Reach_l0 k k⟩
theorem pelorusref18_Reach_l0_seg.ok (k : Nat) : SegOK Tryz.prog (e103 k) (pelorusref18_Reach_l0_seg k) :=
 SegOK.loop (e103.ok k) (by kernel_rfl) (S := pelorusref18_Reach_l0_seg k) (c := atR (codeOf (e103 k) 13) [.l, .b, .s2, .s1, .s2, .s2, .s2]) (by kernel_rfl) (pelorusref18_Reach_l0 k) k rfl (fun _ => rfl) 8 .n trivial (fun k' x => by kernel_rfl)
def pelorusref18_Reach (k : Nat) (x0 : Ty.den T23) (x1 : Ty.den T25) (x2 : Ty.den T39) (x3 : Ty.den T30) : Option (HL [T28, (.int .i64)]) :=
 bif ((x2.length : Int) != (x3.length : Int)) then
  some (((0, false, 0, 0), (false, (0, false, 0, 0), 0, false, 0, 0), []), 1, ())
 else
  (pelorusref17_New k x0 x1).bind fun r1 =>
  (pelorusref18_Reach_l0 k k ((x2, x3, (), (), r1.2.1, 0, ()), (((0, false, 0, 0), ((false, (0, false, 0, 0), 0, false, 0, 0), [])), r1.1, ()))).bind fun q6 =>
  Sum.elim (fun z7 =>
    bif (z7.1.2.2.2.1 != 0) then
     some (((0, false, 0, 0), (false, (0, false, 0, 0), 0, false, 0, 0), []), z7.1.2.2.2.1, ())
    else
     (pelorusref18_Contract k z7.2.2.1 z7.1.1).bind fun r8 =>
     some (r8.1, r8.2.1, ()))
   (fun q6' =>
    none) q6
theorem pelorusref18_Reach.ok (k : Nat) : SpecOK Tryz.prog G0 13 ⟨[T23, T25, T39, T30], [T28, (.int .i64)], fun x => pelorusref18_Reach k x.1 x.2.1 x.2.2.1 x.2.2.2.1⟩ :=
 evF_sound (E := (e103 k)) (fn := Tryz.f13) (e103.ok k) (by kernel_rfl) (by kernel_rfl) (by kernel_rfl) 8 (.two .n (.two .n (.two .n (.two (.two .n (.two (.use (pelorusref18_Reach_l0_seg k)) .n)) .n)))) ⟨trivial, ⟨trivial, ⟨trivial, ⟨⟨trivial, ⟨(pelorusref18_Reach_l0_seg.ok k), trivial⟩⟩, trivial⟩⟩⟩⟩ (fun xs => by kernel_rfl)
def e104 (k : Nat) : Env := (e103 k).add 13 ⟨[T23, T25, T39, T30], [T28, (.int .i64)], fun x => pelorusref18_Reach k x.1 x.2.1 x.2.2.1 x.2.2.2.1⟩
theorem e104.ok (k : Nat) : (e104 k).OK Tryz.prog := (e103.ok k).add (pelorusref18_Reach.ok k)
def flow_Contract_1 (k : Nat) (x0 : Ty.den T25) : Option (HL [.bool]) :=
 (iv_May k x0).bind fun r1 =>
 some ((!r1.1), ())
theorem flow_Contract_1.ok (k : Nat) : SpecOK Tryz.prog G0 17 ⟨[T25], [.bool], fun x => flow_Contract_1 k x.1⟩ :=
 evF_sound (E := (e104 k)) (fn := Tryz.f17) (e104.ok k) (by kernel_rfl) (by kernel_rfl) (by kernel_rfl) 8 .n trivial (fun xs => by kernel_rfl)
def e105 (k : Nat) : Env := (e104 k).add 17 ⟨[T25], [.bool], fun x => flow_Contract_1 k x.1⟩
theorem e105.ok (k : Nat) : (e105 k).OK Tryz.prog := (e104.ok k).add (flow_Contract_1.ok k)
def tube_Empty_1 (k : Nat) (x0 : Ty.den T40) : Option (HL [.bool]) :=
 bif x0.2.1.1 then
  some (true, ())
 else
  some (x0.2.2.1, ())
theorem tube_Empty_1.ok (k : Nat) : SpecOK Tryz.prog G0 90 ⟨[T40], [.bool], fun x => tube_Empty_1 k x.1⟩ :=
 evF_sound (E := (e105 k)) (fn := Tryz.f90) (e105.ok k) (by kernel_rfl) (by kernel_rfl) (by kernel_rfl) 8 .n trivial (fun xs => by kernel_rfl)
def e106 (k : Nat) : Env := (e105 k).add 90 ⟨[T40], [.bool], fun x => tube_Empty_1 k x.1⟩
theorem e106.ok (k : Nat) : (e106 k).OK Tryz.prog := (e105.ok k).add (tube_Empty_1.ok k)
def bits_Mul64 (k : Nat) (x0 : Ty.den (.int .u64)) (x1 : Ty.den (.int .u64)) : Option (HL [(.int .u64), (.int .u64)]) :=
 some ((IntKind.u64.wrap ((IntKind.u64.wrap ((IntKind.u64.wrap ((Int.fdiv x0 (2 ^ min (Int.toNat 32) IntKind.u64.bits)) * (Int.fdiv x1 (2 ^ min (Int.toNat 32) IntKind.u64.bits)))) + (Int.fdiv (IntKind.u64.wrap ((IntKind.u64.wrap ((Int.fdiv x0 (2 ^ min (Int.toNat 32) IntKind.u64.bits)) * (IntKind.u64.wrap (BitVec.toNat (BitVec.ofInt IntKind.u64.bits x1 &&& BitVec.ofInt IntKind.u64.bits 4294967295))))) + (Int.fdiv (IntKind.u64.wrap ((IntKind.u64.wrap (BitVec.toNat (BitVec.ofInt IntKind.u64.bits x0 &&& BitVec.ofInt IntKind.u64.bits 4294967295))) * (IntKind.u64.wrap (BitVec.toNat (BitVec.ofInt IntKind.u64.bits x1 &&& BitVec.ofInt IntKind.u64.bits 4294967295))))) (2 ^ min (Int.toNat 32) IntKind.u64.bits)))) (2 ^ min (Int.toNat 32) IntKind.u64.bits)))) + (Int.fdiv (IntKind.u64.wrap ((IntKind.u64.wrap (BitVec.toNat (BitVec.ofInt IntKind.u64.bits (IntKind.u64.wrap ((IntKind.u64.wrap ((Int.fdiv x0 (2 ^ min (Int.toNat 32) IntKind.u64.bits)) * (IntKind.u64.wrap (BitVec.toNat (BitVec.ofInt IntKind.u64.bits x1 &&& BitVec.ofInt IntKind.u64.bits 4294967295))))) + (Int.fdiv (IntKind.u64.wrap ((IntKind.u64.wrap (BitVec.toNat (BitVec.ofInt IntKind.u64.bits x0 &&& BitVec.ofInt IntKind.u64.bits 4294967295))) * (IntKind.u64.wrap (BitVec.toNat (BitVec.ofInt IntKind.u64.bits x1 &&& BitVec.ofInt IntKind.u64.bits 4294967295))))) (2 ^ min (Int.toNat 32) IntKind.u64.bits)))) &&& BitVec.ofInt IntKind.u64.bits 4294967295))) + (IntKind.u64.wrap ((IntKind.u64.wrap (BitVec.toNat (BitVec.ofInt IntKind.u64.bits x0 &&& BitVec.ofInt IntKind.u64.bits 4294967295))) * (Int.fdiv x1 (2 ^ min (Int.toNat 32) IntKind.u64.bits)))))) (2 ^ min (Int.toNat 32) IntKind.u64.bits)))), (IntKind.u64.wrap (x0 * x1)), ())
theorem bits_Mul64.ok (k : Nat) : SpecOK Tryz.prog G0 105 ⟨[(.int .u64), (.int .u64)], [(.int .u64), (.int .u64)], fun x => bits_Mul64 k x.1 x.2.1⟩ :=
 evF_sound (E := (e106 k)) (fn := Tryz.f105) (e106.ok k) (by kernel_rfl) (by kernel_rfl) (by kernel_rfl) 8 .n trivial (fun xs => by kernel_rfl)
def e107 (k : Nat) : Env := (e106 k).add 105 ⟨[(.int .u64), (.int .u64)], [(.int .u64), (.int .u64)], fun x => bits_Mul64 k x.1 x.2.1⟩
theorem e107.ok (k : Nat) : (e107 k).OK Tryz.prog := (e106.ok k).add (bits_Mul64.ok k)
abbrev tube_Empty_l0_i : Mask := ⟨[(0, 12, (.v .bool)), (2, 0, (.v T27)), (2, 1, (.k (.clo 90 .nl))), (2, 7, (.v (.int .i64))), (2, 8, (.v (.int .i64)))], [], [], 0⟩
abbrev tube_Empty_l0_o : List Out := [⟨.ret, ⟨[(0, 12, (.v .bool)), (2, 4, (.v (.int .i64)))], [], [], 0⟩⟩, ⟨.exit 0, ⟨[(0, 12, (.v .bool))], [], [], 0⟩⟩]
def tube_Empty_l0 (k : Nat) : Nat → Mask.den tube_Empty_l0_i → Option (denS tube_Empty_l0_o)
 | 0, _ => none
 | m + 1, x =>
  bif (decide (x.1.2.2.2.2.1 < x.1.2.2.2.1)) then
   if 0 ≤ x.1.2.2.2.2.1 then (x.1.2.1[Int.toNat x.1.2.2.2.2.1]?).bind fun y2 =>
    (tube_Empty_1 k y2).bind fun r3 =>
    bif r3.1 then
     some (Sum.inl ((x.1.1, x.1.2.2.2.2.1, ()), ()))
    else
     tube_Empty_l0 k m ((x.1.1, x.1.2.1, (), x.1.2.2.2.1, (IntKind.i64.wrap (x.1.2.2.2.2.1 + 1)), ()), ())
   else none
  else
   some (Sum.inr (Sum.inl ((x.1.1, ()), ())))
abbrev tube_Empty_l0_seg (k : Nat) : Seg := ⟨⟨2, 19, false, [1, 0], []⟩, 103, [.b, .s2, .s1, .s2], tube_Empty_l0_i, tube_Empty_l0_o, tube_Empty_l0 k k⟩
theorem tube_Empty_l0_seg.ok (k : Nat) : SegOK Tryz.prog (e107 k) (tube_Empty_l0_seg k) :=
 SegOK.loop (e107.ok k) (by kernel_rfl) (S := tube_Empty_l0_seg k) (c := atR (codeOf (e107 k) 103) [.l, .b, .s2, .s1, .s2]) (by kernel_rfl) (tube_Empty_l0 k) k rfl (fun _ => rfl) 8 .n trivial (fun k' x => by kernel_rfl)
def tube_Empty (k : Nat) (x0 : Ty.den T28) : Option (HL [.bool]) :=
 (tube_May k x0).bind fun r1 =>
 bif (!r1.1) then
  some (true, ())
 else
  bif x0.2.1.1 then
   some (true, ())
  else
   (tube_Empty_l0 k k ((false, x0.2.2, (), (x0.2.2.length : Int), 0, ()), ())).bind fun q4 =>
   Sum.elim (fun z5 =>
     bif z5.1.1 then
      some (true, ())
     else
      some ((decide (z5.1.2.1 ≥ 0)), ()))
    (fun q4' =>
     Sum.elim (fun z6 =>
       bif z6.1.1 then
        some (true, ())
       else
        some (false, ()))
      (fun q4'' =>
       none) q4') q4
theorem tube_Empty.ok (k : Nat) : SpecOK Tryz.prog G0 58 ⟨[T28], [.bool], fun x => tube_Empty k x.1⟩ :=
 evF_sound (E := (e107 k)) (fn := Tryz.f58) (e107.ok k) (by kernel_rfl) (by kernel_rfl) (by kernel_rfl) 8 (.two .n (.two .n (.two (.call 12 1 (.two .n (.two (.call 2 2 (.two .n (.two (.two .n (.two (.use (tube_Empty_l0_seg k)) .n)) .n)) .n) .n)) .n) .n))) ⟨trivial, ⟨trivial, ⟨⟨⟨trivial, ⟨⟨⟨trivial, ⟨⟨trivial, ⟨(tube_Empty_l0_seg.ok k), trivial⟩⟩, trivial⟩⟩, trivial⟩, trivial⟩⟩, trivial⟩, trivial⟩⟩⟩ (fun xs => by kernel_rfl)
def e108 (k : Nat) : Env := (e107 k).add 58 ⟨[T28], [.bool], fun x => tube_Empty k x.1⟩
theorem e108.ok (k : Nat) : (e108 k).OK Tryz.prog := (e107.ok k).add (tube_Empty.ok k)
abbrev tube_Fit_l0_i : Mask := ⟨[(0, 2, (.k (.ptr 2 0 0))), (0, 3, (.k (.ptr 3 0 0))), (2, 0, (.k (.yld 0))), (2, 1, (.k (.ptr 2101249 0 0))), (2, 3, (.k (.ptr 8195 0 0))), (2, 14, (.v (.int .i64))), (2, 15, (.v (.int .i64)))], [(2, .cells (.pr (.v T23) (.pr (.v T25) (.v T27)))), (3, .cells (.pr (.v T23) (.pr (.v T25) (.k (.arr 13 0))))), (13, .arr 41 T40), (8195, .cells (.pr (.v T23) (.v T25))), (2101249, .cells (.v T28))], [], 1⟩
abbrev tube_Fit_l0_o : List Out := [⟨.exit 0, ⟨[(0, 2, (.k (.ptr 2 0 0))), (0, 3, (.k (.ptr 3 0 0)))], [(2, .cells (.pr (.v T23) (.pr (.v T25) (.v T27)))), (3, .cells (.pr (.v T23) (.pr (.v T25) (.k (.arr 13 0))))), (13, .arr 41 T40)], [], 1⟩⟩]
def tube_Fit_l0 (k : Nat) : Nat → Mask.den tube_Fit_l0_i → Option (denS tube_Fit_l0_o)
 | 0, _ => none
 | m + 1, x =>
  bif (decide (x.1.2.2.2.2.2.2.1 < x.1.2.2.2.2.2.1)) then
   bif (decide (x.1.2.2.2.2.2.2.1 > 0)) then
    if 0 ≤ (IntKind.i64.wrap (x.1.2.2.2.2.2.2.1 - 1)) then (x.2.2.2.2.2.1.2.2[Int.toNat (IntKind.i64.wrap (x.1.2.2.2.2.2.2.1 - 1))]?).bind fun y2 =>
     (iv_Meet k [y2.2.2, y2.2.1]).bind fun r3 =>
     bif (decide (x.1.2.2.2.2.2.2.1 < (x.2.2.2.2.2.1.2.2.length : Int))) then
      if 0 ≤ x.1.2.2.2.2.2.2.1 then (x.2.2.2.2.2.1.2.2[Int.toNat x.1.2.2.2.2.2.2.1]?).bind fun y4 =>
       (iv_Meet k [r3.1, y4.2.1]).bind fun r5 =>
       bif (x.1.2.2.2.2.2.2.1 == 0) then
        tube_Fit_l0 k m (((), (), (), (), (), x.1.2.2.2.2.2.1, (IntKind.i64.wrap (x.1.2.2.2.2.2.2.1 + 1)), ()), ((x.2.1.1, (x.2.1.2.1, x.2.1.2.2)), (x.2.2.1.1, (r5.1, ())), x.2.2.2.1, (y2.1, r5.1), x.2.2.2.2.2.1, ()))
       else
        if 0 ≤ (IntKind.i64.wrap (x.1.2.2.2.2.2.2.1 - 1)) then (x.2.2.2.1[Int.toNat (IntKind.i64.wrap (x.1.2.2.2.2.2.2.1 - 1))]?).bind fun _ =>
         (x.2.2.2.1[(Int.toNat (IntKind.i64.wrap (x.1.2.2.2.2.2.2.1 - 1)))]?).bind fun y7 =>
         tube_Fit_l0 k m (((), (), (), (), (), x.1.2.2.2.2.2.1, (IntKind.i64.wrap (x.1.2.2.2.2.2.2.1 + 1)), ()), ((x.2.1.1, (x.2.1.2.1, x.2.1.2.2)), (x.2.2.1.1, (x.2.2.1.2.1, ())), (x.2.2.2.1.set (Int.toNat (IntKind.i64.wrap (x.1.2.2.2.2.2.2.1 - 1))) (y7.1, y7.2.1, r5.1)), (y2.1, r5.1), x.2.2.2.2.2.1, ()))
        else none
      else none
     else
      bif (x.1.2.2.2.2.2.2.1 == 0) then
       tube_Fit_l0 k m (((), (), (), (), (), x.1.2.2.2.2.2.1, (IntKind.i64.wrap (x.1.2.2.2.2.2.2.1 + 1)), ()), ((x.2.1.1, (x.2.1.2.1, x.2.1.2.2)), (x.2.2.1.1, (r3.1, ())), x.2.2.2.1, (y2.1, r3.1), x.2.2.2.2.2.1, ()))
      else
       if 0 ≤ (IntKind.i64.wrap (x.1.2.2.2.2.2.2.1 - 1)) then (x.2.2.2.1[Int.toNat (IntKind.i64.wrap (x.1.2.2.2.2.2.2.1 - 1))]?).bind fun _ =>
        (x.2.2.2.1[(Int.toNat (IntKind.i64.wrap (x.1.2.2.2.2.2.2.1 - 1)))]?).bind fun y9 =>
        tube_Fit_l0 k m (((), (), (), (), (), x.1.2.2.2.2.2.1, (IntKind.i64.wrap (x.1.2.2.2.2.2.2.1 + 1)), ()), ((x.2.1.1, (x.2.1.2.1, x.2.1.2.2)), (x.2.2.1.1, (x.2.2.1.2.1, ())), (x.2.2.2.1.set (Int.toNat (IntKind.i64.wrap (x.1.2.2.2.2.2.2.1 - 1))) (y9.1, y9.2.1, r3.1)), (y2.1, r3.1), x.2.2.2.2.2.1, ()))
       else none
    else none
   else
    bif (decide (x.1.2.2.2.2.2.2.1 < (x.2.2.2.2.2.1.2.2.length : Int))) then
     if 0 ≤ x.1.2.2.2.2.2.2.1 then (x.2.2.2.2.2.1.2.2[Int.toNat x.1.2.2.2.2.2.2.1]?).bind fun y10 =>
      (iv_Meet k [x.2.2.2.2.1.2, y10.2.1]).bind fun r11 =>
      bif (x.1.2.2.2.2.2.2.1 == 0) then
       tube_Fit_l0 k m (((), (), (), (), (), x.1.2.2.2.2.2.1, (IntKind.i64.wrap (x.1.2.2.2.2.2.2.1 + 1)), ()), ((x.2.1.1, (x.2.1.2.1, x.2.1.2.2)), (x.2.2.1.1, (r11.1, ())), x.2.2.2.1, (x.2.2.2.2.1.1, r11.1), x.2.2.2.2.2.1, ()))
      else
       if 0 ≤ (IntKind.i64.wrap (x.1.2.2.2.2.2.2.1 - 1)) then (x.2.2.2.1[Int.toNat (IntKind.i64.wrap (x.1.2.2.2.2.2.2.1 - 1))]?).bind fun _ =>
        (x.2.2.2.1[(Int.toNat (IntKind.i64.wrap (x.1.2.2.2.2.2.2.1 - 1)))]?).bind fun y13 =>
        tube_Fit_l0 k m (((), (), (), (), (), x.1.2.2.2.2.2.1, (IntKind.i64.wrap (x.1.2.2.2.2.2.2.1 + 1)), ()), ((x.2.1.1, (x.2.1.2.1, x.2.1.2.2)), (x.2.2.1.1, (x.2.2.1.2.1, ())), (x.2.2.2.1.set (Int.toNat (IntKind.i64.wrap (x.1.2.2.2.2.2.2.1 - 1))) (y13.1, y13.2.1, r11.1)), (x.2.2.2.2.1.1, r11.1), x.2.2.2.2.2.1, ()))
       else none
     else none
    else
     bif (x.1.2.2.2.2.2.2.1 == 0) then
      tube_Fit_l0 k m (((), (), (), (), (), x.1.2.2.2.2.2.1, (IntKind.i64.wrap (x.1.2.2.2.2.2.2.1 + 1)), ()), ((x.2.1.1, (x.2.1.2.1, x.2.1.2.2)), (x.2.2.1.1, (x.2.2.2.2.1.2, ())), x.2.2.2.1, (x.2.2.2.2.1.1, x.2.2.2.2.1.2), x.2.2.2.2.2.1, ()))
     else
      if 0 ≤ (IntKind.i64.wrap (x.1.2.2.2.2.2.2.1 - 1)) then (x.2.2.2.1[Int.toNat (IntKind.i64.wrap (x.1.2.2.2.2.2.2.1 - 1))]?).bind fun _ =>
       (x.2.2.2.1[(Int.toNat (IntKind.i64.wrap (x.1.2.2.2.2.2.2.1 - 1)))]?).bind fun y15 =>
       tube_Fit_l0 k m (((), (), (), (), (), x.1.2.2.2.2.2.1, (IntKind.i64.wrap (x.1.2.2.2.2.2.2.1 + 1)), ()), ((x.2.1.1, (x.2.1.2.1, x.2.1.2.2)), (x.2.2.1.1, (x.2.2.1.2.1, ())), (x.2.2.2.1.set (Int.toNat (IntKind.i64.wrap (x.1.2.2.2.2.2.2.1 - 1))) (y15.1, y15.2.1, x.2.2.2.2.1.2)), (x.2.2.2.2.1.1, x.2.2.2.2.1.2), x.2.2.2.2.2.1, ()))
      else none
  else
   some (Sum.inl (((), (), ()), ((x.2.1.1, (x.2.1.2.1, x.2.1.2.2)), (x.2.2.1.1, (x.2.2.1.2.1, ())), x.2.2.2.1, ())))
abbrev tube_Fit_l0_seg (k : Nat) : Seg := ⟨⟨2, 57, false, [0], [⟨0, 0, 37, 21, [.b, .s2, .s1, .s2, .s2, .s2, .s2]⟩]⟩, 89, [.b, .s2, .s2], tube_Fit_l0_i, tube_Fit_l0_o, tube_Fit_l0 k k⟩
theorem tube_Fit_l0_seg.ok (k : Nat) : SegOK Tryz.prog (e108 k) (tube_Fit_l0_seg k) :=
 SegOK.loop (e108.ok k) (by kernel_rfl) (S := tube_Fit_l0_seg k) (c := atR (codeOf (e108 k) 89) [.l, .b, .s2, .s2]) (by kernel_rfl) (tube_Fit_l0 k) k rfl (fun _ => rfl) 8 (.two .n (.two .n (.two (.two (.two .n (.two .n (.two .n (.two (.call 3 3 .n .n) .n)))) .n) .n))) ⟨trivial, ⟨trivial, ⟨⟨⟨trivial, ⟨trivial, ⟨trivial, ⟨⟨trivial, trivial⟩, trivial⟩⟩⟩⟩, trivial⟩, trivial⟩⟩⟩ (fun k' x => by kernel_rfl)
def tube_Fit (k : Nat) (x0 : Ty.den T28) : Option (HL [T28]) :=
 (tube_May k x0).bind fun r1 =>
 bif (!r1.1) then
  some (x0, ())
 else
  if x0.2.2.length * 176 ≤ 140737488355328 then
   (tube_Fit_l0 k k (((), (), (), (), (), (IntKind.i64.wrap ((x0.2.2.length : Int) + 1)), 0, ()), (((0, false, 0, 0), ((false, (0, false, 0, 0), 0, false, 0, 0), [])), (x0.1, (x0.2.1, ())), x0.2.2, (x0.1, x0.2.1), x0, ()))).bind fun q16 =>
   Sum.elim (fun z17 =>
     (tube_Empty k (z17.2.2.1.1, z17.2.2.1.2.1, z17.2.2.2.1)).bind fun r18 =>
     bif r18.1 then
      (tube_void k (z17.2.2.1.1, z17.2.2.1.2.1, z17.2.2.2.1)).bind fun r19 =>
      some (r19.1, ())
     else
      some ((z17.2.2.1.1, z17.2.2.1.2.1, z17.2.2.2.1), ()))
    (fun q16' =>
     none) q16
  else none
theorem tube_Fit.ok (k : Nat) : SpecOK Tryz.prog G0 21 ⟨[T28], [T28], fun x => tube_Fit k x.1⟩ :=
 evF_sound (E := (e108 k)) (fn := Tryz.f21) (e108.ok k) (by kernel_rfl) (by kernel_rfl) (by kernel_rfl) 8 (.two .n (.two .n (.two .n (.two .n (.two (.two (.call 1 513 .n .n) (.two (.rf 0 2 (.two .n (.two .n (.two (.use (tube_Fit_l0_seg k)) .n)))) .n)) (.two (.two .n (.two (.two (.own 1 .n) .n) .n)) .n)))))) ⟨trivial, ⟨trivial, ⟨trivial, ⟨trivial, ⟨⟨⟨trivial, trivial⟩, ⟨⟨trivial, ⟨trivial, ⟨(tube_Fit_l0_seg.ok k), trivial⟩⟩⟩, trivial⟩⟩, ⟨⟨trivial, ⟨⟨trivial, trivial⟩, trivial⟩⟩, trivial⟩⟩⟩⟩⟩⟩ (fun xs => by kernel_rfl)
def e109 (k : Nat) : Env := (e108 k).add 21 ⟨[T28], [T28], fun x => tube_Fit k x.1⟩
theorem e109.ok (k : Nat) : (e109 k).OK Tryz.prog := (e108.ok k).add (tube_Fit.ok k)
def arith_Mul (k : Nat) (x0 : Ty.den T23) (x1 : Ty.den T23) (x2 : Ty.den .bool) : Option (HL [T23]) :=
 (arith_fair k x0).bind fun r1 =>
 (arith_fair k x1).bind fun r2 =>
 bif (r1.1.1 == 0) then
  some ((0, false, 0, 0), ())
 else
  bif (r2.1.1 == 0) then
   some ((0, false, 0, 0), ())
  else
   bif (r1.1.1 == 2) then
    (num_Infinite k (!(r1.1.2.1 == r2.1.2.1))).bind fun r3 =>
    some (r3.1, ())
   else
    bif (r2.1.1 == 2) then
     (num_Infinite k (!(r1.1.2.1 == r2.1.2.1))).bind fun r4 =>
     some (r4.1, ())
    else
     (bits_Mul64 k r1.1.2.2.1 r2.1.2.2.1).bind fun r5 =>
     bif (decide (r5.1 < 9223372036854775808)) then
      (num_Grow k (!(r1.1.2.1 == r2.1.2.1)) (IntKind.u64.wrap (BitVec.toNat (BitVec.ofInt IntKind.u64.bits (IntKind.u64.wrap (r5.1 * 2 ^ min (Int.toNat 1) IntKind.u64.bits)) ||| BitVec.ofInt IntKind.u64.bits (Int.fdiv r5.2.1 (2 ^ min (Int.toNat 63) IntKind.u64.bits))))) (IntKind.i64.wrap ((IntKind.i64.wrap ((IntKind.i64.wrap (r1.1.2.2.2 + r2.1.2.2.2)) + 64)) - 1)) ((IntKind.u64.wrap (r5.2.1 * 2 ^ min (Int.toNat 1) IntKind.u64.bits)) != 0) (!(x2 == (!(r1.1.2.1 == r2.1.2.1))))).bind fun r6 =>
      some (r6.1, ())
     else
      (num_Grow k (!(r1.1.2.1 == r2.1.2.1)) r5.1 (IntKind.i64.wrap ((IntKind.i64.wrap (r1.1.2.2.2 + r2.1.2.2.2)) + 64)) (r5.2.1 != 0) (!(x2 == (!(r1.1.2.1 == r2.1.2.1))))).bind fun r7 =>
      some (r7.1, ())
theorem arith_Mul.ok (k : Nat) : SpecOK Tryz.prog G0 93 ⟨[T23, T23, .bool], [T23], fun x => arith_Mul k x.1 x.2.1 x.2.2.1⟩ :=
 evF_sound (E := (e109 k)) (fn := Tryz.f93) (e109.ok k) (by kernel_rfl) (by kernel_rfl) (by kernel_rfl) 8 .n trivial (fun xs => by kernel_rfl)
def e110 (k : Nat) : Env := (e109 k).add 93 ⟨[T23, T23, .bool], [T23], fun x => arith_Mul k x.1 x.2.1 x.2.2.1⟩
theorem e110.ok (k : Nat) : (e110 k).OK Tryz.prog := (e109.ok k).add (arith_Mul.ok k)
def ivop_Mul (k : Nat) (x0 : Ty.den T25) (x1 : Ty.den T25) : Option (HL [T25]) :=
 (ivop_none k [x0, x1]).bind fun r1 =>
 bif r1.1 then
  (iv_None k).bind fun r2 =>
  some (r2.1, ())
 else
  (arith_Mul k x0.2.1 x1.2.1 false).bind fun r3 =>
  (arith_Mul k x0.2.1 x1.2.2 false).bind fun r4 =>
  (arith_Mul k x0.2.2 x1.2.1 false).bind fun r5 =>
  (arith_Mul k x0.2.2 x1.2.2 false).bind fun r6 =>
  (num_Least k [r3.1, r4.1, r5.1, r6.1]).bind fun r7 =>
  (arith_Mul k x0.2.1 x1.2.1 true).bind fun r8 =>
  (arith_Mul k x0.2.1 x1.2.2 true).bind fun r9 =>
  (arith_Mul k x0.2.2 x1.2.1 true).bind fun r10 =>
  (arith_Mul k x0.2.2 x1.2.2 true).bind fun r11 =>
  (num_Most k [r8.1, r9.1, r10.1, r11.1]).bind fun r12 =>
  (iv_Make k r7.1 r12.1).bind fun r13 =>
  some (r13.1, ())
theorem ivop_Mul.ok (k : Nat) : SpecOK Tryz.prog G0 61 ⟨[T25, T25], [T25], fun x => ivop_Mul k x.1 x.2.1⟩ :=
 evF_sound (E := (e110 k)) (fn := Tryz.f61) (e110.ok k) (by kernel_rfl) (by kernel_rfl) (by kernel_rfl) 8 (.two .n (.two .n (.two (.call 2 1 (.two .n (.two .n (.two (.call 1 514 .n (.call 4 515 .n .n)) .n))) .n) .n))) ⟨trivial, ⟨trivial, ⟨⟨⟨trivial, ⟨trivial, ⟨⟨trivial, ⟨trivial, trivial⟩⟩, trivial⟩⟩⟩, trivial⟩, trivial⟩⟩⟩ (fun xs => by kernel_rfl)
def e111 (k : Nat) : Env := (e110 k).add 61 ⟨[T25, T25], [T25], fun x => ivop_Mul k x.1 x.2.1⟩
theorem e111.ok (k : Nat) : (e111 k).OK Tryz.prog := (e110.ok k).add (ivop_Mul.ok k)
abbrev flow_Contract_l0_i : Mask := ⟨[(0, 1, (.v T30)), (0, 2, (.k (.ptr 2 0 0))), (0, 4, (.k (.ptr 4 0 0))), (0, 20, (.v .bool)), (2, 0, (.v T30)), (2, 1, (.k (.clo 17 .nl))), (2, 7, (.v (.int .i64))), (2, 8, (.v (.int .i64)))], [(2, .cells (.v T28)), (4, .cells (.pr (.v T23) (.pr (.v T25) (.v T27))))], [], 0⟩
abbrev flow_Contract_l0_o : List Out := [⟨.ret, ⟨[(0, 1, (.v T30)), (0, 2, (.k (.ptr 2 0 0))), (0, 4, (.k (.ptr 4 0 0))), (0, 20, (.v .bool)), (2, 4, (.v (.int .i64)))], [(2, .cells (.v T28)), (4, .cells (.pr (.v T23) (.pr (.v T25) (.v T27))))], [], 0⟩⟩, ⟨.exit 0, ⟨[(0, 1, (.v T30)), (0, 2, (.k (.ptr 2 0 0))), (0, 4, (.k (.ptr 4 0 0))), (0, 20, (.v .bool))], [(2, .cells (.v T28)), (4, .cells (.pr (.v T23) (.pr (.v T25) (.v T27))))], [], 0⟩⟩]
def flow_Contract_l0 (k : Nat) : Nat → Mask.den flow_Contract_l0_i → Option (denS flow_Contract_l0_o)
 | 0, _ => none
 | m + 1, x =>
  bif (decide (x.1.2.2.2.2.2.2.2.1 < x.1.2.2.2.2.2.2.1)) then
   if 0 ≤ x.1.2.2.2.2.2.2.2.1 then (x.1.2.2.2.2.1[Int.toNat x.1.2.2.2.2.2.2.2.1]?).bind fun y2 =>
    (flow_Contract_1 k y2).bind fun r3 =>
    bif r3.1 then
     some (Sum.inl ((x.1.1, (), (), x.1.2.2.2.1, x.1.2.2.2.2.2.2.2.1, ()), (x.2.1, (x.2.2.1.1, (x.2.2.1.2.1, x.2.2.1.2.2)), ())))
    else
     flow_Contract_l0 k m ((x.1.1, (), (), x.1.2.2.2.1, x.1.2.2.2.2.1, (), x.1.2.2.2.2.2.2.1, (IntKind.i64.wrap (x.1.2.2.2.2.2.2.2.1 + 1)), ()), (x.2.1, (x.2.2.1.1, (x.2.2.1.2.1, x.2.2.1.2.2)), ()))
   else none
  else
   some (Sum.inr (Sum.inl ((x.1.1, (), (), x.1.2.2.2.1, ()), (x.2.1, (x.2.2.1.1, (x.2.2.1.2.1, x.2.2.1.2.2)), ()))))
abbrev flow_Contract_l0_seg (k : Nat) : Seg := ⟨⟨2, 19, false, [1, 0], []⟩, 55, [.b, .s2, .s1, .s2], flow_Contract_l0_i, flow_Contract_l0_o, flow_Contract_l0 k k⟩
theorem flow_Contract_l0_seg.ok (k : Nat) : SegOK Tryz.prog (e111 k) (flow_Contract_l0_seg k) :=
 SegOK.loop (e111.ok k) (by kernel_rfl) (S := flow_Contract_l0_seg k) (c := atR (codeOf (e111 k) 55) [.l, .b, .s2, .s1, .s2]) (by kernel_rfl) (flow_Contract_l0 k) k rfl (fun _ => rfl) 8 .n trivial (fun k' x => by kernel_rfl)
abbrev flow_Contract_l2_i : Mask := ⟨[(0, 1, (.v T30)), (0, 2, (.k (.ptr 2 0 0))), (0, 4, (.k (.ptr 4 0 0))), (8, 0, (.k (.yld 0))), (8, 1, (.k (.ptr 2125825 0 0))), (8, 3, (.k (.ptr 32771 0 0))), (8, 14, (.v (.int .i64))), (8, 15, (.v (.int .i64))), (515, 2, (.k (.ptr 2109442 0 0))), (515, 3, (.k (.ptr 2109443 0 0)))], [(2, .cells (.v T28)), (4, .cells (.pr (.v T23) (.pr (.v T25) (.v T27)))), (32771, .cells (.pr (.v T23) (.v T25))), (2109442, .cells (.pr (.v T23) (.pr (.v T25) (.v T27)))), (2109443, .cells (.pr (.v T23) (.pr (.v T25) (.k (.arr 2109453 0))))), (2109453, .arr 41 T40), (2125825, .cells (.v T28))], [], 1⟩
abbrev flow_Contract_l2_o : List Out := [⟨.exit 0, ⟨[(0, 1, (.v T30)), (0, 2, (.k (.ptr 2 0 0))), (0, 4, (.k (.ptr 4 0 0))), (515, 2, (.k (.ptr 2109442 0 0))), (515, 3, (.k (.ptr 2109443 0 0)))], [(2, .cells (.v T28)), (4, .cells (.pr (.v T23) (.pr (.v T25) (.v T27)))), (2109442, .cells (.pr (.v T23) (.pr (.v T25) (.v T27)))), (2109443, .cells (.pr (.v T23) (.pr (.v T25) (.k (.arr 2109453 0))))), (2109453, .arr 41 T40)], [], 1⟩⟩]
def flow_Contract_l2 (k : Nat) : Nat → Mask.den flow_Contract_l2_i → Option (denS flow_Contract_l2_o)
 | 0, _ => none
 | m + 1, x =>
  bif (decide (x.1.2.2.2.2.2.2.2.1 < x.1.2.2.2.2.2.2.1)) then
   bif (decide (x.1.2.2.2.2.2.2.2.1 > 0)) then
    if 0 ≤ (IntKind.i64.wrap (x.1.2.2.2.2.2.2.2.1 - 1)) then (x.2.2.2.2.2.2.2.1.2.2[Int.toNat (IntKind.i64.wrap (x.1.2.2.2.2.2.2.2.1 - 1))]?).bind fun y18 =>
     (iv_Meet k [y18.2.2, y18.2.1]).bind fun r19 =>
     bif (decide (x.1.2.2.2.2.2.2.2.1 < (x.2.2.2.2.2.2.2.1.2.2.length : Int))) then
      if 0 ≤ x.1.2.2.2.2.2.2.2.1 then (x.2.2.2.2.2.2.2.1.2.2[Int.toNat x.1.2.2.2.2.2.2.2.1]?).bind fun y20 =>
       (iv_Meet k [r19.1, y20.2.1]).bind fun r21 =>
       bif (x.1.2.2.2.2.2.2.2.1 == 0) then
        flow_Contract_l2 k m ((x.1.1, (), (), (), (), (), x.1.2.2.2.2.2.2.1, (IntKind.i64.wrap (x.1.2.2.2.2.2.2.2.1 + 1)), (), (), ()), (x.2.1, (x.2.2.1.1, (x.2.2.1.2.1, x.2.2.1.2.2)), (y18.1, r21.1), (x.2.2.2.2.1.1, (x.2.2.2.2.1.2.1, x.2.2.2.2.1.2.2)), (x.2.2.2.2.2.1.1, (r21.1, ())), x.2.2.2.2.2.2.1, x.2.2.2.2.2.2.2.1, ()))
       else
        if 0 ≤ (IntKind.i64.wrap (x.1.2.2.2.2.2.2.2.1 - 1)) then (x.2.2.2.2.2.2.1[Int.toNat (IntKind.i64.wrap (x.1.2.2.2.2.2.2.2.1 - 1))]?).bind fun _ =>
         (x.2.2.2.2.2.2.1[(Int.toNat (IntKind.i64.wrap (x.1.2.2.2.2.2.2.2.1 - 1)))]?).bind fun y23 =>
         flow_Contract_l2 k m ((x.1.1, (), (), (), (), (), x.1.2.2.2.2.2.2.1, (IntKind.i64.wrap (x.1.2.2.2.2.2.2.2.1 + 1)), (), (), ()), (x.2.1, (x.2.2.1.1, (x.2.2.1.2.1, x.2.2.1.2.2)), (y18.1, r21.1), (x.2.2.2.2.1.1, (x.2.2.2.2.1.2.1, x.2.2.2.2.1.2.2)), (x.2.2.2.2.2.1.1, (x.2.2.2.2.2.1.2.1, ())), (x.2.2.2.2.2.2.1.set (Int.toNat (IntKind.i64.wrap (x.1.2.2.2.2.2.2.2.1 - 1))) (y23.1, y23.2.1, r21.1)), x.2.2.2.2.2.2.2.1, ()))
        else none
      else none
     else
      bif (x.1.2.2.2.2.2.2.2.1 == 0) then
       flow_Contract_l2 k m ((x.1.1, (), (), (), (), (), x.1.2.2.2.2.2.2.1, (IntKind.i64.wrap (x.1.2.2.2.2.2.2.2.1 + 1)), (), (), ()), (x.2.1, (x.2.2.1.1, (x.2.2.1.2.1, x.2.2.1.2.2)), (y18.1, r19.1), (x.2.2.2.2.1.1, (x.2.2.2.2.1.2.1, x.2.2.2.2.1.2.2)), (x.2.2.2.2.2.1.1, (r19.1, ())), x.2.2.2.2.2.2.1, x.2.2.2.2.2.2.2.1, ()))
      else
       if 0 ≤ (IntKind.i64.wrap (x.1.2.2.2.2.2.2.2.1 - 1)) then (x.2.2.2.2.2.2.1[Int.toNat (IntKind.i64.wrap (x.1.2.2.2.2.2.2.2.1 - 1))]?).bind fun _ =>
        (x.2.2.2.2.2.2.1[(Int.toNat (IntKind.i64.wrap (x.1.2.2.2.2.2.2.2.1 - 1)))]?).bind fun y25 =>
        flow_Contract_l2 k m ((x.1.1, (), (), (), (), (), x.1.2.2.2.2.2.2.1, (IntKind.i64.wrap (x.1.2.2.2.2.2.2.2.1 + 1)), (), (), ()), (x.2.1, (x.2.2.1.1, (x.2.2.1.2.1, x.2.2.1.2.2)), (y18.1, r19.1), (x.2.2.2.2.1.1, (x.2.2.2.2.1.2.1, x.2.2.2.2.1.2.2)), (x.2.2.2.2.2.1.1, (x.2.2.2.2.2.1.2.1, ())), (x.2.2.2.2.2.2.1.set (Int.toNat (IntKind.i64.wrap (x.1.2.2.2.2.2.2.2.1 - 1))) (y25.1, y25.2.1, r19.1)), x.2.2.2.2.2.2.2.1, ()))
       else none
    else none
   else
    bif (decide (x.1.2.2.2.2.2.2.2.1 < (x.2.2.2.2.2.2.2.1.2.2.length : Int))) then
     if 0 ≤ x.1.2.2.2.2.2.2.2.1 then (x.2.2.2.2.2.2.2.1.2.2[Int.toNat x.1.2.2.2.2.2.2.2.1]?).bind fun y26 =>
      (iv_Meet k [x.2.2.2.1.2, y26.2.1]).bind fun r27 =>
      bif (x.1.2.2.2.2.2.2.2.1 == 0) then
       flow_Contract_l2 k m ((x.1.1, (), (), (), (), (), x.1.2.2.2.2.2.2.1, (IntKind.i64.wrap (x.1.2.2.2.2.2.2.2.1 + 1)), (), (), ()), (x.2.1, (x.2.2.1.1, (x.2.2.1.2.1, x.2.2.1.2.2)), (x.2.2.2.1.1, r27.1), (x.2.2.2.2.1.1, (x.2.2.2.2.1.2.1, x.2.2.2.2.1.2.2)), (x.2.2.2.2.2.1.1, (r27.1, ())), x.2.2.2.2.2.2.1, x.2.2.2.2.2.2.2.1, ()))
      else
       if 0 ≤ (IntKind.i64.wrap (x.1.2.2.2.2.2.2.2.1 - 1)) then (x.2.2.2.2.2.2.1[Int.toNat (IntKind.i64.wrap (x.1.2.2.2.2.2.2.2.1 - 1))]?).bind fun _ =>
        (x.2.2.2.2.2.2.1[(Int.toNat (IntKind.i64.wrap (x.1.2.2.2.2.2.2.2.1 - 1)))]?).bind fun y29 =>
        flow_Contract_l2 k m ((x.1.1, (), (), (), (), (), x.1.2.2.2.2.2.2.1, (IntKind.i64.wrap (x.1.2.2.2.2.2.2.2.1 + 1)), (), (), ()), (x.2.1, (x.2.2.1.1, (x.2.2.1.2.1, x.2.2.1.2.2)), (x.2.2.2.1.1, r27.1), (x.2.2.2.2.1.1, (x.2.2.2.2.1.2.1, x.2.2.2.2.1.2.2)), (x.2.2.2.2.2.1.1, (x.2.2.2.2.2.1.2.1, ())), (x.2.2.2.2.2.2.1.set (Int.toNat (IntKind.i64.wrap (x.1.2.2.2.2.2.2.2.1 - 1))) (y29.1, y29.2.1, r27.1)), x.2.2.2.2.2.2.2.1, ()))
       else none
     else none
    else
     bif (x.1.2.2.2.2.2.2.2.1 == 0) then
      flow_Contract_l2 k m ((x.1.1, (), (), (), (), (), x.1.2.2.2.2.2.2.1, (IntKind.i64.wrap (x.1.2.2.2.2.2.2.2.1 + 1)), (), (), ()), (x.2.1, (x.2.2.1.1, (x.2.2.1.2.1, x.2.2.1.2.2)), (x.2.2.2.1.1, x.2.2.2.1.2), (x.2.2.2.2.1.1, (x.2.2.2.2.1.2.1, x.2.2.2.2.1.2.2)), (x.2.2.2.2.2.1.1, (x.2.2.2.1.2, ())), x.2.2.2.2.2.2.1, x.2.2.2.2.2.2.2.1, ()))
     else
      if 0 ≤ (IntKind.i64.wrap (x.1.2.2.2.2.2.2.2.1 - 1)) then (x.2.2.2.2.2.2.1[Int.toNat (IntKind.i64.wrap (x.1.2.2.2.2.2.2.2.1 - 1))]?).bind fun _ =>
       (x.2.2.2.2.2.2.1[(Int.toNat (IntKind.i64.wrap (x.1.2.2.2.2.2.2.2.1 - 1)))]?).bind fun y31 =>
       flow_Contract_l2 k m ((x.1.1, (), (), (), (), (), x.1.2.2.2.2.2.2.1, (IntKind.i64.wrap (x.1.2.2.2.2.2.2.2.1 + 1)), (), (), ()), (x.2.1, (x.2.2.1.1, (x.2.2.1.2.1, x.2.2.1.2.2)), (x.2.2.2.1.1, x.2.2.2.1.2), (x.2.2.2.2.1.1, (x.2.2.2.2.1.2.1, x.2.2.2.2.1.2.2)), (x.2.2.2.2.2.1.1, (x.2.2.2.2.2.1.2.1, ())), (x.2.2.2.2.2.2.1.set (Int.toNat (IntKind.i64.wrap (x.1.2.2.2.2.2.2.2.1 - 1))) (y31.1, y31.2.1, x.2.2.2.1.2)), x.2.2.2.2.2.2.2.1, ()))
      else none
  else
   some (Sum.inl ((x.1.1, (), (), (), (), ()), (x.2.1, (x.2.2.1.1, (x.2.2.1.2.1, x.2.2.1.2.2)), (x.2.2.2.2.1.1, (x.2.2.2.2.1.2.1, x.2.2.2.2.1.2.2)), (x.2.2.2.2.2.1.1, (x.2.2.2.2.2.1.2.1, ())), x.2.2.2.2.2.2.1, ())))
abbrev flow_Contract_l2_seg (k : Nat) : Seg := ⟨⟨8, 57, false, [515, 0], [⟨0, 515, 37, 21, [.b, .s2, .s1, .s2, .s2, .s2, .s2]⟩]⟩, 89, [.b, .s2, .s2], flow_Contract_l2_i, flow_Contract_l2_o, flow_Contract_l2 k k⟩
theorem flow_Contract_l2_seg.ok (k : Nat) : SegOK Tryz.prog (e111 k) (flow_Contract_l2_seg k) :=
 SegOK.loop (e111.ok k) (by kernel_rfl) (S := flow_Contract_l2_seg k) (c := atR (codeOf (e111 k) 89) [.l, .b, .s2, .s2]) (by kernel_rfl) (flow_Contract_l2 k) k rfl (fun _ => rfl) 8 (.two .n (.two .n (.two (.two (.two .n (.two .n (.two .n (.two (.call 3 9 .n .n) .n)))) .n) .n))) ⟨trivial, ⟨trivial, ⟨⟨⟨trivial, ⟨trivial, ⟨trivial, ⟨⟨trivial, trivial⟩, trivial⟩⟩⟩⟩, trivial⟩, trivial⟩⟩⟩ (fun k' x => by kernel_rfl)
abbrev flow_Contract_l3_i : Mask := ⟨[(0, 1, (.v T30)), (0, 2, (.k (.ptr 2 0 0))), (0, 4, (.k (.ptr 4 0 0))), (515, 2, (.k (.ptr 2109442 0 0))), (522, 1, (.k (.ptr 2138113 0 0))), (522, 2, (.k (.ptr 2138114 0 0))), (522, 3, (.k (.ptr 2138115 0 0))), (522, 14, (.v (.int .i64))), (522, 15, (.v (.int .i64)))], [(2, .cells (.v T28)), (4, .cells (.pr (.v T23) (.pr (.v T25) (.v T27)))), (2109442, .cells (.pr (.v T23) (.pr (.v T25) (.v T27)))), (2138113, .cells (.pr (.v T23) (.pr (.v T25) (.k (.arr 2138122 0))))), (2138114, .cells (.pr (.v T23) (.pr (.v T25) (.v T27)))), (2138115, .cells (.v T25)), (2138122, .arr 41 T40)], [], 1⟩
abbrev flow_Contract_l3_o : List Out := [⟨.exit 0, ⟨[(0, 1, (.v T30)), (0, 2, (.k (.ptr 2 0 0))), (0, 4, (.k (.ptr 4 0 0))), (515, 2, (.k (.ptr 2109442 0 0))), (522, 1, (.k (.ptr 2138113 0 0))), (522, 2, (.k (.ptr 2138114 0 0)))], [(2, .cells (.v T28)), (4, .cells (.pr (.v T23) (.pr (.v T25) (.v T27)))), (2109442, .cells (.pr (.v T23) (.pr (.v T25) (.v T27)))), (2138113, .cells (.pr (.v T23) (.pr (.v T25) (.k (.arr 2138122 0))))), (2138114, .cells (.pr (.v T23) (.pr (.v T25) (.v T27)))), (2138122, .arr 41 T40)], [], 1⟩⟩]
def flow_Contract_l3 (k : Nat) : Nat → Mask.den flow_Contract_l3_i → Option (denS flow_Contract_l3_o)
 | 0, _ => none
 | m + 1, x =>
  bif (decide (x.1.2.2.2.2.2.2.2.2.1 < x.1.2.2.2.2.2.2.2.1)) then
   if 0 ≤ x.1.2.2.2.2.2.2.2.2.1 then (x.2.2.2.2.2.2.2.1[Int.toNat x.1.2.2.2.2.2.2.2.2.1]?).bind fun _ =>
    (x.2.2.2.2.2.2.2.1[(Int.toNat x.1.2.2.2.2.2.2.2.2.1)]?).bind fun y37 =>
    if 0 ≤ x.1.2.2.2.2.2.2.2.2.1 then ((x.2.2.2.2.2.2.2.1.set (Int.toNat x.1.2.2.2.2.2.2.2.2.1) (y37.1, x.2.2.2.2.2.2.1, y37.2.2))[Int.toNat x.1.2.2.2.2.2.2.2.2.1]?).bind fun _ =>
     ((x.2.2.2.2.2.2.2.1.set (Int.toNat x.1.2.2.2.2.2.2.2.2.1) (y37.1, x.2.2.2.2.2.2.1, y37.2.2))[(Int.toNat x.1.2.2.2.2.2.2.2.2.1)]?).bind fun y39 =>
     flow_Contract_l3 k m ((x.1.1, (), (), (), (), (), (), x.1.2.2.2.2.2.2.2.1, (IntKind.i64.wrap (x.1.2.2.2.2.2.2.2.2.1 + 1)), ()), (x.2.1, (x.2.2.1.1, (x.2.2.1.2.1, x.2.2.1.2.2)), (x.2.2.2.1.1, (x.2.2.2.1.2.1, x.2.2.2.1.2.2)), (x.2.2.2.2.1.1, (x.2.2.2.2.1.2.1, ())), (x.2.2.2.2.2.1.1, (x.2.2.2.2.2.1.2.1, x.2.2.2.2.2.1.2.2)), x.2.2.2.2.2.2.1, ((x.2.2.2.2.2.2.2.1.set (Int.toNat x.1.2.2.2.2.2.2.2.2.1) (y37.1, x.2.2.2.2.2.2.1, y37.2.2)).set (Int.toNat x.1.2.2.2.2.2.2.2.2.1) (y39.1, y39.2.1, x.2.2.2.2.2.2.1)), ()))
    else none
   else none
  else
   some (Sum.inl ((x.1.1, (), (), (), (), (), ()), (x.2.1, (x.2.2.1.1, (x.2.2.1.2.1, x.2.2.1.2.2)), (x.2.2.2.1.1, (x.2.2.2.1.2.1, x.2.2.2.1.2.2)), (x.2.2.2.2.1.1, (x.2.2.2.2.1.2.1, ())), (x.2.2.2.2.2.1.1, (x.2.2.2.2.2.1.2.1, x.2.2.2.2.2.1.2.2)), x.2.2.2.2.2.2.2.1, ())))
abbrev flow_Contract_l3_seg (k : Nat) : Seg := ⟨⟨522, 32, false, [515, 0], []⟩, 59, [.b, .s2, .s1, .s2, .s2, .s2, .s2], flow_Contract_l3_i, flow_Contract_l3_o, flow_Contract_l3 k k⟩
theorem flow_Contract_l3_seg.ok (k : Nat) : SegOK Tryz.prog (e111 k) (flow_Contract_l3_seg k) :=
 SegOK.loop (e111.ok k) (by kernel_rfl) (S := flow_Contract_l3_seg k) (c := atR (codeOf (e111 k) 59) [.l, .b, .s2, .s1, .s2, .s2, .s2, .s2]) (by kernel_rfl) (flow_Contract_l3 k) k rfl (fun _ => rfl) 8 .n trivial (fun k' x => by kernel_rfl)
abbrev flow_Contract_l4_i : Mask := ⟨[(0, 1, (.v T30)), (0, 2, (.k (.ptr 2 0 0))), (0, 4, (.k (.ptr 4 0 0))), (5, 0, (.k (.yld 1))), (5, 1, (.k (.ptr 2113539 0 0))), (5, 2, (.k (.ptr 2113541 0 0))), (5, 3, (.k (.ptr 2113540 0 0))), (5, 13, (.v (.int .i64))), (5, 14, (.v (.int .i64)))], [(2, .cells (.pr (.v T23) (.pr (.v T25) (.k (.arr 27 0))))), (4, .cells (.pr (.v T23) (.pr (.v T25) (.v T27)))), (27, .arr 41 T40), (2113539, .cells (.k (.ptr 2 0 0))), (2113540, .cells (.v T30)), (2113541, .cells (.v .bool))], [], 2⟩
abbrev flow_Contract_l4_o : List Out := [⟨.exit 0, ⟨[(0, 1, (.v T30)), (0, 2, (.k (.ptr 2 0 0))), (0, 4, (.k (.ptr 4 0 0)))], [(2, .cells (.pr (.v T23) (.pr (.v T25) (.k (.arr 27 0))))), (4, .cells (.pr (.v T23) (.pr (.v T25) (.v T27)))), (27, .arr 41 T40)], [], 2⟩⟩]
def flow_Contract_l4 (k : Nat) : Nat → Mask.den flow_Contract_l4_i → Option (denS flow_Contract_l4_o)
 | 0, _ => none
 | m + 1, x =>
  bif (decide (x.1.2.2.2.2.2.2.2.2.1 < x.1.2.2.2.2.2.2.2.1)) then
   bif (!x.2.2.2.2.2.2.1) then
    (flow_Time k (x.2.1.1, x.2.1.2.1, x.2.2.2.1) (IntKind.i64.wrap ((IntKind.i64.wrap ((x.2.2.2.1.length : Int) - 1)) - x.1.2.2.2.2.2.2.2.2.1))).bind fun r41 =>
    if 0 ≤ (IntKind.i64.wrap ((IntKind.i64.wrap ((x.2.2.2.1.length : Int) - 1)) - x.1.2.2.2.2.2.2.2.2.1)) then (x.2.2.2.1[Int.toNat (IntKind.i64.wrap ((IntKind.i64.wrap ((x.2.2.2.1.length : Int) - 1)) - x.1.2.2.2.2.2.2.2.2.1))]?).bind fun _ =>
     if 0 ≤ (IntKind.i64.wrap ((IntKind.i64.wrap ((x.2.2.2.1.length : Int) - 1)) - x.1.2.2.2.2.2.2.2.2.1)) then (x.2.2.2.1[Int.toNat (IntKind.i64.wrap ((IntKind.i64.wrap ((x.2.2.2.1.length : Int) - 1)) - x.1.2.2.2.2.2.2.2.2.1))]?).bind fun _ =>
      if 0 ≤ (IntKind.i64.wrap ((IntKind.i64.wrap ((x.2.2.2.1.length : Int) - 1)) - x.1.2.2.2.2.2.2.2.2.1)) then (x.2.2.2.2.2.1[Int.toNat (IntKind.i64.wrap ((IntKind.i64.wrap ((x.2.2.2.1.length : Int) - 1)) - x.1.2.2.2.2.2.2.2.2.1))]?).bind fun y44 =>
       (ivop_Mul k y44 r41.1).bind fun r45 =>
       if 0 ≤ (IntKind.i64.wrap ((IntKind.i64.wrap ((x.2.2.2.1.length : Int) - 1)) - x.1.2.2.2.2.2.2.2.2.1)) then (x.2.2.2.2.2.1[Int.toNat (IntKind.i64.wrap ((IntKind.i64.wrap ((x.2.2.2.1.length : Int) - 1)) - x.1.2.2.2.2.2.2.2.2.1))]?).bind fun y46 =>
        (iv_Make k (0, false, 0, 0) r41.1.2.2).bind fun r47 =>
        (ivop_Mul k y46 r47.1).bind fun r48 =>
        bif (decide ((IntKind.i64.wrap ((IntKind.i64.wrap ((x.2.2.2.1.length : Int) - 1)) - x.1.2.2.2.2.2.2.2.2.1)) > 0)) then
         if 0 ≤ (IntKind.i64.wrap ((IntKind.i64.wrap ((IntKind.i64.wrap ((x.2.2.2.1.length : Int) - 1)) - x.1.2.2.2.2.2.2.2.2.1)) - 1)) then (x.2.2.2.1[Int.toNat (IntKind.i64.wrap ((IntKind.i64.wrap ((IntKind.i64.wrap ((x.2.2.2.1.length : Int) - 1)) - x.1.2.2.2.2.2.2.2.2.1)) - 1))]?).bind fun _ =>
          (x.2.2.2.1[(Int.toNat (IntKind.i64.wrap ((IntKind.i64.wrap ((x.2.2.2.1.length : Int) - 1)) - x.1.2.2.2.2.2.2.2.2.1)))]?).bind fun y50 =>
          (x.2.2.2.1[(Int.toNat (IntKind.i64.wrap ((IntKind.i64.wrap ((IntKind.i64.wrap ((x.2.2.2.1.length : Int) - 1)) - x.1.2.2.2.2.2.2.2.2.1)) - 1)))]?).bind fun y51 =>
          (ivop_Add k [y51.2.2, r45.1]).bind fun r52 =>
          (iv_Meet k [y50.2.2, r52.1]).bind fun r53 =>
          (x.2.2.2.1[(Int.toNat (IntKind.i64.wrap ((IntKind.i64.wrap ((x.2.2.2.1.length : Int) - 1)) - x.1.2.2.2.2.2.2.2.2.1)))]?).bind fun y54 =>
          ((x.2.2.2.1.set (Int.toNat (IntKind.i64.wrap ((IntKind.i64.wrap ((x.2.2.2.1.length : Int) - 1)) - x.1.2.2.2.2.2.2.2.2.1))) (y54.1, y54.2.1, r53.1))[(Int.toNat (IntKind.i64.wrap ((IntKind.i64.wrap ((x.2.2.2.1.length : Int) - 1)) - x.1.2.2.2.2.2.2.2.2.1)))]?).bind fun y55 =>
          ((x.2.2.2.1.set (Int.toNat (IntKind.i64.wrap ((IntKind.i64.wrap ((x.2.2.2.1.length : Int) - 1)) - x.1.2.2.2.2.2.2.2.2.1))) (y54.1, y54.2.1, r53.1))[(Int.toNat (IntKind.i64.wrap ((IntKind.i64.wrap ((IntKind.i64.wrap ((x.2.2.2.1.length : Int) - 1)) - x.1.2.2.2.2.2.2.2.2.1)) - 1)))]?).bind fun y56 =>
          (ivop_Add k [y56.2.2, r48.1]).bind fun r57 =>
          (iv_Meet k [y55.2.1, r57.1]).bind fun r58 =>
          ((x.2.2.2.1.set (Int.toNat (IntKind.i64.wrap ((IntKind.i64.wrap ((x.2.2.2.1.length : Int) - 1)) - x.1.2.2.2.2.2.2.2.2.1))) (y54.1, y54.2.1, r53.1))[(Int.toNat (IntKind.i64.wrap ((IntKind.i64.wrap ((x.2.2.2.1.length : Int) - 1)) - x.1.2.2.2.2.2.2.2.2.1)))]?).bind fun y59 =>
          flow_Contract_l4 k m ((x.1.1, (), (), (), (), (), (), x.1.2.2.2.2.2.2.2.1, (IntKind.i64.wrap (x.1.2.2.2.2.2.2.2.2.1 + 1)), ()), ((x.2.1.1, (x.2.1.2.1, ())), (x.2.2.1.1, (x.2.2.1.2.1, x.2.2.1.2.2)), ((x.2.2.2.1.set (Int.toNat (IntKind.i64.wrap ((IntKind.i64.wrap ((x.2.2.2.1.length : Int) - 1)) - x.1.2.2.2.2.2.2.2.2.1))) (y54.1, y54.2.1, r53.1)).set (Int.toNat (IntKind.i64.wrap ((IntKind.i64.wrap ((x.2.2.2.1.length : Int) - 1)) - x.1.2.2.2.2.2.2.2.2.1))) (y59.1, r58.1, y59.2.2)), (), x.2.2.2.2.2.1, x.2.2.2.2.2.2.1, ()))
         else none
        else
         (x.2.2.2.1[(Int.toNat (IntKind.i64.wrap ((IntKind.i64.wrap ((x.2.2.2.1.length : Int) - 1)) - x.1.2.2.2.2.2.2.2.2.1)))]?).bind fun y60 =>
         (ivop_Add k [x.2.1.2.1, r45.1]).bind fun r61 =>
         (iv_Meet k [y60.2.2, r61.1]).bind fun r62 =>
         (x.2.2.2.1[(Int.toNat (IntKind.i64.wrap ((IntKind.i64.wrap ((x.2.2.2.1.length : Int) - 1)) - x.1.2.2.2.2.2.2.2.2.1)))]?).bind fun y63 =>
         ((x.2.2.2.1.set (Int.toNat (IntKind.i64.wrap ((IntKind.i64.wrap ((x.2.2.2.1.length : Int) - 1)) - x.1.2.2.2.2.2.2.2.2.1))) (y63.1, y63.2.1, r62.1))[(Int.toNat (IntKind.i64.wrap ((IntKind.i64.wrap ((x.2.2.2.1.length : Int) - 1)) - x.1.2.2.2.2.2.2.2.2.1)))]?).bind fun y64 =>
         (ivop_Add k [x.2.1.2.1, r48.1]).bind fun r65 =>
         (iv_Meet k [y64.2.1, r65.1]).bind fun r66 =>
         ((x.2.2.2.1.set (Int.toNat (IntKind.i64.wrap ((IntKind.i64.wrap ((x.2.2.2.1.length : Int) - 1)) - x.1.2.2.2.2.2.2.2.2.1))) (y63.1, y63.2.1, r62.1))[(Int.toNat (IntKind.i64.wrap ((IntKind.i64.wrap ((x.2.2.2.1.length : Int) - 1)) - x.1.2.2.2.2.2.2.2.2.1)))]?).bind fun y67 =>
         flow_Contract_l4 k m ((x.1.1, (), (), (), (), (), (), x.1.2.2.2.2.2.2.2.1, (IntKind.i64.wrap (x.1.2.2.2.2.2.2.2.2.1 + 1)), ()), ((x.2.1.1, (x.2.1.2.1, ())), (x.2.2.1.1, (x.2.2.1.2.1, x.2.2.1.2.2)), ((x.2.2.2.1.set (Int.toNat (IntKind.i64.wrap ((IntKind.i64.wrap ((x.2.2.2.1.length : Int) - 1)) - x.1.2.2.2.2.2.2.2.2.1))) (y63.1, y63.2.1, r62.1)).set (Int.toNat (IntKind.i64.wrap ((IntKind.i64.wrap ((x.2.2.2.1.length : Int) - 1)) - x.1.2.2.2.2.2.2.2.2.1))) (y67.1, r66.1, y67.2.2)), (), x.2.2.2.2.2.1, x.2.2.2.2.2.2.1, ()))
       else none
      else none
     else none
    else none
   else
    (flow_Time k (x.2.1.1, x.2.1.2.1, x.2.2.2.1) x.1.2.2.2.2.2.2.2.2.1).bind fun r68 =>
    if 0 ≤ x.1.2.2.2.2.2.2.2.2.1 then (x.2.2.2.1[Int.toNat x.1.2.2.2.2.2.2.2.2.1]?).bind fun _ =>
     if 0 ≤ x.1.2.2.2.2.2.2.2.2.1 then (x.2.2.2.1[Int.toNat x.1.2.2.2.2.2.2.2.2.1]?).bind fun _ =>
      if 0 ≤ x.1.2.2.2.2.2.2.2.2.1 then (x.2.2.2.2.2.1[Int.toNat x.1.2.2.2.2.2.2.2.2.1]?).bind fun y71 =>
       (ivop_Mul k y71 r68.1).bind fun r72 =>
       if 0 ≤ x.1.2.2.2.2.2.2.2.2.1 then (x.2.2.2.2.2.1[Int.toNat x.1.2.2.2.2.2.2.2.2.1]?).bind fun y73 =>
        (iv_Make k (0, false, 0, 0) r68.1.2.2).bind fun r74 =>
        (ivop_Mul k y73 r74.1).bind fun r75 =>
        bif (decide (x.1.2.2.2.2.2.2.2.2.1 > 0)) then
         if 0 ≤ (IntKind.i64.wrap (x.1.2.2.2.2.2.2.2.2.1 - 1)) then (x.2.2.2.1[Int.toNat (IntKind.i64.wrap (x.1.2.2.2.2.2.2.2.2.1 - 1))]?).bind fun _ =>
          (x.2.2.2.1[(Int.toNat x.1.2.2.2.2.2.2.2.2.1)]?).bind fun y77 =>
          (x.2.2.2.1[(Int.toNat (IntKind.i64.wrap (x.1.2.2.2.2.2.2.2.2.1 - 1)))]?).bind fun y78 =>
          (ivop_Add k [y78.2.2, r72.1]).bind fun r79 =>
          (iv_Meet k [y77.2.2, r79.1]).bind fun r80 =>
          (x.2.2.2.1[(Int.toNat x.1.2.2.2.2.2.2.2.2.1)]?).bind fun y81 =>
          ((x.2.2.2.1.set (Int.toNat x.1.2.2.2.2.2.2.2.2.1) (y81.1, y81.2.1, r80.1))[(Int.toNat x.1.2.2.2.2.2.2.2.2.1)]?).bind fun y82 =>
          ((x.2.2.2.1.set (Int.toNat x.1.2.2.2.2.2.2.2.2.1) (y81.1, y81.2.1, r80.1))[(Int.toNat (IntKind.i64.wrap (x.1.2.2.2.2.2.2.2.2.1 - 1)))]?).bind fun y83 =>
          (ivop_Add k [y83.2.2, r75.1]).bind fun r84 =>
          (iv_Meet k [y82.2.1, r84.1]).bind fun r85 =>
          ((x.2.2.2.1.set (Int.toNat x.1.2.2.2.2.2.2.2.2.1) (y81.1, y81.2.1, r80.1))[(Int.toNat x.1.2.2.2.2.2.2.2.2.1)]?).bind fun y86 =>
          flow_Contract_l4 k m ((x.1.1, (), (), (), (), (), (), x.1.2.2.2.2.2.2.2.1, (IntKind.i64.wrap (x.1.2.2.2.2.2.2.2.2.1 + 1)), ()), ((x.2.1.1, (x.2.1.2.1, ())), (x.2.2.1.1, (x.2.2.1.2.1, x.2.2.1.2.2)), ((x.2.2.2.1.set (Int.toNat x.1.2.2.2.2.2.2.2.2.1) (y81.1, y81.2.1, r80.1)).set (Int.toNat x.1.2.2.2.2.2.2.2.2.1) (y86.1, r85.1, y86.2.2)), (), x.2.2.2.2.2.1, x.2.2.2.2.2.2.1, ()))
         else none
        else
         (x.2.2.2.1[(Int.toNat x.1.2.2.2.2.2.2.2.2.1)]?).bind fun y87 =>
         (ivop_Add k [x.2.1.2.1, r72.1]).bind fun r88 =>
         (iv_Meet k [y87.2.2, r88.1]).bind fun r89 =>
         (x.2.2.2.1[(Int.toNat x.1.2.2.2.2.2.2.2.2.1)]?).bind fun y90 =>
         ((x.2.2.2.1.set (Int.toNat x.1.2.2.2.2.2.2.2.2.1) (y90.1, y90.2.1, r89.1))[(Int.toNat x.1.2.2.2.2.2.2.2.2.1)]?).bind fun y91 =>
         (ivop_Add k [x.2.1.2.1, r75.1]).bind fun r92 =>
         (iv_Meet k [y91.2.1, r92.1]).bind fun r93 =>
         ((x.2.2.2.1.set (Int.toNat x.1.2.2.2.2.2.2.2.2.1) (y90.1, y90.2.1, r89.1))[(Int.toNat x.1.2.2.2.2.2.2.2.2.1)]?).bind fun y94 =>
         flow_Contract_l4 k m ((x.1.1, (), (), (), (), (), (), x.1.2.2.2.2.2.2.2.1, (IntKind.i64.wrap (x.1.2.2.2.2.2.2.2.2.1 + 1)), ()), ((x.2.1.1, (x.2.1.2.1, ())), (x.2.2.1.1, (x.2.2.1.2.1, x.2.2.1.2.2)), ((x.2.2.2.1.set (Int.toNat x.1.2.2.2.2.2.2.2.2.1) (y90.1, y90.2.1, r89.1)).set (Int.toNat x.1.2.2.2.2.2.2.2.2.1) (y94.1, r93.1, y94.2.2)), (), x.2.2.2.2.2.1, x.2.2.2.2.2.2.1, ()))
       else none
      else none
     else none
    else none
  else
   some (Sum.inl ((x.1.1, (), (), ()), ((x.2.1.1, (x.2.1.2.1, ())), (x.2.2.1.1, (x.2.2.1.2.1, x.2.2.1.2.2)), x.2.2.2.1, ())))
abbrev flow_Contract_l4_seg (k : Nat) : Seg := ⟨⟨5, 82, false, [0], [⟨1, 0, 102, 7, [.b, .s2, .s1, .s2, .s2, .s2, .s2]⟩]⟩, 60, [.b, .s2], flow_Contract_l4_i, flow_Contract_l4_o, flow_Contract_l4 k k⟩
theorem flow_Contract_l4_seg.ok (k : Nat) : SegOK Tryz.prog (e111 k) (flow_Contract_l4_seg k) :=
 SegOK.loop (e111.ok k) (by kernel_rfl) (S := flow_Contract_l4_seg k) (c := atR (codeOf (e111 k) 60) [.l, .b, .s2]) (by kernel_rfl) (flow_Contract_l4 k) k rfl (fun _ => rfl) 8 (.two .n (.two .n (.two (.two (.two .n (.two .n (.two .n (.two .n (.two .n (.two .n (.two (.call 2 11 .n .n) .n))))))) .n) .n))) ⟨trivial, ⟨trivial, ⟨⟨⟨trivial, ⟨trivial, ⟨trivial, ⟨trivial, ⟨trivial, ⟨trivial, ⟨⟨trivial, trivial⟩, trivial⟩⟩⟩⟩⟩⟩⟩, trivial⟩, trivial⟩⟩⟩ (fun k' x => by kernel_rfl)
abbrev flow_Contract_l5_i : Mask := ⟨[(0, 2, (.k (.ptr 2 0 0))), (0, 4, (.k (.ptr 4 0 0))), (13, 0, (.k (.yld 2))), (13, 1, (.k (.ptr 2146307 0 0))), (13, 2, (.k (.ptr 2146309 0 0))), (13, 3, (.k (.ptr 2146308 0 0))), (13, 13, (.v (.int .i64))), (13, 14, (.v (.int .i64)))], [(2, .cells (.pr (.v T23) (.pr (.v T25) (.k (.arr 27 0))))), (4, .cells (.pr (.v T23) (.pr (.v T25) (.v T27)))), (27, .arr 41 T40), (2146307, .cells (.k (.ptr 2 0 0))), (2146308, .cells (.v T30)), (2146309, .cells (.v .bool))], [], 3⟩
abbrev flow_Contract_l5_o : List Out := [⟨.exit 0, ⟨[(0, 2, (.k (.ptr 2 0 0))), (0, 4, (.k (.ptr 4 0 0)))], [(2, .cells (.pr (.v T23) (.pr (.v T25) (.k (.arr 27 0))))), (4, .cells (.pr (.v T23) (.pr (.v T25) (.v T27)))), (27, .arr 41 T40)], [], 3⟩⟩]
def flow_Contract_l5 (k : Nat) : Nat → Mask.den flow_Contract_l5_i → Option (denS flow_Contract_l5_o)
 | 0, _ => none
 | m + 1, x =>
  bif (decide (x.1.2.2.2.2.2.2.2.1 < x.1.2.2.2.2.2.2.1)) then
   bif (!x.2.2.2.2.2.2.1) then
    (flow_Time k (x.2.1.1, x.2.1.2.1, x.2.2.2.1) (IntKind.i64.wrap ((IntKind.i64.wrap ((x.2.2.2.1.length : Int) - 1)) - x.1.2.2.2.2.2.2.2.1))).bind fun r99 =>
    if 0 ≤ (IntKind.i64.wrap ((IntKind.i64.wrap ((x.2.2.2.1.length : Int) - 1)) - x.1.2.2.2.2.2.2.2.1)) then (x.2.2.2.1[Int.toNat (IntKind.i64.wrap ((IntKind.i64.wrap ((x.2.2.2.1.length : Int) - 1)) - x.1.2.2.2.2.2.2.2.1))]?).bind fun _ =>
     if 0 ≤ (IntKind.i64.wrap ((IntKind.i64.wrap ((x.2.2.2.1.length : Int) - 1)) - x.1.2.2.2.2.2.2.2.1)) then (x.2.2.2.1[Int.toNat (IntKind.i64.wrap ((IntKind.i64.wrap ((x.2.2.2.1.length : Int) - 1)) - x.1.2.2.2.2.2.2.2.1))]?).bind fun _ =>
      if 0 ≤ (IntKind.i64.wrap ((IntKind.i64.wrap ((x.2.2.2.1.length : Int) - 1)) - x.1.2.2.2.2.2.2.2.1)) then (x.2.2.2.2.2.1[Int.toNat (IntKind.i64.wrap ((IntKind.i64.wrap ((x.2.2.2.1.length : Int) - 1)) - x.1.2.2.2.2.2.2.2.1))]?).bind fun y102 =>
       (ivop_Mul k y102 r99.1).bind fun r103 =>
       if 0 ≤ (IntKind.i64.wrap ((IntKind.i64.wrap ((x.2.2.2.1.length : Int) - 1)) - x.1.2.2.2.2.2.2.2.1)) then (x.2.2.2.2.2.1[Int.toNat (IntKind.i64.wrap ((IntKind.i64.wrap ((x.2.2.2.1.length : Int) - 1)) - x.1.2.2.2.2.2.2.2.1))]?).bind fun y104 =>
        (iv_Make k (0, false, 0, 0) r99.1.2.2).bind fun r105 =>
        (ivop_Mul k y104 r105.1).bind fun r106 =>
        bif (decide ((IntKind.i64.wrap ((IntKind.i64.wrap ((x.2.2.2.1.length : Int) - 1)) - x.1.2.2.2.2.2.2.2.1)) > 0)) then
         if 0 ≤ (IntKind.i64.wrap ((IntKind.i64.wrap ((IntKind.i64.wrap ((x.2.2.2.1.length : Int) - 1)) - x.1.2.2.2.2.2.2.2.1)) - 1)) then (x.2.2.2.1[Int.toNat (IntKind.i64.wrap ((IntKind.i64.wrap ((IntKind.i64.wrap ((x.2.2.2.1.length : Int) - 1)) - x.1.2.2.2.2.2.2.2.1)) - 1))]?).bind fun _ =>
          (x.2.2.2.1[(Int.toNat (IntKind.i64.wrap ((IntKind.i64.wrap ((IntKind.i64.wrap ((x.2.2.2.1.length : Int) - 1)) - x.1.2.2.2.2.2.2.2.1)) - 1)))]?).bind fun y108 =>
          (x.2.2.2.1[(Int.toNat (IntKind.i64.wrap ((IntKind.i64.wrap ((x.2.2.2.1.length : Int) - 1)) - x.1.2.2.2.2.2.2.2.1)))]?).bind fun y109 =>
          (ivop_Sub k y109.2.2 r103.1).bind fun r110 =>
          (iv_Meet k [y108.2.2, r110.1]).bind fun r111 =>
          (x.2.2.2.1[(Int.toNat (IntKind.i64.wrap ((IntKind.i64.wrap ((IntKind.i64.wrap ((x.2.2.2.1.length : Int) - 1)) - x.1.2.2.2.2.2.2.2.1)) - 1)))]?).bind fun y112 =>
          ((x.2.2.2.1.set (Int.toNat (IntKind.i64.wrap ((IntKind.i64.wrap ((IntKind.i64.wrap ((x.2.2.2.1.length : Int) - 1)) - x.1.2.2.2.2.2.2.2.1)) - 1))) (y112.1, y112.2.1, r111.1))[(Int.toNat (IntKind.i64.wrap ((IntKind.i64.wrap ((x.2.2.2.1.length : Int) - 1)) - x.1.2.2.2.2.2.2.2.1)))]?).bind fun y113 =>
          ((x.2.2.2.1.set (Int.toNat (IntKind.i64.wrap ((IntKind.i64.wrap ((IntKind.i64.wrap ((x.2.2.2.1.length : Int) - 1)) - x.1.2.2.2.2.2.2.2.1)) - 1))) (y112.1, y112.2.1, r111.1))[(Int.toNat (IntKind.i64.wrap ((IntKind.i64.wrap ((x.2.2.2.1.length : Int) - 1)) - x.1.2.2.2.2.2.2.2.1)))]?).bind fun y114 =>
          (ivop_Sub k y114.2.2 r106.1).bind fun r115 =>
          (iv_Meet k [y113.2.1, r115.1]).bind fun r116 =>
          ((x.2.2.2.1.set (Int.toNat (IntKind.i64.wrap ((IntKind.i64.wrap ((IntKind.i64.wrap ((x.2.2.2.1.length : Int) - 1)) - x.1.2.2.2.2.2.2.2.1)) - 1))) (y112.1, y112.2.1, r111.1))[(Int.toNat (IntKind.i64.wrap ((IntKind.i64.wrap ((x.2.2.2.1.length : Int) - 1)) - x.1.2.2.2.2.2.2.2.1)))]?).bind fun y117 =>
          flow_Contract_l5 k m (((), (), (), (), (), (), x.1.2.2.2.2.2.2.1, (IntKind.i64.wrap (x.1.2.2.2.2.2.2.2.1 + 1)), ()), ((x.2.1.1, (x.2.1.2.1, ())), (x.2.2.1.1, (x.2.2.1.2.1, x.2.2.1.2.2)), ((x.2.2.2.1.set (Int.toNat (IntKind.i64.wrap ((IntKind.i64.wrap ((IntKind.i64.wrap ((x.2.2.2.1.length : Int) - 1)) - x.1.2.2.2.2.2.2.2.1)) - 1))) (y112.1, y112.2.1, r111.1)).set (Int.toNat (IntKind.i64.wrap ((IntKind.i64.wrap ((x.2.2.2.1.length : Int) - 1)) - x.1.2.2.2.2.2.2.2.1))) (y117.1, r116.1, y117.2.2)), (), x.2.2.2.2.2.1, x.2.2.2.2.2.2.1, ()))
         else none
        else
         (x.2.2.2.1[(Int.toNat (IntKind.i64.wrap ((IntKind.i64.wrap ((x.2.2.2.1.length : Int) - 1)) - x.1.2.2.2.2.2.2.2.1)))]?).bind fun y118 =>
         (ivop_Sub k y118.2.2 r103.1).bind fun r119 =>
         (iv_Meet k [x.2.1.2.1, r119.1]).bind fun r120 =>
         (x.2.2.2.1[(Int.toNat (IntKind.i64.wrap ((IntKind.i64.wrap ((x.2.2.2.1.length : Int) - 1)) - x.1.2.2.2.2.2.2.2.1)))]?).bind fun y121 =>
         (x.2.2.2.1[(Int.toNat (IntKind.i64.wrap ((IntKind.i64.wrap ((x.2.2.2.1.length : Int) - 1)) - x.1.2.2.2.2.2.2.2.1)))]?).bind fun y122 =>
         (ivop_Sub k y122.2.2 r106.1).bind fun r123 =>
         (iv_Meet k [y121.2.1, r123.1]).bind fun r124 =>
         (x.2.2.2.1[(Int.toNat (IntKind.i64.wrap ((IntKind.i64.wrap ((x.2.2.2.1.length : Int) - 1)) - x.1.2.2.2.2.2.2.2.1)))]?).bind fun y125 =>
         flow_Contract_l5 k m (((), (), (), (), (), (), x.1.2.2.2.2.2.2.1, (IntKind.i64.wrap (x.1.2.2.2.2.2.2.2.1 + 1)), ()), ((x.2.1.1, (r120.1, ())), (x.2.2.1.1, (x.2.2.1.2.1, x.2.2.1.2.2)), (x.2.2.2.1.set (Int.toNat (IntKind.i64.wrap ((IntKind.i64.wrap ((x.2.2.2.1.length : Int) - 1)) - x.1.2.2.2.2.2.2.2.1))) (y125.1, r124.1, y125.2.2)), (), x.2.2.2.2.2.1, x.2.2.2.2.2.2.1, ()))
       else none
      else none
     else none
    else none
   else
    (flow_Time k (x.2.1.1, x.2.1.2.1, x.2.2.2.1) x.1.2.2.2.2.2.2.2.1).bind fun r126 =>
    if 0 ≤ x.1.2.2.2.2.2.2.2.1 then (x.2.2.2.1[Int.toNat x.1.2.2.2.2.2.2.2.1]?).bind fun _ =>
     if 0 ≤ x.1.2.2.2.2.2.2.2.1 then (x.2.2.2.1[Int.toNat x.1.2.2.2.2.2.2.2.1]?).bind fun _ =>
      if 0 ≤ x.1.2.2.2.2.2.2.2.1 then (x.2.2.2.2.2.1[Int.toNat x.1.2.2.2.2.2.2.2.1]?).bind fun y129 =>
       (ivop_Mul k y129 r126.1).bind fun r130 =>
       if 0 ≤ x.1.2.2.2.2.2.2.2.1 then (x.2.2.2.2.2.1[Int.toNat x.1.2.2.2.2.2.2.2.1]?).bind fun y131 =>
        (iv_Make k (0, false, 0, 0) r126.1.2.2).bind fun r132 =>
        (ivop_Mul k y131 r132.1).bind fun r133 =>
        bif (decide (x.1.2.2.2.2.2.2.2.1 > 0)) then
         if 0 ≤ (IntKind.i64.wrap (x.1.2.2.2.2.2.2.2.1 - 1)) then (x.2.2.2.1[Int.toNat (IntKind.i64.wrap (x.1.2.2.2.2.2.2.2.1 - 1))]?).bind fun _ =>
          (x.2.2.2.1[(Int.toNat (IntKind.i64.wrap (x.1.2.2.2.2.2.2.2.1 - 1)))]?).bind fun y135 =>
          (x.2.2.2.1[(Int.toNat x.1.2.2.2.2.2.2.2.1)]?).bind fun y136 =>
          (ivop_Sub k y136.2.2 r130.1).bind fun r137 =>
          (iv_Meet k [y135.2.2, r137.1]).bind fun r138 =>
          (x.2.2.2.1[(Int.toNat (IntKind.i64.wrap (x.1.2.2.2.2.2.2.2.1 - 1)))]?).bind fun y139 =>
          ((x.2.2.2.1.set (Int.toNat (IntKind.i64.wrap (x.1.2.2.2.2.2.2.2.1 - 1))) (y139.1, y139.2.1, r138.1))[(Int.toNat x.1.2.2.2.2.2.2.2.1)]?).bind fun y140 =>
          ((x.2.2.2.1.set (Int.toNat (IntKind.i64.wrap (x.1.2.2.2.2.2.2.2.1 - 1))) (y139.1, y139.2.1, r138.1))[(Int.toNat x.1.2.2.2.2.2.2.2.1)]?).bind fun y141 =>
          (ivop_Sub k y141.2.2 r133.1).bind fun r142 =>
          (iv_Meet k [y140.2.1, r142.1]).bind fun r143 =>
          ((x.2.2.2.1.set (Int.toNat (IntKind.i64.wrap (x.1.2.2.2.2.2.2.2.1 - 1))) (y139.1, y139.2.1, r138.1))[(Int.toNat x.1.2.2.2.2.2.2.2.1)]?).bind fun y144 =>
          flow_Contract_l5 k m (((), (), (), (), (), (), x.1.2.2.2.2.2.2.1, (IntKind.i64.wrap (x.1.2.2.2.2.2.2.2.1 + 1)), ()), ((x.2.1.1, (x.2.1.2.1, ())), (x.2.2.1.1, (x.2.2.1.2.1, x.2.2.1.2.2)), ((x.2.2.2.1.set (Int.toNat (IntKind.i64.wrap (x.1.2.2.2.2.2.2.2.1 - 1))) (y139.1, y139.2.1, r138.1)).set (Int.toNat x.1.2.2.2.2.2.2.2.1) (y144.1, r143.1, y144.2.2)), (), x.2.2.2.2.2.1, x.2.2.2.2.2.2.1, ()))
         else none
        else
         (x.2.2.2.1[(Int.toNat x.1.2.2.2.2.2.2.2.1)]?).bind fun y145 =>
         (ivop_Sub k y145.2.2 r130.1).bind fun r146 =>
         (iv_Meet k [x.2.1.2.1, r146.1]).bind fun r147 =>
         (x.2.2.2.1[(Int.toNat x.1.2.2.2.2.2.2.2.1)]?).bind fun y148 =>
         (x.2.2.2.1[(Int.toNat x.1.2.2.2.2.2.2.2.1)]?).bind fun y149 =>
         (ivop_Sub k y149.2.2 r133.1).bind fun r150 =>
         (iv_Meet k [y148.2.1, r150.1]).bind fun r151 =>
         (x.2.2.2.1[(Int.toNat x.1.2.2.2.2.2.2.2.1)]?).bind fun y152 =>
         flow_Contract_l5 k m (((), (), (), (), (), (), x.1.2.2.2.2.2.2.1, (IntKind.i64.wrap (x.1.2.2.2.2.2.2.2.1 + 1)), ()), ((x.2.1.1, (r147.1, ())), (x.2.2.1.1, (x.2.2.1.2.1, x.2.2.1.2.2)), (x.2.2.2.1.set (Int.toNat x.1.2.2.2.2.2.2.2.1) (y152.1, r151.1, y152.2.2)), (), x.2.2.2.2.2.1, x.2.2.2.2.2.2.1, ()))
       else none
      else none
     else none
    else none
  else
   some (Sum.inl (((), (), ()), ((x.2.1.1, (x.2.1.2.1, ())), (x.2.2.1.1, (x.2.2.1.2.1, x.2.2.1.2.2)), x.2.2.2.1, ())))
abbrev flow_Contract_l5_seg (k : Nat) : Seg := ⟨⟨13, 82, false, [0], [⟨2, 0, 102, 7, [.b, .s2, .s1, .s2, .s2, .s2, .s2, .s2]⟩]⟩, 60, [.b, .s2], flow_Contract_l5_i, flow_Contract_l5_o, flow_Contract_l5 k k⟩
theorem flow_Contract_l5_seg.ok (k : Nat) : SegOK Tryz.prog (e111 k) (flow_Contract_l5_seg k) :=
 SegOK.loop (e111.ok k) (by kernel_rfl) (S := flow_Contract_l5_seg k) (c := atR (codeOf (e111 k) 60) [.l, .b, .s2]) (by kernel_rfl) (flow_Contract_l5 k) k rfl (fun _ => rfl) 8 (.two .n (.two .n (.two (.two (.two .n (.two .n (.two .n (.two .n (.two .n (.two .n (.two (.call 2 14 .n .n) .n))))))) .n) .n))) ⟨trivial, ⟨trivial, ⟨⟨⟨trivial, ⟨trivial, ⟨trivial, ⟨trivial, ⟨trivial, ⟨trivial, ⟨⟨trivial, trivial⟩, trivial⟩⟩⟩⟩⟩⟩⟩, trivial⟩, trivial⟩⟩⟩ (fun k' x => by kernel_rfl)
def flow_Contract (k : Nat) (x0 : Ty.den T28) (x1 : Ty.den T30) : Option (HL [T28, (.int .i64)]) :=
 (tube_May k x0).bind fun r1 =>
 bif (!r1.1) then
  some (((0, false, 0, 0), (false, (0, false, 0, 0), 0, false, 0, 0), []), 1, ())
 else
  bif ((x1.length : Int) != (x0.2.2.length : Int)) then
   some (((0, false, 0, 0), (false, (0, false, 0, 0), 0, false, 0, 0), []), 1, ())
  else
   (flow_Contract_l0 k k ((x1, (), (), false, x1, (), (x1.length : Int), 0, ()), (x0, ((0, false, 0, 0), ((false, (0, false, 0, 0), 0, false, 0, 0), [])), ()))).bind fun q4 =>
   Sum.elim (fun z5 =>
     bif z5.1.2.2.2.1 then
      some (((0, false, 0, 0), (false, (0, false, 0, 0), 0, false, 0, 0), []), 1, ())
     else
      bif (decide (z5.1.2.2.2.2.1 ≥ 0)) then
       some (((0, false, 0, 0), (false, (0, false, 0, 0), 0, false, 0, 0), []), 1, ())
      else
       (tube_May k z5.2.1).bind fun r6 =>
       bif (!r6.1) then
        none
       else
        if z5.2.1.2.2.length * 176 ≤ 140737488355328 then
         (flow_Contract_l2 k k ((z5.1.1, (), (), (), (), (), (IntKind.i64.wrap ((z5.2.1.2.2.length : Int) + 1)), 0, (), (), ()), (z5.2.1, (z5.2.2.1.1, (z5.2.2.1.2.1, z5.2.2.1.2.2)), (z5.2.1.1, z5.2.1.2.1), ((0, false, 0, 0), ((false, (0, false, 0, 0), 0, false, 0, 0), [])), (z5.2.1.1, (z5.2.1.2.1, ())), z5.2.1.2.2, z5.2.1, ()))).bind fun q32 =>
         Sum.elim (fun z33 =>
           (tube_Empty k (z33.2.2.2.2.1.1, z33.2.2.2.2.1.2.1, z33.2.2.2.2.2.1)).bind fun r34 =>
           bif r34.1 then
            (iv_None k).bind fun r35 =>
            if z33.2.2.2.2.2.1.length * 176 ≤ 140737488355328 then
             (flow_Contract_l3 k k ((z33.1.1, (), (), (), (), (), (), (z33.2.2.2.2.2.1.length : Int), 0, ()), (z33.2.1, (z33.2.2.1.1, (z33.2.2.1.2.1, z33.2.2.1.2.2)), (z33.2.2.2.1.1, (z33.2.2.2.1.2.1, z33.2.2.2.1.2.2)), (z33.2.2.2.2.1.1, (r35.1, ())), ((0, false, 0, 0), ((false, (0, false, 0, 0), 0, false, 0, 0), [])), r35.1, z33.2.2.2.2.2.1, ()))).bind fun q40 =>
             Sum.elim (fun z96 =>
               (flow_Contract_l4 k k ((z96.1.1, (), (), (), (), (), (), (z96.2.2.2.2.2.2.1.length : Int), 0, ()), ((z96.2.2.2.2.1.1, (z96.2.2.2.2.1.2.1, ())), (z96.2.2.1.1, (z96.2.2.1.2.1, z96.2.2.1.2.2)), z96.2.2.2.2.2.2.1, (), z96.1.1, true, ()))).bind fun q97 =>
               Sum.elim (fun z98 =>
                 (flow_Contract_l5 k k (((), (), (), (), (), (), (z98.2.2.2.1.length : Int), 0, ()), ((z98.2.1.1, (z98.2.1.2.1, ())), (z98.2.2.1.1, (z98.2.2.1.2.1, z98.2.2.1.2.2)), z98.2.2.2.1, (), z98.1.1, false, ()))).bind fun q153 =>
                 Sum.elim (fun z154 =>
                   (tube_Fit k (z154.2.1.1, z154.2.1.2.1, z154.2.2.2.1)).bind fun r155 =>
                   some (r155.1, 0, ()))
                  (fun q153' =>
                   none) q153)
                (fun q97' =>
                 none) q97)
              (fun q40' =>
               none) q40
            else none
           else
            (flow_Contract_l4 k k ((z33.1.1, (), (), (), (), (), (), (z33.2.2.2.2.2.1.length : Int), 0, ()), ((z33.2.2.2.2.1.1, (z33.2.2.2.2.1.2.1, ())), (z33.2.2.1.1, (z33.2.2.1.2.1, z33.2.2.1.2.2)), z33.2.2.2.2.2.1, (), z33.1.1, true, ()))).bind fun q95 =>
            Sum.elim (fun z156 =>
              (flow_Contract_l5 k k (((), (), (), (), (), (), (z156.2.2.2.1.length : Int), 0, ()), ((z156.2.1.1, (z156.2.1.2.1, ())), (z156.2.2.1.1, (z156.2.2.1.2.1, z156.2.2.1.2.2)), z156.2.2.2.1, (), z156.1.1, false, ()))).bind fun q157 =>
              Sum.elim (fun z158 =>
                (tube_Fit k (z158.2.1.1, z158.2.1.2.1, z158.2.2.2.1)).bind fun r159 =>
                some (r159.1, 0, ()))
               (fun q157' =>
                none) q157)
             (fun q95' =>
              none) q95)
          (fun q32' =>
           none) q32
        else none)
    (fun q4' =>
     Sum.elim (fun z160 =>
       bif z160.1.2.2.2.1 then
        some (((0, false, 0, 0), (false, (0, false, 0, 0), 0, false, 0, 0), []), 1, ())
       else
        (tube_May k z160.2.1).bind fun r161 =>
        bif (!r161.1) then
         none
        else
         if z160.2.1.2.2.length * 176 ≤ 140737488355328 then
          (flow_Contract_l2 k k ((z160.1.1, (), (), (), (), (), (IntKind.i64.wrap ((z160.2.1.2.2.length : Int) + 1)), 0, (), (), ()), (z160.2.1, (z160.2.2.1.1, (z160.2.2.1.2.1, z160.2.2.1.2.2)), (z160.2.1.1, z160.2.1.2.1), ((0, false, 0, 0), ((false, (0, false, 0, 0), 0, false, 0, 0), [])), (z160.2.1.1, (z160.2.1.2.1, ())), z160.2.1.2.2, z160.2.1, ()))).bind fun q163 =>
          Sum.elim (fun z164 =>
            (tube_Empty k (z164.2.2.2.2.1.1, z164.2.2.2.2.1.2.1, z164.2.2.2.2.2.1)).bind fun r165 =>
            bif r165.1 then
             (iv_None k).bind fun r166 =>
             if z164.2.2.2.2.2.1.length * 176 ≤ 140737488355328 then
              (flow_Contract_l3 k k ((z164.1.1, (), (), (), (), (), (), (z164.2.2.2.2.2.1.length : Int), 0, ()), (z164.2.1, (z164.2.2.1.1, (z164.2.2.1.2.1, z164.2.2.1.2.2)), (z164.2.2.2.1.1, (z164.2.2.2.1.2.1, z164.2.2.2.1.2.2)), (z164.2.2.2.2.1.1, (r166.1, ())), ((0, false, 0, 0), ((false, (0, false, 0, 0), 0, false, 0, 0), [])), r166.1, z164.2.2.2.2.2.1, ()))).bind fun q167 =>
              Sum.elim (fun z169 =>
                (flow_Contract_l4 k k ((z169.1.1, (), (), (), (), (), (), (z169.2.2.2.2.2.2.1.length : Int), 0, ()), ((z169.2.2.2.2.1.1, (z169.2.2.2.2.1.2.1, ())), (z169.2.2.1.1, (z169.2.2.1.2.1, z169.2.2.1.2.2)), z169.2.2.2.2.2.2.1, (), z169.1.1, true, ()))).bind fun q170 =>
                Sum.elim (fun z171 =>
                  (flow_Contract_l5 k k (((), (), (), (), (), (), (z171.2.2.2.1.length : Int), 0, ()), ((z171.2.1.1, (z171.2.1.2.1, ())), (z171.2.2.1.1, (z171.2.2.1.2.1, z171.2.2.1.2.2)), z171.2.2.2.1, (), z171.1.1, false, ()))).bind fun q172 =>
                  Sum.elim (fun z173 =>
                    (tube_Fit k (z173.2.1.1, z173.2.1.2.1, z173.2.2.2.1)).bind fun r174 =>
                    some (r174.1, 0, ()))
                   (fun q172' =>
                    none) q172)
                 (fun q170' =>
                  none) q170)
               (fun q167' =>
                none) q167
             else none
            else
             (flow_Contract_l4 k k ((z164.1.1, (), (), (), (), (), (), (z164.2.2.2.2.2.1.length : Int), 0, ()), ((z164.2.2.2.2.1.1, (z164.2.2.2.2.1.2.1, ())), (z164.2.2.1.1, (z164.2.2.1.2.1, z164.2.2.1.2.2)), z164.2.2.2.2.2.1, (), z164.1.1, true, ()))).bind fun q168 =>
             Sum.elim (fun z175 =>
               (flow_Contract_l5 k k (((), (), (), (), (), (), (z175.2.2.2.1.length : Int), 0, ()), ((z175.2.1.1, (z175.2.1.2.1, ())), (z175.2.2.1.1, (z175.2.2.1.2.1, z175.2.2.1.2.2)), z175.2.2.2.1, (), z175.1.1, false, ()))).bind fun q176 =>
               Sum.elim (fun z177 =>
                 (tube_Fit k (z177.2.1.1, z177.2.1.2.1, z177.2.2.2.1)).bind fun r178 =>
                 some (r178.1, 0, ()))
                (fun q176' =>
                 none) q176)
              (fun q168' =>
               none) q168)
           (fun q163' =>
            none) q163
         else none)
      (fun q4'' =>
       none) q4') q4
theorem flow_Contract.ok (k : Nat) : SpecOK Tryz.prog G0 7 ⟨[T28, T30], [T28, (.int .i64)], fun x => flow_Contract k x.1 x.2.1⟩ :=
 evF_sound (E := (e111 k)) (fn := Tryz.f7) (e111.ok k) (by kernel_rfl) (by kernel_rfl) (by kernel_rfl) 8 (.two .n (.two .n (.two (.two (.call 14 1 (.two .n (.two (.call 2 2 (.two .n (.two (.two .n (.two (.use (flow_Contract_l0_seg k)) .n)) .n)) .n) .n)) .n) .n) (.two (.call 1 515 (.two .n (.two .n (.two .n (.two .n (.two (.two (.call 1 519 .n .n) (.two (.rf 0 8 (.two .n (.two .n (.two (.use (flow_Contract_l2_seg k)) .n)))) .n)) (.two (.two .n (.two (.two (.call 1 522 (.two .n (.two .n (.two .n (.two .n (.two (.two .n (.two (.use (flow_Contract_l3_seg k)) .n)) .n))))) .n) .n) .n)) .n)))))) .n) (.two (.two (.call 1 516 .n .n) (.two (.rf 1 5 (.two .n (.two (.use (flow_Contract_l4_seg k)) .n))) .n)) (.two (.two (.call 1 524 .n .n) (.two (.rf 2 13 (.two .n (.two (.use (flow_Contract_l5_seg k)) .n))) .n)) (.two (.own 1 .n) .n))))))) ⟨trivial, ⟨trivial, ⟨⟨⟨⟨trivial, ⟨⟨⟨trivial, ⟨⟨trivial, ⟨(flow_Contract_l0_seg.ok k), trivial⟩⟩, trivial⟩⟩, trivial⟩, trivial⟩⟩, trivial⟩, trivial⟩, ⟨⟨⟨trivial, ⟨trivial, ⟨trivial, ⟨trivial, ⟨⟨⟨trivial, trivial⟩, ⟨⟨trivial, ⟨trivial, ⟨(flow_Contract_l2_seg.ok k), trivial⟩⟩⟩, trivial⟩⟩, ⟨⟨trivial, ⟨⟨⟨⟨trivial, ⟨trivial, ⟨trivial, ⟨trivial, ⟨⟨trivial, ⟨(flow_Contract_l3_seg.ok k), trivial⟩⟩, trivial⟩⟩⟩⟩⟩, trivial⟩, trivial⟩, trivial⟩⟩, trivial⟩⟩⟩⟩⟩⟩, trivial⟩, ⟨⟨⟨trivial, trivial⟩, ⟨⟨trivial, ⟨(flow_Contract_l4_seg.ok k), trivial⟩⟩, trivial⟩⟩, ⟨⟨⟨trivial, trivial⟩, ⟨⟨trivial, ⟨(flow_Contract_l5_seg.ok k), trivial⟩⟩, trivial⟩⟩, ⟨trivial, trivial⟩⟩⟩⟩⟩⟩⟩ (fun xs => by kernel_rfl)
def e112 (k : Nat) : Env := (e111 k).add 7 ⟨[T28, T30], [T28, (.int .i64)], fun x => flow_Contract k x.1 x.2.1⟩
theorem e112.ok (k : Nat) : (e112 k).OK Tryz.prog := (e111.ok k).add (flow_Contract.ok k)
abbrev flow_Reach_l0_i : Mask := ⟨[(0, 3, (.v T30)), (0, 8, (.k (.ptr 8 0 0))), (0, 10, (.k (.ptr 10 0 0))), (0, 11, (.v (.int .i64))), (0, 26, (.v T39)), (0, 27, (.v (.int .i64))), (0, 28, (.v (.int .i64)))], [(8, .cells (.pr (.v T23) (.pr (.v T25) (.v T27)))), (10, .cells (.v T28))], [], 0⟩
abbrev flow_Reach_l0_o : List Out := [⟨.exit 0, ⟨[(0, 3, (.v T30)), (0, 8, (.k (.ptr 8 0 0))), (0, 10, (.k (.ptr 10 0 0))), (0, 11, (.v (.int .i64)))], [(8, .cells (.pr (.v T23) (.pr (.v T25) (.v T27)))), (10, .cells (.v T28))], [], 0⟩⟩]
def flow_Reach_l0 (k : Nat) : Nat → Mask.den flow_Reach_l0_i → Option (denS flow_Reach_l0_o)
 | 0, _ => none
 | m + 1, x =>
  bif (decide (x.1.2.2.2.2.2.2.1 < x.1.2.2.2.2.2.1)) then
   if 0 ≤ x.1.2.2.2.2.2.2.1 then (x.1.2.2.2.2.1[Int.toNat x.1.2.2.2.2.2.2.1]?).bind fun y2 =>
    bif (x.1.2.2.2.1 == 0) then
     (iv_All k).bind fun r3 =>
     (iv_All k).bind fun r4 =>
     (tube_Append k x.2.2.1 y2 r3.1 r4.1).bind fun r5 =>
     flow_Reach_l0 k m ((x.1.1, (), (), r5.2.1, x.1.2.2.2.2.1, x.1.2.2.2.2.2.1, (IntKind.i64.wrap (x.1.2.2.2.2.2.2.1 + 1)), ()), ((x.2.1.1, (x.2.1.2.1, x.2.1.2.2)), r5.1, ()))
    else
     flow_Reach_l0 k m ((x.1.1, (), (), x.1.2.2.2.1, x.1.2.2.2.2.1, x.1.2.2.2.2.2.1, (IntKind.i64.wrap (x.1.2.2.2.2.2.2.1 + 1)), ()), ((x.2.1.1, (x.2.1.2.1, x.2.1.2.2)), x.2.2.1, ()))
   else none
  else
   some (Sum.inl ((x.1.1, (), (), x.1.2.2.2.1, ()), ((x.2.1.1, (x.2.1.2.1, x.2.1.2.2)), x.2.2.1, ())))
abbrev flow_Reach_l0_seg (k : Nat) : Seg := ⟨⟨0, 52, false, [], []⟩, 12, [.b, .s2, .s1, .s2, .s2, .s2], flow_Reach_l0_i, flow_Reach_l0_o, flow_Reach_l0 k k⟩
theorem flow_Reach_l0_seg.ok (k : Nat) : SegOK Tryz.prog (e112 k) (flow_Reach_l0_seg k) :=
 SegOK.loop (e112.ok k) (by kernel_rfl) (S := flow_Reach_l0_seg k) (c := atR (codeOf (e112 k) 12) [.l, .b, .s2, .s1, .s2, .s2, .s2]) (by kernel_rfl) (flow_Reach_l0 k) k rfl (fun _ => rfl) 8 .n trivial (fun k' x => by kernel_rfl)
def flow_Reach (k : Nat) (x0 : Ty.den T23) (x1 : Ty.den T25) (x2 : Ty.den T39) (x3 : Ty.den T30) : Option (HL [T28, (.int .i64)]) :=
 bif ((x2.length : Int) != (x3.length : Int)) then
  some (((0, false, 0, 0), (false, (0, false, 0, 0), 0, false, 0, 0), []), 1, ())
 else
  (tube_New k x0 x1).bind fun r1 =>
  (flow_Reach_l0 k k ((x3, (), (), r1.2.1, x2, (x2.length : Int), 0, ()), (((0, false, 0, 0), ((false, (0, false, 0, 0), 0, false, 0, 0), [])), r1.1, ()))).bind fun q6 =>
  Sum.elim (fun z7 =>
    bif (z7.1.2.2.2.1 != 0) then
     some (((0, false, 0, 0), (false, (0, false, 0, 0), 0, false, 0, 0), []), z7.1.2.2.2.1, ())
    else
     (flow_Contract k z7.2.2.1 z7.1.1).bind fun r8 =>
     some (r8.1, r8.2.1, ()))
   (fun q6' =>
    none) q6
theorem flow_Reach.ok (k : Nat) : SpecOK Tryz.prog G0 12 ⟨[T23, T25, T39, T30], [T28, (.int .i64)], fun x => flow_Reach k x.1 x.2.1 x.2.2.1 x.2.2.2.1⟩ :=
 evF_sound (E := (e112 k)) (fn := Tryz.f12) (e112.ok k) (by kernel_rfl) (by kernel_rfl) (by kernel_rfl) 8 (.two .n (.two .n (.two .n (.two (.two .n (.two (.use (flow_Reach_l0_seg k)) .n)) .n)))) ⟨trivial, ⟨trivial, ⟨trivial, ⟨⟨trivial, ⟨(flow_Reach_l0_seg.ok k), trivial⟩⟩, trivial⟩⟩⟩⟩ (fun xs => by kernel_rfl)
def e113 (k : Nat) : Env := (e112 k).add 12 ⟨[T23, T25, T39, T30], [T28, (.int .i64)], fun x => flow_Reach k x.1 x.2.1 x.2.2.1 x.2.2.2.1⟩
theorem e113.ok (k : Nat) : (e113 k).OK Tryz.prog := (e112.ok k).add (flow_Reach.ok k)
def peloruslaw18_awake (k : Nat) : Option (HL [.bool]) :=
 (num_Of k 0).bind fun r1 =>
 (peloruslaw08_Of k 0 0).bind fun r2 =>
 (num_Of k 1).bind fun r3 =>
 (num_Of k 2).bind fun r4 =>
 (peloruslaw08_Of k 1 2).bind fun r5 =>
 (peloruslaw08_Of k 0 0).bind fun r6 =>
 (flow_Reach k r1.1 r2.1 [r3.1, r4.1] [r5.1, r6.1]).bind fun r7 =>
 bif (r7.2.1 == 0) then
  bif ((r7.1.2.2.length : Int) == 2) then
   if 0 ≤ 0 then (r7.1.2.2[Int.toNat 0]?).bind fun y8 =>
    (peloruslaw08_Of k 1 2).bind fun r9 =>
    bif (beqT T25 y8.2.2 r9.1) then
     if 0 ≤ 1 then (r7.1.2.2[Int.toNat 1]?).bind fun y10 =>
      (peloruslaw08_Of k 1 2).bind fun r11 =>
      bif (beqT T25 y10.2.2 r11.1) then
       if 0 ≤ 0 then (r7.1.2.2[Int.toNat 0]?).bind fun y12 =>
        (peloruslaw08_Of k 0 2).bind fun r13 =>
        bif (beqT T25 y12.2.1 r13.1) then
         some ((!r7.1.2.1.1), ())
        else
         some (false, ())
       else none
      else
       some (false, ())
     else none
    else
     some (false, ())
   else none
  else
   some (false, ())
 else
  some (false, ())
theorem peloruslaw18_awake.ok (k : Nat) : SpecOK Tryz.prog G0 5 ⟨[], [.bool], fun x => peloruslaw18_awake k⟩ :=
 evF_sound (E := (e113 k)) (fn := Tryz.f5) (e113.ok k) (by kernel_rfl) (by kernel_rfl) (by kernel_rfl) 8 .n trivial (fun xs => by kernel_rfl)
def e114 (k : Nat) : Env := (e113 k).add 5 ⟨[], [.bool], fun x => peloruslaw18_awake k⟩
theorem e114.ok (k : Nat) : (e114 k).OK Tryz.prog := (e113.ok k).add (peloruslaw18_awake.ok k)
def peloruslaw18_FlowContracts (k : Nat) (x0 : Ty.den T28) (x1 : Ty.den T30) (x2 : Ty.den (.int .i64)) : Option (HL [.bool]) :=
 (peloruslaw18_awake k).bind fun r1 =>
 (peloruslaw18_Plain k x0 x1).bind fun r2 =>
 bif (!r1.1) then
  some (r1.1, ())
 else
  bif (!r2.1) then
   some (r1.1, ())
  else
   (flow_Contract k x0 x1).bind fun r3 =>
   (pelorusref18_Contract k x0 x1).bind fun r4 =>
   (pelorusref17_Same k r3.1 r4.1).bind fun r5 =>
   bif r5.1 then
    bif (r3.2.1 == r4.2.1) then
     (flow_Time k x0 x2).bind fun r6 =>
     (pelorusref18_Time k x0 x2).bind fun r7 =>
     some ((beqT T25 r6.1 r7.1), ())
    else
     some (false, ())
   else
    some (false, ())
theorem peloruslaw18_FlowContracts.ok (k : Nat) : SpecOK Tryz.prog G0 3 ⟨[T28, T30, (.int .i64)], [.bool], fun x => peloruslaw18_FlowContracts k x.1 x.2.1 x.2.2.1⟩ :=
 evF_sound (E := (e114 k)) (fn := Tryz.f3) (e114.ok k) (by kernel_rfl) (by kernel_rfl) (by kernel_rfl) 8 .n trivial (fun xs => by kernel_rfl)
def e115 (k : Nat) : Env := (e114 k).add 3 ⟨[T28, T30, (.int .i64)], [.bool], fun x => peloruslaw18_FlowContracts k x.1 x.2.1 x.2.2.1⟩
theorem e115.ok (k : Nat) : (e115 k).OK Tryz.prog := (e114.ok k).add (peloruslaw18_FlowContracts.ok k)
abbrev peloruslaw18_FlowReaches_l0_i : Mask := ⟨[(0, 2, (.v T39)), (0, 3, (.v T30)), (0, 4, (.k (.ptr 4 0 0))), (0, 5, (.k (.ptr 5 0 0))), (0, 10, (.k (.ptr 10 0 0))), (0, 11, (.v (.int .i64)))], [(4, .cells (.v T23)), (5, .cells (.v T25)), (10, .cells (.pr (.v T23) (.pr (.v T25) (.k (.arr 44 0))))), (44, .arr 41 T40)], [], 0⟩
abbrev peloruslaw18_FlowReaches_l0_o : List Out := [⟨.exit 0, ⟨[(0, 2, (.v T39)), (0, 3, (.v T30)), (0, 4, (.k (.ptr 4 0 0))), (0, 5, (.k (.ptr 5 0 0))), (0, 10, (.k (.ptr 10 0 0)))], [(4, .cells (.v T23)), (5, .cells (.v T25)), (10, .cells (.pr (.v T23) (.pr (.v T25) (.k (.arr 44 0))))), (44, .arr 41 T40)], [], 0⟩⟩]
def peloruslaw18_FlowReaches_l0 (k : Nat) : Nat → Mask.den peloruslaw18_FlowReaches_l0_i → Option (denS peloruslaw18_FlowReaches_l0_o)
 | 0, _ => none
 | m + 1, x =>
  bif (decide (x.1.2.2.2.2.2.1 < (x.1.1.length : Int))) then
   if 0 ≤ x.1.2.2.2.2.2.1 then (x.1.1[Int.toNat x.1.2.2.2.2.2.1]?).bind fun y3 =>
    if (x.2.2.2.2.1.length + [(y3, (false, (0, false, 0, 0), 0, false, 0, 0), false, (0, false, 0, 0), 0, false, 0, 0)].length) * 176 ≤ 140737488355328 then
     peloruslaw18_FlowReaches_l0 k m ((x.1.1, x.1.2.1, (), (), (), (IntKind.i64.wrap (x.1.2.2.2.2.2.1 + 1)), ()), (x.2.1, x.2.2.1, (x.2.2.2.1.1, (x.2.2.2.1.2.1, ())), (x.2.2.2.2.1 ++ [(y3, (false, (0, false, 0, 0), 0, false, 0, 0), false, (0, false, 0, 0), 0, false, 0, 0)]), ()))
    else none
   else none
  else
   some (Sum.inl ((x.1.1, x.1.2.1, (), (), (), ()), (x.2.1, x.2.2.1, (x.2.2.2.1.1, (x.2.2.2.1.2.1, ())), x.2.2.2.2.1, ())))
abbrev peloruslaw18_FlowReaches_l0_seg (k : Nat) : Seg := ⟨⟨0, 76, false, [], []⟩, 4, [.b, .s2, .s1, .s2, .s2, .s2, .s2], peloruslaw18_FlowReaches_l0_i, peloruslaw18_FlowReaches_l0_o, peloruslaw18_FlowReaches_l0 k k⟩
theorem peloruslaw18_FlowReaches_l0_seg.ok (k : Nat) : SegOK Tryz.prog (e115 k) (peloruslaw18_FlowReaches_l0_seg k) :=
 SegOK.loop (e115.ok k) (by kernel_rfl) (S := peloruslaw18_FlowReaches_l0_seg k) (c := atR (codeOf (e115 k) 4) [.l, .b, .s2, .s1, .s2, .s2, .s2, .s2]) (by kernel_rfl) (peloruslaw18_FlowReaches_l0 k) k rfl (fun _ => rfl) 8 .n trivial (fun k' x => by kernel_rfl)
def peloruslaw18_FlowReaches (k : Nat) (x0 : Ty.den T23) (x1 : Ty.den T25) (x2 : Ty.den T39) (x3 : Ty.den T30) : Option (HL [.bool]) :=
 (peloruslaw18_awake k).bind fun r1 =>
 bif (!r1.1) then
  some (r1.1, ())
 else
  bif (decide ((x2.length : Int) > 20)) then
   some (r1.1, ())
  else
   (peloruslaw18_FlowReaches_l0 k k ((x2, x3, (), (), (), 0, ()), (x0, x1, (x0, (x1, ())), [], ()))).bind fun q4 =>
   Sum.elim (fun z5 =>
     (peloruslaw18_Plain k (z5.2.2.2.1.1, z5.2.2.2.1.2.1, z5.2.2.2.2.1) z5.1.2.1).bind fun r6 =>
     bif (!r6.1) then
      some (true, ())
     else
      (flow_Reach k z5.2.1 z5.2.2.1 z5.1.1 z5.1.2.1).bind fun r7 =>
      (pelorusref18_Reach k z5.2.1 z5.2.2.1 z5.1.1 z5.1.2.1).bind fun r8 =>
      (pelorusref17_Same k r7.1 r8.1).bind fun r9 =>
      bif r9.1 then
       some ((r7.2.1 == r8.2.1), ())
      else
       some (false, ()))
    (fun q4' =>
     none) q4
theorem peloruslaw18_FlowReaches.ok (k : Nat) : SpecOK Tryz.prog G0 4 ⟨[T23, T25, T39, T30], [.bool], fun x => peloruslaw18_FlowReaches k x.1 x.2.1 x.2.2.1 x.2.2.2.1⟩ :=
 evF_sound (E := (e115 k)) (fn := Tryz.f4) (e115.ok k) (by kernel_rfl) (by kernel_rfl) (by kernel_rfl) 8 (.two .n (.two .n (.two .n (.two .n (.two (.two .n (.two (.use (peloruslaw18_FlowReaches_l0_seg k)) .n)) .n))))) ⟨trivial, ⟨trivial, ⟨trivial, ⟨trivial, ⟨⟨trivial, ⟨(peloruslaw18_FlowReaches_l0_seg.ok k), trivial⟩⟩, trivial⟩⟩⟩⟩⟩ (fun xs => by kernel_rfl)
def e116 (k : Nat) : Env := (e115 k).add 4 ⟨[T23, T25, T39, T30], [.bool], fun x => peloruslaw18_FlowReaches k x.1 x.2.1 x.2.2.1 x.2.2.2.1⟩
theorem e116.ok (k : Nat) : (e116 k).OK Tryz.prog := (e115.ok k).add (peloruslaw18_FlowReaches.ok k)
end
end Go.Proofs.YtmlnohiaagmgnaaGreat.Rf
