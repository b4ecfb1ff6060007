/- What each function of the program answers upon plain values, and that it does (part 1). No condition. -/
import Derived.Test.YtmlnohiaagmgnaaProg
import Derived.Test.YtmlnohiaagmgnaaE3
import Derived.KernelRfl
namespace Go.Proofs.Ytmlnohiaagmgnaa.Rf
open Go Go.Proofs Go.Proofs.Ytmlnohiaagmgnaa
set_option linter.unusedVariables false
set_option linter.unusedSimpArgs false
set_option maxRecDepth 100000
noncomputable section
abbrev T7 : Ty := (.pair (.int .i64) (.pair (.int .i64) (.pair .bool (.int .u8))))
abbrev T23 : Ty := (.pair (.int .i64) (.pair .bool (.pair (.int .u64) (.int .i64))))
abbrev T25 : Ty := (.pair .bool (.pair T23 T23))
abbrev T35 : Ty := (.pair T23 (.pair T25 T25))
abbrev T27 : Ty := (.list T35)
abbrev T28 : Ty := (.pair T23 (.pair T25 T27))
abbrev T32 : Ty := (.list T25)
abbrev T45 : Ty := (.list T23)
abbrev T80 : Ty := (.pair T23 T25)
abbrev T97 : Ty := (.pair (.int .u64) (.pair (.int .u64) .bool))
def bytes0 : ByteArray := ⟨#[0, 1, 2, 2, 3, 3, 3, 3, 4, 4, 4, 4, 4, 4, 4, 4, 5, 5, 5, 5, 5, 5, 5, 5, 5, 5, 5, 5, 5, 5, 5, 5, 6, 6, 6, 6, 6, 6, 6, 6, 6, 6, 6, 6, 6, 6, 6, 6, 6, 6, 6, 6, 6, 6, 6, 6, 6, 6, 6, 6, 6, 6, 6, 6, 7, 7, 7, 7, 7, 7, 7, 7, 7, 7, 7, 7, 7, 7, 7, 7, 7, 7, 7, 7, 7, 7, 7, 7, 7, 7, 7, 7, 7, 7, 7, 7, 7, 7, 7, 7, 7, 7, 7, 7, 7, 7, 7, 7, 7, 7, 7, 7, 7, 7, 7, 7, 7, 7, 7, 7, 7, 7, 7, 7, 7, 7, 7, 7, 8, 8, 8, 8, 8, 8, 8, 8, 8, 8, 8, 8, 8, 8, 8, 8, 8, 8, 8, 8, 8, 8, 8, 8, 8, 8, 8, 8, 8, 8, 8, 8, 8, 8, 8, 8, 8, 8, 8, 8, 8, 8, 8, 8, 8, 8, 8, 8, 8, 8, 8, 8, 8, 8, 8, 8, 8, 8, 8, 8, 8, 8, 8, 8, 8, 8, 8, 8, 8, 8, 8, 8, 8, 8, 8, 8, 8, 8, 8, 8, 8, 8, 8, 8, 8, 8, 8, 8, 8, 8, 8, 8, 8, 8, 8, 8, 8, 8, 8, 8, 8, 8, 8, 8, 8, 8, 8, 8, 8, 8, 8, 8, 8, 8, 8, 8, 8, 8, 8, 8, 8, 8, 8, 8, 8, 8, 8, 8]⟩
def tabs : Tables where
  ty := [(2, (.int .i64)), (3, (.int .i64)), (4, .bool), (5, (.int .u8)), (6, (.int .u8)), (7, T7), (8, T7), (12, (.int .u64)), (21, (.int .i32)), (22, (.int .u64)), (23, T23), (24, T23), (25, T25), (26, T25), (27, T27), (28, T28), (29, T28), (32, T32), (35, T35), (36, T35), (37, (.int .i64)), (45, T45), (80, T80), (81, T80), (92, (.int .u64)), (97, T97), (98, T97), (109, (.int .u32)), (110, (.int .u8)), (111, (.int .u8)), (114, (.int .i32)), (115, (.int .i32))]
  lay := [(59, 1, false, Value.pointer none), (60, 1, false, Value.pointer none), (84, 1, false, Value.nilFunc)]
  el := [(27, 36, 176), (32, 26, 72), (45, 24, 32)]
  eq := [7, 8, 23, 24, 25, 26, 35, 36, 80, 81, 97, 98]
  str := [9, 10, 11]
  pt := []
  fld := [(7, [(0, 0, 2), (1, 1, 3), (2, 2, 4), (3, 3, 6)]), (8, [(0, 0, 2), (1, 1, 3), (2, 2, 4), (3, 3, 6)]), (23, [(0, 0, 3), (1, 1, 4), (2, 2, 22), (3, 3, 3)]), (24, [(0, 0, 3), (1, 1, 4), (2, 2, 22), (3, 3, 3)]), (25, [(0, 0, 4), (1, 1, 24), (2, 5, 24)]), (26, [(0, 0, 4), (1, 1, 24), (2, 5, 24)]), (28, [(0, 0, 24), (1, 4, 26), (2, 13, 27)]), (29, [(0, 0, 24), (1, 4, 26), (2, 13, 27)]), (35, [(0, 0, 24), (1, 4, 26), (2, 13, 26)]), (36, [(0, 0, 24), (1, 4, 26), (2, 13, 26)]), (62, [(0, 0, 60), (1, 1, 60), (2, 2, 60), (3, 3, 26), (4, 12, 26)]), (80, [(0, 0, 24), (1, 4, 26)]), (81, [(0, 0, 24), (1, 4, 26)]), (97, [(0, 0, 22), (1, 1, 22), (2, 2, 4)]), (98, [(0, 0, 22), (1, 1, 22), (2, 2, 4)])]
  arr := []
  st := [(62, (.pr (.cst (Value.pointer none)) (.pr (.cst (Value.pointer none)) (.pr (.cst (Value.pointer none)) (.pr (.plain T25) (.plain T25))))))]
def fnL : List (Nat × Func) := [(59, Try.f59), (37, Try.f37), (15, Try.f15), (38, Try.f38), (40, Try.f40), (41, Try.f41), (42, Try.f42), (18, Try.f18), (21, Try.f21), (39, Try.f39), (17, Try.f17), (43, Try.f43), (44, Try.f44), (19, Try.f19), (7, Try.f7), (16, Try.f16), (6, Try.f6), (20, Try.f20), (22, Try.f22), (23, Try.f23), (8, Try.f8), (45, Try.f45), (25, Try.f25), (55, Try.f55), (31, Try.f31), (11, Try.f11), (46, Try.f46), (47, Try.f47), (48, Try.f48), (26, Try.f26), (27, Try.f27), (52, Try.f52), (65, Try.f65), (75, Try.f75), (76, Try.f76), (74, Try.f74), (70, Try.f70), (71, Try.f71), (66, Try.f66), (67, Try.f67), (53, Try.f53), (28, Try.f28), (54, Try.f54), (29, Try.f29), (9, Try.f9), (34, Try.f34), (58, Try.f58), (35, Try.f35), (36, Try.f36), (14, Try.f14), (5, Try.f5), (10, Try.f10), (3, Try.f3), (12, Try.f12), (57, Try.f57), (32, Try.f32), (33, Try.f33), (13, Try.f13), (4, Try.f4), (24, Try.f24), (30, Try.f30), (49, Try.f49), (56, Try.f56), (60, Try.f60), (50, Try.f50), (51, Try.f51), (61, Try.f61), (62, Try.f62), (63, Try.f63), (64, Try.f64), (68, Try.f68), (69, Try.f69)]
theorem fnL.ok : FnsOK Try.prog fnL := ⟨⟨Try.func59, by kernel_rfl⟩, ⟨Try.func37, by kernel_rfl⟩, ⟨Try.func15, by kernel_rfl⟩, ⟨Try.func38, by kernel_rfl⟩, ⟨Try.func40, by kernel_rfl⟩, ⟨Try.func41, by kernel_rfl⟩, ⟨Try.func42, by kernel_rfl⟩, ⟨Try.func18, by kernel_rfl⟩, ⟨Try.func21, by kernel_rfl⟩, ⟨Try.func39, by kernel_rfl⟩, ⟨Try.func17, by kernel_rfl⟩, ⟨Try.func43, by kernel_rfl⟩, ⟨Try.func44, by kernel_rfl⟩, ⟨Try.func19, by kernel_rfl⟩, ⟨Try.func7, by kernel_rfl⟩, ⟨Try.func16, by kernel_rfl⟩, ⟨Try.func6, by kernel_rfl⟩, ⟨Try.func20, by kernel_rfl⟩, ⟨Try.func22, by kernel_rfl⟩, ⟨Try.func23, by kernel_rfl⟩, ⟨Try.func8, by kernel_rfl⟩, ⟨Try.func45, by kernel_rfl⟩, ⟨Try.func25, by kernel_rfl⟩, ⟨Try.func55, by kernel_rfl⟩, ⟨Try.func31, by kernel_rfl⟩, ⟨Try.func11, by kernel_rfl⟩, ⟨Try.func46, by kernel_rfl⟩, ⟨Try.func47, by kernel_rfl⟩, ⟨Try.func48, by kernel_rfl⟩, ⟨Try.func26, by kernel_rfl⟩, ⟨Try.func27, by kernel_rfl⟩, ⟨Try.func52, by kernel_rfl⟩, ⟨Try.func65, by kernel_rfl⟩, ⟨Try.func75, by kernel_rfl⟩, ⟨Try.func76, by kernel_rfl⟩, ⟨Try.func74, by kernel_rfl⟩, ⟨Try.func70, by kernel_rfl⟩, ⟨Try.func71, by kernel_rfl⟩, ⟨Try.func66, by kernel_rfl⟩, ⟨Try.func67, by kernel_rfl⟩, ⟨Try.func53, by kernel_rfl⟩, ⟨Try.func28, by kernel_rfl⟩, ⟨Try.func54, by kernel_rfl⟩, ⟨Try.func29, by kernel_rfl⟩, ⟨Try.func9, by kernel_rfl⟩, ⟨Try.func34, by kernel_rfl⟩, ⟨Try.func58, by kernel_rfl⟩, ⟨Try.func35, by kernel_rfl⟩, ⟨Try.func36, by kernel_rfl⟩, ⟨Try.func14, by kernel_rfl⟩, ⟨Try.func5, by kernel_rfl⟩, ⟨Try.func10, by kernel_rfl⟩, ⟨Try.func3, by kernel_rfl⟩, ⟨Try.func12, by kernel_rfl⟩, ⟨Try.func57, by kernel_rfl⟩, ⟨Try.func32, by kernel_rfl⟩, ⟨Try.func33, by kernel_rfl⟩, ⟨Try.func13, by kernel_rfl⟩, ⟨Try.func4, by kernel_rfl⟩, ⟨Try.func24, by kernel_rfl⟩, ⟨Try.func30, by kernel_rfl⟩, ⟨Try.func49, by kernel_rfl⟩, ⟨Try.func56, by kernel_rfl⟩, ⟨Try.func60, by kernel_rfl⟩, ⟨Try.func50, by kernel_rfl⟩, ⟨Try.func51, by kernel_rfl⟩, ⟨Try.func61, by kernel_rfl⟩, ⟨Try.func62, by kernel_rfl⟩, ⟨Try.func63, by kernel_rfl⟩, ⟨Try.func64, by kernel_rfl⟩, ⟨Try.func68, by kernel_rfl⟩, ⟨Try.func69, by kernel_rfl⟩, trivial⟩
def clL : List (Nat × TypeId) := [(46, 27)]
theorem clL.ok : ClsOK Try.prog clL := ⟨clone_ok (tb := 4) Try.func46 (by kernel_rfl) (by kernel_rfl) (by kernel_rfl) (by kernel_rfl), trivial⟩
abbrev G0 : World → Prop := fun _ => True
def xtL : List (Nat × Spec) := [(72, ⟨[(.int .u64), (.int .u64), (.int .u64)], [(.int .u64), (.int .u64)], add64F⟩), (73, ⟨[(.int .u64), (.int .u64), (.int .u64)], [(.int .u64), (.int .u64)], sub64F⟩)]
theorem xtL.ok : XtsOK Try.prog xtL := ⟨add64_ok Try.func72 (by kernel_rfl) (by kernel_rfl) (by kernel_rfl) (by kernel_rfl), sub64_ok Try.func73 (by kernel_rfl) (by kernel_rfl) (by kernel_rfl) (by kernel_rfl), trivial⟩
def e0 (_k : Nat) : Env := baseE G0 tabs fnL clL xtL
theorem e0.ok (k : Nat) : (e0 k).OK Try.prog := Env.OK.base (by kernel_rfl) fnL.ok clL.ok xtL.ok
def bits_Len64 (k : Nat) (x0 : Ty.den (.int .u64)) : Option (HL [(.int .i64)]) :=
 bif (decide (x0 ≥ 4294967296)) then
  bif (decide ((Int.fdiv x0 (2 ^ min (Int.toNat 32) IntKind.u64.bits)) ≥ 65536)) then
   bif (decide ((Int.fdiv (Int.fdiv x0 (2 ^ min (Int.toNat 32) IntKind.u64.bits)) (2 ^ min (Int.toNat 16) IntKind.u64.bits)) ≥ 256)) then
    if 0 ≤ (IntKind.u8.wrap (Int.fdiv (Int.fdiv (Int.fdiv x0 (2 ^ min (Int.toNat 32) IntKind.u64.bits)) (2 ^ min (Int.toNat 16) IntKind.u64.bits)) (2 ^ min (Int.toNat 8) IntKind.u64.bits))) then (bytes0[Int.toNat (IntKind.u8.wrap (Int.fdiv (Int.fdiv (Int.fdiv x0 (2 ^ min (Int.toNat 32) IntKind.u64.bits)) (2 ^ min (Int.toNat 16) IntKind.u64.bits)) (2 ^ min (Int.toNat 8) IntKind.u64.bits)))]?).bind fun y1 =>
     some ((IntKind.i64.wrap ((IntKind.i64.wrap ((IntKind.i64.wrap (32 + 16)) + 8)) + (IntKind.i64.wrap (y1.toNat : Int)))), ())
    else none
   else
    if 0 ≤ (IntKind.u8.wrap (Int.fdiv (Int.fdiv x0 (2 ^ min (Int.toNat 32) IntKind.u64.bits)) (2 ^ min (Int.toNat 16) IntKind.u64.bits))) then (bytes0[Int.toNat (IntKind.u8.wrap (Int.fdiv (Int.fdiv x0 (2 ^ min (Int.toNat 32) IntKind.u64.bits)) (2 ^ min (Int.toNat 16) IntKind.u64.bits)))]?).bind fun y2 =>
     some ((IntKind.i64.wrap ((IntKind.i64.wrap (32 + 16)) + (IntKind.i64.wrap (y2.toNat : Int)))), ())
    else none
  else
   bif (decide ((Int.fdiv x0 (2 ^ min (Int.toNat 32) IntKind.u64.bits)) ≥ 256)) then
    if 0 ≤ (IntKind.u8.wrap (Int.fdiv (Int.fdiv x0 (2 ^ min (Int.toNat 32) IntKind.u64.bits)) (2 ^ min (Int.toNat 8) IntKind.u64.bits))) then (bytes0[Int.toNat (IntKind.u8.wrap (Int.fdiv (Int.fdiv x0 (2 ^ min (Int.toNat 32) IntKind.u64.bits)) (2 ^ min (Int.toNat 8) IntKind.u64.bits)))]?).bind fun y3 =>
     some ((IntKind.i64.wrap ((IntKind.i64.wrap (32 + 8)) + (IntKind.i64.wrap (y3.toNat : Int)))), ())
    else none
   else
    if 0 ≤ (IntKind.u8.wrap (Int.fdiv x0 (2 ^ min (Int.toNat 32) IntKind.u64.bits))) then (bytes0[Int.toNat (IntKind.u8.wrap (Int.fdiv x0 (2 ^ min (Int.toNat 32) IntKind.u64.bits)))]?).bind fun y4 =>
     some ((IntKind.i64.wrap (32 + (IntKind.i64.wrap (y4.toNat : Int)))), ())
    else none
 else
  bif (decide (x0 ≥ 65536)) then
   bif (decide ((Int.fdiv x0 (2 ^ min (Int.toNat 16) IntKind.u64.bits)) ≥ 256)) then
    if 0 ≤ (IntKind.u8.wrap (Int.fdiv (Int.fdiv x0 (2 ^ min (Int.toNat 16) IntKind.u64.bits)) (2 ^ min (Int.toNat 8) IntKind.u64.bits))) then (bytes0[Int.toNat (IntKind.u8.wrap (Int.fdiv (Int.fdiv x0 (2 ^ min (Int.toNat 16) IntKind.u64.bits)) (2 ^ min (Int.toNat 8) IntKind.u64.bits)))]?).bind fun y5 =>
     some ((IntKind.i64.wrap ((IntKind.i64.wrap ((IntKind.i64.wrap (0 + 16)) + 8)) + (IntKind.i64.wrap (y5.toNat : Int)))), ())
    else none
   else
    if 0 ≤ (IntKind.u8.wrap (Int.fdiv x0 (2 ^ min (Int.toNat 16) IntKind.u64.bits))) then (bytes0[Int.toNat (IntKind.u8.wrap (Int.fdiv x0 (2 ^ min (Int.toNat 16) IntKind.u64.bits)))]?).bind fun y6 =>
     some ((IntKind.i64.wrap ((IntKind.i64.wrap (0 + 16)) + (IntKind.i64.wrap (y6.toNat : Int)))), ())
    else none
  else
   bif (decide (x0 ≥ 256)) then
    if 0 ≤ (IntKind.u8.wrap (Int.fdiv x0 (2 ^ min (Int.toNat 8) IntKind.u64.bits))) then (bytes0[Int.toNat (IntKind.u8.wrap (Int.fdiv x0 (2 ^ min (Int.toNat 8) IntKind.u64.bits)))]?).bind fun y7 =>
     some ((IntKind.i64.wrap ((IntKind.i64.wrap (0 + 8)) + (IntKind.i64.wrap (y7.toNat : Int)))), ())
    else none
   else
    if 0 ≤ (IntKind.u8.wrap x0) then (bytes0[Int.toNat (IntKind.u8.wrap x0)]?).bind fun y8 =>
     some ((IntKind.i64.wrap (0 + (IntKind.i64.wrap (y8.toNat : Int)))), ())
    else none
theorem bits_Len64.ok (k : Nat) : SpecOK Try.prog G0 59 ⟨[(.int .u64)], [(.int .i64)], fun x => bits_Len64 k x.1⟩ :=
 evF_sound (E := (e0 k)) (fn := Try.f59) (e0.ok k) (by kernel_rfl) (by kernel_rfl) (by kernel_rfl) 8 .n trivial (fun xs => by kernel_rfl)
def e1 (k : Nat) : Env := (e0 k).add 59 ⟨[(.int .u64)], [(.int .i64)], fun x => bits_Len64 k x.1⟩
theorem e1.ok (k : Nat) : (e1 k).OK Try.prog := (e0.ok k).add (bits_Len64.ok k)
def bits_LeadingZeros64 (k : Nat) (x0 : Ty.den (.int .u64)) : Option (HL [(.int .i64)]) :=
 (bits_Len64 k x0).bind fun r1 =>
 some ((IntKind.i64.wrap (64 - r1.1)), ())
theorem bits_LeadingZeros64.ok (k : Nat) : SpecOK Try.prog G0 37 ⟨[(.int .u64)], [(.int .i64)], fun x => bits_LeadingZeros64 k x.1⟩ :=
 evF_sound (E := (e1 k)) (fn := Try.f37) (e1.ok k) (by kernel_rfl) (by kernel_rfl) (by kernel_rfl) 8 .n trivial (fun xs => by kernel_rfl)
def e2 (k : Nat) : Env := (e1 k).add 37 ⟨[(.int .u64)], [(.int .i64)], fun x => bits_LeadingZeros64 k x.1⟩
theorem e2.ok (k : Nat) : (e2 k).OK Try.prog := (e1.ok k).add (bits_LeadingZeros64.ok k)
def num_Of (k : Nat) (x0 : Ty.den (.int .i64)) : Option (HL [T23]) :=
 bif (decide (x0 < 0)) then
  (bits_LeadingZeros64 k (IntKind.u64.wrap (0 - (IntKind.u64.wrap x0)))).bind fun r1 =>
  bif ((IntKind.u64.wrap (0 - (IntKind.u64.wrap x0))) == 0) then
   some ((0, false, 0, 0), ())
  else
   if r1.1 < 0 then none else
   some ((1, (decide (x0 < 0)), (IntKind.u64.wrap ((IntKind.u64.wrap (0 - (IntKind.u64.wrap x0))) * 2 ^ min (Int.toNat r1.1) IntKind.u64.bits)), (IntKind.i64.wrap (0 - r1.1))), ())
 else
  (bits_LeadingZeros64 k (IntKind.u64.wrap x0)).bind fun r2 =>
  bif ((IntKind.u64.wrap x0) == 0) then
   some ((0, false, 0, 0), ())
  else
   if r2.1 < 0 then none else
   some ((1, (decide (x0 < 0)), (IntKind.u64.wrap ((IntKind.u64.wrap x0) * 2 ^ min (Int.toNat r2.1) IntKind.u64.bits)), (IntKind.i64.wrap (0 - r2.1))), ())
theorem num_Of.ok (k : Nat) : SpecOK Try.prog G0 15 ⟨[(.int .i64)], [T23], fun x => num_Of k x.1⟩ :=
 evF_sound (E := (e2 k)) (fn := Try.f15) (e2.ok k) (by kernel_rfl) (by kernel_rfl) (by kernel_rfl) 8 .n trivial (fun xs => by kernel_rfl)
def e3 (k : Nat) : Env := (e2 k).add 15 ⟨[(.int .i64)], [T23], fun x => num_Of k x.1⟩
theorem e3.ok (k : Nat) : (e3 k).OK Try.prog := (e2.ok k).add (num_Of.ok k)
def num_May (k : Nat) (x0 : Ty.den T23) : Option (HL [.bool]) :=
 bif (x0.1 == 0) then
  some ((beqT T23 x0 (0, false, 0, 0)), ())
 else
  bif (x0.1 == 1) then
   bif (decide (x0.2.2.1 ≥ 9223372036854775808)) then
    bif (decide (x0.2.2.2 ≥ (-1048576))) then
     some ((decide (x0.2.2.2 ≤ 1048576)), ())
    else
     some (false, ())
   else
    some (false, ())
  else
   bif (x0.1 == 2) then
    bif (x0.2.2.1 == 0) then
     some ((x0.2.2.2 == 0), ())
    else
     some (false, ())
   else
    some (false, ())
theorem num_May.ok (k : Nat) : SpecOK Try.prog G0 38 ⟨[T23], [.bool], fun x => num_May k x.1⟩ :=
 evF_sound (E := (e3 k)) (fn := Try.f38) (e3.ok k) (by kernel_rfl) (by kernel_rfl) (by kernel_rfl) 8 .n trivial (fun xs => by kernel_rfl)
def e4 (k : Nat) : Env := (e3 k).add 38 ⟨[T23], [.bool], fun x => num_May k x.1⟩
theorem e4.ok (k : Nat) : (e4 k).OK Try.prog := (e3.ok k).add (num_May.ok k)
def num_fair (k : Nat) (x0 : Ty.den T23) : Option (HL [T23]) :=
 (num_May k x0).bind fun r1 =>
 bif (!r1.1) then
  some ((0, false, 0, 0), ())
 else
  some (x0, ())
theorem num_fair.ok (k : Nat) : SpecOK Try.prog G0 40 ⟨[T23], [T23], fun x => num_fair k x.1⟩ :=
 evF_sound (E := (e4 k)) (fn := Try.f40) (e4.ok k) (by kernel_rfl) (by kernel_rfl) (by kernel_rfl) 8 .n trivial (fun xs => by kernel_rfl)
def e5 (k : Nat) : Env := (e4 k).add 40 ⟨[T23], [T23], fun x => num_fair k x.1⟩
theorem e5.ok (k : Nat) : (e5 k).OK Try.prog := (e4.ok k).add (num_fair.ok k)
def num_Sign (k : Nat) (x0 : Ty.den T23) : Option (HL [(.int .i64)]) :=
 (num_fair k x0).bind fun r1 =>
 bif (r1.1.1 == 0) then
  some (0, ())
 else
  bif r1.1.2.1 then
   some ((-1), ())
  else
   some (1, ())
theorem num_Sign.ok (k : Nat) : SpecOK Try.prog G0 41 ⟨[T23], [(.int .i64)], fun x => num_Sign k x.1⟩ :=
 evF_sound (E := (e5 k)) (fn := Try.f41) (e5.ok k) (by kernel_rfl) (by kernel_rfl) (by kernel_rfl) 8 .n trivial (fun xs => by kernel_rfl)
def e6 (k : Nat) : Env := (e5 k).add 41 ⟨[T23], [(.int .i64)], fun x => num_Sign k x.1⟩
theorem e6.ok (k : Nat) : (e6 k).OK Try.prog := (e5.ok k).add (num_Sign.ok k)
def num_farther (k : Nat) (x0 : Ty.den T23) (x1 : Ty.den T23) : Option (HL [.bool]) :=
 bif (x0.1 != x1.1) then
  some ((decide (x0.1 > x1.1)), ())
 else
  bif (x0.2.2.2 != x1.2.2.2) then
   some ((decide (x0.2.2.2 > x1.2.2.2)), ())
  else
   some ((decide (x0.2.2.1 > x1.2.2.1)), ())
theorem num_farther.ok (k : Nat) : SpecOK Try.prog G0 42 ⟨[T23, T23], [.bool], fun x => num_farther k x.1 x.2.1⟩ :=
 evF_sound (E := (e6 k)) (fn := Try.f42) (e6.ok k) (by kernel_rfl) (by kernel_rfl) (by kernel_rfl) 8 .n trivial (fun xs => by kernel_rfl)
def e7 (k : Nat) : Env := (e6 k).add 42 ⟨[T23, T23], [.bool], fun x => num_farther k x.1 x.2.1⟩
theorem e7.ok (k : Nat) : (e7 k).OK Try.prog := (e6.ok k).add (num_farther.ok k)
def num_Cmp (k : Nat) (x0 : Ty.den T23) (x1 : Ty.den T23) : Option (HL [(.int .i64)]) :=
 (num_fair k x0).bind fun r1 =>
 (num_fair k x1).bind fun r2 =>
 (num_Sign k r1.1).bind fun r3 =>
 (num_Sign k r2.1).bind fun r4 =>
 bif (decide (r3.1 < r4.1)) then
  some ((-1), ())
 else
  bif (decide (r3.1 > r4.1)) then
   some (1, ())
  else
   (num_farther k r1.1 r2.1).bind fun r5 =>
   bif r5.1 then
    some (r3.1, ())
   else
    (num_farther k r2.1 r1.1).bind fun r6 =>
    bif r6.1 then
     some ((IntKind.i64.wrap (0 - r3.1)), ())
    else
     some (0, ())
theorem num_Cmp.ok (k : Nat) : SpecOK Try.prog G0 18 ⟨[T23, T23], [(.int .i64)], fun x => num_Cmp k x.1 x.2.1⟩ :=
 evF_sound (E := (e7 k)) (fn := Try.f18) (e7.ok k) (by kernel_rfl) (by kernel_rfl) (by kernel_rfl) 8 .n trivial (fun xs => by kernel_rfl)
def e8 (k : Nat) : Env := (e7 k).add 18 ⟨[T23, T23], [(.int .i64)], fun x => num_Cmp k x.1 x.2.1⟩
theorem e8.ok (k : Nat) : (e8 k).OK Try.prog := (e7.ok k).add (num_Cmp.ok k)
def iv_None (k : Nat) : Option (HL [T25]) :=
 some ((true, (0, false, 0, 0), 0, false, 0, 0), ())
theorem iv_None.ok (k : Nat) : SpecOK Try.prog G0 21 ⟨[], [T25], fun x => iv_None k⟩ :=
 evF_sound (E := (e8 k)) (fn := Try.f21) (e8.ok k) (by kernel_rfl) (by kernel_rfl) (by kernel_rfl) 8 .n trivial (fun xs => by kernel_rfl)
def e9 (k : Nat) : Env := (e8 k).add 21 ⟨[], [T25], fun x => iv_None k⟩
theorem e9.ok (k : Nat) : (e9 k).OK Try.prog := (e8.ok k).add (iv_None.ok k)
def num_Infinite (k : Nat) (x0 : Ty.den .bool) : Option (HL [T23]) :=
 some ((2, x0, 0, 0), ())
theorem num_Infinite.ok (k : Nat) : SpecOK Try.prog G0 39 ⟨[.bool], [T23], fun x => num_Infinite k x.1⟩ :=
 evF_sound (E := (e9 k)) (fn := Try.f39) (e9.ok k) (by kernel_rfl) (by kernel_rfl) (by kernel_rfl) 8 .n trivial (fun xs => by kernel_rfl)
def e10 (k : Nat) : Env := (e9 k).add 39 ⟨[.bool], [T23], fun x => num_Infinite k x.1⟩
theorem e10.ok (k : Nat) : (e10 k).OK Try.prog := (e9.ok k).add (num_Infinite.ok k)
def iv_May (k : Nat) (x0 : Ty.den T25) : Option (HL [.bool]) :=
 bif x0.1 then
  (iv_None k).bind fun r1 =>
  some ((beqT T25 x0 r1.1), ())
 else
  (num_May k x0.2.1).bind fun r2 =>
  bif r2.1 then
   (num_May k x0.2.2).bind fun r3 =>
   bif r3.1 then
    (num_Cmp k x0.2.1 x0.2.2).bind fun r4 =>
    bif (decide (r4.1 ≤ 0)) then
     (num_Infinite k false).bind fun r5 =>
     bif (!(beqT T23 x0.2.1 r5.1)) then
      (num_Infinite k true).bind fun r6 =>
      some ((!(beqT T23 x0.2.2 r6.1)), ())
     else
      some (false, ())
    else
     some (false, ())
   else
    some (false, ())
  else
   some (false, ())
theorem iv_May.ok (k : Nat) : SpecOK Try.prog G0 17 ⟨[T25], [.bool], fun x => iv_May k x.1⟩ :=
 evF_sound (E := (e10 k)) (fn := Try.f17) (e10.ok k) (by kernel_rfl) (by kernel_rfl) (by kernel_rfl) 8 .n trivial (fun xs => by kernel_rfl)
def e11 (k : Nat) : Env := (e10 k).add 17 ⟨[T25], [.bool], fun x => iv_May k x.1⟩
theorem e11.ok (k : Nat) : (e11 k).OK Try.prog := (e10.ok k).add (iv_May.ok k)
def iv_fair (k : Nat) (x0 : Ty.den T25) : Option (HL [T25]) :=
 (iv_May k x0).bind fun r1 =>
 bif (!r1.1) then
  (iv_None k).bind fun r2 =>
  some (r2.1, ())
 else
  some (x0, ())
theorem iv_fair.ok (k : Nat) : SpecOK Try.prog G0 43 ⟨[T25], [T25], fun x => iv_fair k x.1⟩ :=
 evF_sound (E := (e11 k)) (fn := Try.f43) (e11.ok k) (by kernel_rfl) (by kernel_rfl) (by kernel_rfl) 8 .n trivial (fun xs => by kernel_rfl)
def e12 (k : Nat) : Env := (e11 k).add 43 ⟨[T25], [T25], fun x => iv_fair k x.1⟩
theorem e12.ok (k : Nat) : (e12 k).OK Try.prog := (e11.ok k).add (iv_fair.ok k)
def num_Neg (k : Nat) (x0 : Ty.den T23) : Option (HL [T23]) :=
 (num_fair k x0).bind fun r1 =>
 bif (r1.1.1 != 0) then
  some ((r1.1.1, (!r1.1.2.1), r1.1.2.2), ())
 else
  some ((r1.1.1, false, r1.1.2.2), ())
theorem num_Neg.ok (k : Nat) : SpecOK Try.prog G0 44 ⟨[T23], [T23], fun x => num_Neg k x.1⟩ :=
 evF_sound (E := (e12 k)) (fn := Try.f44) (e12.ok k) (by kernel_rfl) (by kernel_rfl) (by kernel_rfl) 8 .n trivial (fun xs => by kernel_rfl)
def e13 (k : Nat) : Env := (e12 k).add 44 ⟨[T23], [T23], fun x => num_Neg k x.1⟩
theorem e13.ok (k : Nat) : (e13 k).OK Try.prog := (e12.ok k).add (num_Neg.ok k)
def iv_Make (k : Nat) (x0 : Ty.den T23) (x1 : Ty.den T23) : Option (HL [T25]) :=
 (num_Neg k x0).bind fun r1 =>
 (num_Neg k r1.1).bind fun r2 =>
 (num_Neg k x1).bind fun r3 =>
 (num_Neg k r3.1).bind fun r4 =>
 (iv_fair k (false, r2.1, r4.1)).bind fun r5 =>
 some (r5.1, ())
theorem iv_Make.ok (k : Nat) : SpecOK Try.prog G0 19 ⟨[T23, T23], [T25], fun x => iv_Make k x.1 x.2.1⟩ :=
 evF_sound (E := (e13 k)) (fn := Try.f19) (e13.ok k) (by kernel_rfl) (by kernel_rfl) (by kernel_rfl) 8 .n trivial (fun xs => by kernel_rfl)
def e14 (k : Nat) : Env := (e13 k).add 19 ⟨[T23, T23], [T25], fun x => iv_Make k x.1 x.2.1⟩
theorem e14.ok (k : Nat) : (e14 k).OK Try.prog := (e13.ok k).add (iv_Make.ok k)
def peloruslaw08_Of (k : Nat) (x0 : Ty.den (.int .i64)) (x1 : Ty.den (.int .i64)) : Option (HL [T25]) :=
 (num_Of k x0).bind fun r1 =>
 (num_Of k x1).bind fun r2 =>
 (iv_Make k r1.1 r2.1).bind fun r3 =>
 some (r3.1, ())
theorem peloruslaw08_Of.ok (k : Nat) : SpecOK Try.prog G0 7 ⟨[(.int .i64), (.int .i64)], [T25], fun x => peloruslaw08_Of k x.1 x.2.1⟩ :=
 evF_sound (E := (e14 k)) (fn := Try.f7) (e14.ok k) (by kernel_rfl) (by kernel_rfl) (by kernel_rfl) 8 .n trivial (fun xs => by kernel_rfl)
def e15 (k : Nat) : Env := (e14 k).add 7 ⟨[(.int .i64), (.int .i64)], [T25], fun x => peloruslaw08_Of k x.1 x.2.1⟩
theorem e15.ok (k : Nat) : (e15 k).OK Try.prog := (e14.ok k).add (peloruslaw08_Of.ok k)
def tube_finite (k : Nat) (x0 : Ty.den T23) : Option (HL [.bool]) :=
 (num_May k x0).bind fun r1 =>
 bif r1.1 then
  some ((x0.1 != 2), ())
 else
  some (false, ())
theorem tube_finite.ok (k : Nat) : SpecOK Try.prog G0 16 ⟨[T23], [.bool], fun x => tube_finite k x.1⟩ :=
 evF_sound (E := (e15 k)) (fn := Try.f16) (e15.ok k) (by kernel_rfl) (by kernel_rfl) (by kernel_rfl) 8 .n trivial (fun xs => by kernel_rfl)
def e16 (k : Nat) : Env := (e15 k).add 16 ⟨[T23], [.bool], fun x => tube_finite k x.1⟩
theorem e16.ok (k : Nat) : (e16 k).OK Try.prog := (e15.ok k).add (tube_finite.ok k)
abbrev tube_May_l0_i : Mask := ⟨[(0, 3, (.k (.ptr 3 0 0))), (0, 25, (.v T27)), (0, 26, (.v (.int .i64))), (0, 27, (.v (.int .i64)))], [(3, .cells (.v T23))], [], 0⟩
abbrev tube_May_l0_o : List Out := [⟨.ret, ⟨[(0, 2, (.v .bool))], [], [], 0⟩⟩, ⟨.exit 0, ⟨[], [], [], 0⟩⟩]
def tube_May_l0 (k : Nat) : Nat → Mask.den tube_May_l0_i → Option (denS tube_May_l0_o)
 | 0, _ => none
 | m + 1, x =>
  bif (decide (x.1.2.2.2.1 < x.1.2.2.1)) then
   if 0 ≤ x.1.2.2.2.1 then (x.1.2.1[Int.toNat x.1.2.2.2.1]?).bind fun y3 =>
    (tube_finite k y3.1).bind fun r4 =>
    bif (!r4.1) then
     some (Sum.inl ((false, ()), ()))
    else
     (num_Cmp k y3.1 x.2.1).bind fun r5 =>
     bif (decide (r5.1 ≤ 0)) then
      some (Sum.inl ((false, ()), ()))
     else
      (iv_May k y3.2.1).bind fun r6 =>
      bif (!r6.1) then
       some (Sum.inl ((false, ()), ()))
      else
       (iv_May k y3.2.2).bind fun r7 =>
       bif (!r7.1) then
        some (Sum.inl ((false, ()), ()))
       else
        tube_May_l0 k m (((), x.1.2.1, x.1.2.2.1, (IntKind.i64.wrap (x.1.2.2.2.1 + 1)), ()), (y3.1, ()))
   else none
  else
   some (Sum.inr (Sum.inl ((), ())))
abbrev tube_May_l0_seg (k : Nat) : Seg := ⟨⟨0, 57, false, [], []⟩, 6, [.b, .s2, .s1, .s2, .s2, .s2], tube_May_l0_i, tube_May_l0_o, tube_May_l0 k k⟩
theorem tube_May_l0_seg.ok (k : Nat) : SegOK Try.prog (e16 k) (tube_May_l0_seg k) :=
 SegOK.loop (e16.ok k) (by kernel_rfl) (S := tube_May_l0_seg k) (c := atR (codeOf (e16 k) 6) [.l, .b, .s2, .s1, .s2, .s2, .s2]) (by kernel_rfl) (tube_May_l0 k) k rfl (fun _ => rfl) 8 .n trivial (fun k' x => by kernel_rfl)
def tube_May (k : Nat) (x0 : Ty.den T28) : Option (HL [.bool]) :=
 (tube_finite k x0.1).bind fun r1 =>
 bif (!r1.1) then
  some (false, ())
 else
  (iv_May k x0.2.1).bind fun r2 =>
  bif (!r2.1) then
   some (false, ())
  else
   bif (decide ((x0.2.2.length : Int) > 64)) then
    some (false, ())
   else
    (tube_May_l0 k k (((), x0.2.2, (x0.2.2.length : Int), 0, ()), (x0.1, ()))).bind fun q8 =>
    Sum.elim (fun z9 =>
      some (z9.1.1, ()))
     (fun q8' =>
      Sum.elim (fun z10 =>
        some (true, ()))
       (fun q8'' =>
        none) q8') q8
theorem tube_May.ok (k : Nat) : SpecOK Try.prog G0 6 ⟨[T28], [.bool], fun x => tube_May k x.1⟩ :=
 evF_sound (E := (e16 k)) (fn := Try.f6) (e16.ok k) (by kernel_rfl) (by kernel_rfl) (by kernel_rfl) 8 (.two .n (.two .n (.two .n (.two (.two .n (.two (.use (tube_May_l0_seg k)) .n)) .n)))) ⟨trivial, ⟨trivial, ⟨trivial, ⟨⟨trivial, ⟨(tube_May_l0_seg.ok k), trivial⟩⟩, trivial⟩⟩⟩⟩ (fun xs => by kernel_rfl)
def e17 (k : Nat) : Env := (e16 k).add 6 ⟨[T28], [.bool], fun x => tube_May k x.1⟩
theorem e17.ok (k : Nat) : (e17 k).OK Try.prog := (e16.ok k).add (tube_May.ok k)
abbrev iv_ends_l0_i : Mask := ⟨[(0, 2, (.k (.arr 21 0))), (0, 3, (.k (.arr 26 0))), (0, 4, (.v .bool)), (0, 7, (.v T32)), (0, 8, (.v (.int .i64))), (0, 9, (.v (.int .i64)))], [(21, .arr 24 T23), (26, .arr 24 T23)], [], 0⟩
abbrev iv_ends_l0_o : List Out := [⟨.exit 0, ⟨[(0, 2, (.k (.arr 21 0))), (0, 3, (.k (.arr 26 0))), (0, 4, (.v .bool))], [(21, .arr 24 T23), (26, .arr 24 T23)], [], 0⟩⟩]
def iv_ends_l0 (k : Nat) : Nat → Mask.den iv_ends_l0_i → Option (denS iv_ends_l0_o)
 | 0, _ => none
 | m + 1, x =>
  bif (decide (x.1.2.2.2.2.2.1 < x.1.2.2.2.2.1)) then
   if 0 ≤ x.1.2.2.2.2.2.1 then (x.1.2.2.2.1[Int.toNat x.1.2.2.2.2.2.1]?).bind fun y5 =>
    (iv_fair k y5).bind fun r6 =>
    bif r6.1.1 then
     iv_ends_l0 k m (((), (), false, x.1.2.2.2.1, x.1.2.2.2.2.1, (IntKind.i64.wrap (x.1.2.2.2.2.2.1 + 1)), ()), (x.2.1, x.2.2.1, ()))
    else
     if (x.2.1.length + [r6.1.2.1].length) * 32 ≤ 140737488355328 then
      if (x.2.2.1.length + [r6.1.2.2].length) * 32 ≤ 140737488355328 then
       iv_ends_l0 k m (((), (), x.1.2.2.1, x.1.2.2.2.1, x.1.2.2.2.2.1, (IntKind.i64.wrap (x.1.2.2.2.2.2.1 + 1)), ()), ((x.2.1 ++ [r6.1.2.1]), (x.2.2.1 ++ [r6.1.2.2]), ()))
      else none
     else none
   else none
  else
   some (Sum.inl (((), (), x.1.2.2.1, ()), (x.2.1, x.2.2.1, ())))
abbrev iv_ends_l0_seg (k : Nat) : Seg := ⟨⟨0, 31, false, [], []⟩, 20, [.b, .s2, .s1, .s2, .s2], iv_ends_l0_i, iv_ends_l0_o, iv_ends_l0 k k⟩
theorem iv_ends_l0_seg.ok (k : Nat) : SegOK Try.prog (e17 k) (iv_ends_l0_seg k) :=
 SegOK.loop (e17.ok k) (by kernel_rfl) (S := iv_ends_l0_seg k) (c := atR (codeOf (e17 k) 20) [.l, .b, .s2, .s1, .s2, .s2]) (by kernel_rfl) (iv_ends_l0 k) k rfl (fun _ => rfl) 8 .n trivial (fun k' x => by kernel_rfl)
def iv_ends (k : Nat) (x0 : Ty.den T32) : Option (HL [T45, T45, .bool]) :=
 (iv_ends_l0 k k (((), (), true, x0, (x0.length : Int), 0, ()), ([], [], ()))).bind fun q7 =>
 Sum.elim (fun z8 =>
   some (z8.2.1, z8.2.2.1, z8.1.2.2.1, ()))
  (fun q7' =>
   none) q7
theorem iv_ends.ok (k : Nat) : SpecOK Try.prog G0 20 ⟨[T32], [T45, T45, .bool], fun x => iv_ends k x.1⟩ :=
 evF_sound (E := (e17 k)) (fn := Try.f20) (e17.ok k) (by kernel_rfl) (by kernel_rfl) (by kernel_rfl) 8 (.two .n (.two .n (.two (.two .n (.two (.use (iv_ends_l0_seg k)) .n)) .n))) ⟨trivial, ⟨trivial, ⟨⟨trivial, ⟨(iv_ends_l0_seg.ok k), trivial⟩⟩, trivial⟩⟩⟩ (fun xs => by kernel_rfl)
def e18 (k : Nat) : Env := (e17 k).add 20 ⟨[T32], [T45, T45, .bool], fun x => iv_ends k x.1⟩
theorem e18.ok (k : Nat) : (e18 k).OK Try.prog := (e17.ok k).add (iv_ends.ok k)
abbrev num_Most_l0_i : Mask := ⟨[(0, 2, (.k (.ptr 2 0 0))), (0, 3, (.k (.ptr 3 0 0))), (0, 7, (.v T45)), (0, 8, (.v (.int .i64))), (0, 9, (.v (.int .i64)))], [(2, .cells (.v T23)), (3, .cells (.v T23))], [], 0⟩
abbrev num_Most_l0_o : List Out := [⟨.exit 0, ⟨[(0, 2, (.k (.ptr 2 0 0))), (0, 3, (.k (.ptr 3 0 0)))], [(2, .cells (.v T23)), (3, .cells (.v T23))], [], 0⟩⟩]
def num_Most_l0 (k : Nat) : Nat → Mask.den num_Most_l0_i → Option (denS num_Most_l0_o)
 | 0, _ => none
 | m + 1, x =>
  bif (decide (x.1.2.2.2.2.1 < x.1.2.2.2.1)) then
   if 0 ≤ x.1.2.2.2.2.1 then (x.1.2.2.1[Int.toNat x.1.2.2.2.2.1]?).bind fun y2 =>
    (num_Cmp k y2 x.2.2.1).bind fun r3 =>
    bif (decide (r3.1 > 0)) then
     (num_fair k y2).bind fun r4 =>
     num_Most_l0 k m (((), (), x.1.2.2.1, x.1.2.2.2.1, (IntKind.i64.wrap (x.1.2.2.2.2.1 + 1)), ()), (x.2.1, r4.1, ()))
    else
     num_Most_l0 k m (((), (), x.1.2.2.1, x.1.2.2.2.1, (IntKind.i64.wrap (x.1.2.2.2.2.1 + 1)), ()), (x.2.1, x.2.2.1, ()))
   else none
  else
   some (Sum.inl (((), (), ()), (x.2.1, x.2.2.1, ())))
abbrev num_Most_l0_seg (k : Nat) : Seg := ⟨⟨0, 21, false, [], []⟩, 22, [.b, .s2, .s1, .s2, .s2], num_Most_l0_i, num_Most_l0_o, num_Most_l0 k k⟩
theorem num_Most_l0_seg.ok (k : Nat) : SegOK Try.prog (e18 k) (num_Most_l0_seg k) :=
 SegOK.loop (e18.ok k) (by kernel_rfl) (S := num_Most_l0_seg k) (c := atR (codeOf (e18 k) 22) [.l, .b, .s2, .s1, .s2, .s2]) (by kernel_rfl) (num_Most_l0 k) k rfl (fun _ => rfl) 8 .n trivial (fun k' x => by kernel_rfl)
def num_Most (k : Nat) (x0 : Ty.den T45) : Option (HL [T23]) :=
 (num_Infinite k true).bind fun r1 =>
 (num_Most_l0 k k (((), (), x0, (x0.length : Int), 0, ()), ((0, false, 0, 0), r1.1, ()))).bind fun q5 =>
 Sum.elim (fun z6 =>
   some (z6.2.2.1, ()))
  (fun q5' =>
   none) q5
theorem num_Most.ok (k : Nat) : SpecOK Try.prog G0 22 ⟨[T45], [T23], fun x => num_Most k x.1⟩ :=
 evF_sound (E := (e18 k)) (fn := Try.f22) (e18.ok k) (by kernel_rfl) (by kernel_rfl) (by kernel_rfl) 8 (.two .n (.two .n (.two (.two .n (.two (.use (num_Most_l0_seg k)) .n)) .n))) ⟨trivial, ⟨trivial, ⟨⟨trivial, ⟨(num_Most_l0_seg.ok k), trivial⟩⟩, trivial⟩⟩⟩ (fun xs => by kernel_rfl)
def e19 (k : Nat) : Env := (e18 k).add 22 ⟨[T45], [T23], fun x => num_Most k x.1⟩
theorem e19.ok (k : Nat) : (e19 k).OK Try.prog := (e18.ok k).add (num_Most.ok k)
abbrev num_Least_l0_i : Mask := ⟨[(0, 2, (.k (.ptr 2 0 0))), (0, 3, (.k (.ptr 3 0 0))), (0, 7, (.v T45)), (0, 8, (.v (.int .i64))), (0, 9, (.v (.int .i64)))], [(2, .cells (.v T23)), (3, .cells (.v T23))], [], 0⟩
abbrev num_Least_l0_o : List Out := [⟨.exit 0, ⟨[(0, 2, (.k (.ptr 2 0 0))), (0, 3, (.k (.ptr 3 0 0)))], [(2, .cells (.v T23)), (3, .cells (.v T23))], [], 0⟩⟩]
def num_Least_l0 (k : Nat) : Nat → Mask.den num_Least_l0_i → Option (denS num_Least_l0_o)
 | 0, _ => none
 | m + 1, x =>
  bif (decide (x.1.2.2.2.2.1 < x.1.2.2.2.1)) then
   if 0 ≤ x.1.2.2.2.2.1 then (x.1.2.2.1[Int.toNat x.1.2.2.2.2.1]?).bind fun y2 =>
    (num_Cmp k y2 x.2.2.1).bind fun r3 =>
    bif (decide (r3.1 < 0)) then
     (num_fair k y2).bind fun r4 =>
     num_Least_l0 k m (((), (), x.1.2.2.1, x.1.2.2.2.1, (IntKind.i64.wrap (x.1.2.2.2.2.1 + 1)), ()), (x.2.1, r4.1, ()))
    else
     num_Least_l0 k m (((), (), x.1.2.2.1, x.1.2.2.2.1, (IntKind.i64.wrap (x.1.2.2.2.2.1 + 1)), ()), (x.2.1, x.2.2.1, ()))
   else none
  else
   some (Sum.inl (((), (), ()), (x.2.1, x.2.2.1, ())))
abbrev num_Least_l0_seg (k : Nat) : Seg := ⟨⟨0, 21, false, [], []⟩, 23, [.b, .s2, .s1, .s2, .s2], num_Least_l0_i, num_Least_l0_o, num_Least_l0 k k⟩
theorem num_Least_l0_seg.ok (k : Nat) : SegOK Try.prog (e19 k) (num_Least_l0_seg k) :=
 SegOK.loop (e19.ok k) (by kernel_rfl) (S := num_Least_l0_seg k) (c := atR (codeOf (e19 k) 23) [.l, .b, .s2, .s1, .s2, .s2]) (by kernel_rfl) (num_Least_l0 k) k rfl (fun _ => rfl) 8 .n trivial (fun k' x => by kernel_rfl)
def num_Least (k : Nat) (x0 : Ty.den T45) : Option (HL [T23]) :=
 (num_Infinite k false).bind fun r1 =>
 (num_Least_l0 k k (((), (), x0, (x0.length : Int), 0, ()), ((0, false, 0, 0), r1.1, ()))).bind fun q5 =>
 Sum.elim (fun z6 =>
   some (z6.2.2.1, ()))
  (fun q5' =>
   none) q5
theorem num_Least.ok (k : Nat) : SpecOK Try.prog G0 23 ⟨[T45], [T23], fun x => num_Least k x.1⟩ :=
 evF_sound (E := (e19 k)) (fn := Try.f23) (e19.ok k) (by kernel_rfl) (by kernel_rfl) (by kernel_rfl) 8 (.two .n (.two .n (.two (.two .n (.two (.use (num_Least_l0_seg k)) .n)) .n))) ⟨trivial, ⟨trivial, ⟨⟨trivial, ⟨(num_Least_l0_seg.ok k), trivial⟩⟩, trivial⟩⟩⟩ (fun xs => by kernel_rfl)
def e20 (k : Nat) : Env := (e19 k).add 23 ⟨[T45], [T23], fun x => num_Least k x.1⟩
theorem e20.ok (k : Nat) : (e20 k).OK Try.prog := (e19.ok k).add (num_Least.ok k)
def iv_Meet (k : Nat) (x0 : Ty.den T32) : Option (HL [T25]) :=
 (iv_ends k x0).bind fun r1 =>
 bif (!r1.2.2.1) then
  (iv_None k).bind fun r2 =>
  some (r2.1, ())
 else
  (num_Most k r1.1).bind fun r3 =>
  (num_Least k r1.2.1).bind fun r4 =>
  (iv_Make k r3.1 r4.1).bind fun r5 =>
  some (r5.1, ())
theorem iv_Meet.ok (k : Nat) : SpecOK Try.prog G0 8 ⟨[T32], [T25], fun x => iv_Meet k x.1⟩ :=
 evF_sound (E := (e20 k)) (fn := Try.f8) (e20.ok k) (by kernel_rfl) (by kernel_rfl) (by kernel_rfl) 8 .n trivial (fun xs => by kernel_rfl)
def e21 (k : Nat) : Env := (e20 k).add 8 ⟨[T32], [T25], fun x => iv_Meet k x.1⟩
theorem e21.ok (k : Nat) : (e21 k).OK Try.prog := (e20.ok k).add (iv_Meet.ok k)
abbrev tube_void_l0_i : Mask := ⟨[(0, 1, (.k (.ptr 1 0 0))), (0, 2, (.k (.ptr 2 0 0))), (0, 3, (.k (.ptr 3 0 0))), (0, 14, (.v (.int .i64))), (0, 15, (.v (.int .i64)))], [(1, .cells (.pr (.v T23) (.pr (.v T25) (.k (.arr 10 0))))), (2, .cells (.pr (.v T23) (.pr (.v T25) (.v T27)))), (3, .cells (.v T25)), (10, .arr 36 T35)], [], 0⟩
abbrev tube_void_l0_o : List Out := [⟨.exit 0, ⟨[(0, 1, (.k (.ptr 1 0 0))), (0, 2, (.k (.ptr 2 0 0)))], [(1, .cells (.pr (.v T23) (.pr (.v T25) (.k (.arr 10 0))))), (2, .cells (.pr (.v T23) (.pr (.v T25) (.v T27)))), (10, .arr 36 T35)], [], 0⟩⟩]
def tube_void_l0 (k : Nat) : Nat → Mask.den tube_void_l0_i → Option (denS tube_void_l0_o)
 | 0, _ => none
 | m + 1, x =>
  bif (decide (x.1.2.2.2.2.1 < x.1.2.2.2.1)) then
   if 0 ≤ x.1.2.2.2.2.1 then (x.2.2.2.2.1[Int.toNat x.1.2.2.2.2.1]?).bind fun _ =>
    (x.2.2.2.2.1[(Int.toNat x.1.2.2.2.2.1)]?).bind fun y3 =>
    if 0 ≤ x.1.2.2.2.2.1 then ((x.2.2.2.2.1.set (Int.toNat x.1.2.2.2.2.1) (y3.1, x.2.2.2.1, y3.2.2))[Int.toNat x.1.2.2.2.2.1]?).bind fun _ =>
     ((x.2.2.2.2.1.set (Int.toNat x.1.2.2.2.2.1) (y3.1, x.2.2.2.1, y3.2.2))[(Int.toNat x.1.2.2.2.2.1)]?).bind fun y5 =>
     tube_void_l0 k m (((), (), (), x.1.2.2.2.1, (IntKind.i64.wrap (x.1.2.2.2.2.1 + 1)), ()), ((x.2.1.1, (x.2.1.2.1, ())), (x.2.2.1.1, (x.2.2.1.2.1, x.2.2.1.2.2)), x.2.2.2.1, ((x.2.2.2.2.1.set (Int.toNat x.1.2.2.2.2.1) (y3.1, x.2.2.2.1, y3.2.2)).set (Int.toNat x.1.2.2.2.2.1) (y5.1, y5.2.1, x.2.2.2.1)), ()))
    else none
   else none
  else
   some (Sum.inl (((), (), ()), ((x.2.1.1, (x.2.1.2.1, ())), (x.2.2.1.1, (x.2.2.1.2.1, x.2.2.1.2.2)), x.2.2.2.2.1, ())))
abbrev tube_void_l0_seg (k : Nat) : Seg := ⟨⟨0, 32, false, [], []⟩, 48, [.b, .s2, .s1, .s2, .s2, .s2, .s2], tube_void_l0_i, tube_void_l0_o, tube_void_l0 k k⟩
theorem tube_void_l0_seg.ok (k : Nat) : SegOK Try.prog (e21 k) (tube_void_l0_seg k) :=
 SegOK.loop (e21.ok k) (by kernel_rfl) (S := tube_void_l0_seg k) (c := atR (codeOf (e21 k) 48) [.l, .b, .s2, .s1, .s2, .s2, .s2, .s2]) (by kernel_rfl) (tube_void_l0 k) k rfl (fun _ => rfl) 8 .n trivial (fun k' x => by kernel_rfl)
def tube_void (k : Nat) (x0 : Ty.den T28) : Option (HL [T28]) :=
 (iv_None k).bind fun r1 =>
 if x0.2.2.length * 176 ≤ 140737488355328 then
  (tube_void_l0 k k (((), (), (), (x0.2.2.length : Int), 0, ()), ((x0.1, (r1.1, ())), ((0, false, 0, 0), ((false, (0, false, 0, 0), 0, false, 0, 0), [])), r1.1, x0.2.2, ()))).bind fun q6 =>
  Sum.elim (fun z7 =>
    some ((z7.2.1.1, z7.2.1.2.1, z7.2.2.2.1), ()))
   (fun q6' =>
    none) q6
 else none
theorem tube_void.ok (k : Nat) : SpecOK Try.prog G0 48 ⟨[T28], [T28], fun x => tube_void k x.1⟩ :=
 evF_sound (E := (e21 k)) (fn := Try.f48) (e21.ok k) (by kernel_rfl) (by kernel_rfl) (by kernel_rfl) 8 (.two .n (.two .n (.two .n (.two .n (.two (.two .n (.two (.use (tube_void_l0_seg k)) .n)) .n))))) ⟨trivial, ⟨trivial, ⟨trivial, ⟨trivial, ⟨⟨trivial, ⟨(tube_void_l0_seg.ok k), trivial⟩⟩, trivial⟩⟩⟩⟩⟩ (fun xs => by kernel_rfl)
def e22 (k : Nat) : Env := (e21 k).add 48 ⟨[T28], [T28], fun x => tube_void k x.1⟩
theorem e22.ok (k : Nat) : (e22 k).OK Try.prog := (e21.ok k).add (tube_void.ok k)
abbrev ivop_none_l0_i : Mask := ⟨[(0, 5, (.v T32)), (0, 6, (.v (.int .i64))), (0, 7, (.v (.int .i64)))], [], [], 0⟩
abbrev ivop_none_l0_o : List Out := [⟨.ret, ⟨[(0, 2, (.v .bool))], [], [], 0⟩⟩, ⟨.exit 0, ⟨[], [], [], 0⟩⟩]
def ivop_none_l0 (k : Nat) : Nat → Mask.den ivop_none_l0_i → Option (denS ivop_none_l0_o)
 | 0, _ => none
 | m + 1, x =>
  bif (decide (x.1.2.2.1 < x.1.2.1)) then
   if 0 ≤ x.1.2.2.1 then (x.1.1[Int.toNat x.1.2.2.1]?).bind fun y1 =>
    bif y1.1 then
     some (Sum.inl ((true, ()), ()))
    else
     (iv_May k y1).bind fun r2 =>
     bif (!r2.1) then
      some (Sum.inl ((true, ()), ()))
     else
      ivop_none_l0 k m ((x.1.1, x.1.2.1, (IntKind.i64.wrap (x.1.2.2.1 + 1)), ()), ())
   else none
  else
   some (Sum.inr (Sum.inl ((), ())))
abbrev ivop_none_l0_seg (k : Nat) : Seg := ⟨⟨0, 19, false, [], []⟩, 52, [.b, .s2, .s1, .s2], ivop_none_l0_i, ivop_none_l0_o, ivop_none_l0 k k⟩
theorem ivop_none_l0_seg.ok (k : Nat) : SegOK Try.prog (e22 k) (ivop_none_l0_seg k) :=
 SegOK.loop (e22.ok k) (by kernel_rfl) (S := ivop_none_l0_seg k) (c := atR (codeOf (e22 k) 52) [.l, .b, .s2, .s1, .s2]) (by kernel_rfl) (ivop_none_l0 k) k rfl (fun _ => rfl) 8 .n trivial (fun k' x => by kernel_rfl)
def ivop_none (k : Nat) (x0 : Ty.den T32) : Option (HL [.bool]) :=
 (ivop_none_l0 k k ((x0, (x0.length : Int), 0, ()), ())).bind fun q3 =>
 Sum.elim (fun z4 =>
   some (z4.1.1, ()))
  (fun q3' =>
   Sum.elim (fun z5 =>
     some (false, ()))
    (fun q3'' =>
     none) q3') q3
theorem ivop_none.ok (k : Nat) : SpecOK Try.prog G0 52 ⟨[T32], [.bool], fun x => ivop_none k x.1⟩ :=
 evF_sound (E := (e22 k)) (fn := Try.f52) (e22.ok k) (by kernel_rfl) (by kernel_rfl) (by kernel_rfl) 8 (.two .n (.two (.two .n (.two (.use (ivop_none_l0_seg k)) .n)) .n)) ⟨trivial, ⟨⟨trivial, ⟨(ivop_none_l0_seg.ok k), trivial⟩⟩, trivial⟩⟩ (fun xs => by kernel_rfl)
def e23 (k : Nat) : Env := (e22 k).add 52 ⟨[T32], [.bool], fun x => ivop_none k x.1⟩
theorem e23.ok (k : Nat) : (e23 k).OK Try.prog := (e22.ok k).add (ivop_none.ok k)
def arith_fair (k : Nat) (x0 : Ty.den T23) : Option (HL [T23]) :=
 (num_May k x0).bind fun r1 =>
 bif (!r1.1) then
  some ((0, false, 0, 0), ())
 else
  some (x0, ())
theorem arith_fair.ok (k : Nat) : SpecOK Try.prog G0 65 ⟨[T23], [T23], fun x => arith_fair k x.1⟩ :=
 evF_sound (E := (e23 k)) (fn := Try.f65) (e23.ok k) (by kernel_rfl) (by kernel_rfl) (by kernel_rfl) 8 .n trivial (fun xs => by kernel_rfl)
def e24 (k : Nat) : Env := (e23 k).add 65 ⟨[T23], [T23], fun x => arith_fair k x.1⟩
theorem e24.ok (k : Nat) : (e24 k).OK Try.prog := (e23.ok k).add (arith_fair.ok k)
def num_huge (k : Nat) (x0 : Ty.den .bool) : Option (HL [T23]) :=
 some ((1, x0, 18446744073709551615, 1048576), ())
theorem num_huge.ok (k : Nat) : SpecOK Try.prog G0 75 ⟨[.bool], [T23], fun x => num_huge k x.1⟩ :=
 evF_sound (E := (e24 k)) (fn := Try.f75) (e24.ok k) (by kernel_rfl) (by kernel_rfl) (by kernel_rfl) 8 .n trivial (fun xs => by kernel_rfl)
def e25 (k : Nat) : Env := (e24 k).add 75 ⟨[.bool], [T23], fun x => num_huge k x.1⟩
theorem e25.ok (k : Nat) : (e25 k).OK Try.prog := (e24.ok k).add (num_huge.ok k)
def num_tiny (k : Nat) (x0 : Ty.den .bool) : Option (HL [T23]) :=
 some ((1, x0, 9223372036854775808, (-1048576)), ())
theorem num_tiny.ok (k : Nat) : SpecOK Try.prog G0 76 ⟨[.bool], [T23], fun x => num_tiny k x.1⟩ :=
 evF_sound (E := (e25 k)) (fn := Try.f76) (e25.ok k) (by kernel_rfl) (by kernel_rfl) (by kernel_rfl) 8 .n trivial (fun xs => by kernel_rfl)
def e26 (k : Nat) : Env := (e25 k).add 76 ⟨[.bool], [T23], fun x => num_tiny k x.1⟩
theorem e26.ok (k : Nat) : (e26 k).OK Try.prog := (e25.ok k).add (num_tiny.ok k)
def num_Bound (k : Nat) (x0 : Ty.den .bool) (x1 : Ty.den (.int .u64)) (x2 : Ty.den (.int .i64)) (x3 : Ty.den .bool) : Option (HL [T23]) :=
 bif (decide (x2 > 1048576)) then
  bif x3 then
   (num_Infinite k x0).bind fun r1 =>
   some (r1.1, ())
  else
   bif (decide (x2 > 1048576)) then
    (num_huge k x0).bind fun r2 =>
    some (r2.1, ())
   else
    bif (decide (x2 < (-1048576))) then
     bif x3 then
      (num_tiny k x0).bind fun r3 =>
      some (r3.1, ())
     else
      bif (decide (x2 < (-1048576))) then
       some ((0, false, 0, 0), ())
      else
       some ((1, x0, x1, x2), ())
    else
     bif (decide (x2 < (-1048576))) then
      some ((0, false, 0, 0), ())
     else
      some ((1, x0, x1, x2), ())
 else
  bif (decide (x2 > 1048576)) then
   (num_huge k x0).bind fun r4 =>
   some (r4.1, ())
  else
   bif (decide (x2 < (-1048576))) then
    bif x3 then
     (num_tiny k x0).bind fun r5 =>
     some (r5.1, ())
    else
     bif (decide (x2 < (-1048576))) then
      some ((0, false, 0, 0), ())
     else
      some ((1, x0, x1, x2), ())
   else
    bif (decide (x2 < (-1048576))) then
     some ((0, false, 0, 0), ())
    else
     some ((1, x0, x1, x2), ())
theorem num_Bound.ok (k : Nat) : SpecOK Try.prog G0 74 ⟨[.bool, (.int .u64), (.int .i64), .bool], [T23], fun x => num_Bound k x.1 x.2.1 x.2.2.1 x.2.2.2.1⟩ :=
 evF_sound (E := (e26 k)) (fn := Try.f74) (e26.ok k) (by kernel_rfl) (by kernel_rfl) (by kernel_rfl) 8 .n trivial (fun xs => by kernel_rfl)
def e27 (k : Nat) : Env := (e26 k).add 74 ⟨[.bool, (.int .u64), (.int .i64), .bool], [T23], fun x => num_Bound k x.1 x.2.1 x.2.2.1 x.2.2.2.1⟩
theorem e27.ok (k : Nat) : (e27 k).OK Try.prog := (e26.ok k).add (num_Bound.ok k)
def num_Grow (k : Nat) (x0 : Ty.den .bool) (x1 : Ty.den (.int .u64)) (x2 : Ty.den (.int .i64)) (x3 : Ty.den .bool) (x4 : Ty.den .bool) : Option (HL [T23]) :=
 bif x3 then
  bif x4 then
   bif ((IntKind.u64.wrap (x1 + 1)) == 0) then
    (num_Bound k x0 9223372036854775808 (IntKind.i64.wrap (x2 + 1)) x4).bind fun r1 =>
    some (r1.1, ())
   else
    (num_Bound k x0 (IntKind.u64.wrap (x1 + 1)) x2 x4).bind fun r2 =>
    some (r2.1, ())
  else
   (num_Bound k x0 x1 x2 x4).bind fun r3 =>
   some (r3.1, ())
 else
  (num_Bound k x0 x1 x2 x4).bind fun r4 =>
  some (r4.1, ())
theorem num_Grow.ok (k : Nat) : SpecOK Try.prog G0 70 ⟨[.bool, (.int .u64), (.int .i64), .bool, .bool], [T23], fun x => num_Grow k x.1 x.2.1 x.2.2.1 x.2.2.2.1 x.2.2.2.2.1⟩ :=
 evF_sound (E := (e27 k)) (fn := Try.f70) (e27.ok k) (by kernel_rfl) (by kernel_rfl) (by kernel_rfl) 8 .n trivial (fun xs => by kernel_rfl)
def e28 (k : Nat) : Env := (e27 k).add 70 ⟨[.bool, (.int .u64), (.int .i64), .bool, .bool], [T23], fun x => num_Grow k x.1 x.2.1 x.2.2.1 x.2.2.2.1 x.2.2.2.2.1⟩
theorem e28.ok (k : Nat) : (e28 k).OK Try.prog := (e27.ok k).add (num_Grow.ok k)
def arith_lower (k : Nat) (x0 : Ty.den (.int .u64)) (x1 : Ty.den (.int .i64)) : Option (HL [T97]) :=
 bif (decide (x1 < 64)) then
  if x1 < 0 then none else
  if (IntKind.i64.wrap (64 - x1)) < 0 then none else
  some (((Int.fdiv x0 (2 ^ min (Int.toNat x1) IntKind.u64.bits)), (IntKind.u64.wrap (x0 * 2 ^ min (Int.toNat (IntKind.i64.wrap (64 - x1))) IntKind.u64.bits)), false), ())
 else
  bif (decide (x1 < 128)) then
   if (IntKind.i64.wrap (x1 - 64)) < 0 then none else
   if (IntKind.i64.wrap (64 - (IntKind.i64.wrap (x1 - 64)))) < 0 then none else
   some ((0, (Int.fdiv x0 (2 ^ min (Int.toNat (IntKind.i64.wrap (x1 - 64))) IntKind.u64.bits)), ((IntKind.u64.wrap (x0 * 2 ^ min (Int.toNat (IntKind.i64.wrap (64 - (IntKind.i64.wrap (x1 - 64))))) IntKind.u64.bits)) != 0)), ())
  else
   some ((0, 0, true), ())
theorem arith_lower.ok (k : Nat) : SpecOK Try.prog G0 71 ⟨[(.int .u64), (.int .i64)], [T97], fun x => arith_lower k x.1 x.2.1⟩ :=
 evF_sound (E := (e28 k)) (fn := Try.f71) (e28.ok k) (by kernel_rfl) (by kernel_rfl) (by kernel_rfl) 8 .n trivial (fun xs => by kernel_rfl)
def e29 (k : Nat) : Env := (e28 k).add 71 ⟨[(.int .u64), (.int .i64)], [T97], fun x => arith_lower k x.1 x.2.1⟩
theorem e29.ok (k : Nat) : (e29 k).OK Try.prog := (e28.ok k).add (arith_lower.ok k)
def arith_plus (k : Nat) (x0 : Ty.den T23) (x1 : Ty.den T23) (x2 : Ty.den .bool) : Option (HL [T23]) :=
 (arith_lower k x1.2.2.1 (IntKind.i64.wrap (x0.2.2.2 - x1.2.2.2))).bind fun r1 =>
 (add64F (x0.2.2.1, r1.1.1, 0, ())).bind fun r2 =>
 bif r1.1.2.2 then
  bif (r2.2.1 != 0) then
   (num_Grow k x0.2.1 (IntKind.u64.wrap (BitVec.toNat (BitVec.ofInt IntKind.u64.bits (Int.fdiv r2.1 (2 ^ min (Int.toNat 1) IntKind.u64.bits)) ||| BitVec.ofInt IntKind.u64.bits 9223372036854775808))) (IntKind.i64.wrap (x0.2.2.2 + 1)) true (!(x2 == x0.2.1))).bind fun r3 =>
   some (r3.1, ())
  else
   (num_Grow k x0.2.1 r2.1 x0.2.2.2 true (!(x2 == x0.2.1))).bind fun r4 =>
   some (r4.1, ())
 else
  bif (r2.2.1 != 0) then
   bif (r1.1.2.1 != 0) then
    (num_Grow k x0.2.1 (IntKind.u64.wrap (BitVec.toNat (BitVec.ofInt IntKind.u64.bits (Int.fdiv r2.1 (2 ^ min (Int.toNat 1) IntKind.u64.bits)) ||| BitVec.ofInt IntKind.u64.bits 9223372036854775808))) (IntKind.i64.wrap (x0.2.2.2 + 1)) true (!(x2 == x0.2.1))).bind fun r5 =>
    some (r5.1, ())
   else
    (num_Grow k x0.2.1 (IntKind.u64.wrap (BitVec.toNat (BitVec.ofInt IntKind.u64.bits (Int.fdiv r2.1 (2 ^ min (Int.toNat 1) IntKind.u64.bits)) ||| BitVec.ofInt IntKind.u64.bits 9223372036854775808))) (IntKind.i64.wrap (x0.2.2.2 + 1)) ((IntKind.u64.wrap (BitVec.toNat (BitVec.ofInt IntKind.u64.bits r2.1 &&& BitVec.ofInt IntKind.u64.bits 1))) != 0) (!(x2 == x0.2.1))).bind fun r6 =>
    some (r6.1, ())
  else
   (num_Grow k x0.2.1 r2.1 x0.2.2.2 (r1.1.2.1 != 0) (!(x2 == x0.2.1))).bind fun r7 =>
   some (r7.1, ())
theorem arith_plus.ok (k : Nat) : SpecOK Try.prog G0 66 ⟨[T23, T23, .bool], [T23], fun x => arith_plus k x.1 x.2.1 x.2.2.1⟩ :=
 evF_sound (E := (e29 k)) (fn := Try.f66) (e29.ok k) (by kernel_rfl) (by kernel_rfl) (by kernel_rfl) 8 .n trivial (fun xs => by kernel_rfl)
def e30 (k : Nat) : Env := (e29 k).add 66 ⟨[T23, T23, .bool], [T23], fun x => arith_plus k x.1 x.2.1 x.2.2.1⟩
theorem e30.ok (k : Nat) : (e30 k).OK Try.prog := (e29.ok k).add (arith_plus.ok k)
def arith_minus (k : Nat) (x0 : Ty.den T23) (x1 : Ty.den T23) (x2 : Ty.den .bool) : Option (HL [T23]) :=
 (arith_lower k x1.2.2.1 (IntKind.i64.wrap (x0.2.2.2 - x1.2.2.2))).bind fun r1 =>
 bif r1.1.2.2 then
  (sub64F (0, r1.1.2.1, 1, ())).bind fun r2 =>
  (sub64F (x0.2.2.1, r1.1.1, r2.2.1, ())).bind fun r3 =>
  bif (r3.1 == 0) then
   (bits_LeadingZeros64 k r2.1).bind fun r4 =>
   bif (decide (r4.1 > 0)) then
    if r4.1 < 0 then none else
    if (IntKind.i64.wrap (64 - r4.1)) < 0 then none else
    if r4.1 < 0 then none else
    bif r1.1.2.2 then
     (num_Grow k x0.2.1 (IntKind.u64.wrap (BitVec.toNat (BitVec.ofInt IntKind.u64.bits (IntKind.u64.wrap (r2.1 * 2 ^ min (Int.toNat r4.1) IntKind.u64.bits)) ||| BitVec.ofInt IntKind.u64.bits (Int.fdiv 0 (2 ^ min (Int.toNat (IntKind.i64.wrap (64 - r4.1))) IntKind.u64.bits))))) (IntKind.i64.wrap ((IntKind.i64.wrap (x0.2.2.2 - 64)) - r4.1)) true (!(x2 == x0.2.1))).bind fun r5 =>
     some (r5.1, ())
    else
     (num_Grow k x0.2.1 (IntKind.u64.wrap (BitVec.toNat (BitVec.ofInt IntKind.u64.bits (IntKind.u64.wrap (r2.1 * 2 ^ min (Int.toNat r4.1) IntKind.u64.bits)) ||| BitVec.ofInt IntKind.u64.bits (Int.fdiv 0 (2 ^ min (Int.toNat (IntKind.i64.wrap (64 - r4.1))) IntKind.u64.bits))))) (IntKind.i64.wrap ((IntKind.i64.wrap (x0.2.2.2 - 64)) - r4.1)) ((IntKind.u64.wrap (0 * 2 ^ min (Int.toNat r4.1) IntKind.u64.bits)) != 0) (!(x2 == x0.2.1))).bind fun r6 =>
     some (r6.1, ())
   else
    bif r1.1.2.2 then
     (num_Grow k x0.2.1 r2.1 (IntKind.i64.wrap (x0.2.2.2 - 64)) true (!(x2 == x0.2.1))).bind fun r7 =>
     some (r7.1, ())
    else
     (num_Grow k x0.2.1 r2.1 (IntKind.i64.wrap (x0.2.2.2 - 64)) false (!(x2 == x0.2.1))).bind fun r8 =>
     some (r8.1, ())
  else
   (bits_LeadingZeros64 k r3.1).bind fun r9 =>
   bif (decide (r9.1 > 0)) then
    if r9.1 < 0 then none else
    if (IntKind.i64.wrap (64 - r9.1)) < 0 then none else
    if r9.1 < 0 then none else
    bif r1.1.2.2 then
     (num_Grow k x0.2.1 (IntKind.u64.wrap (BitVec.toNat (BitVec.ofInt IntKind.u64.bits (IntKind.u64.wrap (r3.1 * 2 ^ min (Int.toNat r9.1) IntKind.u64.bits)) ||| BitVec.ofInt IntKind.u64.bits (Int.fdiv r2.1 (2 ^ min (Int.toNat (IntKind.i64.wrap (64 - r9.1))) IntKind.u64.bits))))) (IntKind.i64.wrap (x0.2.2.2 - r9.1)) true (!(x2 == x0.2.1))).bind fun r10 =>
     some (r10.1, ())
    else
     (num_Grow k x0.2.1 (IntKind.u64.wrap (BitVec.toNat (BitVec.ofInt IntKind.u64.bits (IntKind.u64.wrap (r3.1 * 2 ^ min (Int.toNat r9.1) IntKind.u64.bits)) ||| BitVec.ofInt IntKind.u64.bits (Int.fdiv r2.1 (2 ^ min (Int.toNat (IntKind.i64.wrap (64 - r9.1))) IntKind.u64.bits))))) (IntKind.i64.wrap (x0.2.2.2 - r9.1)) ((IntKind.u64.wrap (r2.1 * 2 ^ min (Int.toNat r9.1) IntKind.u64.bits)) != 0) (!(x2 == x0.2.1))).bind fun r11 =>
     some (r11.1, ())
   else
    bif r1.1.2.2 then
     (num_Grow k x0.2.1 r3.1 x0.2.2.2 true (!(x2 == x0.2.1))).bind fun r12 =>
     some (r12.1, ())
    else
     (num_Grow k x0.2.1 r3.1 x0.2.2.2 (r2.1 != 0) (!(x2 == x0.2.1))).bind fun r13 =>
     some (r13.1, ())
 else
  (sub64F (0, r1.1.2.1, 0, ())).bind fun r14 =>
  (sub64F (x0.2.2.1, r1.1.1, r14.2.1, ())).bind fun r15 =>
  bif (r15.1 == 0) then
   (bits_LeadingZeros64 k r14.1).bind fun r16 =>
   bif (decide (r16.1 > 0)) then
    if r16.1 < 0 then none else
    if (IntKind.i64.wrap (64 - r16.1)) < 0 then none else
    if r16.1 < 0 then none else
    bif r1.1.2.2 then
     (num_Grow k x0.2.1 (IntKind.u64.wrap (BitVec.toNat (BitVec.ofInt IntKind.u64.bits (IntKind.u64.wrap (r14.1 * 2 ^ min (Int.toNat r16.1) IntKind.u64.bits)) ||| BitVec.ofInt IntKind.u64.bits (Int.fdiv 0 (2 ^ min (Int.toNat (IntKind.i64.wrap (64 - r16.1))) IntKind.u64.bits))))) (IntKind.i64.wrap ((IntKind.i64.wrap (x0.2.2.2 - 64)) - r16.1)) true (!(x2 == x0.2.1))).bind fun r17 =>
     some (r17.1, ())
    else
     (num_Grow k x0.2.1 (IntKind.u64.wrap (BitVec.toNat (BitVec.ofInt IntKind.u64.bits (IntKind.u64.wrap (r14.1 * 2 ^ min (Int.toNat r16.1) IntKind.u64.bits)) ||| BitVec.ofInt IntKind.u64.bits (Int.fdiv 0 (2 ^ min (Int.toNat (IntKind.i64.wrap (64 - r16.1))) IntKind.u64.bits))))) (IntKind.i64.wrap ((IntKind.i64.wrap (x0.2.2.2 - 64)) - r16.1)) ((IntKind.u64.wrap (0 * 2 ^ min (Int.toNat r16.1) IntKind.u64.bits)) != 0) (!(x2 == x0.2.1))).bind fun r18 =>
     some (r18.1, ())
   else
    bif r1.1.2.2 then
     (num_Grow k x0.2.1 r14.1 (IntKind.i64.wrap (x0.2.2.2 - 64)) true (!(x2 == x0.2.1))).bind fun r19 =>
     some (r19.1, ())
    else
     (num_Grow k x0.2.1 r14.1 (IntKind.i64.wrap (x0.2.2.2 - 64)) false (!(x2 == x0.2.1))).bind fun r20 =>
     some (r20.1, ())
  else
   (bits_LeadingZeros64 k r15.1).bind fun r21 =>
   bif (decide (r21.1 > 0)) then
    if r21.1 < 0 then none else
    if (IntKind.i64.wrap (64 - r21.1)) < 0 then none else
    if r21.1 < 0 then none else
    bif r1.1.2.2 then
     (num_Grow k x0.2.1 (IntKind.u64.wrap (BitVec.toNat (BitVec.ofInt IntKind.u64.bits (IntKind.u64.wrap (r15.1 * 2 ^ min (Int.toNat r21.1) IntKind.u64.bits)) ||| BitVec.ofInt IntKind.u64.bits (Int.fdiv r14.1 (2 ^ min (Int.toNat (IntKind.i64.wrap (64 - r21.1))) IntKind.u64.bits))))) (IntKind.i64.wrap (x0.2.2.2 - r21.1)) true (!(x2 == x0.2.1))).bind fun r22 =>
     some (r22.1, ())
    else
     (num_Grow k x0.2.1 (IntKind.u64.wrap (BitVec.toNat (BitVec.ofInt IntKind.u64.bits (IntKind.u64.wrap (r15.1 * 2 ^ min (Int.toNat r21.1) IntKind.u64.bits)) ||| BitVec.ofInt IntKind.u64.bits (Int.fdiv r14.1 (2 ^ min (Int.toNat (IntKind.i64.wrap (64 - r21.1))) IntKind.u64.bits))))) (IntKind.i64.wrap (x0.2.2.2 - r21.1)) ((IntKind.u64.wrap (r14.1 * 2 ^ min (Int.toNat r21.1) IntKind.u64.bits)) != 0) (!(x2 == x0.2.1))).bind fun r23 =>
     some (r23.1, ())
   else
    bif r1.1.2.2 then
     (num_Grow k x0.2.1 r15.1 x0.2.2.2 true (!(x2 == x0.2.1))).bind fun r24 =>
     some (r24.1, ())
    else
     (num_Grow k x0.2.1 r15.1 x0.2.2.2 (r14.1 != 0) (!(x2 == x0.2.1))).bind fun r25 =>
     some (r25.1, ())
theorem arith_minus.ok (k : Nat) : SpecOK Try.prog G0 67 ⟨[T23, T23, .bool], [T23], fun x => arith_minus k x.1 x.2.1 x.2.2.1⟩ :=
 evF_sound (E := (e30 k)) (fn := Try.f67) (e30.ok k) (by kernel_rfl) (by kernel_rfl) (by kernel_rfl) 8 .n trivial (fun xs => by kernel_rfl)
def e31 (k : Nat) : Env := (e30 k).add 67 ⟨[T23, T23, .bool], [T23], fun x => arith_minus k x.1 x.2.1 x.2.2.1⟩
theorem e31.ok (k : Nat) : (e31 k).OK Try.prog := (e30.ok k).add (arith_minus.ok k)
def arith_Add (k : Nat) (x0 : Ty.den T23) (x1 : Ty.den T23) (x2 : Ty.den .bool) : Option (HL [T23]) :=
 (arith_fair k x0).bind fun r1 =>
 (arith_fair k x1).bind fun r2 =>
 bif (r1.1.1 == 2) then
  bif (r2.1.1 == 2) then
   bif (!(r1.1.2.1 == r2.1.2.1)) then
    (num_Infinite k (!x2)).bind fun r3 =>
    some (r3.1, ())
   else
    bif (r1.1.1 == 2) then
     some (r1.1, ())
    else
     bif (r2.1.1 == 0) then
      some (r1.1, ())
     else
      bif (r2.1.1 == 2) then
       some (r2.1, ())
      else
       bif (r1.1.1 == 0) then
        some (r2.1, ())
       else
        bif (decide (r2.1.2.2.2 > r1.1.2.2.2)) then
         bif (r2.1.2.1 == r1.1.2.1) then
          (arith_plus k r2.1 r1.1 x2).bind fun r4 =>
          some (r4.1, ())
         else
          bif (r2.1.2.2.2 == r1.1.2.2.2) then
           bif (r2.1.2.2.1 == r1.1.2.2.1) then
            some ((0, false, 0, 0), ())
           else
            (arith_minus k r2.1 r1.1 x2).bind fun r5 =>
            some (r5.1, ())
          else
           (arith_minus k r2.1 r1.1 x2).bind fun r6 =>
           some (r6.1, ())
        else
         bif (r2.1.2.2.2 == r1.1.2.2.2) then
          bif (decide (r2.1.2.2.1 > r1.1.2.2.1)) then
           bif (r2.1.2.1 == r1.1.2.1) then
            (arith_plus k r2.1 r1.1 x2).bind fun r7 =>
            some (r7.1, ())
           else
            bif (r2.1.2.2.2 == r1.1.2.2.2) then
             bif (r2.1.2.2.1 == r1.1.2.2.1) then
              some ((0, false, 0, 0), ())
             else
              (arith_minus k r2.1 r1.1 x2).bind fun r8 =>
              some (r8.1, ())
            else
             (arith_minus k r2.1 r1.1 x2).bind fun r9 =>
             some (r9.1, ())
          else
           bif (r1.1.2.1 == r2.1.2.1) then
            (arith_plus k r1.1 r2.1 x2).bind fun r10 =>
            some (r10.1, ())
           else
            bif (r1.1.2.2.2 == r2.1.2.2.2) then
             bif (r1.1.2.2.1 == r2.1.2.2.1) then
              some ((0, false, 0, 0), ())
             else
              (arith_minus k r1.1 r2.1 x2).bind fun r11 =>
              some (r11.1, ())
            else
             (arith_minus k r1.1 r2.1 x2).bind fun r12 =>
             some (r12.1, ())
         else
          bif (r1.1.2.1 == r2.1.2.1) then
           (arith_plus k r1.1 r2.1 x2).bind fun r13 =>
           some (r13.1, ())
          else
           bif (r1.1.2.2.2 == r2.1.2.2.2) then
            bif (r1.1.2.2.1 == r2.1.2.2.1) then
             some ((0, false, 0, 0), ())
            else
             (arith_minus k r1.1 r2.1 x2).bind fun r14 =>
             some (r14.1, ())
           else
            (arith_minus k r1.1 r2.1 x2).bind fun r15 =>
            some (r15.1, ())
  else
   bif (r1.1.1 == 2) then
    some (r1.1, ())
   else
    bif (r2.1.1 == 0) then
     some (r1.1, ())
    else
     bif (r2.1.1 == 2) then
      some (r2.1, ())
     else
      bif (r1.1.1 == 0) then
       some (r2.1, ())
      else
       bif (decide (r2.1.2.2.2 > r1.1.2.2.2)) then
        bif (r2.1.2.1 == r1.1.2.1) then
         (arith_plus k r2.1 r1.1 x2).bind fun r16 =>
         some (r16.1, ())
        else
         bif (r2.1.2.2.2 == r1.1.2.2.2) then
          bif (r2.1.2.2.1 == r1.1.2.2.1) then
           some ((0, false, 0, 0), ())
          else
           (arith_minus k r2.1 r1.1 x2).bind fun r17 =>
           some (r17.1, ())
         else
          (arith_minus k r2.1 r1.1 x2).bind fun r18 =>
          some (r18.1, ())
       else
        bif (r2.1.2.2.2 == r1.1.2.2.2) then
         bif (decide (r2.1.2.2.1 > r1.1.2.2.1)) then
          bif (r2.1.2.1 == r1.1.2.1) then
           (arith_plus k r2.1 r1.1 x2).bind fun r19 =>
           some (r19.1, ())
          else
           bif (r2.1.2.2.2 == r1.1.2.2.2) then
            bif (r2.1.2.2.1 == r1.1.2.2.1) then
             some ((0, false, 0, 0), ())
            else
             (arith_minus k r2.1 r1.1 x2).bind fun r20 =>
             some (r20.1, ())
           else
            (arith_minus k r2.1 r1.1 x2).bind fun r21 =>
            some (r21.1, ())
         else
          bif (r1.1.2.1 == r2.1.2.1) then
           (arith_plus k r1.1 r2.1 x2).bind fun r22 =>
           some (r22.1, ())
          else
           bif (r1.1.2.2.2 == r2.1.2.2.2) then
            bif (r1.1.2.2.1 == r2.1.2.2.1) then
             some ((0, false, 0, 0), ())
            else
             (arith_minus k r1.1 r2.1 x2).bind fun r23 =>
             some (r23.1, ())
           else
            (arith_minus k r1.1 r2.1 x2).bind fun r24 =>
            some (r24.1, ())
        else
         bif (r1.1.2.1 == r2.1.2.1) then
          (arith_plus k r1.1 r2.1 x2).bind fun r25 =>
          some (r25.1, ())
         else
          bif (r1.1.2.2.2 == r2.1.2.2.2) then
           bif (r1.1.2.2.1 == r2.1.2.2.1) then
            some ((0, false, 0, 0), ())
           else
            (arith_minus k r1.1 r2.1 x2).bind fun r26 =>
            some (r26.1, ())
          else
           (arith_minus k r1.1 r2.1 x2).bind fun r27 =>
           some (r27.1, ())
 else
  bif (r1.1.1 == 2) then
   some (r1.1, ())
  else
   bif (r2.1.1 == 0) then
    some (r1.1, ())
   else
    bif (r2.1.1 == 2) then
     some (r2.1, ())
    else
     bif (r1.1.1 == 0) then
      some (r2.1, ())
     else
      bif (decide (r2.1.2.2.2 > r1.1.2.2.2)) then
       bif (r2.1.2.1 == r1.1.2.1) then
        (arith_plus k r2.1 r1.1 x2).bind fun r28 =>
        some (r28.1, ())
       else
        bif (r2.1.2.2.2 == r1.1.2.2.2) then
         bif (r2.1.2.2.1 == r1.1.2.2.1) then
          some ((0, false, 0, 0), ())
         else
          (arith_minus k r2.1 r1.1 x2).bind fun r29 =>
          some (r29.1, ())
        else
         (arith_minus k r2.1 r1.1 x2).bind fun r30 =>
         some (r30.1, ())
      else
       bif (r2.1.2.2.2 == r1.1.2.2.2) then
        bif (decide (r2.1.2.2.1 > r1.1.2.2.1)) then
         bif (r2.1.2.1 == r1.1.2.1) then
          (arith_plus k r2.1 r1.1 x2).bind fun r31 =>
          some (r31.1, ())
         else
          bif (r2.1.2.2.2 == r1.1.2.2.2) then
           bif (r2.1.2.2.1 == r1.1.2.2.1) then
            some ((0, false, 0, 0), ())
           else
            (arith_minus k r2.1 r1.1 x2).bind fun r32 =>
            some (r32.1, ())
          else
           (arith_minus k r2.1 r1.1 x2).bind fun r33 =>
           some (r33.1, ())
        else
         bif (r1.1.2.1 == r2.1.2.1) then
          (arith_plus k r1.1 r2.1 x2).bind fun r34 =>
          some (r34.1, ())
         else
          bif (r1.1.2.2.2 == r2.1.2.2.2) then
           bif (r1.1.2.2.1 == r2.1.2.2.1) then
            some ((0, false, 0, 0), ())
           else
            (arith_minus k r1.1 r2.1 x2).bind fun r35 =>
            some (r35.1, ())
          else
           (arith_minus k r1.1 r2.1 x2).bind fun r36 =>
           some (r36.1, ())
       else
        bif (r1.1.2.1 == r2.1.2.1) then
         (arith_plus k r1.1 r2.1 x2).bind fun r37 =>
         some (r37.1, ())
        else
         bif (r1.1.2.2.2 == r2.1.2.2.2) then
          bif (r1.1.2.2.1 == r2.1.2.2.1) then
           some ((0, false, 0, 0), ())
          else
           (arith_minus k r1.1 r2.1 x2).bind fun r38 =>
           some (r38.1, ())
         else
          (arith_minus k r1.1 r2.1 x2).bind fun r39 =>
          some (r39.1, ())
theorem arith_Add.ok (k : Nat) : SpecOK Try.prog G0 53 ⟨[T23, T23, .bool], [T23], fun x => arith_Add k x.1 x.2.1 x.2.2.1⟩ :=
 evF_sound (E := (e31 k)) (fn := Try.f53) (e31.ok k) (by kernel_rfl) (by kernel_rfl) (by kernel_rfl) 8 .n trivial (fun xs => by kernel_rfl)
def e32 (k : Nat) : Env := (e31 k).add 53 ⟨[T23, T23, .bool], [T23], fun x => arith_Add k x.1 x.2.1 x.2.2.1⟩
theorem e32.ok (k : Nat) : (e32 k).OK Try.prog := (e31.ok k).add (arith_Add.ok k)
abbrev ivop_Add_l0_i : Mask := ⟨[(0, 2, (.k (.ptr 2 0 0))), (0, 3, (.k (.ptr 3 0 0))), (0, 4, (.k (.ptr 4 0 0))), (0, 10, (.v T32)), (0, 11, (.v (.int .i64))), (0, 12, (.v (.int .i64)))], [(2, .cells (.v T25)), (3, .cells (.v T23)), (4, .cells (.v T23))], [], 0⟩
abbrev ivop_Add_l0_o : List Out := [⟨.exit 0, ⟨[(0, 2, (.k (.ptr 2 0 0))), (0, 3, (.k (.ptr 3 0 0))), (0, 4, (.k (.ptr 4 0 0)))], [(2, .cells (.v T25)), (3, .cells (.v T23)), (4, .cells (.v T23))], [], 0⟩⟩]
def ivop_Add_l0 (k : Nat) : Nat → Mask.den ivop_Add_l0_i → Option (denS ivop_Add_l0_o)
 | 0, _ => none
 | m + 1, x =>
  bif (decide (x.1.2.2.2.2.2.1 < x.1.2.2.2.2.1)) then
   if 0 ≤ x.1.2.2.2.2.2.1 then (x.1.2.2.2.1[Int.toNat x.1.2.2.2.2.2.1]?).bind fun y3 =>
    bif (x.1.2.2.2.2.2.1 == 0) then
     ivop_Add_l0 k m (((), (), (), x.1.2.2.2.1, x.1.2.2.2.2.1, (IntKind.i64.wrap (x.1.2.2.2.2.2.1 + 1)), ()), (x.2.1, y3.2.1, y3.2.2, ()))
    else
     (arith_Add k x.2.2.1 y3.2.1 false).bind fun r4 =>
     (arith_Add k x.2.2.2.1 y3.2.2 true).bind fun r5 =>
     ivop_Add_l0 k m (((), (), (), x.1.2.2.2.1, x.1.2.2.2.2.1, (IntKind.i64.wrap (x.1.2.2.2.2.2.1 + 1)), ()), (x.2.1, r4.1, r5.1, ()))
   else none
  else
   some (Sum.inl (((), (), (), ()), (x.2.1, x.2.2.1, x.2.2.2.1, ())))
abbrev ivop_Add_l0_seg (k : Nat) : Seg := ⟨⟨0, 35, false, [], []⟩, 28, [.b, .s2, .s1, .s2, .s2, .s2], ivop_Add_l0_i, ivop_Add_l0_o, ivop_Add_l0 k k⟩
theorem ivop_Add_l0_seg.ok (k : Nat) : SegOK Try.prog (e32 k) (ivop_Add_l0_seg k) :=
 SegOK.loop (e32.ok k) (by kernel_rfl) (S := ivop_Add_l0_seg k) (c := atR (codeOf (e32 k) 28) [.l, .b, .s2, .s1, .s2, .s2, .s2]) (by kernel_rfl) (ivop_Add_l0 k) k rfl (fun _ => rfl) 8 .n trivial (fun k' x => by kernel_rfl)
def ivop_Add (k : Nat) (x0 : Ty.den T32) : Option (HL [T25]) :=
 (ivop_none k x0).bind fun r1 =>
 bif r1.1 then
  (iv_None k).bind fun r2 =>
  some (r2.1, ())
 else
  (ivop_Add_l0 k k (((), (), (), x0, (x0.length : Int), 0, ()), ((false, (0, false, 0, 0), 0, false, 0, 0), (0, false, 0, 0), (0, false, 0, 0), ()))).bind fun q6 =>
  Sum.elim (fun z7 =>
    (iv_Make k z7.2.2.1 z7.2.2.2.1).bind fun r8 =>
    some (r8.1, ()))
   (fun q6' =>
    none) q6
theorem ivop_Add.ok (k : Nat) : SpecOK Try.prog G0 28 ⟨[T32], [T25], fun x => ivop_Add k x.1⟩ :=
 evF_sound (E := (e32 k)) (fn := Try.f28) (e32.ok k) (by kernel_rfl) (by kernel_rfl) (by kernel_rfl) 8 (.two .n (.two .n (.two .n (.two (.two .n (.two (.use (ivop_Add_l0_seg k)) .n)) .n)))) ⟨trivial, ⟨trivial, ⟨trivial, ⟨⟨trivial, ⟨(ivop_Add_l0_seg.ok k), trivial⟩⟩, trivial⟩⟩⟩⟩ (fun xs => by kernel_rfl)
def e33 (k : Nat) : Env := (e32 k).add 28 ⟨[T32], [T25], fun x => ivop_Add k x.1⟩
theorem e33.ok (k : Nat) : (e33 k).OK Try.prog := (e32.ok k).add (ivop_Add.ok k)
def ivop_Neg (k : Nat) (x0 : Ty.den T25) : Option (HL [T25]) :=
 (ivop_none k [x0]).bind fun r1 =>
 bif r1.1 then
  (iv_None k).bind fun r2 =>
  some (r2.1, ())
 else
  (num_Neg k x0.2.2).bind fun r3 =>
  (num_Neg k x0.2.1).bind fun r4 =>
  (iv_Make k r3.1 r4.1).bind fun r5 =>
  some (r5.1, ())
theorem ivop_Neg.ok (k : Nat) : SpecOK Try.prog G0 54 ⟨[T25], [T25], fun x => ivop_Neg k x.1⟩ :=
 evF_sound (E := (e33 k)) (fn := Try.f54) (e33.ok k) (by kernel_rfl) (by kernel_rfl) (by kernel_rfl) 8 .n trivial (fun xs => by kernel_rfl)
def e34 (k : Nat) : Env := (e33 k).add 54 ⟨[T25], [T25], fun x => ivop_Neg k x.1⟩
theorem e34.ok (k : Nat) : (e34 k).OK Try.prog := (e33.ok k).add (ivop_Neg.ok k)
def ivop_Sub (k : Nat) (x0 : Ty.den T25) (x1 : Ty.den T25) : Option (HL [T25]) :=
 (ivop_Neg k x1).bind fun r1 =>
 (ivop_Add k [x0, r1.1]).bind fun r2 =>
 some (r2.1, ())
theorem ivop_Sub.ok (k : Nat) : SpecOK Try.prog G0 29 ⟨[T25, T25], [T25], fun x => ivop_Sub k x.1 x.2.1⟩ :=
 evF_sound (E := (e34 k)) (fn := Try.f29) (e34.ok k) (by kernel_rfl) (by kernel_rfl) (by kernel_rfl) 8 .n trivial (fun xs => by kernel_rfl)
def e35 (k : Nat) : Env := (e34 k).add 29 ⟨[T25, T25], [T25], fun x => ivop_Sub k x.1 x.2.1⟩
theorem e35.ok (k : Nat) : (e35 k).OK Try.prog := (e34.ok k).add (ivop_Sub.ok k)
def tube_New (k : Nat) (x0 : Ty.den T23) (x1 : Ty.den T25) : Option (HL [T28, (.int .i64)]) :=
 (tube_May k (x0, x1, [])).bind fun r1 =>
 bif (!r1.1) then
  some (((0, false, 0, 0), (false, (0, false, 0, 0), 0, false, 0, 0), []), 1, ())
 else
  some ((x0, x1, []), 0, ())
theorem tube_New.ok (k : Nat) : SpecOK Try.prog G0 34 ⟨[T23, T25], [T28, (.int .i64)], fun x => tube_New k x.1 x.2.1⟩ :=
 evF_sound (E := (e35 k)) (fn := Try.f34) (e35.ok k) (by kernel_rfl) (by kernel_rfl) (by kernel_rfl) 8 .n trivial (fun xs => by kernel_rfl)
def e36 (k : Nat) : Env := (e35 k).add 34 ⟨[T23, T25], [T28, (.int .i64)], fun x => tube_New k x.1 x.2.1⟩
theorem e36.ok (k : Nat) : (e36 k).OK Try.prog := (e35.ok k).add (tube_New.ok k)
def tube_end (k : Nat) (x0 : Ty.den T28) : Option (HL [T23]) :=
 bif (decide ((x0.2.2.length : Int) > 0)) then
  if 0 ≤ (IntKind.i64.wrap ((x0.2.2.length : Int) - 1)) then (x0.2.2[Int.toNat (IntKind.i64.wrap ((x0.2.2.length : Int) - 1))]?).bind fun y1 =>
   some (y1.1, ())
  else none
 else
  some (x0.1, ())
theorem tube_end.ok (k : Nat) : SpecOK Try.prog G0 58 ⟨[T28], [T23], fun x => tube_end k x.1⟩ :=
 evF_sound (E := (e36 k)) (fn := Try.f58) (e36.ok k) (by kernel_rfl) (by kernel_rfl) (by kernel_rfl) 8 .n trivial (fun xs => by kernel_rfl)
def e37 (k : Nat) : Env := (e36 k).add 58 ⟨[T28], [T23], fun x => tube_end k x.1⟩
theorem e37.ok (k : Nat) : (e37 k).OK Try.prog := (e36.ok k).add (tube_end.ok k)
def tube_Append (k : Nat) (x0 : Ty.den T28) (x1 : Ty.den T23) (x2 : Ty.den T25) (x3 : Ty.den T25) : Option (HL [T28, (.int .i64)]) :=
 (tube_May k x0).bind fun r1 =>
 bif (!r1.1) then
  some (((0, false, 0, 0), (false, (0, false, 0, 0), 0, false, 0, 0), []), 1, ())
 else
  (tube_finite k x1).bind fun r2 =>
  bif (!r2.1) then
   some (((0, false, 0, 0), (false, (0, false, 0, 0), 0, false, 0, 0), []), 1, ())
  else
   (iv_May k x2).bind fun r3 =>
   bif (!r3.1) then
    some (((0, false, 0, 0), (false, (0, false, 0, 0), 0, false, 0, 0), []), 1, ())
   else
    (iv_May k x3).bind fun r4 =>
    bif (!r4.1) then
     some (((0, false, 0, 0), (false, (0, false, 0, 0), 0, false, 0, 0), []), 1, ())
    else
     bif (decide ((x0.2.2.length : Int) ≥ 64)) then
      some (((0, false, 0, 0), (false, (0, false, 0, 0), 0, false, 0, 0), []), 3, ())
     else
      (tube_end k x0).bind fun r5 =>
      (num_Cmp k x1 r5.1).bind fun r6 =>
      bif (decide (r6.1 ≤ 0)) then
       some (((0, false, 0, 0), (false, (0, false, 0, 0), 0, false, 0, 0), []), 6, ())
      else
       if x0.2.2.length * 176 ≤ 140737488355328 then
        if (x0.2.2.length + [(x1, x2, x3)].length) * 176 ≤ 140737488355328 then
         some ((x0.1, x0.2.1, (x0.2.2 ++ [(x1, x2, x3)])), 0, ())
        else none
       else none
theorem tube_Append.ok (k : Nat) : SpecOK Try.prog G0 35 ⟨[T28, T23, T25, T25], [T28, (.int .i64)], fun x => tube_Append k x.1 x.2.1 x.2.2.1 x.2.2.2.1⟩ :=
 evF_sound (E := (e37 k)) (fn := Try.f35) (e37.ok k) (by kernel_rfl) (by kernel_rfl) (by kernel_rfl) 8 .n trivial (fun xs => by kernel_rfl)
def e38 (k : Nat) : Env := (e37 k).add 35 ⟨[T28, T23, T25, T25], [T28, (.int .i64)], fun x => tube_Append k x.1 x.2.1 x.2.2.1 x.2.2.2.1⟩
theorem e38.ok (k : Nat) : (e38 k).OK Try.prog := (e37.ok k).add (tube_Append.ok k)
def iv_All (k : Nat) : Option (HL [T25]) :=
 (num_Infinite k true).bind fun r1 =>
 (num_Infinite k false).bind fun r2 =>
 some ((false, r1.1, r2.1), ())
theorem iv_All.ok (k : Nat) : SpecOK Try.prog G0 36 ⟨[], [T25], fun x => iv_All k⟩ :=
 evF_sound (E := (e38 k)) (fn := Try.f36) (e38.ok k) (by kernel_rfl) (by kernel_rfl) (by kernel_rfl) 8 .n trivial (fun xs => by kernel_rfl)
def e39 (k : Nat) : Env := (e38 k).add 36 ⟨[], [T25], fun x => iv_All k⟩
theorem e39.ok (k : Nat) : (e39 k).OK Try.prog := (e38.ok k).add (iv_All.ok k)
def tube_Gate (k : Nat) (x0 : Ty.den T28) (x1 : Ty.den (.int .i64)) : Option (HL [T25]) :=
 (tube_May k x0).bind fun r1 =>
 bif (!r1.1) then
  (iv_None k).bind fun r2 =>
  some (r2.1, ())
 else
  bif (decide (x1 < 0)) then
   (iv_None k).bind fun r3 =>
   some (r3.1, ())
  else
   bif (decide (x1 > (x0.2.2.length : Int))) then
    (iv_None k).bind fun r4 =>
    some (r4.1, ())
   else
    bif (x1 == 0) then
     some (x0.2.1, ())
    else
     if 0 ≤ (IntKind.i64.wrap (x1 - 1)) then (x0.2.2[Int.toNat (IntKind.i64.wrap (x1 - 1))]?).bind fun y5 =>
      some (y5.2.2, ())
     else none
theorem tube_Gate.ok (k : Nat) : SpecOK Try.prog G0 10 ⟨[T28, (.int .i64)], [T25], fun x => tube_Gate k x.1 x.2.1⟩ :=
 evF_sound (E := (e39 k)) (fn := Try.f10) (e39.ok k) (by kernel_rfl) (by kernel_rfl) (by kernel_rfl) 8 .n trivial (fun xs => by kernel_rfl)
def e40 (k : Nat) : Env := (e39 k).add 10 ⟨[T28, (.int .i64)], [T25], fun x => tube_Gate k x.1 x.2.1⟩
theorem e40.ok (k : Nat) : (e40 k).OK Try.prog := (e39.ok k).add (tube_Gate.ok k)
def peloruslaw17_Few (k : Nat) (x0 : Ty.den T28) : Option (HL [.bool]) :=
 some ((decide ((x0.2.2.length : Int) ≤ 70)), ())
theorem peloruslaw17_Few.ok (k : Nat) : SpecOK Try.prog G0 12 ⟨[T28], [.bool], fun x => peloruslaw17_Few k x.1⟩ :=
 evF_sound (E := (e40 k)) (fn := Try.f12) (e40.ok k) (by kernel_rfl) (by kernel_rfl) (by kernel_rfl) 8 .n trivial (fun xs => by kernel_rfl)
def e41 (k : Nat) : Env := (e40 k).add 12 ⟨[T28], [.bool], fun x => peloruslaw17_Few k x.1⟩
theorem e41.ok (k : Nat) : (e41 k).OK Try.prog := (e40.ok k).add (peloruslaw17_Few.ok k)
def iv_Within (k : Nat) (x0 : Ty.den T25) (x1 : Ty.den T25) : Option (HL [.bool]) :=
 (iv_fair k x0).bind fun r1 =>
 (iv_fair k x1).bind fun r2 =>
 bif r1.1.1 then
  some (true, ())
 else
  bif (!r2.1.1) then
   (num_Cmp k r2.1.2.1 r1.1.2.1).bind fun r3 =>
   bif (decide (r3.1 ≤ 0)) then
    (num_Cmp k r1.1.2.2 r2.1.2.2).bind fun r4 =>
    some ((decide (r4.1 ≤ 0)), ())
   else
    some (false, ())
  else
   some (false, ())
theorem iv_Within.ok (k : Nat) : SpecOK Try.prog G0 33 ⟨[T25, T25], [.bool], fun x => iv_Within k x.1 x.2.1⟩ :=
 evF_sound (E := (e41 k)) (fn := Try.f33) (e41.ok k) (by kernel_rfl) (by kernel_rfl) (by kernel_rfl) 8 .n trivial (fun xs => by kernel_rfl)
def e42 (k : Nat) : Env := (e41 k).add 33 ⟨[T25, T25], [.bool], fun x => iv_Within k x.1 x.2.1⟩
theorem e42.ok (k : Nat) : (e42 k).OK Try.prog := (e41.ok k).add (iv_Within.ok k)
def flow_Contract_1 (k : Nat) (x0 : Ty.den T25) : Option (HL [.bool]) :=
 (iv_May k x0).bind fun r1 =>
 some ((!r1.1), ())
theorem flow_Contract_1.ok (k : Nat) : SpecOK Try.prog G0 24 ⟨[T25], [.bool], fun x => flow_Contract_1 k x.1⟩ :=
 evF_sound (E := (e42 k)) (fn := Try.f24) (e42.ok k) (by kernel_rfl) (by kernel_rfl) (by kernel_rfl) 8 .n trivial (fun xs => by kernel_rfl)
def e43 (k : Nat) : Env := (e42 k).add 24 ⟨[T25], [.bool], fun x => flow_Contract_1 k x.1⟩
theorem e43.ok (k : Nat) : (e43 k).OK Try.prog := (e42.ok k).add (flow_Contract_1.ok k)
def tube_Empty_1 (k : Nat) (x0 : Ty.den T35) : Option (HL [.bool]) :=
 bif x0.2.1.1 then
  some (true, ())
 else
  some (x0.2.2.1, ())
theorem tube_Empty_1.ok (k : Nat) : SpecOK Try.prog G0 30 ⟨[T35], [.bool], fun x => tube_Empty_1 k x.1⟩ :=
 evF_sound (E := (e43 k)) (fn := Try.f30) (e43.ok k) (by kernel_rfl) (by kernel_rfl) (by kernel_rfl) 8 .n trivial (fun xs => by kernel_rfl)
def e44 (k : Nat) : Env := (e43 k).add 30 ⟨[T35], [.bool], fun x => tube_Empty_1 k x.1⟩
theorem e44.ok (k : Nat) : (e44 k).OK Try.prog := (e43.ok k).add (tube_Empty_1.ok k)
def tube_times_1 (k : Nat) (x0 : Ty.den T35) (x1 : Ty.den T35) : Option (HL [.bool]) :=
 some ((beqT T23 x0.1 x1.1), ())
theorem tube_times_1.ok (k : Nat) : SpecOK Try.prog G0 56 ⟨[T35, T35], [.bool], fun x => tube_times_1 k x.1 x.2.1⟩ :=
 evF_sound (E := (e44 k)) (fn := Try.f56) (e44.ok k) (by kernel_rfl) (by kernel_rfl) (by kernel_rfl) 8 .n trivial (fun xs => by kernel_rfl)
def e45 (k : Nat) : Env := (e44 k).add 56 ⟨[T35, T35], [.bool], fun x => tube_times_1 k x.1 x.2.1⟩
theorem e45.ok (k : Nat) : (e45 k).OK Try.prog := (e44.ok k).add (tube_times_1.ok k)
def flow_when (k : Nat) (x0 : Ty.den T28) (x1 : Ty.den (.int .i64)) : Option (HL [T23]) :=
 bif (x1 == 0) then
  some (x0.1, ())
 else
  if 0 ≤ (IntKind.i64.wrap (x1 - 1)) then (x0.2.2[Int.toNat (IntKind.i64.wrap (x1 - 1))]?).bind fun y1 =>
   some (y1.1, ())
  else none
theorem flow_when.ok (k : Nat) : SpecOK Try.prog G0 61 ⟨[T28, (.int .i64)], [T23], fun x => flow_when k x.1 x.2.1⟩ :=
 evF_sound (E := (e45 k)) (fn := Try.f61) (e45.ok k) (by kernel_rfl) (by kernel_rfl) (by kernel_rfl) 8 .n trivial (fun xs => by kernel_rfl)
def e46 (k : Nat) : Env := (e45 k).add 61 ⟨[T28, (.int .i64)], [T23], fun x => flow_when k x.1 x.2.1⟩
theorem e46.ok (k : Nat) : (e46 k).OK Try.prog := (e45.ok k).add (flow_when.ok k)
def arith_Sub (k : Nat) (x0 : Ty.den T23) (x1 : Ty.den T23) (x2 : Ty.den .bool) : Option (HL [T23]) :=
 (num_Neg k x1).bind fun r1 =>
 (arith_Add k x0 r1.1 x2).bind fun r2 =>
 some (r2.1, ())
theorem arith_Sub.ok (k : Nat) : SpecOK Try.prog G0 62 ⟨[T23, T23, .bool], [T23], fun x => arith_Sub k x.1 x.2.1 x.2.2.1⟩ :=
 evF_sound (E := (e46 k)) (fn := Try.f62) (e46.ok k) (by kernel_rfl) (by kernel_rfl) (by kernel_rfl) 8 .n trivial (fun xs => by kernel_rfl)
def e47 (k : Nat) : Env := (e46 k).add 62 ⟨[T23, T23, .bool], [T23], fun x => arith_Sub k x.1 x.2.1 x.2.2.1⟩
theorem e47.ok (k : Nat) : (e47 k).OK Try.prog := (e46.ok k).add (arith_Sub.ok k)
def bits_Mul64 (k : Nat) (x0 : Ty.den (.int .u64)) (x1 : Ty.den (.int .u64)) : Option (HL [(.int .u64), (.int .u64)]) :=
 some ((IntKind.u64.wrap ((IntKind.u64.wrap ((IntKind.u64.wrap ((Int.fdiv x0 (2 ^ min (Int.toNat 32) IntKind.u64.bits)) * (Int.fdiv x1 (2 ^ min (Int.toNat 32) IntKind.u64.bits)))) + (Int.fdiv (IntKind.u64.wrap ((IntKind.u64.wrap ((Int.fdiv x0 (2 ^ min (Int.toNat 32) IntKind.u64.bits)) * (IntKind.u64.wrap (BitVec.toNat (BitVec.ofInt IntKind.u64.bits x1 &&& BitVec.ofInt IntKind.u64.bits 4294967295))))) + (Int.fdiv (IntKind.u64.wrap ((IntKind.u64.wrap (BitVec.toNat (BitVec.ofInt IntKind.u64.bits x0 &&& BitVec.ofInt IntKind.u64.bits 4294967295))) * (IntKind.u64.wrap (BitVec.toNat (BitVec.ofInt IntKind.u64.bits x1 &&& BitVec.ofInt IntKind.u64.bits 4294967295))))) (2 ^ min (Int.toNat 32) IntKind.u64.bits)))) (2 ^ min (Int.toNat 32) IntKind.u64.bits)))) + (Int.fdiv (IntKind.u64.wrap ((IntKind.u64.wrap (BitVec.toNat (BitVec.ofInt IntKind.u64.bits (IntKind.u64.wrap ((IntKind.u64.wrap ((Int.fdiv x0 (2 ^ min (Int.toNat 32) IntKind.u64.bits)) * (IntKind.u64.wrap (BitVec.toNat (BitVec.ofInt IntKind.u64.bits x1 &&& BitVec.ofInt IntKind.u64.bits 4294967295))))) + (Int.fdiv (IntKind.u64.wrap ((IntKind.u64.wrap (BitVec.toNat (BitVec.ofInt IntKind.u64.bits x0 &&& BitVec.ofInt IntKind.u64.bits 4294967295))) * (IntKind.u64.wrap (BitVec.toNat (BitVec.ofInt IntKind.u64.bits x1 &&& BitVec.ofInt IntKind.u64.bits 4294967295))))) (2 ^ min (Int.toNat 32) IntKind.u64.bits)))) &&& BitVec.ofInt IntKind.u64.bits 4294967295))) + (IntKind.u64.wrap ((IntKind.u64.wrap (BitVec.toNat (BitVec.ofInt IntKind.u64.bits x0 &&& BitVec.ofInt IntKind.u64.bits 4294967295))) * (Int.fdiv x1 (2 ^ min (Int.toNat 32) IntKind.u64.bits)))))) (2 ^ min (Int.toNat 32) IntKind.u64.bits)))), (IntKind.u64.wrap (x0 * x1)), ())
theorem bits_Mul64.ok (k : Nat) : SpecOK Try.prog G0 69 ⟨[(.int .u64), (.int .u64)], [(.int .u64), (.int .u64)], fun x => bits_Mul64 k x.1 x.2.1⟩ :=
 evF_sound (E := (e47 k)) (fn := Try.f69) (e47.ok k) (by kernel_rfl) (by kernel_rfl) (by kernel_rfl) 8 .n trivial (fun xs => by kernel_rfl)
def e48 (k : Nat) : Env := (e47 k).add 69 ⟨[(.int .u64), (.int .u64)], [(.int .u64), (.int .u64)], fun x => bits_Mul64 k x.1 x.2.1⟩
theorem e48.ok (k : Nat) : (e48 k).OK Try.prog := (e47.ok k).add (bits_Mul64.ok k)
abbrev tube_Empty_l0_i : Mask := ⟨[(0, 12, (.v .bool)), (2, 0, (.v T27)), (2, 1, (.k (.clo 30 .nl))), (2, 7, (.v (.int .i64))), (2, 8, (.v (.int .i64)))], [], [], 0⟩
abbrev tube_Empty_l0_o : List Out := [⟨.ret, ⟨[(0, 12, (.v .bool)), (2, 4, (.v (.int .i64)))], [], [], 0⟩⟩, ⟨.exit 0, ⟨[(0, 12, (.v .bool))], [], [], 0⟩⟩]
def tube_Empty_l0 (k : Nat) : Nat → Mask.den tube_Empty_l0_i → Option (denS tube_Empty_l0_o)
 | 0, _ => none
 | m + 1, x =>
  bif (decide (x.1.2.2.2.2.1 < x.1.2.2.2.1)) then
   if 0 ≤ x.1.2.2.2.2.1 then (x.1.2.1[Int.toNat x.1.2.2.2.2.1]?).bind fun y2 =>
    (tube_Empty_1 k y2).bind fun r3 =>
    bif r3.1 then
     some (Sum.inl ((x.1.1, x.1.2.2.2.2.1, ()), ()))
    else
     tube_Empty_l0 k m ((x.1.1, x.1.2.1, (), x.1.2.2.2.1, (IntKind.i64.wrap (x.1.2.2.2.2.1 + 1)), ()), ())
   else none
  else
   some (Sum.inr (Sum.inl ((x.1.1, ()), ())))
abbrev tube_Empty_l0_seg (k : Nat) : Seg := ⟨⟨2, 19, false, [1, 0], []⟩, 55, [.b, .s2, .s1, .s2], tube_Empty_l0_i, tube_Empty_l0_o, tube_Empty_l0 k k⟩
theorem tube_Empty_l0_seg.ok (k : Nat) : SegOK Try.prog (e48 k) (tube_Empty_l0_seg k) :=
 SegOK.loop (e48.ok k) (by kernel_rfl) (S := tube_Empty_l0_seg k) (c := atR (codeOf (e48 k) 55) [.l, .b, .s2, .s1, .s2]) (by kernel_rfl) (tube_Empty_l0 k) k rfl (fun _ => rfl) 8 .n trivial (fun k' x => by kernel_rfl)
def tube_Empty (k : Nat) (x0 : Ty.den T28) : Option (HL [.bool]) :=
 (tube_May k x0).bind fun r1 =>
 bif (!r1.1) then
  some (true, ())
 else
  bif x0.2.1.1 then
   some (true, ())
  else
   (tube_Empty_l0 k k ((false, x0.2.2, (), (x0.2.2.length : Int), 0, ()), ())).bind fun q4 =>
   Sum.elim (fun z5 =>
     bif z5.1.1 then
      some (true, ())
     else
      some ((decide (z5.1.2.1 ≥ 0)), ()))
    (fun q4' =>
     Sum.elim (fun z6 =>
       bif z6.1.1 then
        some (true, ())
       else
        some (false, ()))
      (fun q4'' =>
       none) q4') q4
theorem tube_Empty.ok (k : Nat) : SpecOK Try.prog G0 11 ⟨[T28], [.bool], fun x => tube_Empty k x.1⟩ :=
 evF_sound (E := (e48 k)) (fn := Try.f11) (e48.ok k) (by kernel_rfl) (by kernel_rfl) (by kernel_rfl) 8 (.two .n (.two .n (.two (.call 12 1 (.two .n (.two (.call 2 2 (.two .n (.two (.two .n (.two (.use (tube_Empty_l0_seg k)) .n)) .n)) .n) .n)) .n) .n))) ⟨trivial, ⟨trivial, ⟨⟨⟨trivial, ⟨⟨⟨trivial, ⟨⟨trivial, ⟨(tube_Empty_l0_seg.ok k), trivial⟩⟩, trivial⟩⟩, trivial⟩, trivial⟩⟩, trivial⟩, trivial⟩⟩⟩ (fun xs => by kernel_rfl)
def e49 (k : Nat) : Env := (e48 k).add 11 ⟨[T28], [.bool], fun x => tube_Empty k x.1⟩
theorem e49.ok (k : Nat) : (e49 k).OK Try.prog := (e48.ok k).add (tube_Empty.ok k)
abbrev tube_Fit_l0_i : Mask := ⟨[(0, 2, (.k (.ptr 2 0 0))), (0, 3, (.k (.ptr 3 0 0))), (2, 0, (.k (.yld 0))), (2, 1, (.k (.ptr 2101249 0 0))), (2, 3, (.k (.ptr 8195 0 0))), (2, 14, (.v (.int .i64))), (2, 15, (.v (.int .i64)))], [(2, .cells (.pr (.v T23) (.pr (.v T25) (.v T27)))), (3, .cells (.pr (.v T23) (.pr (.v T25) (.k (.arr 13 0))))), (13, .arr 36 T35), (8195, .cells (.pr (.v T23) (.v T25))), (2101249, .cells (.v T28))], [], 1⟩
abbrev tube_Fit_l0_o : List Out := [⟨.exit 0, ⟨[(0, 2, (.k (.ptr 2 0 0))), (0, 3, (.k (.ptr 3 0 0)))], [(2, .cells (.pr (.v T23) (.pr (.v T25) (.v T27)))), (3, .cells (.pr (.v T23) (.pr (.v T25) (.k (.arr 13 0))))), (13, .arr 36 T35)], [], 1⟩⟩]
def tube_Fit_l0 (k : Nat) : Nat → Mask.den tube_Fit_l0_i → Option (denS tube_Fit_l0_o)
 | 0, _ => none
 | m + 1, x =>
  bif (decide (x.1.2.2.2.2.2.2.1 < x.1.2.2.2.2.2.1)) then
   bif (decide (x.1.2.2.2.2.2.2.1 > 0)) then
    if 0 ≤ (IntKind.i64.wrap (x.1.2.2.2.2.2.2.1 - 1)) then (x.2.2.2.2.2.1.2.2[Int.toNat (IntKind.i64.wrap (x.1.2.2.2.2.2.2.1 - 1))]?).bind fun y2 =>
     (iv_Meet k [y2.2.2, y2.2.1]).bind fun r3 =>
     bif (decide (x.1.2.2.2.2.2.2.1 < (x.2.2.2.2.2.1.2.2.length : Int))) then
      if 0 ≤ x.1.2.2.2.2.2.2.1 then (x.2.2.2.2.2.1.2.2[Int.toNat x.1.2.2.2.2.2.2.1]?).bind fun y4 =>
       (iv_Meet k [r3.1, y4.2.1]).bind fun r5 =>
       bif (x.1.2.2.2.2.2.2.1 == 0) then
        tube_Fit_l0 k m (((), (), (), (), (), x.1.2.2.2.2.2.1, (IntKind.i64.wrap (x.1.2.2.2.2.2.2.1 + 1)), ()), ((x.2.1.1, (x.2.1.2.1, x.2.1.2.2)), (x.2.2.1.1, (r5.1, ())), x.2.2.2.1, (y2.1, r5.1), x.2.2.2.2.2.1, ()))
       else
        if 0 ≤ (IntKind.i64.wrap (x.1.2.2.2.2.2.2.1 - 1)) then (x.2.2.2.1[Int.toNat (IntKind.i64.wrap (x.1.2.2.2.2.2.2.1 - 1))]?).bind fun _ =>
         (x.2.2.2.1[(Int.toNat (IntKind.i64.wrap (x.1.2.2.2.2.2.2.1 - 1)))]?).bind fun y7 =>
         tube_Fit_l0 k m (((), (), (), (), (), x.1.2.2.2.2.2.1, (IntKind.i64.wrap (x.1.2.2.2.2.2.2.1 + 1)), ()), ((x.2.1.1, (x.2.1.2.1, x.2.1.2.2)), (x.2.2.1.1, (x.2.2.1.2.1, ())), (x.2.2.2.1.set (Int.toNat (IntKind.i64.wrap (x.1.2.2.2.2.2.2.1 - 1))) (y7.1, y7.2.1, r5.1)), (y2.1, r5.1), x.2.2.2.2.2.1, ()))
        else none
      else none
     else
      bif (x.1.2.2.2.2.2.2.1 == 0) then
       tube_Fit_l0 k m (((), (), (), (), (), x.1.2.2.2.2.2.1, (IntKind.i64.wrap (x.1.2.2.2.2.2.2.1 + 1)), ()), ((x.2.1.1, (x.2.1.2.1, x.2.1.2.2)), (x.2.2.1.1, (r3.1, ())), x.2.2.2.1, (y2.1, r3.1), x.2.2.2.2.2.1, ()))
      else
       if 0 ≤ (IntKind.i64.wrap (x.1.2.2.2.2.2.2.1 - 1)) then (x.2.2.2.1[Int.toNat (IntKind.i64.wrap (x.1.2.2.2.2.2.2.1 - 1))]?).bind fun _ =>
        (x.2.2.2.1[(Int.toNat (IntKind.i64.wrap (x.1.2.2.2.2.2.2.1 - 1)))]?).bind fun y9 =>
        tube_Fit_l0 k m (((), (), (), (), (), x.1.2.2.2.2.2.1, (IntKind.i64.wrap (x.1.2.2.2.2.2.2.1 + 1)), ()), ((x.2.1.1, (x.2.1.2.1, x.2.1.2.2)), (x.2.2.1.1, (x.2.2.1.2.1, ())), (x.2.2.2.1.set (Int.toNat (IntKind.i64.wrap (x.1.2.2.2.2.2.2.1 - 1))) (y9.1, y9.2.1, r3.1)), (y2.1, r3.1), x.2.2.2.2.2.1, ()))
       else none
    else none
   else
    bif (decide (x.1.2.2.2.2.2.2.1 < (x.2.2.2.2.2.1.2.2.length : Int))) then
     if 0 ≤ x.1.2.2.2.2.2.2.1 then (x.2.2.2.2.2.1.2.2[Int.toNat x.1.2.2.2.2.2.2.1]?).bind fun y10 =>
      (iv_Meet k [x.2.2.2.2.1.2, y10.2.1]).bind fun r11 =>
      bif (x.1.2.2.2.2.2.2.1 == 0) then
       tube_Fit_l0 k m (((), (), (), (), (), x.1.2.2.2.2.2.1, (IntKind.i64.wrap (x.1.2.2.2.2.2.2.1 + 1)), ()), ((x.2.1.1, (x.2.1.2.1, x.2.1.2.2)), (x.2.2.1.1, (r11.1, ())), x.2.2.2.1, (x.2.2.2.2.1.1, r11.1), x.2.2.2.2.2.1, ()))
      else
       if 0 ≤ (IntKind.i64.wrap (x.1.2.2.2.2.2.2.1 - 1)) then (x.2.2.2.1[Int.toNat (IntKind.i64.wrap (x.1.2.2.2.2.2.2.1 - 1))]?).bind fun _ =>
        (x.2.2.2.1[(Int.toNat (IntKind.i64.wrap (x.1.2.2.2.2.2.2.1 - 1)))]?).bind fun y13 =>
        tube_Fit_l0 k m (((), (), (), (), (), x.1.2.2.2.2.2.1, (IntKind.i64.wrap (x.1.2.2.2.2.2.2.1 + 1)), ()), ((x.2.1.1, (x.2.1.2.1, x.2.1.2.2)), (x.2.2.1.1, (x.2.2.1.2.1, ())), (x.2.2.2.1.set (Int.toNat (IntKind.i64.wrap (x.1.2.2.2.2.2.2.1 - 1))) (y13.1, y13.2.1, r11.1)), (x.2.2.2.2.1.1, r11.1), x.2.2.2.2.2.1, ()))
       else none
     else none
    else
     bif (x.1.2.2.2.2.2.2.1 == 0) then
      tube_Fit_l0 k m (((), (), (), (), (), x.1.2.2.2.2.2.1, (IntKind.i64.wrap (x.1.2.2.2.2.2.2.1 + 1)), ()), ((x.2.1.1, (x.2.1.2.1, x.2.1.2.2)), (x.2.2.1.1, (x.2.2.2.2.1.2, ())), x.2.2.2.1, (x.2.2.2.2.1.1, x.2.2.2.2.1.2), x.2.2.2.2.2.1, ()))
     else
      if 0 ≤ (IntKind.i64.wrap (x.1.2.2.2.2.2.2.1 - 1)) then (x.2.2.2.1[Int.toNat (IntKind.i64.wrap (x.1.2.2.2.2.2.2.1 - 1))]?).bind fun _ =>
       (x.2.2.2.1[(Int.toNat (IntKind.i64.wrap (x.1.2.2.2.2.2.2.1 - 1)))]?).bind fun y15 =>
       tube_Fit_l0 k m (((), (), (), (), (), x.1.2.2.2.2.2.1, (IntKind.i64.wrap (x.1.2.2.2.2.2.2.1 + 1)), ()), ((x.2.1.1, (x.2.1.2.1, x.2.1.2.2)), (x.2.2.1.1, (x.2.2.1.2.1, ())), (x.2.2.2.1.set (Int.toNat (IntKind.i64.wrap (x.1.2.2.2.2.2.2.1 - 1))) (y15.1, y15.2.1, x.2.2.2.2.1.2)), (x.2.2.2.2.1.1, x.2.2.2.2.1.2), x.2.2.2.2.2.1, ()))
      else none
  else
   some (Sum.inl (((), (), ()), ((x.2.1.1, (x.2.1.2.1, x.2.1.2.2)), (x.2.2.1.1, (x.2.2.1.2.1, ())), x.2.2.2.1, ())))
abbrev tube_Fit_l0_seg (k : Nat) : Seg := ⟨⟨2, 57, false, [0], [⟨0, 0, 37, 26, [.b, .s2, .s1, .s2, .s2, .s2, .s2]⟩]⟩, 60, [.b, .s2, .s2], tube_Fit_l0_i, tube_Fit_l0_o, tube_Fit_l0 k k⟩
theorem tube_Fit_l0_seg.ok (k : Nat) : SegOK Try.prog (e49 k) (tube_Fit_l0_seg k) :=
 SegOK.loop (e49.ok k) (by kernel_rfl) (S := tube_Fit_l0_seg k) (c := atR (codeOf (e49 k) 60) [.l, .b, .s2, .s2]) (by kernel_rfl) (tube_Fit_l0 k) k rfl (fun _ => rfl) 8 (.two .n (.two .n (.two (.two (.two .n (.two .n (.two .n (.two (.call 3 3 .n .n) .n)))) .n) .n))) ⟨trivial, ⟨trivial, ⟨⟨⟨trivial, ⟨trivial, ⟨trivial, ⟨⟨trivial, trivial⟩, trivial⟩⟩⟩⟩, trivial⟩, trivial⟩⟩⟩ (fun k' x => by kernel_rfl)
def tube_Fit (k : Nat) (x0 : Ty.den T28) : Option (HL [T28]) :=
 (tube_May k x0).bind fun r1 =>
 bif (!r1.1) then
  some (x0, ())
 else
  if x0.2.2.length * 176 ≤ 140737488355328 then
   (tube_Fit_l0 k k (((), (), (), (), (), (IntKind.i64.wrap ((x0.2.2.length : Int) + 1)), 0, ()), (((0, false, 0, 0), ((false, (0, false, 0, 0), 0, false, 0, 0), [])), (x0.1, (x0.2.1, ())), x0.2.2, (x0.1, x0.2.1), x0, ()))).bind fun q16 =>
   Sum.elim (fun z17 =>
     (tube_Empty k (z17.2.2.1.1, z17.2.2.1.2.1, z17.2.2.2.1)).bind fun r18 =>
     bif r18.1 then
      (tube_void k (z17.2.2.1.1, z17.2.2.1.2.1, z17.2.2.2.1)).bind fun r19 =>
      some (r19.1, ())
     else
      some ((z17.2.2.1.1, z17.2.2.1.2.1, z17.2.2.2.1), ()))
    (fun q16' =>
     none) q16
  else none
theorem tube_Fit.ok (k : Nat) : SpecOK Try.prog G0 26 ⟨[T28], [T28], fun x => tube_Fit k x.1⟩ :=
 evF_sound (E := (e49 k)) (fn := Try.f26) (e49.ok k) (by kernel_rfl) (by kernel_rfl) (by kernel_rfl) 8 (.two .n (.two .n (.two .n (.two .n (.two (.two (.call 1 513 .n .n) (.two (.rf 0 2 (.two .n (.two .n (.two (.use (tube_Fit_l0_seg k)) .n)))) .n)) (.two (.two .n (.two (.two (.own 1 .n) .n) .n)) .n)))))) ⟨trivial, ⟨trivial, ⟨trivial, ⟨trivial, ⟨⟨⟨trivial, trivial⟩, ⟨⟨trivial, ⟨trivial, ⟨(tube_Fit_l0_seg.ok k), trivial⟩⟩⟩, trivial⟩⟩, ⟨⟨trivial, ⟨⟨trivial, trivial⟩, trivial⟩⟩, trivial⟩⟩⟩⟩⟩⟩ (fun xs => by kernel_rfl)
def e50 (k : Nat) : Env := (e49 k).add 26 ⟨[T28], [T28], fun x => tube_Fit k x.1⟩
theorem e50.ok (k : Nat) : (e50 k).OK Try.prog := (e49.ok k).add (tube_Fit.ok k)
abbrev tube_times_l0_i : Mask := ⟨[(0, 19, (.v .bool)), (1, 1, (.v T27)), (1, 2, (.k (.clo 56 .nl))), (1, 15, (.v T27)), (1, 16, (.v (.int .i64))), (1, 17, (.v (.int .i64)))], [], [], 0⟩
abbrev tube_times_l0_o : List Out := [⟨.ret, ⟨[(0, 19, (.v .bool)), (1, 6, (.v .bool))], [], [], 0⟩⟩, ⟨.exit 0, ⟨[(0, 19, (.v .bool))], [], [], 0⟩⟩]
def tube_times_l0 (k : Nat) : Nat → Mask.den tube_times_l0_i → Option (denS tube_times_l0_o)
 | 0, _ => none
 | m + 1, x =>
  bif (decide (x.1.2.2.2.2.2.1 < x.1.2.2.2.2.1)) then
   if 0 ≤ x.1.2.2.2.2.2.1 then (x.1.2.2.2.1[Int.toNat x.1.2.2.2.2.2.1]?).bind fun y3 =>
    if 0 ≤ x.1.2.2.2.2.2.1 then (x.1.2.1[Int.toNat x.1.2.2.2.2.2.1]?).bind fun y4 =>
     (tube_times_1 k y3 y4).bind fun r5 =>
     bif (!r5.1) then
      some (Sum.inl ((x.1.1, false, ()), ()))
     else
      tube_times_l0 k m ((x.1.1, x.1.2.1, (), x.1.2.2.2.1, x.1.2.2.2.2.1, (IntKind.i64.wrap (x.1.2.2.2.2.2.1 + 1)), ()), ())
    else none
   else none
  else
   some (Sum.inr (Sum.inl ((x.1.1, ()), ())))
abbrev tube_times_l0_seg (k : Nat) : Seg := ⟨⟨1, 32, false, [0], []⟩, 57, [.b, .s2, .s1, .s2, .s2], tube_times_l0_i, tube_times_l0_o, tube_times_l0 k k⟩
theorem tube_times_l0_seg.ok (k : Nat) : SegOK Try.prog (e50 k) (tube_times_l0_seg k) :=
 SegOK.loop (e50.ok k) (by kernel_rfl) (S := tube_times_l0_seg k) (c := atR (codeOf (e50 k) 57) [.l, .b, .s2, .s1, .s2, .s2]) (by kernel_rfl) (tube_times_l0 k) k rfl (fun _ => rfl) 8 .n trivial (fun k' x => by kernel_rfl)
def tube_times (k : Nat) (x0 : Ty.den T28) (x1 : Ty.den T28) : Option (HL [.bool]) :=
 (tube_May k x0).bind fun r1 =>
 bif r1.1 then
  (tube_May k x1).bind fun r2 =>
  bif r2.1 then
   bif (beqT T23 x0.1 x1.1) then
    bif ((x0.2.2.length : Int) != (x1.2.2.length : Int)) then
     some (false, ())
    else
     (tube_times_l0 k k ((true, x1.2.2, (), x0.2.2, (x0.2.2.length : Int), 0, ()), ())).bind fun q6 =>
     Sum.elim (fun z7 =>
       bif z7.1.1 then
        some (z7.1.2.1, ())
       else
        some (false, ()))
      (fun q6' =>
       Sum.elim (fun z8 =>
         bif z8.1.1 then
          some (true, ())
         else
          some (false, ()))
        (fun q6'' =>
         none) q6') q6
   else
    some (false, ())
  else
   some (false, ())
 else
  some (false, ())
theorem tube_times.ok (k : Nat) : SpecOK Try.prog G0 32 ⟨[T28, T28], [.bool], fun x => tube_times k x.1 x.2.1⟩ :=
 evF_sound (E := (e50 k)) (fn := Try.f32) (e50.ok k) (by kernel_rfl) (by kernel_rfl) (by kernel_rfl) 8 (.two .n (.two .n (.two (.call 19 1 (.two .n (.two .n (.two (.two .n (.two (.use (tube_times_l0_seg k)) .n)) .n))) .n) .n))) ⟨trivial, ⟨trivial, ⟨⟨⟨trivial, ⟨trivial, ⟨⟨trivial, ⟨(tube_times_l0_seg.ok k), trivial⟩⟩, trivial⟩⟩⟩, trivial⟩, trivial⟩⟩⟩ (fun xs => by kernel_rfl)
def e51 (k : Nat) : Env := (e50 k).add 32 ⟨[T28, T28], [.bool], fun x => tube_times k x.1 x.2.1⟩
theorem e51.ok (k : Nat) : (e51 k).OK Try.prog := (e50.ok k).add (tube_times.ok k)
abbrev tube_Within_l0_i : Mask := ⟨[(0, 2, (.k (.ptr 2 0 0))), (0, 3, (.k (.ptr 3 0 0))), (0, 16, (.v T27)), (0, 17, (.v (.int .i64))), (0, 18, (.v (.int .i64)))], [(2, .cells (.v T28)), (3, .cells (.v T28))], [], 0⟩
abbrev tube_Within_l0_o : List Out := [⟨.ret, ⟨[(0, 4, (.v .bool))], [], [], 0⟩⟩, ⟨.exit 1, ⟨[(0, 2, (.k (.ptr 2 0 0))), (0, 3, (.k (.ptr 3 0 0)))], [(2, .cells (.v T28)), (3, .cells (.v T28))], [], 0⟩⟩]
def tube_Within_l0 (k : Nat) : Nat → Mask.den tube_Within_l0_i → Option (denS tube_Within_l0_o)
 | 0, _ => none
 | m + 1, x =>
  bif (decide (x.1.2.2.2.2.1 < x.1.2.2.2.1)) then
   if 0 ≤ x.1.2.2.2.2.1 then (x.1.2.2.1[Int.toNat x.1.2.2.2.2.1]?).bind fun y3 =>
    if 0 ≤ x.1.2.2.2.2.1 then (x.2.2.1.2.2[Int.toNat x.1.2.2.2.2.1]?).bind fun y4 =>
     (iv_Within k y3.2.1 y4.2.1).bind fun r5 =>
     bif (!r5.1) then
      some (Sum.inl ((false, ()), ()))
     else
      if 0 ≤ x.1.2.2.2.2.1 then (x.2.2.1.2.2[Int.toNat x.1.2.2.2.2.1]?).bind fun y6 =>
       (iv_Within k y3.2.2 y6.2.2).bind fun r7 =>
       bif (!r7.1) then
        some (Sum.inl ((false, ()), ()))
       else
        tube_Within_l0 k m (((), (), x.1.2.2.1, x.1.2.2.2.1, (IntKind.i64.wrap (x.1.2.2.2.2.1 + 1)), ()), (x.2.1, x.2.2.1, ()))
      else none
    else none
   else none
  else
   some (Sum.inr (Sum.inl (((), (), ()), (x.2.1, x.2.2.1, ()))))
abbrev tube_Within_l0_seg (k : Nat) : Seg := ⟨⟨0, 51, false, [], []⟩, 13, [.b, .s2, .s1, .s2, .s2], tube_Within_l0_i, tube_Within_l0_o, tube_Within_l0 k k⟩
theorem tube_Within_l0_seg.ok (k : Nat) : SegOK Try.prog (e51 k) (tube_Within_l0_seg k) :=
 SegOK.loop (e51.ok k) (by kernel_rfl) (S := tube_Within_l0_seg k) (c := atR (codeOf (e51 k) 13) [.l, .b, .s2, .s1, .s2, .s2]) (by kernel_rfl) (tube_Within_l0 k) k rfl (fun _ => rfl) 8 .n trivial (fun k' x => by kernel_rfl)
def tube_Within (k : Nat) (x0 : Ty.den T28) (x1 : Ty.den T28) : Option (HL [.bool]) :=
 (tube_times k x0 x1).bind fun r1 =>
 bif (!r1.1) then
  some (false, ())
 else
  (tube_Empty k x0).bind fun r2 =>
  bif r2.1 then
   some (true, ())
  else
   (tube_Within_l0 k k (((), (), x0.2.2, (x0.2.2.length : Int), 0, ()), (x0, x1, ()))).bind fun q8 =>
   Sum.elim (fun z9 =>
     some (z9.1.1, ()))
    (fun q8' =>
     Sum.elim (fun z10 =>
       (iv_Within k z10.2.1.2.1 z10.2.2.1.2.1).bind fun r11 =>
       some (r11.1, ()))
      (fun q8'' =>
       none) q8') q8
theorem tube_Within.ok (k : Nat) : SpecOK Try.prog G0 13 ⟨[T28, T28], [.bool], fun x => tube_Within k x.1 x.2.1⟩ :=
 evF_sound (E := (e51 k)) (fn := Try.f13) (e51.ok k) (by kernel_rfl) (by kernel_rfl) (by kernel_rfl) 8 (.two .n (.two .n (.two (.two .n (.two (.use (tube_Within_l0_seg k)) .n)) .n))) ⟨trivial, ⟨trivial, ⟨⟨trivial, ⟨(tube_Within_l0_seg.ok k), trivial⟩⟩, trivial⟩⟩⟩ (fun xs => by kernel_rfl)
def e52 (k : Nat) : Env := (e51 k).add 13 ⟨[T28, T28], [.bool], fun x => tube_Within k x.1 x.2.1⟩
theorem e52.ok (k : Nat) : (e52 k).OK Try.prog := (e51.ok k).add (tube_Within.ok k)
def flow_Time (k : Nat) (x0 : Ty.den T28) (x1 : Ty.den (.int .i64)) : Option (HL [T25]) :=
 (tube_May k x0).bind fun r1 =>
 bif (!r1.1) then
  (iv_None k).bind fun r2 =>
  some (r2.1, ())
 else
  bif (decide (x1 < 0)) then
   (iv_None k).bind fun r3 =>
   some (r3.1, ())
  else
   bif (decide (x1 ≥ (x0.2.2.length : Int))) then
    (iv_None k).bind fun r4 =>
    some (r4.1, ())
   else
    (flow_when k x0 x1).bind fun r5 =>
    (flow_when k x0 (IntKind.i64.wrap (x1 + 1))).bind fun r6 =>
    (arith_Sub k r6.1 r5.1 false).bind fun r7 =>
    (arith_Sub k r6.1 r5.1 true).bind fun r8 =>
    (iv_Make k r7.1 r8.1).bind fun r9 =>
    some (r9.1, ())
theorem flow_Time.ok (k : Nat) : SpecOK Try.prog G0 50 ⟨[T28, (.int .i64)], [T25], fun x => flow_Time k x.1 x.2.1⟩ :=
 evF_sound (E := (e52 k)) (fn := Try.f50) (e52.ok k) (by kernel_rfl) (by kernel_rfl) (by kernel_rfl) 8 .n trivial (fun xs => by kernel_rfl)
def e53 (k : Nat) : Env := (e52 k).add 50 ⟨[T28, (.int .i64)], [T25], fun x => flow_Time k x.1 x.2.1⟩
theorem e53.ok (k : Nat) : (e53 k).OK Try.prog := (e52.ok k).add (flow_Time.ok k)
def arith_Mul (k : Nat) (x0 : Ty.den T23) (x1 : Ty.den T23) (x2 : Ty.den .bool) : Option (HL [T23]) :=
 (arith_fair k x0).bind fun r1 =>
 (arith_fair k x1).bind fun r2 =>
 bif (r1.1.1 == 0) then
  some ((0, false, 0, 0), ())
 else
  bif (r2.1.1 == 0) then
   some ((0, false, 0, 0), ())
  else
   bif (r1.1.1 == 2) then
    (num_Infinite k (!(r1.1.2.1 == r2.1.2.1))).bind fun r3 =>
    some (r3.1, ())
   else
    bif (r2.1.1 == 2) then
     (num_Infinite k (!(r1.1.2.1 == r2.1.2.1))).bind fun r4 =>
     some (r4.1, ())
    else
     (bits_Mul64 k r1.1.2.2.1 r2.1.2.2.1).bind fun r5 =>
     bif (decide (r5.1 < 9223372036854775808)) then
      (num_Grow k (!(r1.1.2.1 == r2.1.2.1)) (IntKind.u64.wrap (BitVec.toNat (BitVec.ofInt IntKind.u64.bits (IntKind.u64.wrap (r5.1 * 2 ^ min (Int.toNat 1) IntKind.u64.bits)) ||| BitVec.ofInt IntKind.u64.bits (Int.fdiv r5.2.1 (2 ^ min (Int.toNat 63) IntKind.u64.bits))))) (IntKind.i64.wrap ((IntKind.i64.wrap ((IntKind.i64.wrap (r1.1.2.2.2 + r2.1.2.2.2)) + 64)) - 1)) ((IntKind.u64.wrap (r5.2.1 * 2 ^ min (Int.toNat 1) IntKind.u64.bits)) != 0) (!(x2 == (!(r1.1.2.1 == r2.1.2.1))))).bind fun r6 =>
      some (r6.1, ())
     else
      (num_Grow k (!(r1.1.2.1 == r2.1.2.1)) r5.1 (IntKind.i64.wrap ((IntKind.i64.wrap (r1.1.2.2.2 + r2.1.2.2.2)) + 64)) (r5.2.1 != 0) (!(x2 == (!(r1.1.2.1 == r2.1.2.1))))).bind fun r7 =>
      some (r7.1, ())
theorem arith_Mul.ok (k : Nat) : SpecOK Try.prog G0 64 ⟨[T23, T23, .bool], [T23], fun x => arith_Mul k x.1 x.2.1 x.2.2.1⟩ :=
 evF_sound (E := (e53 k)) (fn := Try.f64) (e53.ok k) (by kernel_rfl) (by kernel_rfl) (by kernel_rfl) 8 .n trivial (fun xs => by kernel_rfl)
def e54 (k : Nat) : Env := (e53 k).add 64 ⟨[T23, T23, .bool], [T23], fun x => arith_Mul k x.1 x.2.1 x.2.2.1⟩
theorem e54.ok (k : Nat) : (e54 k).OK Try.prog := (e53.ok k).add (arith_Mul.ok k)
def ivop_Mul (k : Nat) (x0 : Ty.den T25) (x1 : Ty.den T25) : Option (HL [T25]) :=
 (ivop_none k [x0, x1]).bind fun r1 =>
 bif r1.1 then
  (iv_None k).bind fun r2 =>
  some (r2.1, ())
 else
  (arith_Mul k x0.2.1 x1.2.1 false).bind fun r3 =>
  (arith_Mul k x0.2.1 x1.2.2 false).bind fun r4 =>
  (arith_Mul k x0.2.2 x1.2.1 false).bind fun r5 =>
  (arith_Mul k x0.2.2 x1.2.2 false).bind fun r6 =>
  (num_Least k [r3.1, r4.1, r5.1, r6.1]).bind fun r7 =>
  (arith_Mul k x0.2.1 x1.2.1 true).bind fun r8 =>
  (arith_Mul k x0.2.1 x1.2.2 true).bind fun r9 =>
  (arith_Mul k x0.2.2 x1.2.1 true).bind fun r10 =>
  (arith_Mul k x0.2.2 x1.2.2 true).bind fun r11 =>
  (num_Most k [r8.1, r9.1, r10.1, r11.1]).bind fun r12 =>
  (iv_Make k r7.1 r12.1).bind fun r13 =>
  some (r13.1, ())
theorem ivop_Mul.ok (k : Nat) : SpecOK Try.prog G0 51 ⟨[T25, T25], [T25], fun x => ivop_Mul k x.1 x.2.1⟩ :=
 evF_sound (E := (e54 k)) (fn := Try.f51) (e54.ok k) (by kernel_rfl) (by kernel_rfl) (by kernel_rfl) 8 (.two .n (.two .n (.two (.call 2 1 (.two .n (.two .n (.two (.call 1 514 .n (.call 4 515 .n .n)) .n))) .n) .n))) ⟨trivial, ⟨trivial, ⟨⟨⟨trivial, ⟨trivial, ⟨⟨trivial, ⟨trivial, trivial⟩⟩, trivial⟩⟩⟩, trivial⟩, trivial⟩⟩⟩ (fun xs => by kernel_rfl)
def e55 (k : Nat) : Env := (e54 k).add 51 ⟨[T25, T25], [T25], fun x => ivop_Mul k x.1 x.2.1⟩
theorem e55.ok (k : Nat) : (e55 k).OK Try.prog := (e54.ok k).add (ivop_Mul.ok k)
abbrev flow_Contract_l0_i : Mask := ⟨[(0, 1, (.v T32)), (0, 2, (.k (.ptr 2 0 0))), (0, 4, (.k (.ptr 4 0 0))), (0, 20, (.v .bool)), (2, 0, (.v T32)), (2, 1, (.k (.clo 24 .nl))), (2, 7, (.v (.int .i64))), (2, 8, (.v (.int .i64)))], [(2, .cells (.v T28)), (4, .cells (.pr (.v T23) (.pr (.v T25) (.v T27))))], [], 0⟩
abbrev flow_Contract_l0_o : List Out := [⟨.ret, ⟨[(0, 1, (.v T32)), (0, 2, (.k (.ptr 2 0 0))), (0, 4, (.k (.ptr 4 0 0))), (0, 20, (.v .bool)), (2, 4, (.v (.int .i64)))], [(2, .cells (.v T28)), (4, .cells (.pr (.v T23) (.pr (.v T25) (.v T27))))], [], 0⟩⟩, ⟨.exit 0, ⟨[(0, 1, (.v T32)), (0, 2, (.k (.ptr 2 0 0))), (0, 4, (.k (.ptr 4 0 0))), (0, 20, (.v .bool))], [(2, .cells (.v T28)), (4, .cells (.pr (.v T23) (.pr (.v T25) (.v T27))))], [], 0⟩⟩]
def flow_Contract_l0 (k : Nat) : Nat → Mask.den flow_Contract_l0_i → Option (denS flow_Contract_l0_o)
 | 0, _ => none
 | m + 1, x =>
  bif (decide (x.1.2.2.2.2.2.2.2.1 < x.1.2.2.2.2.2.2.1)) then
   if 0 ≤ x.1.2.2.2.2.2.2.2.1 then (x.1.2.2.2.2.1[Int.toNat x.1.2.2.2.2.2.2.2.1]?).bind fun y2 =>
    (flow_Contract_1 k y2).bind fun r3 =>
    bif r3.1 then
     some (Sum.inl ((x.1.1, (), (), x.1.2.2.2.1, x.1.2.2.2.2.2.2.2.1, ()), (x.2.1, (x.2.2.1.1, (x.2.2.1.2.1, x.2.2.1.2.2)), ())))
    else
     flow_Contract_l0 k m ((x.1.1, (), (), x.1.2.2.2.1, x.1.2.2.2.2.1, (), x.1.2.2.2.2.2.2.1, (IntKind.i64.wrap (x.1.2.2.2.2.2.2.2.1 + 1)), ()), (x.2.1, (x.2.2.1.1, (x.2.2.1.2.1, x.2.2.1.2.2)), ()))
   else none
  else
   some (Sum.inr (Sum.inl ((x.1.1, (), (), x.1.2.2.2.1, ()), (x.2.1, (x.2.2.1.1, (x.2.2.1.2.1, x.2.2.1.2.2)), ()))))
abbrev flow_Contract_l0_seg (k : Nat) : Seg := ⟨⟨2, 19, false, [1, 0], []⟩, 45, [.b, .s2, .s1, .s2], flow_Contract_l0_i, flow_Contract_l0_o, flow_Contract_l0 k k⟩
theorem flow_Contract_l0_seg.ok (k : Nat) : SegOK Try.prog (e55 k) (flow_Contract_l0_seg k) :=
 SegOK.loop (e55.ok k) (by kernel_rfl) (S := flow_Contract_l0_seg k) (c := atR (codeOf (e55 k) 45) [.l, .b, .s2, .s1, .s2]) (by kernel_rfl) (flow_Contract_l0 k) k rfl (fun _ => rfl) 8 .n trivial (fun k' x => by kernel_rfl)
abbrev flow_Contract_l2_i : Mask := ⟨[(0, 1, (.v T32)), (0, 2, (.k (.ptr 2 0 0))), (0, 4, (.k (.ptr 4 0 0))), (8, 0, (.k (.yld 0))), (8, 1, (.k (.ptr 2125825 0 0))), (8, 3, (.k (.ptr 32771 0 0))), (8, 14, (.v (.int .i64))), (8, 15, (.v (.int .i64))), (515, 2, (.k (.ptr 2109442 0 0))), (515, 3, (.k (.ptr 2109443 0 0)))], [(2, .cells (.v T28)), (4, .cells (.pr (.v T23) (.pr (.v T25) (.v T27)))), (32771, .cells (.pr (.v T23) (.v T25))), (2109442, .cells (.pr (.v T23) (.pr (.v T25) (.v T27)))), (2109443, .cells (.pr (.v T23) (.pr (.v T25) (.k (.arr 2109453 0))))), (2109453, .arr 36 T35), (2125825, .cells (.v T28))], [], 1⟩
abbrev flow_Contract_l2_o : List Out := [⟨.exit 0, ⟨[(0, 1, (.v T32)), (0, 2, (.k (.ptr 2 0 0))), (0, 4, (.k (.ptr 4 0 0))), (515, 2, (.k (.ptr 2109442 0 0))), (515, 3, (.k (.ptr 2109443 0 0)))], [(2, .cells (.v T28)), (4, .cells (.pr (.v T23) (.pr (.v T25) (.v T27)))), (2109442, .cells (.pr (.v T23) (.pr (.v T25) (.v T27)))), (2109443, .cells (.pr (.v T23) (.pr (.v T25) (.k (.arr 2109453 0))))), (2109453, .arr 36 T35)], [], 1⟩⟩]
def flow_Contract_l2 (k : Nat) : Nat → Mask.den flow_Contract_l2_i → Option (denS flow_Contract_l2_o)
 | 0, _ => none
 | m + 1, x =>
  bif (decide (x.1.2.2.2.2.2.2.2.1 < x.1.2.2.2.2.2.2.1)) then
   bif (decide (x.1.2.2.2.2.2.2.2.1 > 0)) then
    if 0 ≤ (IntKind.i64.wrap (x.1.2.2.2.2.2.2.2.1 - 1)) then (x.2.2.2.2.2.2.2.1.2.2[Int.toNat (IntKind.i64.wrap (x.1.2.2.2.2.2.2.2.1 - 1))]?).bind fun y18 =>
     (iv_Meet k [y18.2.2, y18.2.1]).bind fun r19 =>
     bif (decide (x.1.2.2.2.2.2.2.2.1 < (x.2.2.2.2.2.2.2.1.2.2.length : Int))) then
      if 0 ≤ x.1.2.2.2.2.2.2.2.1 then (x.2.2.2.2.2.2.2.1.2.2[Int.toNat x.1.2.2.2.2.2.2.2.1]?).bind fun y20 =>
       (iv_Meet k [r19.1, y20.2.1]).bind fun r21 =>
       bif (x.1.2.2.2.2.2.2.2.1 == 0) then
        flow_Contract_l2 k m ((x.1.1, (), (), (), (), (), x.1.2.2.2.2.2.2.1, (IntKind.i64.wrap (x.1.2.2.2.2.2.2.2.1 + 1)), (), (), ()), (x.2.1, (x.2.2.1.1, (x.2.2.1.2.1, x.2.2.1.2.2)), (y18.1, r21.1), (x.2.2.2.2.1.1, (x.2.2.2.2.1.2.1, x.2.2.2.2.1.2.2)), (x.2.2.2.2.2.1.1, (r21.1, ())), x.2.2.2.2.2.2.1, x.2.2.2.2.2.2.2.1, ()))
       else
        if 0 ≤ (IntKind.i64.wrap (x.1.2.2.2.2.2.2.2.1 - 1)) then (x.2.2.2.2.2.2.1[Int.toNat (IntKind.i64.wrap (x.1.2.2.2.2.2.2.2.1 - 1))]?).bind fun _ =>
         (x.2.2.2.2.2.2.1[(Int.toNat (IntKind.i64.wrap (x.1.2.2.2.2.2.2.2.1 - 1)))]?).bind fun y23 =>
         flow_Contract_l2 k m ((x.1.1, (), (), (), (), (), x.1.2.2.2.2.2.2.1, (IntKind.i64.wrap (x.1.2.2.2.2.2.2.2.1 + 1)), (), (), ()), (x.2.1, (x.2.2.1.1, (x.2.2.1.2.1, x.2.2.1.2.2)), (y18.1, r21.1), (x.2.2.2.2.1.1, (x.2.2.2.2.1.2.1, x.2.2.2.2.1.2.2)), (x.2.2.2.2.2.1.1, (x.2.2.2.2.2.1.2.1, ())), (x.2.2.2.2.2.2.1.set (Int.toNat (IntKind.i64.wrap (x.1.2.2.2.2.2.2.2.1 - 1))) (y23.1, y23.2.1, r21.1)), x.2.2.2.2.2.2.2.1, ()))
        else none
      else none
     else
      bif (x.1.2.2.2.2.2.2.2.1 == 0) then
       flow_Contract_l2 k m ((x.1.1, (), (), (), (), (), x.1.2.2.2.2.2.2.1, (IntKind.i64.wrap (x.1.2.2.2.2.2.2.2.1 + 1)), (), (), ()), (x.2.1, (x.2.2.1.1, (x.2.2.1.2.1, x.2.2.1.2.2)), (y18.1, r19.1), (x.2.2.2.2.1.1, (x.2.2.2.2.1.2.1, x.2.2.2.2.1.2.2)), (x.2.2.2.2.2.1.1, (r19.1, ())), x.2.2.2.2.2.2.1, x.2.2.2.2.2.2.2.1, ()))
      else
       if 0 ≤ (IntKind.i64.wrap (x.1.2.2.2.2.2.2.2.1 - 1)) then (x.2.2.2.2.2.2.1[Int.toNat (IntKind.i64.wrap (x.1.2.2.2.2.2.2.2.1 - 1))]?).bind fun _ =>
        (x.2.2.2.2.2.2.1[(Int.toNat (IntKind.i64.wrap (x.1.2.2.2.2.2.2.2.1 - 1)))]?).bind fun y25 =>
        flow_Contract_l2 k m ((x.1.1, (), (), (), (), (), x.1.2.2.2.2.2.2.1, (IntKind.i64.wrap (x.1.2.2.2.2.2.2.2.1 + 1)), (), (), ()), (x.2.1, (x.2.2.1.1, (x.2.2.1.2.1, x.2.2.1.2.2)), (y18.1, r19.1), (x.2.2.2.2.1.1, (x.2.2.2.2.1.2.1, x.2.2.2.2.1.2.2)), (x.2.2.2.2.2.1.1, (x.2.2.2.2.2.1.2.1, ())), (x.2.2.2.2.2.2.1.set (Int.toNat (IntKind.i64.wrap (x.1.2.2.2.2.2.2.2.1 - 1))) (y25.1, y25.2.1, r19.1)), x.2.2.2.2.2.2.2.1, ()))
       else none
    else none
   else
    bif (decide (x.1.2.2.2.2.2.2.2.1 < (x.2.2.2.2.2.2.2.1.2.2.length : Int))) then
     if 0 ≤ x.1.2.2.2.2.2.2.2.1 then (x.2.2.2.2.2.2.2.1.2.2[Int.toNat x.1.2.2.2.2.2.2.2.1]?).bind fun y26 =>
      (iv_Meet k [x.2.2.2.1.2, y26.2.1]).bind fun r27 =>
      bif (x.1.2.2.2.2.2.2.2.1 == 0) then
       flow_Contract_l2 k m ((x.1.1, (), (), (), (), (), x.1.2.2.2.2.2.2.1, (IntKind.i64.wrap (x.1.2.2.2.2.2.2.2.1 + 1)), (), (), ()), (x.2.1, (x.2.2.1.1, (x.2.2.1.2.1, x.2.2.1.2.2)), (x.2.2.2.1.1, r27.1), (x.2.2.2.2.1.1, (x.2.2.2.2.1.2.1, x.2.2.2.2.1.2.2)), (x.2.2.2.2.2.1.1, (r27.1, ())), x.2.2.2.2.2.2.1, x.2.2.2.2.2.2.2.1, ()))
      else
       if 0 ≤ (IntKind.i64.wrap (x.1.2.2.2.2.2.2.2.1 - 1)) then (x.2.2.2.2.2.2.1[Int.toNat (IntKind.i64.wrap (x.1.2.2.2.2.2.2.2.1 - 1))]?).bind fun _ =>
        (x.2.2.2.2.2.2.1[(Int.toNat (IntKind.i64.wrap (x.1.2.2.2.2.2.2.2.1 - 1)))]?).bind fun y29 =>
        flow_Contract_l2 k m ((x.1.1, (), (), (), (), (), x.1.2.2.2.2.2.2.1, (IntKind.i64.wrap (x.1.2.2.2.2.2.2.2.1 + 1)), (), (), ()), (x.2.1, (x.2.2.1.1, (x.2.2.1.2.1, x.2.2.1.2.2)), (x.2.2.2.1.1, r27.1), (x.2.2.2.2.1.1, (x.2.2.2.2.1.2.1, x.2.2.2.2.1.2.2)), (x.2.2.2.2.2.1.1, (x.2.2.2.2.2.1.2.1, ())), (x.2.2.2.2.2.2.1.set (Int.toNat (IntKind.i64.wrap (x.1.2.2.2.2.2.2.2.1 - 1))) (y29.1, y29.2.1, r27.1)), x.2.2.2.2.2.2.2.1, ()))
       else none
     else none
    else
     bif (x.1.2.2.2.2.2.2.2.1 == 0) then
      flow_Contract_l2 k m ((x.1.1, (), (), (), (), (), x.1.2.2.2.2.2.2.1, (IntKind.i64.wrap (x.1.2.2.2.2.2.2.2.1 + 1)), (), (), ()), (x.2.1, (x.2.2.1.1, (x.2.2.1.2.1, x.2.2.1.2.2)), (x.2.2.2.1.1, x.2.2.2.1.2), (x.2.2.2.2.1.1, (x.2.2.2.2.1.2.1, x.2.2.2.2.1.2.2)), (x.2.2.2.2.2.1.1, (x.2.2.2.1.2, ())), x.2.2.2.2.2.2.1, x.2.2.2.2.2.2.2.1, ()))
     else
      if 0 ≤ (IntKind.i64.wrap (x.1.2.2.2.2.2.2.2.1 - 1)) then (x.2.2.2.2.2.2.1[Int.toNat (IntKind.i64.wrap (x.1.2.2.2.2.2.2.2.1 - 1))]?).bind fun _ =>
       (x.2.2.2.2.2.2.1[(Int.toNat (IntKind.i64.wrap (x.1.2.2.2.2.2.2.2.1 - 1)))]?).bind fun y31 =>
       flow_Contract_l2 k m ((x.1.1, (), (), (), (), (), x.1.2.2.2.2.2.2.1, (IntKind.i64.wrap (x.1.2.2.2.2.2.2.2.1 + 1)), (), (), ()), (x.2.1, (x.2.2.1.1, (x.2.2.1.2.1, x.2.2.1.2.2)), (x.2.2.2.1.1, x.2.2.2.1.2), (x.2.2.2.2.1.1, (x.2.2.2.2.1.2.1, x.2.2.2.2.1.2.2)), (x.2.2.2.2.2.1.1, (x.2.2.2.2.2.1.2.1, ())), (x.2.2.2.2.2.2.1.set (Int.toNat (IntKind.i64.wrap (x.1.2.2.2.2.2.2.2.1 - 1))) (y31.1, y31.2.1, x.2.2.2.1.2)), x.2.2.2.2.2.2.2.1, ()))
      else none
  else
   some (Sum.inl ((x.1.1, (), (), (), (), ()), (x.2.1, (x.2.2.1.1, (x.2.2.1.2.1, x.2.2.1.2.2)), (x.2.2.2.2.1.1, (x.2.2.2.2.1.2.1, x.2.2.2.2.1.2.2)), (x.2.2.2.2.2.1.1, (x.2.2.2.2.2.1.2.1, ())), x.2.2.2.2.2.2.1, ())))
abbrev flow_Contract_l2_seg (k : Nat) : Seg := ⟨⟨8, 57, false, [515, 0], [⟨0, 515, 37, 26, [.b, .s2, .s1, .s2, .s2, .s2, .s2]⟩]⟩, 60, [.b, .s2, .s2], flow_Contract_l2_i, flow_Contract_l2_o, flow_Contract_l2 k k⟩
theorem flow_Contract_l2_seg.ok (k : Nat) : SegOK Try.prog (e55 k) (flow_Contract_l2_seg k) :=
 SegOK.loop (e55.ok k) (by kernel_rfl) (S := flow_Contract_l2_seg k) (c := atR (codeOf (e55 k) 60) [.l, .b, .s2, .s2]) (by kernel_rfl) (flow_Contract_l2 k) k rfl (fun _ => rfl) 8 (.two .n (.two .n (.two (.two (.two .n (.two .n (.two .n (.two (.call 3 9 .n .n) .n)))) .n) .n))) ⟨trivial, ⟨trivial, ⟨⟨⟨trivial, ⟨trivial, ⟨trivial, ⟨⟨trivial, trivial⟩, trivial⟩⟩⟩⟩, trivial⟩, trivial⟩⟩⟩ (fun k' x => by kernel_rfl)
abbrev flow_Contract_l3_i : Mask := ⟨[(0, 1, (.v T32)), (0, 2, (.k (.ptr 2 0 0))), (0, 4, (.k (.ptr 4 0 0))), (515, 2, (.k (.ptr 2109442 0 0))), (522, 1, (.k (.ptr 2138113 0 0))), (522, 2, (.k (.ptr 2138114 0 0))), (522, 3, (.k (.ptr 2138115 0 0))), (522, 14, (.v (.int .i64))), (522, 15, (.v (.int .i64)))], [(2, .cells (.v T28)), (4, .cells (.pr (.v T23) (.pr (.v T25) (.v T27)))), (2109442, .cells (.pr (.v T23) (.pr (.v T25) (.v T27)))), (2138113, .cells (.pr (.v T23) (.pr (.v T25) (.k (.arr 2138122 0))))), (2138114, .cells (.pr (.v T23) (.pr (.v T25) (.v T27)))), (2138115, .cells (.v T25)), (2138122, .arr 36 T35)], [], 1⟩
abbrev flow_Contract_l3_o : List Out := [⟨.exit 0, ⟨[(0, 1, (.v T32)), (0, 2, (.k (.ptr 2 0 0))), (0, 4, (.k (.ptr 4 0 0))), (515, 2, (.k (.ptr 2109442 0 0))), (522, 1, (.k (.ptr 2138113 0 0))), (522, 2, (.k (.ptr 2138114 0 0)))], [(2, .cells (.v T28)), (4, .cells (.pr (.v T23) (.pr (.v T25) (.v T27)))), (2109442, .cells (.pr (.v T23) (.pr (.v T25) (.v T27)))), (2138113, .cells (.pr (.v T23) (.pr (.v T25) (.k (.arr 2138122 0))))), (2138114, .cells (.pr (.v T23) (.pr (.v T25) (.v T27)))), (2138122, .arr 36 T35)], [], 1⟩⟩]
def flow_Contract_l3 (k : Nat) : Nat → Mask.den flow_Contract_l3_i → Option (denS flow_Contract_l3_o)
 | 0, _ => none
 | m + 1, x =>
  bif (decide (x.1.2.2.2.2.2.2.2.2.1 < x.1.2.2.2.2.2.2.2.1)) then
   if 0 ≤ x.1.2.2.2.2.2.2.2.2.1 then (x.2.2.2.2.2.2.2.1[Int.toNat x.1.2.2.2.2.2.2.2.2.1]?).bind fun _ =>
    (x.2.2.2.2.2.2.2.1[(Int.toNat x.1.2.2.2.2.2.2.2.2.1)]?).bind fun y37 =>
    if 0 ≤ x.1.2.2.2.2.2.2.2.2.1 then ((x.2.2.2.2.2.2.2.1.set (Int.toNat x.1.2.2.2.2.2.2.2.2.1) (y37.1, x.2.2.2.2.2.2.1, y37.2.2))[Int.toNat x.1.2.2.2.2.2.2.2.2.1]?).bind fun _ =>
     ((x.2.2.2.2.2.2.2.1.set (Int.toNat x.1.2.2.2.2.2.2.2.2.1) (y37.1, x.2.2.2.2.2.2.1, y37.2.2))[(Int.toNat x.1.2.2.2.2.2.2.2.2.1)]?).bind fun y39 =>
     flow_Contract_l3 k m ((x.1.1, (), (), (), (), (), (), x.1.2.2.2.2.2.2.2.1, (IntKind.i64.wrap (x.1.2.2.2.2.2.2.2.2.1 + 1)), ()), (x.2.1, (x.2.2.1.1, (x.2.2.1.2.1, x.2.2.1.2.2)), (x.2.2.2.1.1, (x.2.2.2.1.2.1, x.2.2.2.1.2.2)), (x.2.2.2.2.1.1, (x.2.2.2.2.1.2.1, ())), (x.2.2.2.2.2.1.1, (x.2.2.2.2.2.1.2.1, x.2.2.2.2.2.1.2.2)), x.2.2.2.2.2.2.1, ((x.2.2.2.2.2.2.2.1.set (Int.toNat x.1.2.2.2.2.2.2.2.2.1) (y37.1, x.2.2.2.2.2.2.1, y37.2.2)).set (Int.toNat x.1.2.2.2.2.2.2.2.2.1) (y39.1, y39.2.1, x.2.2.2.2.2.2.1)), ()))
    else none
   else none
  else
   some (Sum.inl ((x.1.1, (), (), (), (), (), ()), (x.2.1, (x.2.2.1.1, (x.2.2.1.2.1, x.2.2.1.2.2)), (x.2.2.2.1.1, (x.2.2.2.1.2.1, x.2.2.2.1.2.2)), (x.2.2.2.2.1.1, (x.2.2.2.2.1.2.1, ())), (x.2.2.2.2.2.1.1, (x.2.2.2.2.2.1.2.1, x.2.2.2.2.2.1.2.2)), x.2.2.2.2.2.2.2.1, ())))
abbrev flow_Contract_l3_seg (k : Nat) : Seg := ⟨⟨522, 32, false, [515, 0], []⟩, 48, [.b, .s2, .s1, .s2, .s2, .s2, .s2], flow_Contract_l3_i, flow_Contract_l3_o, flow_Contract_l3 k k⟩
theorem flow_Contract_l3_seg.ok (k : Nat) : SegOK Try.prog (e55 k) (flow_Contract_l3_seg k) :=
 SegOK.loop (e55.ok k) (by kernel_rfl) (S := flow_Contract_l3_seg k) (c := atR (codeOf (e55 k) 48) [.l, .b, .s2, .s1, .s2, .s2, .s2, .s2]) (by kernel_rfl) (flow_Contract_l3 k) k rfl (fun _ => rfl) 8 .n trivial (fun k' x => by kernel_rfl)
abbrev flow_Contract_l4_i : Mask := ⟨[(0, 1, (.v T32)), (0, 2, (.k (.ptr 2 0 0))), (0, 4, (.k (.ptr 4 0 0))), (5, 0, (.k (.yld 1))), (5, 1, (.k (.ptr 2113539 0 0))), (5, 2, (.k (.ptr 2113541 0 0))), (5, 3, (.k (.ptr 2113540 0 0))), (5, 13, (.v (.int .i64))), (5, 14, (.v (.int .i64)))], [(2, .cells (.pr (.v T23) (.pr (.v T25) (.k (.arr 27 0))))), (4, .cells (.pr (.v T23) (.pr (.v T25) (.v T27)))), (27, .arr 36 T35), (2113539, .cells (.k (.ptr 2 0 0))), (2113540, .cells (.v T32)), (2113541, .cells (.v .bool))], [], 2⟩
abbrev flow_Contract_l4_o : List Out := [⟨.exit 0, ⟨[(0, 1, (.v T32)), (0, 2, (.k (.ptr 2 0 0))), (0, 4, (.k (.ptr 4 0 0)))], [(2, .cells (.pr (.v T23) (.pr (.v T25) (.k (.arr 27 0))))), (4, .cells (.pr (.v T23) (.pr (.v T25) (.v T27)))), (27, .arr 36 T35)], [], 2⟩⟩]
def flow_Contract_l4 (k : Nat) : Nat → Mask.den flow_Contract_l4_i → Option (denS flow_Contract_l4_o)
 | 0, _ => none
 | m + 1, x =>
  bif (decide (x.1.2.2.2.2.2.2.2.2.1 < x.1.2.2.2.2.2.2.2.1)) then
   bif (!x.2.2.2.2.2.2.1) then
    (flow_Time k (x.2.1.1, x.2.1.2.1, x.2.2.2.1) (IntKind.i64.wrap ((IntKind.i64.wrap ((x.2.2.2.1.length : Int) - 1)) - x.1.2.2.2.2.2.2.2.2.1))).bind fun r41 =>
    if 0 ≤ (IntKind.i64.wrap ((IntKind.i64.wrap ((x.2.2.2.1.length : Int) - 1)) - x.1.2.2.2.2.2.2.2.2.1)) then (x.2.2.2.1[Int.toNat (IntKind.i64.wrap ((IntKind.i64.wrap ((x.2.2.2.1.length : Int) - 1)) - x.1.2.2.2.2.2.2.2.2.1))]?).bind fun _ =>
     if 0 ≤ (IntKind.i64.wrap ((IntKind.i64.wrap ((x.2.2.2.1.length : Int) - 1)) - x.1.2.2.2.2.2.2.2.2.1)) then (x.2.2.2.1[Int.toNat (IntKind.i64.wrap ((IntKind.i64.wrap ((x.2.2.2.1.length : Int) - 1)) - x.1.2.2.2.2.2.2.2.2.1))]?).bind fun _ =>
      if 0 ≤ (IntKind.i64.wrap ((IntKind.i64.wrap ((x.2.2.2.1.length : Int) - 1)) - x.1.2.2.2.2.2.2.2.2.1)) then (x.2.2.2.2.2.1[Int.toNat (IntKind.i64.wrap ((IntKind.i64.wrap ((x.2.2.2.1.length : Int) - 1)) - x.1.2.2.2.2.2.2.2.2.1))]?).bind fun y44 =>
       (ivop_Mul k y44 r41.1).bind fun r45 =>
       if 0 ≤ (IntKind.i64.wrap ((IntKind.i64.wrap ((x.2.2.2.1.length : Int) - 1)) - x.1.2.2.2.2.2.2.2.2.1)) then (x.2.2.2.2.2.1[Int.toNat (IntKind.i64.wrap ((IntKind.i64.wrap ((x.2.2.2.1.length : Int) - 1)) - x.1.2.2.2.2.2.2.2.2.1))]?).bind fun y46 =>
        (iv_Make k (0, false, 0, 0) r41.1.2.2).bind fun r47 =>
        (ivop_Mul k y46 r47.1).bind fun r48 =>
        bif (decide ((IntKind.i64.wrap ((IntKind.i64.wrap ((x.2.2.2.1.length : Int) - 1)) - x.1.2.2.2.2.2.2.2.2.1)) > 0)) then
         if 0 ≤ (IntKind.i64.wrap ((IntKind.i64.wrap ((IntKind.i64.wrap ((x.2.2.2.1.length : Int) - 1)) - x.1.2.2.2.2.2.2.2.2.1)) - 1)) then (x.2.2.2.1[Int.toNat (IntKind.i64.wrap ((IntKind.i64.wrap ((IntKind.i64.wrap ((x.2.2.2.1.length : Int) - 1)) - x.1.2.2.2.2.2.2.2.2.1)) - 1))]?).bind fun _ =>
          (x.2.2.2.1[(Int.toNat (IntKind.i64.wrap ((IntKind.i64.wrap ((x.2.2.2.1.length : Int) - 1)) - x.1.2.2.2.2.2.2.2.2.1)))]?).bind fun y50 =>
          (x.2.2.2.1[(Int.toNat (IntKind.i64.wrap ((IntKind.i64.wrap ((IntKind.i64.wrap ((x.2.2.2.1.length : Int) - 1)) - x.1.2.2.2.2.2.2.2.2.1)) - 1)))]?).bind fun y51 =>
          (ivop_Add k [y51.2.2, r45.1]).bind fun r52 =>
          (iv_Meet k [y50.2.2, r52.1]).bind fun r53 =>
          (x.2.2.2.1[(Int.toNat (IntKind.i64.wrap ((IntKind.i64.wrap ((x.2.2.2.1.length : Int) - 1)) - x.1.2.2.2.2.2.2.2.2.1)))]?).bind fun y54 =>
          ((x.2.2.2.1.set (Int.toNat (IntKind.i64.wrap ((IntKind.i64.wrap ((x.2.2.2.1.length : Int) - 1)) - x.1.2.2.2.2.2.2.2.2.1))) (y54.1, y54.2.1, r53.1))[(Int.toNat (IntKind.i64.wrap ((IntKind.i64.wrap ((x.2.2.2.1.length : Int) - 1)) - x.1.2.2.2.2.2.2.2.2.1)))]?).bind fun y55 =>
          ((x.2.2.2.1.set (Int.toNat (IntKind.i64.wrap ((IntKind.i64.wrap ((x.2.2.2.1.length : Int) - 1)) - x.1.2.2.2.2.2.2.2.2.1))) (y54.1, y54.2.1, r53.1))[(Int.toNat (IntKind.i64.wrap ((IntKind.i64.wrap ((IntKind.i64.wrap ((x.2.2.2.1.length : Int) - 1)) - x.1.2.2.2.2.2.2.2.2.1)) - 1)))]?).bind fun y56 =>
          (ivop_Add k [y56.2.2, r48.1]).bind fun r57 =>
          (iv_Meet k [y55.2.1, r57.1]).bind fun r58 =>
          ((x.2.2.2.1.set (Int.toNat (IntKind.i64.wrap ((IntKind.i64.wrap ((x.2.2.2.1.length : Int) - 1)) - x.1.2.2.2.2.2.2.2.2.1))) (y54.1, y54.2.1, r53.1))[(Int.toNat (IntKind.i64.wrap ((IntKind.i64.wrap ((x.2.2.2.1.length : Int) - 1)) - x.1.2.2.2.2.2.2.2.2.1)))]?).bind fun y59 =>
          flow_Contract_l4 k m ((x.1.1, (), (), (), (), (), (), x.1.2.2.2.2.2.2.2.1, (IntKind.i64.wrap (x.1.2.2.2.2.2.2.2.2.1 + 1)), ()), ((x.2.1.1, (x.2.1.2.1, ())), (x.2.2.1.1, (x.2.2.1.2.1, x.2.2.1.2.2)), ((x.2.2.2.1.set (Int.toNat (IntKind.i64.wrap ((IntKind.i64.wrap ((x.2.2.2.1.length : Int) - 1)) - x.1.2.2.2.2.2.2.2.2.1))) (y54.1, y54.2.1, r53.1)).set (Int.toNat (IntKind.i64.wrap ((IntKind.i64.wrap ((x.2.2.2.1.length : Int) - 1)) - x.1.2.2.2.2.2.2.2.2.1))) (y59.1, r58.1, y59.2.2)), (), x.2.2.2.2.2.1, x.2.2.2.2.2.2.1, ()))
         else none
        else
         (x.2.2.2.1[(Int.toNat (IntKind.i64.wrap ((IntKind.i64.wrap ((x.2.2.2.1.length : Int) - 1)) - x.1.2.2.2.2.2.2.2.2.1)))]?).bind fun y60 =>
         (ivop_Add k [x.2.1.2.1, r45.1]).bind fun r61 =>
         (iv_Meet k [y60.2.2, r61.1]).bind fun r62 =>
         (x.2.2.2.1[(Int.toNat (IntKind.i64.wrap ((IntKind.i64.wrap ((x.2.2.2.1.length : Int) - 1)) - x.1.2.2.2.2.2.2.2.2.1)))]?).bind fun y63 =>
         ((x.2.2.2.1.set (Int.toNat (IntKind.i64.wrap ((IntKind.i64.wrap ((x.2.2.2.1.length : Int) - 1)) - x.1.2.2.2.2.2.2.2.2.1))) (y63.1, y63.2.1, r62.1))[(Int.toNat (IntKind.i64.wrap ((IntKind.i64.wrap ((x.2.2.2.1.length : Int) - 1)) - x.1.2.2.2.2.2.2.2.2.1)))]?).bind fun y64 =>
         (ivop_Add k [x.2.1.2.1, r48.1]).bind fun r65 =>
         (iv_Meet k [y64.2.1, r65.1]).bind fun r66 =>
         ((x.2.2.2.1.set (Int.toNat (IntKind.i64.wrap ((IntKind.i64.wrap ((x.2.2.2.1.length : Int) - 1)) - x.1.2.2.2.2.2.2.2.2.1))) (y63.1, y63.2.1, r62.1))[(Int.toNat (IntKind.i64.wrap ((IntKind.i64.wrap ((x.2.2.2.1.length : Int) - 1)) - x.1.2.2.2.2.2.2.2.2.1)))]?).bind fun y67 =>
         flow_Contract_l4 k m ((x.1.1, (), (), (), (), (), (), x.1.2.2.2.2.2.2.2.1, (IntKind.i64.wrap (x.1.2.2.2.2.2.2.2.2.1 + 1)), ()), ((x.2.1.1, (x.2.1.2.1, ())), (x.2.2.1.1, (x.2.2.1.2.1, x.2.2.1.2.2)), ((x.2.2.2.1.set (Int.toNat (IntKind.i64.wrap ((IntKind.i64.wrap ((x.2.2.2.1.length : Int) - 1)) - x.1.2.2.2.2.2.2.2.2.1))) (y63.1, y63.2.1, r62.1)).set (Int.toNat (IntKind.i64.wrap ((IntKind.i64.wrap ((x.2.2.2.1.length : Int) - 1)) - x.1.2.2.2.2.2.2.2.2.1))) (y67.1, r66.1, y67.2.2)), (), x.2.2.2.2.2.1, x.2.2.2.2.2.2.1, ()))
       else none
      else none
     else none
    else none
   else
    (flow_Time k (x.2.1.1, x.2.1.2.1, x.2.2.2.1) x.1.2.2.2.2.2.2.2.2.1).bind fun r68 =>
    if 0 ≤ x.1.2.2.2.2.2.2.2.2.1 then (x.2.2.2.1[Int.toNat x.1.2.2.2.2.2.2.2.2.1]?).bind fun _ =>
     if 0 ≤ x.1.2.2.2.2.2.2.2.2.1 then (x.2.2.2.1[Int.toNat x.1.2.2.2.2.2.2.2.2.1]?).bind fun _ =>
      if 0 ≤ x.1.2.2.2.2.2.2.2.2.1 then (x.2.2.2.2.2.1[Int.toNat x.1.2.2.2.2.2.2.2.2.1]?).bind fun y71 =>
       (ivop_Mul k y71 r68.1).bind fun r72 =>
       if 0 ≤ x.1.2.2.2.2.2.2.2.2.1 then (x.2.2.2.2.2.1[Int.toNat x.1.2.2.2.2.2.2.2.2.1]?).bind fun y73 =>
        (iv_Make k (0, false, 0, 0) r68.1.2.2).bind fun r74 =>
        (ivop_Mul k y73 r74.1).bind fun r75 =>
        bif (decide (x.1.2.2.2.2.2.2.2.2.1 > 0)) then
         if 0 ≤ (IntKind.i64.wrap (x.1.2.2.2.2.2.2.2.2.1 - 1)) then (x.2.2.2.1[Int.toNat (IntKind.i64.wrap (x.1.2.2.2.2.2.2.2.2.1 - 1))]?).bind fun _ =>
          (x.2.2.2.1[(Int.toNat x.1.2.2.2.2.2.2.2.2.1)]?).bind fun y77 =>
          (x.2.2.2.1[(Int.toNat (IntKind.i64.wrap (x.1.2.2.2.2.2.2.2.2.1 - 1)))]?).bind fun y78 =>
          (ivop_Add k [y78.2.2, r72.1]).bind fun r79 =>
          (iv_Meet k [y77.2.2, r79.1]).bind fun r80 =>
          (x.2.2.2.1[(Int.toNat x.1.2.2.2.2.2.2.2.2.1)]?).bind fun y81 =>
          ((x.2.2.2.1.set (Int.toNat x.1.2.2.2.2.2.2.2.2.1) (y81.1, y81.2.1, r80.1))[(Int.toNat x.1.2.2.2.2.2.2.2.2.1)]?).bind fun y82 =>
          ((x.2.2.2.1.set (Int.toNat x.1.2.2.2.2.2.2.2.2.1) (y81.1, y81.2.1, r80.1))[(Int.toNat (IntKind.i64.wrap (x.1.2.2.2.2.2.2.2.2.1 - 1)))]?).bind fun y83 =>
          (ivop_Add k [y83.2.2, r75.1]).bind fun r84 =>
          (iv_Meet k [y82.2.1, r84.1]).bind fun r85 =>
          ((x.2.2.2.1.set (Int.toNat x.1.2.2.2.2.2.2.2.2.1) (y81.1, y81.2.1, r80.1))[(Int.toNat x.1.2.2.2.2.2.2.2.2.1)]?).bind fun y86 =>
          flow_Contract_l4 k m ((x.1.1, (), (), (), (), (), (), x.1.2.2.2.2.2.2.2.1, (IntKind.i64.wrap (x.1.2.2.2.2.2.2.2.2.1 + 1)), ()), ((x.2.1.1, (x.2.1.2.1, ())), (x.2.2.1.1, (x.2.2.1.2.1, x.2.2.1.2.2)), ((x.2.2.2.1.set (Int.toNat x.1.2.2.2.2.2.2.2.2.1) (y81.1, y81.2.1, r80.1)).set (Int.toNat x.1.2.2.2.2.2.2.2.2.1) (y86.1, r85.1, y86.2.2)), (), x.2.2.2.2.2.1, x.2.2.2.2.2.2.1, ()))
         else none
        else
         (x.2.2.2.1[(Int.toNat x.1.2.2.2.2.2.2.2.2.1)]?).bind fun y87 =>
         (ivop_Add k [x.2.1.2.1, r72.1]).bind fun r88 =>
         (iv_Meet k [y87.2.2, r88.1]).bind fun r89 =>
         (x.2.2.2.1[(Int.toNat x.1.2.2.2.2.2.2.2.2.1)]?).bind fun y90 =>
         ((x.2.2.2.1.set (Int.toNat x.1.2.2.2.2.2.2.2.2.1) (y90.1, y90.2.1, r89.1))[(Int.toNat x.1.2.2.2.2.2.2.2.2.1)]?).bind fun y91 =>
         (ivop_Add k [x.2.1.2.1, r75.1]).bind fun r92 =>
         (iv_Meet k [y91.2.1, r92.1]).bind fun r93 =>
         ((x.2.2.2.1.set (Int.toNat x.1.2.2.2.2.2.2.2.2.1) (y90.1, y90.2.1, r89.1))[(Int.toNat x.1.2.2.2.2.2.2.2.2.1)]?).bind fun y94 =>
         flow_Contract_l4 k m ((x.1.1, (), (), (), (), (), (), x.1.2.2.2.2.2.2.2.1, (IntKind.i64.wrap (x.1.2.2.2.2.2.2.2.2.1 + 1)), ()), ((x.2.1.1, (x.2.1.2.1, ())), (x.2.2.1.1, (x.2.2.1.2.1, x.2.2.1.2.2)), ((x.2.2.2.1.set (Int.toNat x.1.2.2.2.2.2.2.2.2.1) (y90.1, y90.2.1, r89.1)).set (Int.toNat x.1.2.2.2.2.2.2.2.2.1) (y94.1, r93.1, y94.2.2)), (), x.2.2.2.2.2.1, x.2.2.2.2.2.2.1, ()))
       else none
      else none
     else none
    else none
  else
   some (Sum.inl ((x.1.1, (), (), ()), ((x.2.1.1, (x.2.1.2.1, ())), (x.2.2.1.1, (x.2.2.1.2.1, x.2.2.1.2.2)), x.2.2.2.1, ())))
abbrev flow_Contract_l4_seg (k : Nat) : Seg := ⟨⟨5, 82, false, [0], [⟨1, 0, 102, 9, [.b, .s2, .s1, .s2, .s2, .s2, .s2]⟩]⟩, 49, [.b, .s2], flow_Contract_l4_i, flow_Contract_l4_o, flow_Contract_l4 k k⟩
theorem flow_Contract_l4_seg.ok (k : Nat) : SegOK Try.prog (e55 k) (flow_Contract_l4_seg k) :=
 SegOK.loop (e55.ok k) (by kernel_rfl) (S := flow_Contract_l4_seg k) (c := atR (codeOf (e55 k) 49) [.l, .b, .s2]) (by kernel_rfl) (flow_Contract_l4 k) k rfl (fun _ => rfl) 8 (.two .n (.two .n (.two (.two (.two .n (.two .n (.two .n (.two .n (.two .n (.two .n (.two (.call 2 11 .n .n) .n))))))) .n) .n))) ⟨trivial, ⟨trivial, ⟨⟨⟨trivial, ⟨trivial, ⟨trivial, ⟨trivial, ⟨trivial, ⟨trivial, ⟨⟨trivial, trivial⟩, trivial⟩⟩⟩⟩⟩⟩⟩, trivial⟩, trivial⟩⟩⟩ (fun k' x => by kernel_rfl)
abbrev flow_Contract_l5_i : Mask := ⟨[(0, 2, (.k (.ptr 2 0 0))), (0, 4, (.k (.ptr 4 0 0))), (13, 0, (.k (.yld 2))), (13, 1, (.k (.ptr 2146307 0 0))), (13, 2, (.k (.ptr 2146309 0 0))), (13, 3, (.k (.ptr 2146308 0 0))), (13, 13, (.v (.int .i64))), (13, 14, (.v (.int .i64)))], [(2, .cells (.pr (.v T23) (.pr (.v T25) (.k (.arr 27 0))))), (4, .cells (.pr (.v T23) (.pr (.v T25) (.v T27)))), (27, .arr 36 T35), (2146307, .cells (.k (.ptr 2 0 0))), (2146308, .cells (.v T32)), (2146309, .cells (.v .bool))], [], 3⟩
abbrev flow_Contract_l5_o : List Out := [⟨.exit 0, ⟨[(0, 2, (.k (.ptr 2 0 0))), (0, 4, (.k (.ptr 4 0 0)))], [(2, .cells (.pr (.v T23) (.pr (.v T25) (.k (.arr 27 0))))), (4, .cells (.pr (.v T23) (.pr (.v T25) (.v T27)))), (27, .arr 36 T35)], [], 3⟩⟩]
def flow_Contract_l5 (k : Nat) : Nat → Mask.den flow_Contract_l5_i → Option (denS flow_Contract_l5_o)
 | 0, _ => none
 | m + 1, x =>
  bif (decide (x.1.2.2.2.2.2.2.2.1 < x.1.2.2.2.2.2.2.1)) then
   bif (!x.2.2.2.2.2.2.1) then
    (flow_Time k (x.2.1.1, x.2.1.2.1, x.2.2.2.1) (IntKind.i64.wrap ((IntKind.i64.wrap ((x.2.2.2.1.length : Int) - 1)) - x.1.2.2.2.2.2.2.2.1))).bind fun r99 =>
    if 0 ≤ (IntKind.i64.wrap ((IntKind.i64.wrap ((x.2.2.2.1.length : Int) - 1)) - x.1.2.2.2.2.2.2.2.1)) then (x.2.2.2.1[Int.toNat (IntKind.i64.wrap ((IntKind.i64.wrap ((x.2.2.2.1.length : Int) - 1)) - x.1.2.2.2.2.2.2.2.1))]?).bind fun _ =>
     if 0 ≤ (IntKind.i64.wrap ((IntKind.i64.wrap ((x.2.2.2.1.length : Int) - 1)) - x.1.2.2.2.2.2.2.2.1)) then (x.2.2.2.1[Int.toNat (IntKind.i64.wrap ((IntKind.i64.wrap ((x.2.2.2.1.length : Int) - 1)) - x.1.2.2.2.2.2.2.2.1))]?).bind fun _ =>
      if 0 ≤ (IntKind.i64.wrap ((IntKind.i64.wrap ((x.2.2.2.1.length : Int) - 1)) - x.1.2.2.2.2.2.2.2.1)) then (x.2.2.2.2.2.1[Int.toNat (IntKind.i64.wrap ((IntKind.i64.wrap ((x.2.2.2.1.length : Int) - 1)) - x.1.2.2.2.2.2.2.2.1))]?).bind fun y102 =>
       (ivop_Mul k y102 r99.1).bind fun r103 =>
       if 0 ≤ (IntKind.i64.wrap ((IntKind.i64.wrap ((x.2.2.2.1.length : Int) - 1)) - x.1.2.2.2.2.2.2.2.1)) then (x.2.2.2.2.2.1[Int.toNat (IntKind.i64.wrap ((IntKind.i64.wrap ((x.2.2.2.1.length : Int) - 1)) - x.1.2.2.2.2.2.2.2.1))]?).bind fun y104 =>
        (iv_Make k (0, false, 0, 0) r99.1.2.2).bind fun r105 =>
        (ivop_Mul k y104 r105.1).bind fun r106 =>
        bif (decide ((IntKind.i64.wrap ((IntKind.i64.wrap ((x.2.2.2.1.length : Int) - 1)) - x.1.2.2.2.2.2.2.2.1)) > 0)) then
         if 0 ≤ (IntKind.i64.wrap ((IntKind.i64.wrap ((IntKind.i64.wrap ((x.2.2.2.1.length : Int) - 1)) - x.1.2.2.2.2.2.2.2.1)) - 1)) then (x.2.2.2.1[Int.toNat (IntKind.i64.wrap ((IntKind.i64.wrap ((IntKind.i64.wrap ((x.2.2.2.1.length : Int) - 1)) - x.1.2.2.2.2.2.2.2.1)) - 1))]?).bind fun _ =>
          (x.2.2.2.1[(Int.toNat (IntKind.i64.wrap ((IntKind.i64.wrap ((IntKind.i64.wrap ((x.2.2.2.1.length : Int) - 1)) - x.1.2.2.2.2.2.2.2.1)) - 1)))]?).bind fun y108 =>
          (x.2.2.2.1[(Int.toNat (IntKind.i64.wrap ((IntKind.i64.wrap ((x.2.2.2.1.length : Int) - 1)) - x.1.2.2.2.2.2.2.2.1)))]?).bind fun y109 =>
          (ivop_Sub k y109.2.2 r103.1).bind fun r110 =>
          (iv_Meet k [y108.2.2, r110.1]).bind fun r111 =>
          (x.2.2.2.1[(Int.toNat (IntKind.i64.wrap ((IntKind.i64.wrap ((IntKind.i64.wrap ((x.2.2.2.1.length : Int) - 1)) - x.1.2.2.2.2.2.2.2.1)) - 1)))]?).bind fun y112 =>
          ((x.2.2.2.1.set (Int.toNat (IntKind.i64.wrap ((IntKind.i64.wrap ((IntKind.i64.wrap ((x.2.2.2.1.length : Int) - 1)) - x.1.2.2.2.2.2.2.2.1)) - 1))) (y112.1, y112.2.1, r111.1))[(Int.toNat (IntKind.i64.wrap ((IntKind.i64.wrap ((x.2.2.2.1.length : Int) - 1)) - x.1.2.2.2.2.2.2.2.1)))]?).bind fun y113 =>
          ((x.2.2.2.1.set (Int.toNat (IntKind.i64.wrap ((IntKind.i64.wrap ((IntKind.i64.wrap ((x.2.2.2.1.length : Int) - 1)) - x.1.2.2.2.2.2.2.2.1)) - 1))) (y112.1, y112.2.1, r111.1))[(Int.toNat (IntKind.i64.wrap ((IntKind.i64.wrap ((x.2.2.2.1.length : Int) - 1)) - x.1.2.2.2.2.2.2.2.1)))]?).bind fun y114 =>
          (ivop_Sub k y114.2.2 r106.1).bind fun r115 =>
          (iv_Meet k [y113.2.1, r115.1]).bind fun r116 =>
          ((x.2.2.2.1.set (Int.toNat (IntKind.i64.wrap ((IntKind.i64.wrap ((IntKind.i64.wrap ((x.2.2.2.1.length : Int) - 1)) - x.1.2.2.2.2.2.2.2.1)) - 1))) (y112.1, y112.2.1, r111.1))[(Int.toNat (IntKind.i64.wrap ((IntKind.i64.wrap ((x.2.2.2.1.length : Int) - 1)) - x.1.2.2.2.2.2.2.2.1)))]?).bind fun y117 =>
          flow_Contract_l5 k m (((), (), (), (), (), (), x.1.2.2.2.2.2.2.1, (IntKind.i64.wrap (x.1.2.2.2.2.2.2.2.1 + 1)), ()), ((x.2.1.1, (x.2.1.2.1, ())), (x.2.2.1.1, (x.2.2.1.2.1, x.2.2.1.2.2)), ((x.2.2.2.1.set (Int.toNat (IntKind.i64.wrap ((IntKind.i64.wrap ((IntKind.i64.wrap ((x.2.2.2.1.length : Int) - 1)) - x.1.2.2.2.2.2.2.2.1)) - 1))) (y112.1, y112.2.1, r111.1)).set (Int.toNat (IntKind.i64.wrap ((IntKind.i64.wrap ((x.2.2.2.1.length : Int) - 1)) - x.1.2.2.2.2.2.2.2.1))) (y117.1, r116.1, y117.2.2)), (), x.2.2.2.2.2.1, x.2.2.2.2.2.2.1, ()))
         else none
        else
         (x.2.2.2.1[(Int.toNat (IntKind.i64.wrap ((IntKind.i64.wrap ((x.2.2.2.1.length : Int) - 1)) - x.1.2.2.2.2.2.2.2.1)))]?).bind fun y118 =>
         (ivop_Sub k y118.2.2 r103.1).bind fun r119 =>
         (iv_Meet k [x.2.1.2.1, r119.1]).bind fun r120 =>
         (x.2.2.2.1[(Int.toNat (IntKind.i64.wrap ((IntKind.i64.wrap ((x.2.2.2.1.length : Int) - 1)) - x.1.2.2.2.2.2.2.2.1)))]?).bind fun y121 =>
         (x.2.2.2.1[(Int.toNat (IntKind.i64.wrap ((IntKind.i64.wrap ((x.2.2.2.1.length : Int) - 1)) - x.1.2.2.2.2.2.2.2.1)))]?).bind fun y122 =>
         (ivop_Sub k y122.2.2 r106.1).bind fun r123 =>
         (iv_Meet k [y121.2.1, r123.1]).bind fun r124 =>
         (x.2.2.2.1[(Int.toNat (IntKind.i64.wrap ((IntKind.i64.wrap ((x.2.2.2.1.length : Int) - 1)) - x.1.2.2.2.2.2.2.2.1)))]?).bind fun y125 =>
         flow_Contract_l5 k m (((), (), (), (), (), (), x.1.2.2.2.2.2.2.1, (IntKind.i64.wrap (x.1.2.2.2.2.2.2.2.1 + 1)), ()), ((x.2.1.1, (r120.1, ())), (x.2.2.1.1, (x.2.2.1.2.1, x.2.2.1.2.2)), (x.2.2.2.1.set (Int.toNat (IntKind.i64.wrap ((IntKind.i64.wrap ((x.2.2.2.1.length : Int) - 1)) - x.1.2.2.2.2.2.2.2.1))) (y125.1, r124.1, y125.2.2)), (), x.2.2.2.2.2.1, x.2.2.2.2.2.2.1, ()))
       else none
      else none
     else none
    else none
   else
    (flow_Time k (x.2.1.1, x.2.1.2.1, x.2.2.2.1) x.1.2.2.2.2.2.2.2.1).bind fun r126 =>
    if 0 ≤ x.1.2.2.2.2.2.2.2.1 then (x.2.2.2.1[Int.toNat x.1.2.2.2.2.2.2.2.1]?).bind fun _ =>
     if 0 ≤ x.1.2.2.2.2.2.2.2.1 then (x.2.2.2.1[Int.toNat x.1.2.2.2.2.2.2.2.1]?).bind fun _ =>
      if 0 ≤ x.1.2.2.2.2.2.2.2.1 then (x.2.2.2.2.2.1[Int.toNat x.1.2.2.2.2.2.2.2.1]?).bind fun y129 =>
       (ivop_Mul k y129 r126.1).bind fun r130 =>
       if 0 ≤ x.1.2.2.2.2.2.2.2.1 then (x.2.2.2.2.2.1[Int.toNat x.1.2.2.2.2.2.2.2.1]?).bind fun y131 =>
        (iv_Make k (0, false, 0, 0) r126.1.2.2).bind fun r132 =>
        (ivop_Mul k y131 r132.1).bind fun r133 =>
        bif (decide (x.1.2.2.2.2.2.2.2.1 > 0)) then
         if 0 ≤ (IntKind.i64.wrap (x.1.2.2.2.2.2.2.2.1 - 1)) then (x.2.2.2.1[Int.toNat (IntKind.i64.wrap (x.1.2.2.2.2.2.2.2.1 - 1))]?).bind fun _ =>
          (x.2.2.2.1[(Int.toNat (IntKind.i64.wrap (x.1.2.2.2.2.2.2.2.1 - 1)))]?).bind fun y135 =>
          (x.2.2.2.1[(Int.toNat x.1.2.2.2.2.2.2.2.1)]?).bind fun y136 =>
          (ivop_Sub k y136.2.2 r130.1).bind fun r137 =>
          (iv_Meet k [y135.2.2, r137.1]).bind fun r138 =>
          (x.2.2.2.1[(Int.toNat (IntKind.i64.wrap (x.1.2.2.2.2.2.2.2.1 - 1)))]?).bind fun y139 =>
          ((x.2.2.2.1.set (Int.toNat (IntKind.i64.wrap (x.1.2.2.2.2.2.2.2.1 - 1))) (y139.1, y139.2.1, r138.1))[(Int.toNat x.1.2.2.2.2.2.2.2.1)]?).bind fun y140 =>
          ((x.2.2.2.1.set (Int.toNat (IntKind.i64.wrap (x.1.2.2.2.2.2.2.2.1 - 1))) (y139.1, y139.2.1, r138.1))[(Int.toNat x.1.2.2.2.2.2.2.2.1)]?).bind fun y141 =>
          (ivop_Sub k y141.2.2 r133.1).bind fun r142 =>
          (iv_Meet k [y140.2.1, r142.1]).bind fun r143 =>
          ((x.2.2.2.1.set (Int.toNat (IntKind.i64.wrap (x.1.2.2.2.2.2.2.2.1 - 1))) (y139.1, y139.2.1, r138.1))[(Int.toNat x.1.2.2.2.2.2.2.2.1)]?).bind fun y144 =>
          flow_Contract_l5 k m (((), (), (), (), (), (), x.1.2.2.2.2.2.2.1, (IntKind.i64.wrap (x.1.2.2.2.2.2.2.2.1 + 1)), ()), ((x.2.1.1, (x.2.1.2.1, ())), (x.2.2.1.1, (x.2.2.1.2.1, x.2.2.1.2.2)), ((x.2.2.2.1.set (Int.toNat (IntKind.i64.wrap (x.1.2.2.2.2.2.2.2.1 - 1))) (y139.1, y139.2.1, r138.1)).set (Int.toNat x.1.2.2.2.2.2.2.2.1) (y144.1, r143.1, y144.2.2)), (), x.2.2.2.2.2.1, x.2.2.2.2.2.2.1, ()))
         else none
        else
         (x.2.2.2.1[(Int.toNat x.1.2.2.2.2.2.2.2.1)]?).bind fun y145 =>
         (ivop_Sub k y145.2.2 r130.1).bind fun r146 =>
         (iv_Meet k [x.2.1.2.1, r146.1]).bind fun r147 =>
         (x.2.2.2.1[(Int.toNat x.1.2.2.2.2.2.2.2.1)]?).bind fun y148 =>
         (x.2.2.2.1[(Int.toNat x.1.2.2.2.2.2.2.2.1)]?).bind fun y149 =>
         (ivop_Sub k y149.2.2 r133.1).bind fun r150 =>
         (iv_Meet k [y148.2.1, r150.1]).bind fun r151 =>
         (x.2.2.2.1[(Int.toNat x.1.2.2.2.2.2.2.2.1)]?).bind fun y152 =>
         flow_Contract_l5 k m (((), (), (), (), (), (), x.1.2.2.2.2.2.2.1, (IntKind.i64.wrap (x.1.2.2.2.2.2.2.2.1 + 1)), ()), ((x.2.1.1, (r147.1, ())), (x.2.2.1.1, (x.2.2.1.2.1, x.2.2.1.2.2)), (x.2.2.2.1.set (Int.toNat x.1.2.2.2.2.2.2.2.1) (y152.1, r151.1, y152.2.2)), (), x.2.2.2.2.2.1, x.2.2.2.2.2.2.1, ()))
       else none
      else none
     else none
    else none
  else
   some (Sum.inl (((), (), ()), ((x.2.1.1, (x.2.1.2.1, ())), (x.2.2.1.1, (x.2.2.1.2.1, x.2.2.1.2.2)), x.2.2.2.1, ())))
abbrev flow_Contract_l5_seg (k : Nat) : Seg := ⟨⟨13, 82, false, [0], [⟨2, 0, 102, 9, [.b, .s2, .s1, .s2, .s2, .s2, .s2, .s2]⟩]⟩, 49, [.b, .s2], flow_Contract_l5_i, flow_Contract_l5_o, flow_Contract_l5 k k⟩
theorem flow_Contract_l5_seg.ok (k : Nat) : SegOK Try.prog (e55 k) (flow_Contract_l5_seg k) :=
 SegOK.loop (e55.ok k) (by kernel_rfl) (S := flow_Contract_l5_seg k) (c := atR (codeOf (e55 k) 49) [.l, .b, .s2]) (by kernel_rfl) (flow_Contract_l5 k) k rfl (fun _ => rfl) 8 (.two .n (.two .n (.two (.two (.two .n (.two .n (.two .n (.two .n (.two .n (.two .n (.two (.call 2 14 .n .n) .n))))))) .n) .n))) ⟨trivial, ⟨trivial, ⟨⟨⟨trivial, ⟨trivial, ⟨trivial, ⟨trivial, ⟨trivial, ⟨trivial, ⟨⟨trivial, trivial⟩, trivial⟩⟩⟩⟩⟩⟩⟩, trivial⟩, trivial⟩⟩⟩ (fun k' x => by kernel_rfl)
def flow_Contract (k : Nat) (x0 : Ty.den T28) (x1 : Ty.den T32) : Option (HL [T28, (.int .i64)]) :=
 (tube_May k x0).bind fun r1 =>
 bif (!r1.1) then
  some (((0, false, 0, 0), (false, (0, false, 0, 0), 0, false, 0, 0), []), 1, ())
 else
  bif ((x1.length : Int) != (x0.2.2.length : Int)) then
   some (((0, false, 0, 0), (false, (0, false, 0, 0), 0, false, 0, 0), []), 1, ())
  else
   (flow_Contract_l0 k k ((x1, (), (), false, x1, (), (x1.length : Int), 0, ()), (x0, ((0, false, 0, 0), ((false, (0, false, 0, 0), 0, false, 0, 0), [])), ()))).bind fun q4 =>
   Sum.elim (fun z5 =>
     bif z5.1.2.2.2.1 then
      some (((0, false, 0, 0), (false, (0, false, 0, 0), 0, false, 0, 0), []), 1, ())
     else
      bif (decide (z5.1.2.2.2.2.1 ≥ 0)) then
       some (((0, false, 0, 0), (false, (0, false, 0, 0), 0, false, 0, 0), []), 1, ())
      else
       (tube_May k z5.2.1).bind fun r6 =>
       bif (!r6.1) then
        none
       else
        if z5.2.1.2.2.length * 176 ≤ 140737488355328 then
         (flow_Contract_l2 k k ((z5.1.1, (), (), (), (), (), (IntKind.i64.wrap ((z5.2.1.2.2.length : Int) + 1)), 0, (), (), ()), (z5.2.1, (z5.2.2.1.1, (z5.2.2.1.2.1, z5.2.2.1.2.2)), (z5.2.1.1, z5.2.1.2.1), ((0, false, 0, 0), ((false, (0, false, 0, 0), 0, false, 0, 0), [])), (z5.2.1.1, (z5.2.1.2.1, ())), z5.2.1.2.2, z5.2.1, ()))).bind fun q32 =>
         Sum.elim (fun z33 =>
           (tube_Empty k (z33.2.2.2.2.1.1, z33.2.2.2.2.1.2.1, z33.2.2.2.2.2.1)).bind fun r34 =>
           bif r34.1 then
            (iv_None k).bind fun r35 =>
            if z33.2.2.2.2.2.1.length * 176 ≤ 140737488355328 then
             (flow_Contract_l3 k k ((z33.1.1, (), (), (), (), (), (), (z33.2.2.2.2.2.1.length : Int), 0, ()), (z33.2.1, (z33.2.2.1.1, (z33.2.2.1.2.1, z33.2.2.1.2.2)), (z33.2.2.2.1.1, (z33.2.2.2.1.2.1, z33.2.2.2.1.2.2)), (z33.2.2.2.2.1.1, (r35.1, ())), ((0, false, 0, 0), ((false, (0, false, 0, 0), 0, false, 0, 0), [])), r35.1, z33.2.2.2.2.2.1, ()))).bind fun q40 =>
             Sum.elim (fun z96 =>
               (flow_Contract_l4 k k ((z96.1.1, (), (), (), (), (), (), (z96.2.2.2.2.2.2.1.length : Int), 0, ()), ((z96.2.2.2.2.1.1, (z96.2.2.2.2.1.2.1, ())), (z96.2.2.1.1, (z96.2.2.1.2.1, z96.2.2.1.2.2)), z96.2.2.2.2.2.2.1, (), z96.1.1, true, ()))).bind fun q97 =>
               Sum.elim (fun z98 =>
                 (flow_Contract_l5 k k (((), (), (), (), (), (), (z98.2.2.2.1.length : Int), 0, ()), ((z98.2.1.1, (z98.2.1.2.1, ())), (z98.2.2.1.1, (z98.2.2.1.2.1, z98.2.2.1.2.2)), z98.2.2.2.1, (), z98.1.1, false, ()))).bind fun q153 =>
                 Sum.elim (fun z154 =>
                   (tube_Fit k (z154.2.1.1, z154.2.1.2.1, z154.2.2.2.1)).bind fun r155 =>
                   some (r155.1, 0, ()))
                  (fun q153' =>
                   none) q153)
                (fun q97' =>
                 none) q97)
              (fun q40' =>
               none) q40
            else none
           else
            (flow_Contract_l4 k k ((z33.1.1, (), (), (), (), (), (), (z33.2.2.2.2.2.1.length : Int), 0, ()), ((z33.2.2.2.2.1.1, (z33.2.2.2.2.1.2.1, ())), (z33.2.2.1.1, (z33.2.2.1.2.1, z33.2.2.1.2.2)), z33.2.2.2.2.2.1, (), z33.1.1, true, ()))).bind fun q95 =>
            Sum.elim (fun z156 =>
              (flow_Contract_l5 k k (((), (), (), (), (), (), (z156.2.2.2.1.length : Int), 0, ()), ((z156.2.1.1, (z156.2.1.2.1, ())), (z156.2.2.1.1, (z156.2.2.1.2.1, z156.2.2.1.2.2)), z156.2.2.2.1, (), z156.1.1, false, ()))).bind fun q157 =>
              Sum.elim (fun z158 =>
                (tube_Fit k (z158.2.1.1, z158.2.1.2.1, z158.2.2.2.1)).bind fun r159 =>
                some (r159.1, 0, ()))
               (fun q157' =>
                none) q157)
             (fun q95' =>
              none) q95)
          (fun q32' =>
           none) q32
        else none)
    (fun q4' =>
     Sum.elim (fun z160 =>
       bif z160.1.2.2.2.1 then
        some (((0, false, 0, 0), (false, (0, false, 0, 0), 0, false, 0, 0), []), 1, ())
       else
        (tube_May k z160.2.1).bind fun r161 =>
        bif (!r161.1) then
         none
        else
         if z160.2.1.2.2.length * 176 ≤ 140737488355328 then
          (flow_Contract_l2 k k ((z160.1.1, (), (), (), (), (), (IntKind.i64.wrap ((z160.2.1.2.2.length : Int) + 1)), 0, (), (), ()), (z160.2.1, (z160.2.2.1.1, (z160.2.2.1.2.1, z160.2.2.1.2.2)), (z160.2.1.1, z160.2.1.2.1), ((0, false, 0, 0), ((false, (0, false, 0, 0), 0, false, 0, 0), [])), (z160.2.1.1, (z160.2.1.2.1, ())), z160.2.1.2.2, z160.2.1, ()))).bind fun q163 =>
          Sum.elim (fun z164 =>
            (tube_Empty k (z164.2.2.2.2.1.1, z164.2.2.2.2.1.2.1, z164.2.2.2.2.2.1)).bind fun r165 =>
            bif r165.1 then
             (iv_None k).bind fun r166 =>
             if z164.2.2.2.2.2.1.length * 176 ≤ 140737488355328 then
              (flow_Contract_l3 k k ((z164.1.1, (), (), (), (), (), (), (z164.2.2.2.2.2.1.length : Int), 0, ()), (z164.2.1, (z164.2.2.1.1, (z164.2.2.1.2.1, z164.2.2.1.2.2)), (z164.2.2.2.1.1, (z164.2.2.2.1.2.1, z164.2.2.2.1.2.2)), (z164.2.2.2.2.1.1, (r166.1, ())), ((0, false, 0, 0), ((false, (0, false, 0, 0), 0, false, 0, 0), [])), r166.1, z164.2.2.2.2.2.1, ()))).bind fun q167 =>
              Sum.elim (fun z169 =>
                (flow_Contract_l4 k k ((z169.1.1, (), (), (), (), (), (), (z169.2.2.2.2.2.2.1.length : Int), 0, ()), ((z169.2.2.2.2.1.1, (z169.2.2.2.2.1.2.1, ())), (z169.2.2.1.1, (z169.2.2.1.2.1, z169.2.2.1.2.2)), z169.2.2.2.2.2.2.1, (), z169.1.1, true, ()))).bind fun q170 =>
                Sum.elim (fun z171 =>
                  (flow_Contract_l5 k k (((), (), (), (), (), (), (z171.2.2.2.1.length : Int), 0, ()), ((z171.2.1.1, (z171.2.1.2.1, ())), (z171.2.2.1.1, (z171.2.2.1.2.1, z171.2.2.1.2.2)), z171.2.2.2.1, (), z171.1.1, false, ()))).bind fun q172 =>
                  Sum.elim (fun z173 =>
                    (tube_Fit k (z173.2.1.1, z173.2.1.2.1, z173.2.2.2.1)).bind fun r174 =>
                    some (r174.1, 0, ()))
                   (fun q172' =>
                    none) q172)
                 (fun q170' =>
                  none) q170)
               (fun q167' =>
                none) q167
             else none
            else
             (flow_Contract_l4 k k ((z164.1.1, (), (), (), (), (), (), (z164.2.2.2.2.2.1.length : Int), 0, ()), ((z164.2.2.2.2.1.1, (z164.2.2.2.2.1.2.1, ())), (z164.2.2.1.1, (z164.2.2.1.2.1, z164.2.2.1.2.2)), z164.2.2.2.2.2.1, (), z164.1.1, true, ()))).bind fun q168 =>
             Sum.elim (fun z175 =>
               (flow_Contract_l5 k k (((), (), (), (), (), (), (z175.2.2.2.1.length : Int), 0, ()), ((z175.2.1.1, (z175.2.1.2.1, ())), (z175.2.2.1.1, (z175.2.2.1.2.1, z175.2.2.1.2.2)), z175.2.2.2.1, (), z175.1.1, false, ()))).bind fun q176 =>
               Sum.elim (fun z177 =>
                 (tube_Fit k (z177.2.1.1, z177.2.1.2.1, z177.2.2.2.1)).bind fun r178 =>
                 some (r178.1, 0, ()))
                (fun q176' =>
                 none) q176)
              (fun q168' =>
               none) q168)
           (fun q163' =>
            none) q163
         else none)
      (fun q4'' =>
       none) q4') q4
theorem flow_Contract.ok (k : Nat) : SpecOK Try.prog G0 9 ⟨[T28, T32], [T28, (.int .i64)], fun x => flow_Contract k x.1 x.2.1⟩ :=
 evF_sound (E := (e55 k)) (fn := Try.f9) (e55.ok k) (by kernel_rfl) (by kernel_rfl) (by kernel_rfl) 8 (.two .n (.two .n (.two (.two (.call 14 1 (.two .n (.two (.call 2 2 (.two .n (.two (.two .n (.two (.use (flow_Contract_l0_seg k)) .n)) .n)) .n) .n)) .n) .n) (.two (.call 1 515 (.two .n (.two .n (.two .n (.two .n (.two (.two (.call 1 519 .n .n) (.two (.rf 0 8 (.two .n (.two .n (.two (.use (flow_Contract_l2_seg k)) .n)))) .n)) (.two (.two .n (.two (.two (.call 1 522 (.two .n (.two .n (.two .n (.two .n (.two (.two .n (.two (.use (flow_Contract_l3_seg k)) .n)) .n))))) .n) .n) .n)) .n)))))) .n) (.two (.two (.call 1 516 .n .n) (.two (.rf 1 5 (.two .n (.two (.use (flow_Contract_l4_seg k)) .n))) .n)) (.two (.two (.call 1 524 .n .n) (.two (.rf 2 13 (.two .n (.two (.use (flow_Contract_l5_seg k)) .n))) .n)) (.two (.own 1 .n) .n))))))) ⟨trivial, ⟨trivial, ⟨⟨⟨⟨trivial, ⟨⟨⟨trivial, ⟨⟨trivial, ⟨(flow_Contract_l0_seg.ok k), trivial⟩⟩, trivial⟩⟩, trivial⟩, trivial⟩⟩, trivial⟩, trivial⟩, ⟨⟨⟨trivial, ⟨trivial, ⟨trivial, ⟨trivial, ⟨⟨⟨trivial, trivial⟩, ⟨⟨trivial, ⟨trivial, ⟨(flow_Contract_l2_seg.ok k), trivial⟩⟩⟩, trivial⟩⟩, ⟨⟨trivial, ⟨⟨⟨⟨trivial, ⟨trivial, ⟨trivial, ⟨trivial, ⟨⟨trivial, ⟨(flow_Contract_l3_seg.ok k), trivial⟩⟩, trivial⟩⟩⟩⟩⟩, trivial⟩, trivial⟩, trivial⟩⟩, trivial⟩⟩⟩⟩⟩⟩, trivial⟩, ⟨⟨⟨trivial, trivial⟩, ⟨⟨trivial, ⟨(flow_Contract_l4_seg.ok k), trivial⟩⟩, trivial⟩⟩, ⟨⟨⟨trivial, trivial⟩, ⟨⟨trivial, ⟨(flow_Contract_l5_seg.ok k), trivial⟩⟩, trivial⟩⟩, ⟨trivial, trivial⟩⟩⟩⟩⟩⟩⟩ (fun xs => by kernel_rfl)
def e56 (k : Nat) : Env := (e55 k).add 9 ⟨[T28, T32], [T28, (.int .i64)], fun x => flow_Contract k x.1 x.2.1⟩
theorem e56.ok (k : Nat) : (e56 k).OK Try.prog := (e55.ok k).add (flow_Contract.ok k)
abbrev flow_Reach_l0_i : Mask := ⟨[(0, 3, (.v T32)), (0, 8, (.k (.ptr 8 0 0))), (0, 10, (.k (.ptr 10 0 0))), (0, 11, (.v (.int .i64))), (0, 26, (.v T45)), (0, 27, (.v (.int .i64))), (0, 28, (.v (.int .i64)))], [(8, .cells (.pr (.v T23) (.pr (.v T25) (.v T27)))), (10, .cells (.v T28))], [], 0⟩
abbrev flow_Reach_l0_o : List Out := [⟨.exit 0, ⟨[(0, 3, (.v T32)), (0, 8, (.k (.ptr 8 0 0))), (0, 10, (.k (.ptr 10 0 0))), (0, 11, (.v (.int .i64)))], [(8, .cells (.pr (.v T23) (.pr (.v T25) (.v T27)))), (10, .cells (.v T28))], [], 0⟩⟩]
def flow_Reach_l0 (k : Nat) : Nat → Mask.den flow_Reach_l0_i → Option (denS flow_Reach_l0_o)
 | 0, _ => none
 | m + 1, x =>
  bif (decide (x.1.2.2.2.2.2.2.1 < x.1.2.2.2.2.2.1)) then
   if 0 ≤ x.1.2.2.2.2.2.2.1 then (x.1.2.2.2.2.1[Int.toNat x.1.2.2.2.2.2.2.1]?).bind fun y2 =>
    bif (x.1.2.2.2.1 == 0) then
     (iv_All k).bind fun r3 =>
     (iv_All k).bind fun r4 =>
     (tube_Append k x.2.2.1 y2 r3.1 r4.1).bind fun r5 =>
     flow_Reach_l0 k m ((x.1.1, (), (), r5.2.1, x.1.2.2.2.2.1, x.1.2.2.2.2.2.1, (IntKind.i64.wrap (x.1.2.2.2.2.2.2.1 + 1)), ()), ((x.2.1.1, (x.2.1.2.1, x.2.1.2.2)), r5.1, ()))
    else
     flow_Reach_l0 k m ((x.1.1, (), (), x.1.2.2.2.1, x.1.2.2.2.2.1, x.1.2.2.2.2.2.1, (IntKind.i64.wrap (x.1.2.2.2.2.2.2.1 + 1)), ()), ((x.2.1.1, (x.2.1.2.1, x.2.1.2.2)), x.2.2.1, ()))
   else none
  else
   some (Sum.inl ((x.1.1, (), (), x.1.2.2.2.1, ()), ((x.2.1.1, (x.2.1.2.1, x.2.1.2.2)), x.2.2.1, ())))
abbrev flow_Reach_l0_seg (k : Nat) : Seg := ⟨⟨0, 52, false, [], []⟩, 14, [.b, .s2, .s1, .s2, .s2, .s2], flow_Reach_l0_i, flow_Reach_l0_o, flow_Reach_l0 k k⟩
theorem flow_Reach_l0_seg.ok (k : Nat) : SegOK Try.prog (e56 k) (flow_Reach_l0_seg k) :=
 SegOK.loop (e56.ok k) (by kernel_rfl) (S := flow_Reach_l0_seg k) (c := atR (codeOf (e56 k) 14) [.l, .b, .s2, .s1, .s2, .s2, .s2]) (by kernel_rfl) (flow_Reach_l0 k) k rfl (fun _ => rfl) 8 .n trivial (fun k' x => by kernel_rfl)
def flow_Reach (k : Nat) (x0 : Ty.den T23) (x1 : Ty.den T25) (x2 : Ty.den T45) (x3 : Ty.den T32) : Option (HL [T28, (.int .i64)]) :=
 bif ((x2.length : Int) != (x3.length : Int)) then
  some (((0, false, 0, 0), (false, (0, false, 0, 0), 0, false, 0, 0), []), 1, ())
 else
  (tube_New k x0 x1).bind fun r1 =>
  (flow_Reach_l0 k k ((x3, (), (), r1.2.1, x2, (x2.length : Int), 0, ()), (((0, false, 0, 0), ((false, (0, false, 0, 0), 0, false, 0, 0), [])), r1.1, ()))).bind fun q6 =>
  Sum.elim (fun z7 =>
    bif (z7.1.2.2.2.1 != 0) then
     some (((0, false, 0, 0), (false, (0, false, 0, 0), 0, false, 0, 0), []), z7.1.2.2.2.1, ())
    else
     (flow_Contract k z7.2.2.1 z7.1.1).bind fun r8 =>
     some (r8.1, r8.2.1, ()))
   (fun q6' =>
    none) q6
theorem flow_Reach.ok (k : Nat) : SpecOK Try.prog G0 14 ⟨[T23, T25, T45, T32], [T28, (.int .i64)], fun x => flow_Reach k x.1 x.2.1 x.2.2.1 x.2.2.2.1⟩ :=
 evF_sound (E := (e56 k)) (fn := Try.f14) (e56.ok k) (by kernel_rfl) (by kernel_rfl) (by kernel_rfl) 8 (.two .n (.two .n (.two .n (.two (.two .n (.two (.use (flow_Reach_l0_seg k)) .n)) .n)))) ⟨trivial, ⟨trivial, ⟨trivial, ⟨⟨trivial, ⟨(flow_Reach_l0_seg.ok k), trivial⟩⟩, trivial⟩⟩⟩⟩ (fun xs => by kernel_rfl)
def e57 (k : Nat) : Env := (e56 k).add 14 ⟨[T23, T25, T45, T32], [T28, (.int .i64)], fun x => flow_Reach k x.1 x.2.1 x.2.2.1 x.2.2.2.1⟩
theorem e57.ok (k : Nat) : (e57 k).OK Try.prog := (e56.ok k).add (flow_Reach.ok k)
def peloruslaw18_awake (k : Nat) : Option (HL [.bool]) :=
 (num_Of k 0).bind fun r1 =>
 (peloruslaw08_Of k 0 0).bind fun r2 =>
 (num_Of k 1).bind fun r3 =>
 (num_Of k 2).bind fun r4 =>
 (peloruslaw08_Of k 1 2).bind fun r5 =>
 (peloruslaw08_Of k 0 0).bind fun r6 =>
 (flow_Reach k r1.1 r2.1 [r3.1, r4.1] [r5.1, r6.1]).bind fun r7 =>
 bif (r7.2.1 == 0) then
  bif ((r7.1.2.2.length : Int) == 2) then
   if 0 ≤ 0 then (r7.1.2.2[Int.toNat 0]?).bind fun y8 =>
    (peloruslaw08_Of k 1 2).bind fun r9 =>
    bif (beqT T25 y8.2.2 r9.1) then
     if 0 ≤ 1 then (r7.1.2.2[Int.toNat 1]?).bind fun y10 =>
      (peloruslaw08_Of k 1 2).bind fun r11 =>
      bif (beqT T25 y10.2.2 r11.1) then
       if 0 ≤ 0 then (r7.1.2.2[Int.toNat 0]?).bind fun y12 =>
        (peloruslaw08_Of k 0 2).bind fun r13 =>
        bif (beqT T25 y12.2.1 r13.1) then
         some ((!r7.1.2.1.1), ())
        else
         some (false, ())
       else none
      else
       some (false, ())
     else none
    else
     some (false, ())
   else none
  else
   some (false, ())
 else
  some (false, ())
theorem peloruslaw18_awake.ok (k : Nat) : SpecOK Try.prog G0 5 ⟨[], [.bool], fun x => peloruslaw18_awake k⟩ :=
 evF_sound (E := (e57 k)) (fn := Try.f5) (e57.ok k) (by kernel_rfl) (by kernel_rfl) (by kernel_rfl) 8 .n trivial (fun xs => by kernel_rfl)
def e58 (k : Nat) : Env := (e57 k).add 5 ⟨[], [.bool], fun x => peloruslaw18_awake k⟩
theorem e58.ok (k : Nat) : (e58 k).OK Try.prog := (e57.ok k).add (peloruslaw18_awake.ok k)
abbrev peloruslaw18_FlowStill_l0_i : Mask := ⟨[(0, 1, (.k (.ptr 1 0 0))), (0, 4, (.k (.arr 37 0))), (0, 5, (.k (.ptr 5 0 0))), (0, 6, (.v (.int .i64)))], [(1, .cells (.v T28)), (5, .cells (.v T25)), (37, .arr 26 T25)], [], 0⟩
abbrev peloruslaw18_FlowStill_l0_o : List Out := [⟨.exit 0, ⟨[(0, 1, (.k (.ptr 1 0 0))), (0, 4, (.k (.arr 37 0))), (0, 5, (.k (.ptr 5 0 0)))], [(1, .cells (.v T28)), (5, .cells (.v T25)), (37, .arr 26 T25)], [], 0⟩⟩]
def peloruslaw18_FlowStill_l0 (k : Nat) : Nat → Mask.den peloruslaw18_FlowStill_l0_i → Option (denS peloruslaw18_FlowStill_l0_o)
 | 0, _ => none
 | m + 1, x =>
  bif (decide (x.1.2.2.2.1 < (x.2.1.2.2.length : Int))) then
   (peloruslaw08_Of k 0 0).bind fun r4 =>
   if (x.2.2.2.1.length + [r4.1].length) * 72 ≤ 140737488355328 then
    if 0 ≤ x.1.2.2.2.1 then (x.2.1.2.2[Int.toNat x.1.2.2.2.1]?).bind fun y5 =>
     if 0 ≤ x.1.2.2.2.1 then (x.2.1.2.2[Int.toNat x.1.2.2.2.1]?).bind fun y6 =>
      (iv_Meet k [x.2.2.1, y5.2.1, y6.2.2]).bind fun r7 =>
      peloruslaw18_FlowStill_l0 k m (((), (), (), (IntKind.i64.wrap (x.1.2.2.2.1 + 1)), ()), (x.2.1, r7.1, (x.2.2.2.1 ++ [r4.1]), ()))
     else none
    else none
   else none
  else
   some (Sum.inl (((), (), (), ()), (x.2.1, x.2.2.1, x.2.2.2.1, ())))
abbrev peloruslaw18_FlowStill_l0_seg (k : Nat) : Seg := ⟨⟨0, 78, false, [], []⟩, 3, [.b, .s2, .s1, .s2, .s2, .s2, .s2, .s2], peloruslaw18_FlowStill_l0_i, peloruslaw18_FlowStill_l0_o, peloruslaw18_FlowStill_l0 k k⟩
theorem peloruslaw18_FlowStill_l0_seg.ok (k : Nat) : SegOK Try.prog (e58 k) (peloruslaw18_FlowStill_l0_seg k) :=
 SegOK.loop (e58.ok k) (by kernel_rfl) (S := peloruslaw18_FlowStill_l0_seg k) (c := atR (codeOf (e58 k) 3) [.l, .b, .s2, .s1, .s2, .s2, .s2, .s2, .s2]) (by kernel_rfl) (peloruslaw18_FlowStill_l0 k) k rfl (fun _ => rfl) 8 .n trivial (fun k' x => by kernel_rfl)
abbrev peloruslaw18_FlowStill_l1_i : Mask := ⟨[(0, 1, (.k (.ptr 1 0 0))), (0, 5, (.k (.ptr 5 0 0))), (0, 7, (.k (.ptr 7 0 0))), (0, 9, (.v (.int .i64)))], [(1, .cells (.v T28)), (5, .cells (.v T25)), (7, .cells (.v T28))], [], 0⟩
abbrev peloruslaw18_FlowStill_l1_o : List Out := [⟨.ret, ⟨[(0, 2, (.v .bool))], [], [], 0⟩⟩, ⟨.exit 2, ⟨[(0, 5, (.k (.ptr 5 0 0))), (0, 7, (.k (.ptr 7 0 0)))], [(5, .cells (.v T25)), (7, .cells (.v T28))], [], 0⟩⟩]
def peloruslaw18_FlowStill_l1 (k : Nat) : Nat → Mask.den peloruslaw18_FlowStill_l1_i → Option (denS peloruslaw18_FlowStill_l1_o)
 | 0, _ => none
 | m + 1, x =>
  bif (decide (x.1.2.2.2.1 ≤ (x.2.1.2.2.length : Int))) then
   (tube_Gate k x.2.2.2.1 x.1.2.2.2.1).bind fun r11 =>
   bif (!(beqT T25 r11.1 x.2.2.1)) then
    some (Sum.inl ((false, ()), ()))
   else
    peloruslaw18_FlowStill_l1 k m (((), (), (), (IntKind.i64.wrap (x.1.2.2.2.1 + 1)), ()), (x.2.1, x.2.2.1, x.2.2.2.1, ()))
  else
   some (Sum.inr (Sum.inl (((), (), ()), (x.2.2.1, x.2.2.2.1, ()))))
abbrev peloruslaw18_FlowStill_l1_seg (k : Nat) : Seg := ⟨⟨0, 78, false, [], []⟩, 3, [.b, .s2, .s1, .s2, .s2, .s2, .s2, .s2, .s2, .s2, .s2], peloruslaw18_FlowStill_l1_i, peloruslaw18_FlowStill_l1_o, peloruslaw18_FlowStill_l1 k k⟩
theorem peloruslaw18_FlowStill_l1_seg.ok (k : Nat) : SegOK Try.prog (e58 k) (peloruslaw18_FlowStill_l1_seg k) :=
 SegOK.loop (e58.ok k) (by kernel_rfl) (S := peloruslaw18_FlowStill_l1_seg k) (c := atR (codeOf (e58 k) 3) [.l, .b, .s2, .s1, .s2, .s2, .s2, .s2, .s2, .s2, .s2, .s2]) (by kernel_rfl) (peloruslaw18_FlowStill_l1 k) k rfl (fun _ => rfl) 8 .n trivial (fun k' x => by kernel_rfl)
def peloruslaw18_FlowStill (k : Nat) (x0 : Ty.den T28) : Option (HL [.bool]) :=
 (peloruslaw18_awake k).bind fun r1 =>
 bif (!r1.1) then
  some (r1.1, ())
 else
  bif (decide ((x0.2.2.length : Int) > 20)) then
   some (r1.1, ())
  else
   (tube_May k x0).bind fun r2 =>
   bif (!r2.1) then
    some (r1.1, ())
   else
    (peloruslaw18_FlowStill_l0 k k (((), (), (), 0, ()), (x0, x0.2.1, [], ()))).bind fun q8 =>
    Sum.elim (fun z9 =>
      (flow_Contract k z9.2.1 z9.2.2.2.1).bind fun r10 =>
      bif (r10.2.1 != 0) then
       some (false, ())
      else
       (peloruslaw18_FlowStill_l1 k k (((), (), (), 0, ()), (z9.2.1, z9.2.2.1, r10.1, ()))).bind fun q12 =>
       Sum.elim (fun z13 =>
         some (z13.1.1, ()))
        (fun q12' =>
         Sum.elim (fun z14 =>
           (tube_Empty k z14.2.2.1).bind fun r15 =>
           some ((r15.1 == z14.2.1.1), ()))
          (fun q12'' =>
           none) q12') q12)
     (fun q8' =>
      none) q8
theorem peloruslaw18_FlowStill.ok (k : Nat) : SpecOK Try.prog G0 3 ⟨[T28], [.bool], fun x => peloruslaw18_FlowStill k x.1⟩ :=
 evF_sound (E := (e58 k)) (fn := Try.f3) (e58.ok k) (by kernel_rfl) (by kernel_rfl) (by kernel_rfl) 8 (.two .n (.two .n (.two .n (.two .n (.two .n (.two (.two .n (.two (.use (peloruslaw18_FlowStill_l0_seg k)) .n)) (.two (.own 2 .n) (.two .n (.two (.two .n (.two (.use (peloruslaw18_FlowStill_l1_seg k)) .n)) .n))))))))) ⟨trivial, ⟨trivial, ⟨trivial, ⟨trivial, ⟨trivial, ⟨⟨trivial, ⟨(peloruslaw18_FlowStill_l0_seg.ok k), trivial⟩⟩, ⟨trivial, ⟨trivial, ⟨⟨trivial, ⟨(peloruslaw18_FlowStill_l1_seg.ok k), trivial⟩⟩, trivial⟩⟩⟩⟩⟩⟩⟩⟩⟩ (fun xs => by kernel_rfl)
def e59 (k : Nat) : Env := (e58 k).add 3 ⟨[T28], [.bool], fun x => peloruslaw18_FlowStill k x.1⟩
theorem e59.ok (k : Nat) : (e59 k).OK Try.prog := (e58.ok k).add (peloruslaw18_FlowStill.ok k)
def peloruslaw18_FlowWithin (k : Nat) (x0 : Ty.den T28) (x1 : Ty.den T32) : Option (HL [.bool]) :=
 (peloruslaw18_awake k).bind fun r1 =>
 (peloruslaw17_Few k x0).bind fun r2 =>
 bif (!r1.1) then
  some (r1.1, ())
 else
  bif (!r2.1) then
   some (r1.1, ())
  else
   bif (!(decide ((x1.length : Int) ≤ 70))) then
    some (r1.1, ())
   else
    (flow_Contract k x0 x1).bind fun r3 =>
    bif (r3.2.1 != 0) then
     some (((r3.1.2.2.length : Int) == 0), ())
    else
     (tube_May k r3.1).bind fun r4 =>
     bif r4.1 then
      (tube_Within k r3.1 x0).bind fun r5 =>
      some (r5.1, ())
     else
      some (false, ())
theorem peloruslaw18_FlowWithin.ok (k : Nat) : SpecOK Try.prog G0 4 ⟨[T28, T32], [.bool], fun x => peloruslaw18_FlowWithin k x.1 x.2.1⟩ :=
 evF_sound (E := (e59 k)) (fn := Try.f4) (e59.ok k) (by kernel_rfl) (by kernel_rfl) (by kernel_rfl) 8 .n trivial (fun xs => by kernel_rfl)
def e60 (k : Nat) : Env := (e59 k).add 4 ⟨[T28, T32], [.bool], fun x => peloruslaw18_FlowWithin k x.1 x.2.1⟩
theorem e60.ok (k : Nat) : (e60 k).OK Try.prog := (e59.ok k).add (peloruslaw18_FlowWithin.ok k)
end
end Go.Proofs.Ytmlnohiaagmgnaa.Rf
