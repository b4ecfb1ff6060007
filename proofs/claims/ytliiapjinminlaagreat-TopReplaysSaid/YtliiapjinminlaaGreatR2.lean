/- What each function of the program answers upon plain values, and that it does (part 2). No condition. -/
import Derived.Test.YtliiapjinminlaaGreatProg
import Derived.Test.YtliiapjinminlaaGreatR1
import Derived.KernelRfl
import Derived.Deep.Draws
import Derived.Tactics
import Derived.Tactics2
import Derived.WalkKit
import Derived.RowKit3
import Derived.Deep.QuietTactic
import Derived.WideLaws
import Derived.Laws.BitsLemmas
import Derived.OrdersHeld
import Derived.OwnWalk
import Derived.BigQuiet
import Derived.Laws.CopyRow
import Derived.Laws.CopyOwn
import Derived.Laws.MakeOwn
import Derived.Deep.RegionLaw
import Derived.LoopN
import Derived.Deep.DeepFit
namespace Go.Proofs.YtliiapjinminlaaGreat.Rf
open Go Go.Proofs Go.Proofs.YtliiapjinminlaaGreat
set_option linter.unusedVariables false
set_option linter.unusedSimpArgs false
set_option maxRecDepth 100000
noncomputable section
def engine_Engine_take_s (k : Nat) (x : Mask.den engine_Engine_take_s_i) : Option (denS engine_Engine_take_s_o) :=
 (engine_Engine_gate_s1 k (((), (), (), (), (), (), x.1.2.2.2.2.2.2.1.2.1, ()), ((((x.2.1.1.1.1, ()), (x.2.1.1.2.1, ())), (x.2.1.2.1, ((), ()))), x.2.2.1, x.2.2.2.1, x.2.2.2.2.1, x.2.2.2.2.2.1, ()))).bind fun q1 =>
 Sum.elim (fun z2 =>
 bif (x.1.2.2.2.2.2.2.1.1 == 0) then
 bif z2.2.1.2.1 then
 some (Sum.inl (((), (), 1, ()), ((((z2.2.1.1.1.1, ()), (z2.2.1.1.2.1, ())), (z2.2.1.2.1, ((), ()))), z2.2.2.1, z2.2.2.2.1, z2.2.2.2.2.1, z2.2.2.2.2.2.1, ())))
 else
 bif (x.1.2.2.2.2.2.2.1.1 == 0) then
 (engine_Engine_both_s k (((), (), (), (), (), (), (), x.1.2.2.2.2.2.2.1, (), ()), ((((z2.2.1.1.1.1, ()), (z2.2.1.1.2.1, ())), (true, ((), ()))), z2.2.2.1, z2.2.2.2.1, z2.2.2.2.2.1, x.1.2.2.2.2.2.2.1, z2.2.2.2.2.2.1, ()))).bind fun q3 =>
 Sum.elim (fun z9 =>
 some (Sum.inl (((), (), 0, ()), ((((z9.2.1.1.1.1, ()), (z9.2.1.1.2.1, ())), (z9.2.1.2.1, ((), ()))), z9.2.2.1, z9.2.2.2.1, z9.2.2.2.2.1, z9.2.2.2.2.2.2.1, ()))))
 (fun q3' =>
 none) q3
 else
 bif (!z2.2.1.2.1) then
 some (Sum.inl (((), (), 7, ()), ((((z2.2.1.1.1.1, ()), (z2.2.1.1.2.1, ())), (z2.2.1.2.1, ((), ()))), z2.2.2.1, z2.2.2.2.1, z2.2.2.2.2.1, z2.2.2.2.2.2.1, ())))
 else
 bif (x.1.2.2.2.2.2.2.1.1 == 1) then
 (engine_side_grows_s k (((), (), (), (), (), (), x.1.2.2.2.2.2.2.1.2.1, x.1.2.2.2.2.2.2.1.2.2.1, ()), ((((z2.2.1.1.1.1, ()), (z2.2.1.1.2.1, ())), (z2.2.1.2.1, ((), ()))), z2.2.2.1, z2.2.2.2.1, z2.2.2.2.2.1, z2.2.2.2.2.2.1, ()))).bind fun q4 =>
 Sum.elim (fun z10 =>
 bif (z10.1.2.2.2.2.1 != 0) then
 some (Sum.inl (((), (), z10.1.2.2.2.2.1, ()), ((((z10.2.1.1.1.1, ()), (z10.2.1.1.2.1, ())), (z10.2.1.2.1, ((), ()))), z10.2.2.1, z10.2.2.2.1, z10.2.2.2.2.1, z10.2.2.2.2.2.1, ())))
 else
 (engine_side_grows_s1 k (((), (), (), (), (), (), x.1.2.2.2.2.2.2.1.2.1, x.1.2.2.2.2.2.2.1.2.2.2.1, ()), ((((z10.2.1.1.1.1, ()), (z10.2.1.1.2.1, ())), (z10.2.1.2.1, ((), ()))), z10.2.2.1, z10.2.2.2.1, z10.2.2.2.2.1, z10.2.2.2.2.2.1, ()))).bind fun q11 =>
 Sum.elim (fun z12 =>
 some (Sum.inl (((), (), z12.1.2.2.2.2.1, ()), ((((z12.2.1.1.1.1, ()), (z12.2.1.1.2.1, ())), (z12.2.1.2.1, ((), ()))), z12.2.2.1, z12.2.2.2.1, z12.2.2.2.2.1, z12.2.2.2.2.2.1, ()))))
 (fun q11' =>
 none) q11)
 (fun q4' =>
 none) q4
 else
 bif (decide (z2.1.2.2.2.2.2.1 < 0)) then
 some (Sum.inl (((), (), 7, ()), ((((z2.2.1.1.1.1, ()), (z2.2.1.1.2.1, ())), (z2.2.1.2.1, ((), ()))), z2.2.2.1, z2.2.2.2.1, z2.2.2.2.2.1, z2.2.2.2.2.2.1, ())))
 else
 bif (x.1.2.2.2.2.2.2.1.1 == 2) then
 (engine_Engine_both_s1 k (((), (), (), (), (), (), (), x.1.2.2.2.2.2.2.1, (), ()), ((((z2.2.1.1.1.1, ()), (z2.2.1.1.2.1, ())), (z2.2.1.2.1, ((), ()))), z2.2.2.1, z2.2.2.2.1, z2.2.2.2.2.1, z2.1.2.2.2.2.2.1, z2.2.2.2.2.2.1, ()))).bind fun q5 =>
 Sum.elim (fun z13 =>
 some (Sum.inl (((), (), 0, ()), ((((z13.2.1.1.1.1, ()), (z13.2.1.1.2.1, ())), (z13.2.1.2.1, ((), ()))), z13.2.2.1, z13.2.2.2.1, z13.2.2.2.2.1, z13.2.2.2.2.2.2.1, ()))))
 (fun q5' =>
 none) q5
 else
 bif (decide ((z2.2.2.2.2.2.1.length : Int) >= 16)) then
 some (Sum.inl (((), (), 3, ()), ((((z2.2.1.1.1.1, ()), (z2.2.1.1.2.1, ())), (z2.2.1.2.1, ((), ()))), z2.2.2.1, z2.2.2.2.1, z2.2.2.2.2.1, z2.2.2.2.2.2.1, ())))
 else
 if (z2.2.2.2.2.2.1.length + [x.1.2.2.2.2.2.2.1].length) * 256 <= 140737488355328 then
 some (Sum.inl (((), (), 0, ()), ((((z2.2.1.1.1.1, ()), (z2.2.1.1.2.1, ())), (z2.2.1.2.1, ((), ()))), z2.2.2.1, z2.2.2.2.1, z2.2.2.2.2.1, (z2.2.2.2.2.2.1 ++ [x.1.2.2.2.2.2.2.1]), ())))
 else none
 else
 bif (x.1.2.2.2.2.2.2.1.1 == 0) then
 (engine_Engine_both_s k (((), (), (), (), (), (), (), x.1.2.2.2.2.2.2.1, (), ()), ((((z2.2.1.1.1.1, ()), (z2.2.1.1.2.1, ())), (true, ((), ()))), z2.2.2.1, z2.2.2.2.1, z2.2.2.2.2.1, x.1.2.2.2.2.2.2.1, z2.2.2.2.2.2.1, ()))).bind fun q6 =>
 Sum.elim (fun z14 =>
 some (Sum.inl (((), (), 0, ()), ((((z14.2.1.1.1.1, ()), (z14.2.1.1.2.1, ())), (z14.2.1.2.1, ((), ()))), z14.2.2.1, z14.2.2.2.1, z14.2.2.2.2.1, z14.2.2.2.2.2.2.1, ()))))
 (fun q6' =>
 none) q6
 else
 bif (!z2.2.1.2.1) then
 some (Sum.inl (((), (), 7, ()), ((((z2.2.1.1.1.1, ()), (z2.2.1.1.2.1, ())), (z2.2.1.2.1, ((), ()))), z2.2.2.1, z2.2.2.2.1, z2.2.2.2.2.1, z2.2.2.2.2.2.1, ())))
 else
 bif (x.1.2.2.2.2.2.2.1.1 == 1) then
 (engine_side_grows_s k (((), (), (), (), (), (), x.1.2.2.2.2.2.2.1.2.1, x.1.2.2.2.2.2.2.1.2.2.1, ()), ((((z2.2.1.1.1.1, ()), (z2.2.1.1.2.1, ())), (z2.2.1.2.1, ((), ()))), z2.2.2.1, z2.2.2.2.1, z2.2.2.2.2.1, z2.2.2.2.2.2.1, ()))).bind fun q7 =>
 Sum.elim (fun z15 =>
 bif (z15.1.2.2.2.2.1 != 0) then
 some (Sum.inl (((), (), z15.1.2.2.2.2.1, ()), ((((z15.2.1.1.1.1, ()), (z15.2.1.1.2.1, ())), (z15.2.1.2.1, ((), ()))), z15.2.2.1, z15.2.2.2.1, z15.2.2.2.2.1, z15.2.2.2.2.2.1, ())))
 else
 (engine_side_grows_s1 k (((), (), (), (), (), (), x.1.2.2.2.2.2.2.1.2.1, x.1.2.2.2.2.2.2.1.2.2.2.1, ()), ((((z15.2.1.1.1.1, ()), (z15.2.1.1.2.1, ())), (z15.2.1.2.1, ((), ()))), z15.2.2.1, z15.2.2.2.1, z15.2.2.2.2.1, z15.2.2.2.2.2.1, ()))).bind fun q16 =>
 Sum.elim (fun z17 =>
 some (Sum.inl (((), (), z17.1.2.2.2.2.1, ()), ((((z17.2.1.1.1.1, ()), (z17.2.1.1.2.1, ())), (z17.2.1.2.1, ((), ()))), z17.2.2.1, z17.2.2.2.1, z17.2.2.2.2.1, z17.2.2.2.2.2.1, ()))))
 (fun q16' =>
 none) q16)
 (fun q7' =>
 none) q7
 else
 bif (decide (z2.1.2.2.2.2.2.1 < 0)) then
 some (Sum.inl (((), (), 7, ()), ((((z2.2.1.1.1.1, ()), (z2.2.1.1.2.1, ())), (z2.2.1.2.1, ((), ()))), z2.2.2.1, z2.2.2.2.1, z2.2.2.2.2.1, z2.2.2.2.2.2.1, ())))
 else
 bif (x.1.2.2.2.2.2.2.1.1 == 2) then
 (engine_Engine_both_s1 k (((), (), (), (), (), (), (), x.1.2.2.2.2.2.2.1, (), ()), ((((z2.2.1.1.1.1, ()), (z2.2.1.1.2.1, ())), (z2.2.1.2.1, ((), ()))), z2.2.2.1, z2.2.2.2.1, z2.2.2.2.2.1, z2.1.2.2.2.2.2.1, z2.2.2.2.2.2.1, ()))).bind fun q8 =>
 Sum.elim (fun z18 =>
 some (Sum.inl (((), (), 0, ()), ((((z18.2.1.1.1.1, ()), (z18.2.1.1.2.1, ())), (z18.2.1.2.1, ((), ()))), z18.2.2.1, z18.2.2.2.1, z18.2.2.2.2.1, z18.2.2.2.2.2.2.1, ()))))
 (fun q8' =>
 none) q8
 else
 bif (decide ((z2.2.2.2.2.2.1.length : Int) >= 16)) then
 some (Sum.inl (((), (), 3, ()), ((((z2.2.1.1.1.1, ()), (z2.2.1.1.2.1, ())), (z2.2.1.2.1, ((), ()))), z2.2.2.1, z2.2.2.2.1, z2.2.2.2.2.1, z2.2.2.2.2.2.1, ())))
 else
 if (z2.2.2.2.2.2.1.length + [x.1.2.2.2.2.2.2.1].length) * 256 <= 140737488355328 then
 some (Sum.inl (((), (), 0, ()), ((((z2.2.1.1.1.1, ()), (z2.2.1.1.2.1, ())), (z2.2.1.2.1, ((), ()))), z2.2.2.1, z2.2.2.2.1, z2.2.2.2.2.1, (z2.2.2.2.2.2.1 ++ [x.1.2.2.2.2.2.2.1]), ())))
 else none)
 (fun q1' =>
 none) q1
abbrev engine_Engine_take_s_seg (k : Nat) : Seg := ⟨⟨12000, 91, false, [999], []⟩, 22, [], engine_Engine_take_s_i, engine_Engine_take_s_o, engine_Engine_take_s k⟩
theorem engine_Engine_take_s_seg.ok (k : Nat) : SegOK Tryz.prog (e101 k) (engine_Engine_take_s_seg k) :=
 SegOK.of (e101.ok k) (by kernel_rfl) (S := engine_Engine_take_s_seg k) 8 (.two .n (.two (.seg 3 (engine_Engine_gate_s1_seg k) [] [] .n) (.two (.two (.two .n (.two .n (.two .n (.two (.two .n (.seg 3 (engine_Engine_both_s_seg k) [] [] .n)) (.two .n (.two .n (.two .n (.two (.two (.two (.seg 8 (engine_side_grows_s_seg k) [] [] .n) .n) (.two (.seg 8 (engine_side_grows_s1_seg k) [] [] .n) .n)) (.two .n (.two .n (.two .n (.two (.seg 3 (engine_Engine_both_s1_seg k) [] [] .n) .n)))))))))))) .n) .n))) ⟨trivial, ⟨⟨(engine_Engine_gate_s1_seg.ok k).env rfl rfl, trivial⟩, ⟨⟨⟨trivial, ⟨trivial, ⟨trivial, ⟨⟨trivial, ⟨(engine_Engine_both_s_seg.ok k).env rfl rfl, trivial⟩⟩, ⟨trivial, ⟨trivial, ⟨trivial, ⟨⟨⟨⟨(engine_side_grows_s_seg.ok k).env rfl rfl, trivial⟩, trivial⟩, ⟨⟨(engine_side_grows_s1_seg.ok k).env rfl rfl, trivial⟩, trivial⟩⟩, ⟨trivial, ⟨trivial, ⟨trivial, ⟨⟨(engine_Engine_both_s1_seg.ok k).env rfl rfl, trivial⟩, trivial⟩⟩⟩⟩⟩⟩⟩⟩⟩⟩⟩⟩, trivial⟩, trivial⟩⟩⟩ (fun x => by kernel_rfl)
def flow_Time (k : Nat) (x0 : Ty.den T45) (x1 : Ty.den (.int .i64)) : Option (HL [T31]) :=
 (tube_May k x0).bind fun r1 =>
 bif (!r1.1) then
 (iv_None k).bind fun r2 =>
 some (r2.1, ())
 else
 bif (decide (x1 < 0)) then
 (iv_None k).bind fun r3 =>
 some (r3.1, ())
 else
 bif (decide (x1 >= (x0.2.2.length : Int))) then
 (iv_None k).bind fun r4 =>
 some (r4.1, ())
 else
 (flow_when k x0 x1).bind fun r5 =>
 (flow_when k x0 (IntKind.i64.wrap (x1 + 1))).bind fun r6 =>
 (arith_Sub k r6.1 r5.1 false).bind fun r7 =>
 (arith_Sub k r6.1 r5.1 true).bind fun r8 =>
 (iv_Make k r7.1 r8.1).bind fun r9 =>
 some (r9.1, ())
theorem flow_Time.ok (k : Nat) : SpecOK Tryz.prog G0 107 ⟨[T45, (.int .i64)], [T31], fun x => flow_Time k x.1 x.2.1⟩ :=
 evF_sound (E := (e101 k)) (fn := Tryz.f107) (e101.ok k) (by kernel_rfl) (by kernel_rfl) (by kernel_rfl) 8 .n trivial (fun xs => by kernel_rfl)
def e102 (k : Nat) : Env := (e101 k).add 107 ⟨[T45, (.int .i64)], [T31], fun x => flow_Time k x.1 x.2.1⟩
theorem e102.ok (k : Nat) : (e102 k).OK Tryz.prog := (e101.ok k).add (flow_Time.ok k)
abbrev flow_Contract_s_l0_i : Mask := ⟨[(8, 0, (.k (.arr 3686402 0))), (8, 1, (.k (.clo 89 .nl))), (8, 7, (.v (.int .i64))), (8, 8, (.v (.int .i64))), (999, 0, (.k (.arr 3686402 0))), (32000, 1, (.k (.arr 3686402 0))), (32000, 2, (.k (.ptr 131072002 0 0))), (32000, 4, (.k (.ptr 131072004 0 0))), (32000, 20, (.v .bool))], [(3686402, .arr 32 T31), (131072002, .cells (.v T45)), (131072004, .cells (.pr (.v T29) (.pr (.v T31) (.v T44))))], [], 0⟩
abbrev flow_Contract_s_l0_o : List Out := [⟨.ret, ⟨[(8, 4, (.v (.int .i64))), (999, 0, (.k (.arr 3686402 0))), (32000, 1, (.k (.arr 3686402 0))), (32000, 2, (.k (.ptr 131072002 0 0))), (32000, 4, (.k (.ptr 131072004 0 0))), (32000, 20, (.v .bool))], [(3686402, .arr 32 T31), (131072002, .cells (.v T45)), (131072004, .cells (.pr (.v T29) (.pr (.v T31) (.v T44))))], [], 0⟩⟩, ⟨.exit 0, ⟨[(999, 0, (.k (.arr 3686402 0))), (32000, 1, (.k (.arr 3686402 0))), (32000, 2, (.k (.ptr 131072002 0 0))), (32000, 4, (.k (.ptr 131072004 0 0))), (32000, 20, (.v .bool))], [(3686402, .arr 32 T31), (131072002, .cells (.v T45)), (131072004, .cells (.pr (.v T29) (.pr (.v T31) (.v T44))))], [], 0⟩⟩]
def flow_Contract_s_l0 (k : Nat) : Nat -> Mask.den flow_Contract_s_l0_i -> Option (denS flow_Contract_s_l0_o)
| 0, _ => none
| m + 1, x =>
 bif (decide (x.1.2.2.2.1 < x.1.2.2.1)) then
 if 0 <= x.1.2.2.2.1 then (x.2.1[Int.toNat x.1.2.2.2.1]?).bind fun _ =>
 (x.2.1[(Int.toNat x.1.2.2.2.1)]?).bind fun y3 =>
 (flow_Contract_1 k y3).bind fun r4 =>
 bif r4.1 then
 some (Sum.inl ((x.1.2.2.2.1, (), (), (), (), x.1.2.2.2.2.2.2.2.2.1, ()), (x.2.1, x.2.2.1, (x.2.2.2.1.1, (x.2.2.2.1.2.1, x.2.2.2.1.2.2)), ())))
 else
 flow_Contract_s_l0 k m (((), (), x.1.2.2.1, (IntKind.i64.wrap (x.1.2.2.2.1 + 1)), (), (), (), (), x.1.2.2.2.2.2.2.2.2.1, ()), (x.2.1, x.2.2.1, (x.2.2.2.1.1, (x.2.2.2.1.2.1, x.2.2.2.1.2.2)), ()))
 else none
 else
 some (Sum.inr (Sum.inl (((), (), (), (), x.1.2.2.2.2.2.2.2.2.1, ()), (x.2.1, x.2.2.1, (x.2.2.2.1.1, (x.2.2.2.1.2.1, x.2.2.2.1.2.2)), ()))))
abbrev flow_Contract_s_l0_seg (k : Nat) : Seg := ⟨⟨8, 19, false, [7, 32000, 999], []⟩, 105, [.b, .s2, .s1, .s2], flow_Contract_s_l0_i, flow_Contract_s_l0_o, flow_Contract_s_l0 k k⟩
theorem flow_Contract_s_l0_seg.ok (k : Nat) : SegOK Tryz.prog (e102 k) (flow_Contract_s_l0_seg k) :=
 SegOK.loop (e102.ok k) (by kernel_rfl) (S := flow_Contract_s_l0_seg k) (c := atR (codeOf (e102 k) 105) [.l, .b, .s2, .s1, .s2]) (by kernel_rfl) (flow_Contract_s_l0 k) k rfl (fun _ => rfl) 8 .n trivial (fun k' x => by kernel_rfl)
abbrev flow_Contract_s_l2_i : Mask := ⟨[(999, 0, (.k (.arr 3686402 0))), (32000, 1, (.k (.arr 3686402 0))), (32000, 2, (.k (.ptr 131072002 0 0))), (32000, 4, (.k (.ptr 131072004 0 0))), (32008, 0, (.k (.yld 0))), (32008, 1, (.k (.ptr 133197825 0 0))), (32008, 3, (.k (.ptr 131104771 0 0))), (32008, 14, (.v (.int .i64))), (32008, 15, (.v (.int .i64))), (32515, 2, (.k (.ptr 133181442 0 0))), (32515, 3, (.k (.ptr 133181443 0 0)))], [(3686402, .arr 32 T31), (131072002, .cells (.v T45)), (131072004, .cells (.pr (.v T29) (.pr (.v T31) (.v T44)))), (131104771, .cells (.pr (.v T29) (.v T31))), (133181442, .cells (.pr (.v T29) (.pr (.v T31) (.v T44)))), (133181443, .cells (.pr (.v T29) (.pr (.v T31) (.k (.arr 133181453 0))))), (133181453, .arr 78 T77), (133197825, .cells (.v T45))], [], 1⟩
abbrev flow_Contract_s_l2_o : List Out := [⟨.exit 0, ⟨[(999, 0, (.k (.arr 3686402 0))), (32000, 1, (.k (.arr 3686402 0))), (32000, 2, (.k (.ptr 131072002 0 0))), (32000, 4, (.k (.ptr 131072004 0 0))), (32515, 2, (.k (.ptr 133181442 0 0))), (32515, 3, (.k (.ptr 133181443 0 0)))], [(3686402, .arr 32 T31), (131072002, .cells (.v T45)), (131072004, .cells (.pr (.v T29) (.pr (.v T31) (.v T44)))), (133181442, .cells (.pr (.v T29) (.pr (.v T31) (.v T44)))), (133181443, .cells (.pr (.v T29) (.pr (.v T31) (.k (.arr 133181453 0))))), (133181453, .arr 78 T77)], [], 1⟩⟩]
def flow_Contract_s_l2 (k : Nat) : Nat -> Mask.den flow_Contract_s_l2_i -> Option (denS flow_Contract_s_l2_o)
| 0, _ => none
| m + 1, x =>
 bif (decide (x.1.2.2.2.2.2.2.2.2.1 < x.1.2.2.2.2.2.2.2.1)) then
 bif (decide (x.1.2.2.2.2.2.2.2.2.1 > 0)) then
 if 0 <= (IntKind.i64.wrap (x.1.2.2.2.2.2.2.2.2.1 - 1)) then (x.2.2.2.2.2.2.2.2.1.2.2[Int.toNat (IntKind.i64.wrap (x.1.2.2.2.2.2.2.2.2.1 - 1))]?).bind fun y21 =>
 (iv_Meet k [y21.2.2, y21.2.1]).bind fun r22 =>
 bif (decide (x.1.2.2.2.2.2.2.2.2.1 < (x.2.2.2.2.2.2.2.2.1.2.2.length : Int))) then
 if 0 <= x.1.2.2.2.2.2.2.2.2.1 then (x.2.2.2.2.2.2.2.2.1.2.2[Int.toNat x.1.2.2.2.2.2.2.2.2.1]?).bind fun y23 =>
 (iv_Meet k [r22.1, y23.2.1]).bind fun r24 =>
 bif (x.1.2.2.2.2.2.2.2.2.1 == 0) then
 flow_Contract_s_l2 k m (((), (), (), (), (), (), (), x.1.2.2.2.2.2.2.2.1, (IntKind.i64.wrap (x.1.2.2.2.2.2.2.2.2.1 + 1)), (), (), ()), (x.2.1, x.2.2.1, (x.2.2.2.1.1, (x.2.2.2.1.2.1, x.2.2.2.1.2.2)), (y21.1, r24.1), (x.2.2.2.2.2.1.1, (x.2.2.2.2.2.1.2.1, x.2.2.2.2.2.1.2.2)), (x.2.2.2.2.2.2.1.1, (r24.1, ())), x.2.2.2.2.2.2.2.1, x.2.2.2.2.2.2.2.2.1, ()))
 else
 if 0 <= (IntKind.i64.wrap (x.1.2.2.2.2.2.2.2.2.1 - 1)) then (x.2.2.2.2.2.2.2.1[Int.toNat (IntKind.i64.wrap (x.1.2.2.2.2.2.2.2.2.1 - 1))]?).bind fun _ =>
 (x.2.2.2.2.2.2.2.1[(Int.toNat (IntKind.i64.wrap (x.1.2.2.2.2.2.2.2.2.1 - 1)))]?).bind fun y26 =>
 flow_Contract_s_l2 k m (((), (), (), (), (), (), (), x.1.2.2.2.2.2.2.2.1, (IntKind.i64.wrap (x.1.2.2.2.2.2.2.2.2.1 + 1)), (), (), ()), (x.2.1, x.2.2.1, (x.2.2.2.1.1, (x.2.2.2.1.2.1, x.2.2.2.1.2.2)), (y21.1, r24.1), (x.2.2.2.2.2.1.1, (x.2.2.2.2.2.1.2.1, x.2.2.2.2.2.1.2.2)), (x.2.2.2.2.2.2.1.1, (x.2.2.2.2.2.2.1.2.1, ())), (x.2.2.2.2.2.2.2.1.set (Int.toNat (IntKind.i64.wrap (x.1.2.2.2.2.2.2.2.2.1 - 1))) (y26.1, y26.2.1, r24.1)), x.2.2.2.2.2.2.2.2.1, ()))
 else none
 else none
 else
 bif (x.1.2.2.2.2.2.2.2.2.1 == 0) then
 flow_Contract_s_l2 k m (((), (), (), (), (), (), (), x.1.2.2.2.2.2.2.2.1, (IntKind.i64.wrap (x.1.2.2.2.2.2.2.2.2.1 + 1)), (), (), ()), (x.2.1, x.2.2.1, (x.2.2.2.1.1, (x.2.2.2.1.2.1, x.2.2.2.1.2.2)), (y21.1, r22.1), (x.2.2.2.2.2.1.1, (x.2.2.2.2.2.1.2.1, x.2.2.2.2.2.1.2.2)), (x.2.2.2.2.2.2.1.1, (r22.1, ())), x.2.2.2.2.2.2.2.1, x.2.2.2.2.2.2.2.2.1, ()))
 else
 if 0 <= (IntKind.i64.wrap (x.1.2.2.2.2.2.2.2.2.1 - 1)) then (x.2.2.2.2.2.2.2.1[Int.toNat (IntKind.i64.wrap (x.1.2.2.2.2.2.2.2.2.1 - 1))]?).bind fun _ =>
 (x.2.2.2.2.2.2.2.1[(Int.toNat (IntKind.i64.wrap (x.1.2.2.2.2.2.2.2.2.1 - 1)))]?).bind fun y28 =>
 flow_Contract_s_l2 k m (((), (), (), (), (), (), (), x.1.2.2.2.2.2.2.2.1, (IntKind.i64.wrap (x.1.2.2.2.2.2.2.2.2.1 + 1)), (), (), ()), (x.2.1, x.2.2.1, (x.2.2.2.1.1, (x.2.2.2.1.2.1, x.2.2.2.1.2.2)), (y21.1, r22.1), (x.2.2.2.2.2.1.1, (x.2.2.2.2.2.1.2.1, x.2.2.2.2.2.1.2.2)), (x.2.2.2.2.2.2.1.1, (x.2.2.2.2.2.2.1.2.1, ())), (x.2.2.2.2.2.2.2.1.set (Int.toNat (IntKind.i64.wrap (x.1.2.2.2.2.2.2.2.2.1 - 1))) (y28.1, y28.2.1, r22.1)), x.2.2.2.2.2.2.2.2.1, ()))
 else none
 else none
 else
 bif (decide (x.1.2.2.2.2.2.2.2.2.1 < (x.2.2.2.2.2.2.2.2.1.2.2.length : Int))) then
 if 0 <= x.1.2.2.2.2.2.2.2.2.1 then (x.2.2.2.2.2.2.2.2.1.2.2[Int.toNat x.1.2.2.2.2.2.2.2.2.1]?).bind fun y29 =>
 (iv_Meet k [x.2.2.2.2.1.2, y29.2.1]).bind fun r30 =>
 bif (x.1.2.2.2.2.2.2.2.2.1 == 0) then
 flow_Contract_s_l2 k m (((), (), (), (), (), (), (), x.1.2.2.2.2.2.2.2.1, (IntKind.i64.wrap (x.1.2.2.2.2.2.2.2.2.1 + 1)), (), (), ()), (x.2.1, x.2.2.1, (x.2.2.2.1.1, (x.2.2.2.1.2.1, x.2.2.2.1.2.2)), (x.2.2.2.2.1.1, r30.1), (x.2.2.2.2.2.1.1, (x.2.2.2.2.2.1.2.1, x.2.2.2.2.2.1.2.2)), (x.2.2.2.2.2.2.1.1, (r30.1, ())), x.2.2.2.2.2.2.2.1, x.2.2.2.2.2.2.2.2.1, ()))
 else
 if 0 <= (IntKind.i64.wrap (x.1.2.2.2.2.2.2.2.2.1 - 1)) then (x.2.2.2.2.2.2.2.1[Int.toNat (IntKind.i64.wrap (x.1.2.2.2.2.2.2.2.2.1 - 1))]?).bind fun _ =>
 (x.2.2.2.2.2.2.2.1[(Int.toNat (IntKind.i64.wrap (x.1.2.2.2.2.2.2.2.2.1 - 1)))]?).bind fun y32 =>
 flow_Contract_s_l2 k m (((), (), (), (), (), (), (), x.1.2.2.2.2.2.2.2.1, (IntKind.i64.wrap (x.1.2.2.2.2.2.2.2.2.1 + 1)), (), (), ()), (x.2.1, x.2.2.1, (x.2.2.2.1.1, (x.2.2.2.1.2.1, x.2.2.2.1.2.2)), (x.2.2.2.2.1.1, r30.1), (x.2.2.2.2.2.1.1, (x.2.2.2.2.2.1.2.1, x.2.2.2.2.2.1.2.2)), (x.2.2.2.2.2.2.1.1, (x.2.2.2.2.2.2.1.2.1, ())), (x.2.2.2.2.2.2.2.1.set (Int.toNat (IntKind.i64.wrap (x.1.2.2.2.2.2.2.2.2.1 - 1))) (y32.1, y32.2.1, r30.1)), x.2.2.2.2.2.2.2.2.1, ()))
 else none
 else none
 else
 bif (x.1.2.2.2.2.2.2.2.2.1 == 0) then
 flow_Contract_s_l2 k m (((), (), (), (), (), (), (), x.1.2.2.2.2.2.2.2.1, (IntKind.i64.wrap (x.1.2.2.2.2.2.2.2.2.1 + 1)), (), (), ()), (x.2.1, x.2.2.1, (x.2.2.2.1.1, (x.2.2.2.1.2.1, x.2.2.2.1.2.2)), (x.2.2.2.2.1.1, x.2.2.2.2.1.2), (x.2.2.2.2.2.1.1, (x.2.2.2.2.2.1.2.1, x.2.2.2.2.2.1.2.2)), (x.2.2.2.2.2.2.1.1, (x.2.2.2.2.1.2, ())), x.2.2.2.2.2.2.2.1, x.2.2.2.2.2.2.2.2.1, ()))
 else
 if 0 <= (IntKind.i64.wrap (x.1.2.2.2.2.2.2.2.2.1 - 1)) then (x.2.2.2.2.2.2.2.1[Int.toNat (IntKind.i64.wrap (x.1.2.2.2.2.2.2.2.2.1 - 1))]?).bind fun _ =>
 (x.2.2.2.2.2.2.2.1[(Int.toNat (IntKind.i64.wrap (x.1.2.2.2.2.2.2.2.2.1 - 1)))]?).bind fun y34 =>
 flow_Contract_s_l2 k m (((), (), (), (), (), (), (), x.1.2.2.2.2.2.2.2.1, (IntKind.i64.wrap (x.1.2.2.2.2.2.2.2.2.1 + 1)), (), (), ()), (x.2.1, x.2.2.1, (x.2.2.2.1.1, (x.2.2.2.1.2.1, x.2.2.2.1.2.2)), (x.2.2.2.2.1.1, x.2.2.2.2.1.2), (x.2.2.2.2.2.1.1, (x.2.2.2.2.2.1.2.1, x.2.2.2.2.2.1.2.2)), (x.2.2.2.2.2.2.1.1, (x.2.2.2.2.2.2.1.2.1, ())), (x.2.2.2.2.2.2.2.1.set (Int.toNat (IntKind.i64.wrap (x.1.2.2.2.2.2.2.2.2.1 - 1))) (y34.1, y34.2.1, x.2.2.2.2.1.2)), x.2.2.2.2.2.2.2.2.1, ()))
 else none
 else
 some (Sum.inl (((), (), (), (), (), (), ()), (x.2.1, x.2.2.1, (x.2.2.2.1.1, (x.2.2.2.1.2.1, x.2.2.2.1.2.2)), (x.2.2.2.2.2.1.1, (x.2.2.2.2.2.1.2.1, x.2.2.2.2.2.1.2.2)), (x.2.2.2.2.2.2.1.1, (x.2.2.2.2.2.2.1.2.1, ())), x.2.2.2.2.2.2.2.1, ())))
abbrev flow_Contract_s_l2_seg (k : Nat) : Seg := ⟨⟨32008, 57, false, [32515, 32000, 999], [⟨0, 32515, 37, 88, [.b, .s2, .s1, .s2, .s2, .s2, .s2]⟩]⟩, 86, [.b, .s2, .s2], flow_Contract_s_l2_i, flow_Contract_s_l2_o, flow_Contract_s_l2 k k⟩
theorem flow_Contract_s_l2_seg.ok (k : Nat) : SegOK Tryz.prog (e102 k) (flow_Contract_s_l2_seg k) :=
 SegOK.loop (e102.ok k) (by kernel_rfl) (S := flow_Contract_s_l2_seg k) (c := atR (codeOf (e102 k) 86) [.l, .b, .s2, .s2]) (by kernel_rfl) (flow_Contract_s_l2 k) k rfl (fun _ => rfl) 8 (.two .n (.two .n (.two (.two (.two .n (.two .n (.two .n (.two (.call 3 32009 .n .n) .n)))) .n) .n))) ⟨trivial, ⟨trivial, ⟨⟨⟨trivial, ⟨trivial, ⟨trivial, ⟨⟨trivial, trivial⟩, trivial⟩⟩⟩⟩, trivial⟩, trivial⟩⟩⟩ (fun k' x => by kernel_rfl)
abbrev flow_Contract_s_l3_i : Mask := ⟨[(999, 0, (.k (.arr 3686402 0))), (32000, 1, (.k (.arr 3686402 0))), (32000, 2, (.k (.ptr 131072002 0 0))), (32000, 4, (.k (.ptr 131072004 0 0))), (32515, 2, (.k (.ptr 133181442 0 0))), (32522, 1, (.k (.ptr 133210113 0 0))), (32522, 2, (.k (.ptr 133210114 0 0))), (32522, 3, (.k (.ptr 133210115 0 0))), (32522, 14, (.v (.int .i64))), (32522, 15, (.v (.int .i64)))], [(3686402, .arr 32 T31), (131072002, .cells (.v T45)), (131072004, .cells (.pr (.v T29) (.pr (.v T31) (.v T44)))), (133181442, .cells (.pr (.v T29) (.pr (.v T31) (.v T44)))), (133210113, .cells (.pr (.v T29) (.pr (.v T31) (.k (.arr 133210122 0))))), (133210114, .cells (.pr (.v T29) (.pr (.v T31) (.v T44)))), (133210115, .cells (.v T31)), (133210122, .arr 78 T77)], [], 1⟩
abbrev flow_Contract_s_l3_o : List Out := [⟨.exit 0, ⟨[(999, 0, (.k (.arr 3686402 0))), (32000, 1, (.k (.arr 3686402 0))), (32000, 2, (.k (.ptr 131072002 0 0))), (32000, 4, (.k (.ptr 131072004 0 0))), (32515, 2, (.k (.ptr 133181442 0 0))), (32522, 1, (.k (.ptr 133210113 0 0))), (32522, 2, (.k (.ptr 133210114 0 0)))], [(3686402, .arr 32 T31), (131072002, .cells (.v T45)), (131072004, .cells (.pr (.v T29) (.pr (.v T31) (.v T44)))), (133181442, .cells (.pr (.v T29) (.pr (.v T31) (.v T44)))), (133210113, .cells (.pr (.v T29) (.pr (.v T31) (.k (.arr 133210122 0))))), (133210114, .cells (.pr (.v T29) (.pr (.v T31) (.v T44)))), (133210122, .arr 78 T77)], [], 1⟩⟩]
def flow_Contract_s_l3 (k : Nat) : Nat -> Mask.den flow_Contract_s_l3_i -> Option (denS flow_Contract_s_l3_o)
| 0, _ => none
| m + 1, x =>
 bif (decide (x.1.2.2.2.2.2.2.2.2.2.1 < x.1.2.2.2.2.2.2.2.2.1)) then
 if 0 <= x.1.2.2.2.2.2.2.2.2.2.1 then (x.2.2.2.2.2.2.2.2.1[Int.toNat x.1.2.2.2.2.2.2.2.2.2.1]?).bind fun _ =>
 (x.2.2.2.2.2.2.2.2.1[(Int.toNat x.1.2.2.2.2.2.2.2.2.2.1)]?).bind fun y40 =>
 if 0 <= x.1.2.2.2.2.2.2.2.2.2.1 then ((x.2.2.2.2.2.2.2.2.1.set (Int.toNat x.1.2.2.2.2.2.2.2.2.2.1) (y40.1, x.2.2.2.2.2.2.2.1, y40.2.2))[Int.toNat x.1.2.2.2.2.2.2.2.2.2.1]?).bind fun _ =>
 ((x.2.2.2.2.2.2.2.2.1.set (Int.toNat x.1.2.2.2.2.2.2.2.2.2.1) (y40.1, x.2.2.2.2.2.2.2.1, y40.2.2))[(Int.toNat x.1.2.2.2.2.2.2.2.2.2.1)]?).bind fun y42 =>
 flow_Contract_s_l3 k m (((), (), (), (), (), (), (), (), x.1.2.2.2.2.2.2.2.2.1, (IntKind.i64.wrap (x.1.2.2.2.2.2.2.2.2.2.1 + 1)), ()), (x.2.1, x.2.2.1, (x.2.2.2.1.1, (x.2.2.2.1.2.1, x.2.2.2.1.2.2)), (x.2.2.2.2.1.1, (x.2.2.2.2.1.2.1, x.2.2.2.2.1.2.2)), (x.2.2.2.2.2.1.1, (x.2.2.2.2.2.1.2.1, ())), (x.2.2.2.2.2.2.1.1, (x.2.2.2.2.2.2.1.2.1, x.2.2.2.2.2.2.1.2.2)), x.2.2.2.2.2.2.2.1, ((x.2.2.2.2.2.2.2.2.1.set (Int.toNat x.1.2.2.2.2.2.2.2.2.2.1) (y40.1, x.2.2.2.2.2.2.2.1, y40.2.2)).set (Int.toNat x.1.2.2.2.2.2.2.2.2.2.1) (y42.1, y42.2.1, x.2.2.2.2.2.2.2.1)), ()))
 else none
 else none
 else
 some (Sum.inl (((), (), (), (), (), (), (), ()), (x.2.1, x.2.2.1, (x.2.2.2.1.1, (x.2.2.2.1.2.1, x.2.2.2.1.2.2)), (x.2.2.2.2.1.1, (x.2.2.2.2.1.2.1, x.2.2.2.2.1.2.2)), (x.2.2.2.2.2.1.1, (x.2.2.2.2.2.1.2.1, ())), (x.2.2.2.2.2.2.1.1, (x.2.2.2.2.2.2.1.2.1, x.2.2.2.2.2.2.1.2.2)), x.2.2.2.2.2.2.2.2.1, ())))
abbrev flow_Contract_s_l3_seg (k : Nat) : Seg := ⟨⟨32522, 32, false, [32515, 32000, 999], []⟩, 104, [.b, .s2, .s1, .s2, .s2, .s2, .s2], flow_Contract_s_l3_i, flow_Contract_s_l3_o, flow_Contract_s_l3 k k⟩
theorem flow_Contract_s_l3_seg.ok (k : Nat) : SegOK Tryz.prog (e102 k) (flow_Contract_s_l3_seg k) :=
 SegOK.loop (e102.ok k) (by kernel_rfl) (S := flow_Contract_s_l3_seg k) (c := atR (codeOf (e102 k) 104) [.l, .b, .s2, .s1, .s2, .s2, .s2, .s2]) (by kernel_rfl) (flow_Contract_s_l3 k) k rfl (fun _ => rfl) 8 .n trivial (fun k' x => by kernel_rfl)
abbrev flow_Contract_s_l4_i : Mask := ⟨[(999, 0, (.k (.arr 3686402 0))), (32000, 1, (.k (.arr 3686402 0))), (32000, 2, (.k (.ptr 131072002 0 0))), (32000, 4, (.k (.ptr 131072004 0 0))), (32005, 0, (.k (.yld 1))), (32005, 1, (.k (.ptr 133185539 0 0))), (32005, 2, (.k (.ptr 133185541 0 0))), (32005, 3, (.k (.ptr 133185540 0 0))), (32005, 13, (.v (.int .i64))), (32005, 14, (.v (.int .i64)))], [(3686402, .arr 32 T31), (131072002, .cells (.pr (.v T29) (.pr (.v T31) (.k (.arr 131072027 0))))), (131072004, .cells (.pr (.v T29) (.pr (.v T31) (.v T44)))), (131072027, .arr 78 T77), (133185539, .cells (.k (.ptr 131072002 0 0))), (133185540, .cells (.k (.arr 3686402 0))), (133185541, .cells (.v .bool))], [], 2⟩
abbrev flow_Contract_s_l4_o : List Out := [⟨.exit 0, ⟨[(999, 0, (.k (.arr 3686402 0))), (32000, 1, (.k (.arr 3686402 0))), (32000, 2, (.k (.ptr 131072002 0 0))), (32000, 4, (.k (.ptr 131072004 0 0)))], [(3686402, .arr 32 T31), (131072002, .cells (.pr (.v T29) (.pr (.v T31) (.k (.arr 131072027 0))))), (131072004, .cells (.pr (.v T29) (.pr (.v T31) (.v T44)))), (131072027, .arr 78 T77)], [], 2⟩⟩]
def flow_Contract_s_l4 (k : Nat) : Nat -> Mask.den flow_Contract_s_l4_i -> Option (denS flow_Contract_s_l4_o)
| 0, _ => none
| m + 1, x =>
 bif (decide (x.1.2.2.2.2.2.2.2.2.2.1 < x.1.2.2.2.2.2.2.2.2.1)) then
 bif (!x.2.2.2.2.2.2.2.1) then
 (flow_Time k (x.2.2.1.1, x.2.2.1.2.1, x.2.2.2.2.1) (IntKind.i64.wrap ((IntKind.i64.wrap ((x.2.2.2.2.1.length : Int) - 1)) - x.1.2.2.2.2.2.2.2.2.2.1))).bind fun r44 =>
 if 0 <= (IntKind.i64.wrap ((IntKind.i64.wrap ((x.2.2.2.2.1.length : Int) - 1)) - x.1.2.2.2.2.2.2.2.2.2.1)) then (x.2.2.2.2.1[Int.toNat (IntKind.i64.wrap ((IntKind.i64.wrap ((x.2.2.2.2.1.length : Int) - 1)) - x.1.2.2.2.2.2.2.2.2.2.1))]?).bind fun _ =>
 if 0 <= (IntKind.i64.wrap ((IntKind.i64.wrap ((x.2.2.2.2.1.length : Int) - 1)) - x.1.2.2.2.2.2.2.2.2.2.1)) then (x.2.2.2.2.1[Int.toNat (IntKind.i64.wrap ((IntKind.i64.wrap ((x.2.2.2.2.1.length : Int) - 1)) - x.1.2.2.2.2.2.2.2.2.2.1))]?).bind fun _ =>
 if 0 <= (IntKind.i64.wrap ((IntKind.i64.wrap ((x.2.2.2.2.1.length : Int) - 1)) - x.1.2.2.2.2.2.2.2.2.2.1)) then (x.2.1[Int.toNat (IntKind.i64.wrap ((IntKind.i64.wrap ((x.2.2.2.2.1.length : Int) - 1)) - x.1.2.2.2.2.2.2.2.2.2.1))]?).bind fun _ =>
 (x.2.1[(Int.toNat (IntKind.i64.wrap ((IntKind.i64.wrap ((x.2.2.2.2.1.length : Int) - 1)) - x.1.2.2.2.2.2.2.2.2.2.1)))]?).bind fun y48 =>
 (ivop_Mul k y48 r44.1).bind fun r49 =>
 if 0 <= (IntKind.i64.wrap ((IntKind.i64.wrap ((x.2.2.2.2.1.length : Int) - 1)) - x.1.2.2.2.2.2.2.2.2.2.1)) then (x.2.1[Int.toNat (IntKind.i64.wrap ((IntKind.i64.wrap ((x.2.2.2.2.1.length : Int) - 1)) - x.1.2.2.2.2.2.2.2.2.2.1))]?).bind fun _ =>
 (x.2.1[(Int.toNat (IntKind.i64.wrap ((IntKind.i64.wrap ((x.2.2.2.2.1.length : Int) - 1)) - x.1.2.2.2.2.2.2.2.2.2.1)))]?).bind fun y51 =>
 (iv_Make k (0, false, 0, 0) r44.1.2.2).bind fun r52 =>
 (ivop_Mul k y51 r52.1).bind fun r53 =>
 bif (decide ((IntKind.i64.wrap ((IntKind.i64.wrap ((x.2.2.2.2.1.length : Int) - 1)) - x.1.2.2.2.2.2.2.2.2.2.1)) > 0)) then
 if 0 <= (IntKind.i64.wrap ((IntKind.i64.wrap ((IntKind.i64.wrap ((x.2.2.2.2.1.length : Int) - 1)) - x.1.2.2.2.2.2.2.2.2.2.1)) - 1)) then (x.2.2.2.2.1[Int.toNat (IntKind.i64.wrap ((IntKind.i64.wrap ((IntKind.i64.wrap ((x.2.2.2.2.1.length : Int) - 1)) - x.1.2.2.2.2.2.2.2.2.2.1)) - 1))]?).bind fun _ =>
 (x.2.2.2.2.1[(Int.toNat (IntKind.i64.wrap ((IntKind.i64.wrap ((x.2.2.2.2.1.length : Int) - 1)) - x.1.2.2.2.2.2.2.2.2.2.1)))]?).bind fun y55 =>
 (x.2.2.2.2.1[(Int.toNat (IntKind.i64.wrap ((IntKind.i64.wrap ((IntKind.i64.wrap ((x.2.2.2.2.1.length : Int) - 1)) - x.1.2.2.2.2.2.2.2.2.2.1)) - 1)))]?).bind fun y56 =>
 (ivop_Add k [y56.2.2, r49.1]).bind fun r57 =>
 (iv_Meet k [y55.2.2, r57.1]).bind fun r58 =>
 (x.2.2.2.2.1[(Int.toNat (IntKind.i64.wrap ((IntKind.i64.wrap ((x.2.2.2.2.1.length : Int) - 1)) - x.1.2.2.2.2.2.2.2.2.2.1)))]?).bind fun y59 =>
 ((x.2.2.2.2.1.set (Int.toNat (IntKind.i64.wrap ((IntKind.i64.wrap ((x.2.2.2.2.1.length : Int) - 1)) - x.1.2.2.2.2.2.2.2.2.2.1))) (y59.1, y59.2.1, r58.1))[(Int.toNat (IntKind.i64.wrap ((IntKind.i64.wrap ((x.2.2.2.2.1.length : Int) - 1)) - x.1.2.2.2.2.2.2.2.2.2.1)))]?).bind fun y60 =>
 ((x.2.2.2.2.1.set (Int.toNat (IntKind.i64.wrap ((IntKind.i64.wrap ((x.2.2.2.2.1.length : Int) - 1)) - x.1.2.2.2.2.2.2.2.2.2.1))) (y59.1, y59.2.1, r58.1))[(Int.toNat (IntKind.i64.wrap ((IntKind.i64.wrap ((IntKind.i64.wrap ((x.2.2.2.2.1.length : Int) - 1)) - x.1.2.2.2.2.2.2.2.2.2.1)) - 1)))]?).bind fun y61 =>
 (ivop_Add k [y61.2.2, r53.1]).bind fun r62 =>
 (iv_Meet k [y60.2.1, r62.1]).bind fun r63 =>
 ((x.2.2.2.2.1.set (Int.toNat (IntKind.i64.wrap ((IntKind.i64.wrap ((x.2.2.2.2.1.length : Int) - 1)) - x.1.2.2.2.2.2.2.2.2.2.1))) (y59.1, y59.2.1, r58.1))[(Int.toNat (IntKind.i64.wrap ((IntKind.i64.wrap ((x.2.2.2.2.1.length : Int) - 1)) - x.1.2.2.2.2.2.2.2.2.2.1)))]?).bind fun y64 =>
 flow_Contract_s_l4 k m (((), (), (), (), (), (), (), (), x.1.2.2.2.2.2.2.2.2.1, (IntKind.i64.wrap (x.1.2.2.2.2.2.2.2.2.2.1 + 1)), ()), (x.2.1, (x.2.2.1.1, (x.2.2.1.2.1, ())), (x.2.2.2.1.1, (x.2.2.2.1.2.1, x.2.2.2.1.2.2)), ((x.2.2.2.2.1.set (Int.toNat (IntKind.i64.wrap ((IntKind.i64.wrap ((x.2.2.2.2.1.length : Int) - 1)) - x.1.2.2.2.2.2.2.2.2.2.1))) (y59.1, y59.2.1, r58.1)).set (Int.toNat (IntKind.i64.wrap ((IntKind.i64.wrap ((x.2.2.2.2.1.length : Int) - 1)) - x.1.2.2.2.2.2.2.2.2.2.1))) (y64.1, r63.1, y64.2.2)), (), (), x.2.2.2.2.2.2.2.1, ()))
 else none
 else
 (x.2.2.2.2.1[(Int.toNat (IntKind.i64.wrap ((IntKind.i64.wrap ((x.2.2.2.2.1.length : Int) - 1)) - x.1.2.2.2.2.2.2.2.2.2.1)))]?).bind fun y65 =>
 (ivop_Add k [x.2.2.1.2.1, r49.1]).bind fun r66 =>
 (iv_Meet k [y65.2.2, r66.1]).bind fun r67 =>
 (x.2.2.2.2.1[(Int.toNat (IntKind.i64.wrap ((IntKind.i64.wrap ((x.2.2.2.2.1.length : Int) - 1)) - x.1.2.2.2.2.2.2.2.2.2.1)))]?).bind fun y68 =>
 ((x.2.2.2.2.1.set (Int.toNat (IntKind.i64.wrap ((IntKind.i64.wrap ((x.2.2.2.2.1.length : Int) - 1)) - x.1.2.2.2.2.2.2.2.2.2.1))) (y68.1, y68.2.1, r67.1))[(Int.toNat (IntKind.i64.wrap ((IntKind.i64.wrap ((x.2.2.2.2.1.length : Int) - 1)) - x.1.2.2.2.2.2.2.2.2.2.1)))]?).bind fun y69 =>
 (ivop_Add k [x.2.2.1.2.1, r53.1]).bind fun r70 =>
 (iv_Meet k [y69.2.1, r70.1]).bind fun r71 =>
 ((x.2.2.2.2.1.set (Int.toNat (IntKind.i64.wrap ((IntKind.i64.wrap ((x.2.2.2.2.1.length : Int) - 1)) - x.1.2.2.2.2.2.2.2.2.2.1))) (y68.1, y68.2.1, r67.1))[(Int.toNat (IntKind.i64.wrap ((IntKind.i64.wrap ((x.2.2.2.2.1.length : Int) - 1)) - x.1.2.2.2.2.2.2.2.2.2.1)))]?).bind fun y72 =>
 flow_Contract_s_l4 k m (((), (), (), (), (), (), (), (), x.1.2.2.2.2.2.2.2.2.1, (IntKind.i64.wrap (x.1.2.2.2.2.2.2.2.2.2.1 + 1)), ()), (x.2.1, (x.2.2.1.1, (x.2.2.1.2.1, ())), (x.2.2.2.1.1, (x.2.2.2.1.2.1, x.2.2.2.1.2.2)), ((x.2.2.2.2.1.set (Int.toNat (IntKind.i64.wrap ((IntKind.i64.wrap ((x.2.2.2.2.1.length : Int) - 1)) - x.1.2.2.2.2.2.2.2.2.2.1))) (y68.1, y68.2.1, r67.1)).set (Int.toNat (IntKind.i64.wrap ((IntKind.i64.wrap ((x.2.2.2.2.1.length : Int) - 1)) - x.1.2.2.2.2.2.2.2.2.2.1))) (y72.1, r71.1, y72.2.2)), (), (), x.2.2.2.2.2.2.2.1, ()))
 else none
 else none
 else none
 else none
 else
 (flow_Time k (x.2.2.1.1, x.2.2.1.2.1, x.2.2.2.2.1) x.1.2.2.2.2.2.2.2.2.2.1).bind fun r73 =>
 if 0 <= x.1.2.2.2.2.2.2.2.2.2.1 then (x.2.2.2.2.1[Int.toNat x.1.2.2.2.2.2.2.2.2.2.1]?).bind fun _ =>
 if 0 <= x.1.2.2.2.2.2.2.2.2.2.1 then (x.2.2.2.2.1[Int.toNat x.1.2.2.2.2.2.2.2.2.2.1]?).bind fun _ =>
 if 0 <= x.1.2.2.2.2.2.2.2.2.2.1 then (x.2.1[Int.toNat x.1.2.2.2.2.2.2.2.2.2.1]?).bind fun _ =>
 (x.2.1[(Int.toNat x.1.2.2.2.2.2.2.2.2.2.1)]?).bind fun y77 =>
 (ivop_Mul k y77 r73.1).bind fun r78 =>
 if 0 <= x.1.2.2.2.2.2.2.2.2.2.1 then (x.2.1[Int.toNat x.1.2.2.2.2.2.2.2.2.2.1]?).bind fun _ =>
 (x.2.1[(Int.toNat x.1.2.2.2.2.2.2.2.2.2.1)]?).bind fun y80 =>
 (iv_Make k (0, false, 0, 0) r73.1.2.2).bind fun r81 =>
 (ivop_Mul k y80 r81.1).bind fun r82 =>
 bif (decide (x.1.2.2.2.2.2.2.2.2.2.1 > 0)) then
 if 0 <= (IntKind.i64.wrap (x.1.2.2.2.2.2.2.2.2.2.1 - 1)) then (x.2.2.2.2.1[Int.toNat (IntKind.i64.wrap (x.1.2.2.2.2.2.2.2.2.2.1 - 1))]?).bind fun _ =>
 (x.2.2.2.2.1[(Int.toNat x.1.2.2.2.2.2.2.2.2.2.1)]?).bind fun y84 =>
 (x.2.2.2.2.1[(Int.toNat (IntKind.i64.wrap (x.1.2.2.2.2.2.2.2.2.2.1 - 1)))]?).bind fun y85 =>
 (ivop_Add k [y85.2.2, r78.1]).bind fun r86 =>
 (iv_Meet k [y84.2.2, r86.1]).bind fun r87 =>
 (x.2.2.2.2.1[(Int.toNat x.1.2.2.2.2.2.2.2.2.2.1)]?).bind fun y88 =>
 ((x.2.2.2.2.1.set (Int.toNat x.1.2.2.2.2.2.2.2.2.2.1) (y88.1, y88.2.1, r87.1))[(Int.toNat x.1.2.2.2.2.2.2.2.2.2.1)]?).bind fun y89 =>
 ((x.2.2.2.2.1.set (Int.toNat x.1.2.2.2.2.2.2.2.2.2.1) (y88.1, y88.2.1, r87.1))[(Int.toNat (IntKind.i64.wrap (x.1.2.2.2.2.2.2.2.2.2.1 - 1)))]?).bind fun y90 =>
 (ivop_Add k [y90.2.2, r82.1]).bind fun r91 =>
 (iv_Meet k [y89.2.1, r91.1]).bind fun r92 =>
 ((x.2.2.2.2.1.set (Int.toNat x.1.2.2.2.2.2.2.2.2.2.1) (y88.1, y88.2.1, r87.1))[(Int.toNat x.1.2.2.2.2.2.2.2.2.2.1)]?).bind fun y93 =>
 flow_Contract_s_l4 k m (((), (), (), (), (), (), (), (), x.1.2.2.2.2.2.2.2.2.1, (IntKind.i64.wrap (x.1.2.2.2.2.2.2.2.2.2.1 + 1)), ()), (x.2.1, (x.2.2.1.1, (x.2.2.1.2.1, ())), (x.2.2.2.1.1, (x.2.2.2.1.2.1, x.2.2.2.1.2.2)), ((x.2.2.2.2.1.set (Int.toNat x.1.2.2.2.2.2.2.2.2.2.1) (y88.1, y88.2.1, r87.1)).set (Int.toNat x.1.2.2.2.2.2.2.2.2.2.1) (y93.1, r92.1, y93.2.2)), (), (), x.2.2.2.2.2.2.2.1, ()))
 else none
 else
 (x.2.2.2.2.1[(Int.toNat x.1.2.2.2.2.2.2.2.2.2.1)]?).bind fun y94 =>
 (ivop_Add k [x.2.2.1.2.1, r78.1]).bind fun r95 =>
 (iv_Meet k [y94.2.2, r95.1]).bind fun r96 =>
 (x.2.2.2.2.1[(Int.toNat x.1.2.2.2.2.2.2.2.2.2.1)]?).bind fun y97 =>
 ((x.2.2.2.2.1.set (Int.toNat x.1.2.2.2.2.2.2.2.2.2.1) (y97.1, y97.2.1, r96.1))[(Int.toNat x.1.2.2.2.2.2.2.2.2.2.1)]?).bind fun y98 =>
 (ivop_Add k [x.2.2.1.2.1, r82.1]).bind fun r99 =>
 (iv_Meet k [y98.2.1, r99.1]).bind fun r100 =>
 ((x.2.2.2.2.1.set (Int.toNat x.1.2.2.2.2.2.2.2.2.2.1) (y97.1, y97.2.1, r96.1))[(Int.toNat x.1.2.2.2.2.2.2.2.2.2.1)]?).bind fun y101 =>
 flow_Contract_s_l4 k m (((), (), (), (), (), (), (), (), x.1.2.2.2.2.2.2.2.2.1, (IntKind.i64.wrap (x.1.2.2.2.2.2.2.2.2.2.1 + 1)), ()), (x.2.1, (x.2.2.1.1, (x.2.2.1.2.1, ())), (x.2.2.2.1.1, (x.2.2.2.1.2.1, x.2.2.2.1.2.2)), ((x.2.2.2.2.1.set (Int.toNat x.1.2.2.2.2.2.2.2.2.2.1) (y97.1, y97.2.1, r96.1)).set (Int.toNat x.1.2.2.2.2.2.2.2.2.2.1) (y101.1, r100.1, y101.2.2)), (), (), x.2.2.2.2.2.2.2.1, ()))
 else none
 else none
 else none
 else none
 else
 some (Sum.inl (((), (), (), (), ()), (x.2.1, (x.2.2.1.1, (x.2.2.1.2.1, ())), (x.2.2.2.1.1, (x.2.2.2.1.2.1, x.2.2.2.1.2.2)), x.2.2.2.2.1, ())))
abbrev flow_Contract_s_l4_seg (k : Nat) : Seg := ⟨⟨32005, 82, false, [32000, 999], [⟨1, 32000, 102, 72, [.b, .s2, .s1, .s2, .s2, .s2, .s2]⟩]⟩, 106, [.b, .s2], flow_Contract_s_l4_i, flow_Contract_s_l4_o, flow_Contract_s_l4 k k⟩
theorem flow_Contract_s_l4_seg.ok (k : Nat) : SegOK Tryz.prog (e102 k) (flow_Contract_s_l4_seg k) :=
 SegOK.loop (e102.ok k) (by kernel_rfl) (S := flow_Contract_s_l4_seg k) (c := atR (codeOf (e102 k) 106) [.l, .b, .s2]) (by kernel_rfl) (flow_Contract_s_l4 k) k rfl (fun _ => rfl) 8 (.two .n (.two .n (.two (.two (.two .n (.two .n (.two .n (.two .n (.two .n (.two .n (.two (.call 2 32011 .n .n) .n))))))) .n) .n))) ⟨trivial, ⟨trivial, ⟨⟨⟨trivial, ⟨trivial, ⟨trivial, ⟨trivial, ⟨trivial, ⟨trivial, ⟨⟨trivial, trivial⟩, trivial⟩⟩⟩⟩⟩⟩⟩, trivial⟩, trivial⟩⟩⟩ (fun k' x => by kernel_rfl)
abbrev flow_Contract_s_l5_i : Mask := ⟨[(999, 0, (.k (.arr 3686402 0))), (32000, 2, (.k (.ptr 131072002 0 0))), (32000, 4, (.k (.ptr 131072004 0 0))), (32013, 0, (.k (.yld 2))), (32013, 1, (.k (.ptr 133218307 0 0))), (32013, 2, (.k (.ptr 133218309 0 0))), (32013, 3, (.k (.ptr 133218308 0 0))), (32013, 13, (.v (.int .i64))), (32013, 14, (.v (.int .i64)))], [(3686402, .arr 32 T31), (131072002, .cells (.pr (.v T29) (.pr (.v T31) (.k (.arr 131072027 0))))), (131072004, .cells (.pr (.v T29) (.pr (.v T31) (.v T44)))), (131072027, .arr 78 T77), (133218307, .cells (.k (.ptr 131072002 0 0))), (133218308, .cells (.k (.arr 3686402 0))), (133218309, .cells (.v .bool))], [], 3⟩
abbrev flow_Contract_s_l5_o : List Out := [⟨.exit 0, ⟨[(999, 0, (.k (.arr 3686402 0))), (32000, 2, (.k (.ptr 131072002 0 0))), (32000, 4, (.k (.ptr 131072004 0 0)))], [(3686402, .arr 32 T31), (131072002, .cells (.pr (.v T29) (.pr (.v T31) (.k (.arr 131072027 0))))), (131072004, .cells (.pr (.v T29) (.pr (.v T31) (.v T44)))), (131072027, .arr 78 T77)], [], 3⟩⟩]
def flow_Contract_s_l5 (k : Nat) : Nat -> Mask.den flow_Contract_s_l5_i -> Option (denS flow_Contract_s_l5_o)
| 0, _ => none
| m + 1, x =>
 bif (decide (x.1.2.2.2.2.2.2.2.2.1 < x.1.2.2.2.2.2.2.2.1)) then
 bif (!x.2.2.2.2.2.2.2.1) then
 (flow_Time k (x.2.2.1.1, x.2.2.1.2.1, x.2.2.2.2.1) (IntKind.i64.wrap ((IntKind.i64.wrap ((x.2.2.2.2.1.length : Int) - 1)) - x.1.2.2.2.2.2.2.2.2.1))).bind fun r106 =>
 if 0 <= (IntKind.i64.wrap ((IntKind.i64.wrap ((x.2.2.2.2.1.length : Int) - 1)) - x.1.2.2.2.2.2.2.2.2.1)) then (x.2.2.2.2.1[Int.toNat (IntKind.i64.wrap ((IntKind.i64.wrap ((x.2.2.2.2.1.length : Int) - 1)) - x.1.2.2.2.2.2.2.2.2.1))]?).bind fun _ =>
 if 0 <= (IntKind.i64.wrap ((IntKind.i64.wrap ((x.2.2.2.2.1.length : Int) - 1)) - x.1.2.2.2.2.2.2.2.2.1)) then (x.2.2.2.2.1[Int.toNat (IntKind.i64.wrap ((IntKind.i64.wrap ((x.2.2.2.2.1.length : Int) - 1)) - x.1.2.2.2.2.2.2.2.2.1))]?).bind fun _ =>
 if 0 <= (IntKind.i64.wrap ((IntKind.i64.wrap ((x.2.2.2.2.1.length : Int) - 1)) - x.1.2.2.2.2.2.2.2.2.1)) then (x.2.1[Int.toNat (IntKind.i64.wrap ((IntKind.i64.wrap ((x.2.2.2.2.1.length : Int) - 1)) - x.1.2.2.2.2.2.2.2.2.1))]?).bind fun _ =>
 (x.2.1[(Int.toNat (IntKind.i64.wrap ((IntKind.i64.wrap ((x.2.2.2.2.1.length : Int) - 1)) - x.1.2.2.2.2.2.2.2.2.1)))]?).bind fun y110 =>
 (ivop_Mul k y110 r106.1).bind fun r111 =>
 if 0 <= (IntKind.i64.wrap ((IntKind.i64.wrap ((x.2.2.2.2.1.length : Int) - 1)) - x.1.2.2.2.2.2.2.2.2.1)) then (x.2.1[Int.toNat (IntKind.i64.wrap ((IntKind.i64.wrap ((x.2.2.2.2.1.length : Int) - 1)) - x.1.2.2.2.2.2.2.2.2.1))]?).bind fun _ =>
 (x.2.1[(Int.toNat (IntKind.i64.wrap ((IntKind.i64.wrap ((x.2.2.2.2.1.length : Int) - 1)) - x.1.2.2.2.2.2.2.2.2.1)))]?).bind fun y113 =>
 (iv_Make k (0, false, 0, 0) r106.1.2.2).bind fun r114 =>
 (ivop_Mul k y113 r114.1).bind fun r115 =>
 bif (decide ((IntKind.i64.wrap ((IntKind.i64.wrap ((x.2.2.2.2.1.length : Int) - 1)) - x.1.2.2.2.2.2.2.2.2.1)) > 0)) then
 if 0 <= (IntKind.i64.wrap ((IntKind.i64.wrap ((IntKind.i64.wrap ((x.2.2.2.2.1.length : Int) - 1)) - x.1.2.2.2.2.2.2.2.2.1)) - 1)) then (x.2.2.2.2.1[Int.toNat (IntKind.i64.wrap ((IntKind.i64.wrap ((IntKind.i64.wrap ((x.2.2.2.2.1.length : Int) - 1)) - x.1.2.2.2.2.2.2.2.2.1)) - 1))]?).bind fun _ =>
 (x.2.2.2.2.1[(Int.toNat (IntKind.i64.wrap ((IntKind.i64.wrap ((IntKind.i64.wrap ((x.2.2.2.2.1.length : Int) - 1)) - x.1.2.2.2.2.2.2.2.2.1)) - 1)))]?).bind fun y117 =>
 (x.2.2.2.2.1[(Int.toNat (IntKind.i64.wrap ((IntKind.i64.wrap ((x.2.2.2.2.1.length : Int) - 1)) - x.1.2.2.2.2.2.2.2.2.1)))]?).bind fun y118 =>
 (ivop_Sub k y118.2.2 r111.1).bind fun r119 =>
 (iv_Meet k [y117.2.2, r119.1]).bind fun r120 =>
 (x.2.2.2.2.1[(Int.toNat (IntKind.i64.wrap ((IntKind.i64.wrap ((IntKind.i64.wrap ((x.2.2.2.2.1.length : Int) - 1)) - x.1.2.2.2.2.2.2.2.2.1)) - 1)))]?).bind fun y121 =>
 ((x.2.2.2.2.1.set (Int.toNat (IntKind.i64.wrap ((IntKind.i64.wrap ((IntKind.i64.wrap ((x.2.2.2.2.1.length : Int) - 1)) - x.1.2.2.2.2.2.2.2.2.1)) - 1))) (y121.1, y121.2.1, r120.1))[(Int.toNat (IntKind.i64.wrap ((IntKind.i64.wrap ((x.2.2.2.2.1.length : Int) - 1)) - x.1.2.2.2.2.2.2.2.2.1)))]?).bind fun y122 =>
 ((x.2.2.2.2.1.set (Int.toNat (IntKind.i64.wrap ((IntKind.i64.wrap ((IntKind.i64.wrap ((x.2.2.2.2.1.length : Int) - 1)) - x.1.2.2.2.2.2.2.2.2.1)) - 1))) (y121.1, y121.2.1, r120.1))[(Int.toNat (IntKind.i64.wrap ((IntKind.i64.wrap ((x.2.2.2.2.1.length : Int) - 1)) - x.1.2.2.2.2.2.2.2.2.1)))]?).bind fun y123 =>
 (ivop_Sub k y123.2.2 r115.1).bind fun r124 =>
 (iv_Meet k [y122.2.1, r124.1]).bind fun r125 =>
 ((x.2.2.2.2.1.set (Int.toNat (IntKind.i64.wrap ((IntKind.i64.wrap ((IntKind.i64.wrap ((x.2.2.2.2.1.length : Int) - 1)) - x.1.2.2.2.2.2.2.2.2.1)) - 1))) (y121.1, y121.2.1, r120.1))[(Int.toNat (IntKind.i64.wrap ((IntKind.i64.wrap ((x.2.2.2.2.1.length : Int) - 1)) - x.1.2.2.2.2.2.2.2.2.1)))]?).bind fun y126 =>
 flow_Contract_s_l5 k m (((), (), (), (), (), (), (), x.1.2.2.2.2.2.2.2.1, (IntKind.i64.wrap (x.1.2.2.2.2.2.2.2.2.1 + 1)), ()), (x.2.1, (x.2.2.1.1, (x.2.2.1.2.1, ())), (x.2.2.2.1.1, (x.2.2.2.1.2.1, x.2.2.2.1.2.2)), ((x.2.2.2.2.1.set (Int.toNat (IntKind.i64.wrap ((IntKind.i64.wrap ((IntKind.i64.wrap ((x.2.2.2.2.1.length : Int) - 1)) - x.1.2.2.2.2.2.2.2.2.1)) - 1))) (y121.1, y121.2.1, r120.1)).set (Int.toNat (IntKind.i64.wrap ((IntKind.i64.wrap ((x.2.2.2.2.1.length : Int) - 1)) - x.1.2.2.2.2.2.2.2.2.1))) (y126.1, r125.1, y126.2.2)), (), (), x.2.2.2.2.2.2.2.1, ()))
 else none
 else
 (x.2.2.2.2.1[(Int.toNat (IntKind.i64.wrap ((IntKind.i64.wrap ((x.2.2.2.2.1.length : Int) - 1)) - x.1.2.2.2.2.2.2.2.2.1)))]?).bind fun y127 =>
 (ivop_Sub k y127.2.2 r111.1).bind fun r128 =>
 (iv_Meet k [x.2.2.1.2.1, r128.1]).bind fun r129 =>
 (x.2.2.2.2.1[(Int.toNat (IntKind.i64.wrap ((IntKind.i64.wrap ((x.2.2.2.2.1.length : Int) - 1)) - x.1.2.2.2.2.2.2.2.2.1)))]?).bind fun y130 =>
 (x.2.2.2.2.1[(Int.toNat (IntKind.i64.wrap ((IntKind.i64.wrap ((x.2.2.2.2.1.length : Int) - 1)) - x.1.2.2.2.2.2.2.2.2.1)))]?).bind fun y131 =>
 (ivop_Sub k y131.2.2 r115.1).bind fun r132 =>
 (iv_Meet k [y130.2.1, r132.1]).bind fun r133 =>
 (x.2.2.2.2.1[(Int.toNat (IntKind.i64.wrap ((IntKind.i64.wrap ((x.2.2.2.2.1.length : Int) - 1)) - x.1.2.2.2.2.2.2.2.2.1)))]?).bind fun y134 =>
 flow_Contract_s_l5 k m (((), (), (), (), (), (), (), x.1.2.2.2.2.2.2.2.1, (IntKind.i64.wrap (x.1.2.2.2.2.2.2.2.2.1 + 1)), ()), (x.2.1, (x.2.2.1.1, (r129.1, ())), (x.2.2.2.1.1, (x.2.2.2.1.2.1, x.2.2.2.1.2.2)), (x.2.2.2.2.1.set (Int.toNat (IntKind.i64.wrap ((IntKind.i64.wrap ((x.2.2.2.2.1.length : Int) - 1)) - x.1.2.2.2.2.2.2.2.2.1))) (y134.1, r133.1, y134.2.2)), (), (), x.2.2.2.2.2.2.2.1, ()))
 else none
 else none
 else none
 else none
 else
 (flow_Time k (x.2.2.1.1, x.2.2.1.2.1, x.2.2.2.2.1) x.1.2.2.2.2.2.2.2.2.1).bind fun r135 =>
 if 0 <= x.1.2.2.2.2.2.2.2.2.1 then (x.2.2.2.2.1[Int.toNat x.1.2.2.2.2.2.2.2.2.1]?).bind fun _ =>
 if 0 <= x.1.2.2.2.2.2.2.2.2.1 then (x.2.2.2.2.1[Int.toNat x.1.2.2.2.2.2.2.2.2.1]?).bind fun _ =>
 if 0 <= x.1.2.2.2.2.2.2.2.2.1 then (x.2.1[Int.toNat x.1.2.2.2.2.2.2.2.2.1]?).bind fun _ =>
 (x.2.1[(Int.toNat x.1.2.2.2.2.2.2.2.2.1)]?).bind fun y139 =>
 (ivop_Mul k y139 r135.1).bind fun r140 =>
 if 0 <= x.1.2.2.2.2.2.2.2.2.1 then (x.2.1[Int.toNat x.1.2.2.2.2.2.2.2.2.1]?).bind fun _ =>
 (x.2.1[(Int.toNat x.1.2.2.2.2.2.2.2.2.1)]?).bind fun y142 =>
 (iv_Make k (0, false, 0, 0) r135.1.2.2).bind fun r143 =>
 (ivop_Mul k y142 r143.1).bind fun r144 =>
 bif (decide (x.1.2.2.2.2.2.2.2.2.1 > 0)) then
 if 0 <= (IntKind.i64.wrap (x.1.2.2.2.2.2.2.2.2.1 - 1)) then (x.2.2.2.2.1[Int.toNat (IntKind.i64.wrap (x.1.2.2.2.2.2.2.2.2.1 - 1))]?).bind fun _ =>
 (x.2.2.2.2.1[(Int.toNat (IntKind.i64.wrap (x.1.2.2.2.2.2.2.2.2.1 - 1)))]?).bind fun y146 =>
 (x.2.2.2.2.1[(Int.toNat x.1.2.2.2.2.2.2.2.2.1)]?).bind fun y147 =>
 (ivop_Sub k y147.2.2 r140.1).bind fun r148 =>
 (iv_Meet k [y146.2.2, r148.1]).bind fun r149 =>
 (x.2.2.2.2.1[(Int.toNat (IntKind.i64.wrap (x.1.2.2.2.2.2.2.2.2.1 - 1)))]?).bind fun y150 =>
 ((x.2.2.2.2.1.set (Int.toNat (IntKind.i64.wrap (x.1.2.2.2.2.2.2.2.2.1 - 1))) (y150.1, y150.2.1, r149.1))[(Int.toNat x.1.2.2.2.2.2.2.2.2.1)]?).bind fun y151 =>
 ((x.2.2.2.2.1.set (Int.toNat (IntKind.i64.wrap (x.1.2.2.2.2.2.2.2.2.1 - 1))) (y150.1, y150.2.1, r149.1))[(Int.toNat x.1.2.2.2.2.2.2.2.2.1)]?).bind fun y152 =>
 (ivop_Sub k y152.2.2 r144.1).bind fun r153 =>
 (iv_Meet k [y151.2.1, r153.1]).bind fun r154 =>
 ((x.2.2.2.2.1.set (Int.toNat (IntKind.i64.wrap (x.1.2.2.2.2.2.2.2.2.1 - 1))) (y150.1, y150.2.1, r149.1))[(Int.toNat x.1.2.2.2.2.2.2.2.2.1)]?).bind fun y155 =>
 flow_Contract_s_l5 k m (((), (), (), (), (), (), (), x.1.2.2.2.2.2.2.2.1, (IntKind.i64.wrap (x.1.2.2.2.2.2.2.2.2.1 + 1)), ()), (x.2.1, (x.2.2.1.1, (x.2.2.1.2.1, ())), (x.2.2.2.1.1, (x.2.2.2.1.2.1, x.2.2.2.1.2.2)), ((x.2.2.2.2.1.set (Int.toNat (IntKind.i64.wrap (x.1.2.2.2.2.2.2.2.2.1 - 1))) (y150.1, y150.2.1, r149.1)).set (Int.toNat x.1.2.2.2.2.2.2.2.2.1) (y155.1, r154.1, y155.2.2)), (), (), x.2.2.2.2.2.2.2.1, ()))
 else none
 else
 (x.2.2.2.2.1[(Int.toNat x.1.2.2.2.2.2.2.2.2.1)]?).bind fun y156 =>
 (ivop_Sub k y156.2.2 r140.1).bind fun r157 =>
 (iv_Meet k [x.2.2.1.2.1, r157.1]).bind fun r158 =>
 (x.2.2.2.2.1[(Int.toNat x.1.2.2.2.2.2.2.2.2.1)]?).bind fun y159 =>
 (x.2.2.2.2.1[(Int.toNat x.1.2.2.2.2.2.2.2.2.1)]?).bind fun y160 =>
 (ivop_Sub k y160.2.2 r144.1).bind fun r161 =>
 (iv_Meet k [y159.2.1, r161.1]).bind fun r162 =>
 (x.2.2.2.2.1[(Int.toNat x.1.2.2.2.2.2.2.2.2.1)]?).bind fun y163 =>
 flow_Contract_s_l5 k m (((), (), (), (), (), (), (), x.1.2.2.2.2.2.2.2.1, (IntKind.i64.wrap (x.1.2.2.2.2.2.2.2.2.1 + 1)), ()), (x.2.1, (x.2.2.1.1, (r158.1, ())), (x.2.2.2.1.1, (x.2.2.2.1.2.1, x.2.2.2.1.2.2)), (x.2.2.2.2.1.set (Int.toNat x.1.2.2.2.2.2.2.2.2.1) (y163.1, r162.1, y163.2.2)), (), (), x.2.2.2.2.2.2.2.1, ()))
 else none
 else none
 else none
 else none
 else
 some (Sum.inl (((), (), (), ()), (x.2.1, (x.2.2.1.1, (x.2.2.1.2.1, ())), (x.2.2.2.1.1, (x.2.2.2.1.2.1, x.2.2.2.1.2.2)), x.2.2.2.2.1, ())))
abbrev flow_Contract_s_l5_seg (k : Nat) : Seg := ⟨⟨32013, 82, false, [32000, 999], [⟨2, 32000, 102, 72, [.b, .s2, .s1, .s2, .s2, .s2, .s2, .s2]⟩]⟩, 106, [.b, .s2], flow_Contract_s_l5_i, flow_Contract_s_l5_o, flow_Contract_s_l5 k k⟩
theorem flow_Contract_s_l5_seg.ok (k : Nat) : SegOK Tryz.prog (e102 k) (flow_Contract_s_l5_seg k) :=
 SegOK.loop (e102.ok k) (by kernel_rfl) (S := flow_Contract_s_l5_seg k) (c := atR (codeOf (e102 k) 106) [.l, .b, .s2]) (by kernel_rfl) (flow_Contract_s_l5 k) k rfl (fun _ => rfl) 8 (.two .n (.two .n (.two (.two (.two .n (.two .n (.two .n (.two .n (.two .n (.two .n (.two (.call 2 32014 .n .n) .n))))))) .n) .n))) ⟨trivial, ⟨trivial, ⟨⟨⟨trivial, ⟨trivial, ⟨trivial, ⟨trivial, ⟨trivial, ⟨trivial, ⟨⟨trivial, trivial⟩, trivial⟩⟩⟩⟩⟩⟩⟩, trivial⟩, trivial⟩⟩⟩ (fun k' x => by kernel_rfl)
abbrev flow_Contract_s_i : Mask := ⟨[(999, 0, (.k (.arr 3686402 0))), (32000, 0, (.v T45)), (32000, 1, (.k (.arr 3686402 0)))], [(3686402, .arr 32 T31)], [], 0⟩
abbrev flow_Contract_s_o : List Out := [⟨.ret, ⟨[(999, 0, (.k (.arr 3686402 0))), (32000, 4, (.k (.ptr 131072004 0 0))), (32000, 5, (.v (.int .i64)))], [(3686402, .arr 32 T31), (131072004, .cells (.v T45))], [], 0⟩⟩]
def flow_Contract_s (k : Nat) (x : Mask.den flow_Contract_s_i) : Option (denS flow_Contract_s_o) :=
 (tube_May k x.1.2.1).bind fun r1 =>
 bif (!r1.1) then
 some (Sum.inl (((), (), 1, ()), (x.2.1, ((0, false, 0, 0), (false, (0, false, 0, 0), 0, false, 0, 0), []), ())))
 else
 bif ((x.2.1.length : Int) != (x.1.2.1.2.2.length : Int)) then
 some (Sum.inl (((), (), 1, ()), (x.2.1, ((0, false, 0, 0), (false, (0, false, 0, 0), 0, false, 0, 0), []), ())))
 else
 (flow_Contract_s_l0 k k (((), (), (x.2.1.length : Int), 0, (), (), (), (), false, ()), (x.2.1, x.1.2.1, ((0, false, 0, 0), ((false, (0, false, 0, 0), 0, false, 0, 0), [])), ()))).bind fun q5 =>
 Sum.elim (fun z6 =>
 bif z6.1.2.2.2.2.2.1 then
 some (Sum.inl (((), (), 1, ()), (z6.2.1, ((0, false, 0, 0), (false, (0, false, 0, 0), 0, false, 0, 0), []), ())))
 else
 bif (decide (z6.1.1 >= 0)) then
 some (Sum.inl (((), (), 1, ()), (z6.2.1, ((0, false, 0, 0), (false, (0, false, 0, 0), 0, false, 0, 0), []), ())))
 else
 (tube_May k z6.2.2.1).bind fun r7 =>
 bif (!r7.1) then
 none
 else
 if z6.2.2.1.2.2.length * 176 <= 140737488355328 then
 (flow_Contract_s_l2 k k (((), (), (), (), (), (), (), (IntKind.i64.wrap ((z6.2.2.1.2.2.length : Int) + 1)), 0, (), (), ()), (z6.2.1, z6.2.2.1, (z6.2.2.2.1.1, (z6.2.2.2.1.2.1, z6.2.2.2.1.2.2)), (z6.2.2.1.1, z6.2.2.1.2.1), ((0, false, 0, 0), ((false, (0, false, 0, 0), 0, false, 0, 0), [])), (z6.2.2.1.1, (z6.2.2.1.2.1, ())), z6.2.2.1.2.2, z6.2.2.1, ()))).bind fun q35 =>
 Sum.elim (fun z36 =>
 (tube_Empty k (z36.2.2.2.2.2.1.1, z36.2.2.2.2.2.1.2.1, z36.2.2.2.2.2.2.1)).bind fun r37 =>
 bif r37.1 then
 (iv_None k).bind fun r38 =>
 if z36.2.2.2.2.2.2.1.length * 176 <= 140737488355328 then
 (flow_Contract_s_l3 k k (((), (), (), (), (), (), (), (), (z36.2.2.2.2.2.2.1.length : Int), 0, ()), (z36.2.1, z36.2.2.1, (z36.2.2.2.1.1, (z36.2.2.2.1.2.1, z36.2.2.2.1.2.2)), (z36.2.2.2.2.1.1, (z36.2.2.2.2.1.2.1, z36.2.2.2.2.1.2.2)), (z36.2.2.2.2.2.1.1, (r38.1, ())), ((0, false, 0, 0), ((false, (0, false, 0, 0), 0, false, 0, 0), [])), r38.1, z36.2.2.2.2.2.2.1, ()))).bind fun q43 =>
 Sum.elim (fun z103 =>
 (flow_Contract_s_l4 k k (((), (), (), (), (), (), (), (), (z103.2.2.2.2.2.2.2.1.length : Int), 0, ()), (z103.2.1, (z103.2.2.2.2.2.1.1, (z103.2.2.2.2.2.1.2.1, ())), (z103.2.2.2.1.1, (z103.2.2.2.1.2.1, z103.2.2.2.1.2.2)), z103.2.2.2.2.2.2.2.1, (), (), true, ()))).bind fun q104 =>
 Sum.elim (fun z105 =>
 (flow_Contract_s_l5 k k (((), (), (), (), (), (), (), (z105.2.2.2.2.1.length : Int), 0, ()), (z105.2.1, (z105.2.2.1.1, (z105.2.2.1.2.1, ())), (z105.2.2.2.1.1, (z105.2.2.2.1.2.1, z105.2.2.2.1.2.2)), z105.2.2.2.2.1, (), (), false, ()))).bind fun q164 =>
 Sum.elim (fun z165 =>
 (tube_Fit k (z165.2.2.1.1, z165.2.2.1.2.1, z165.2.2.2.2.1)).bind fun r166 =>
 some (Sum.inl (((), (), 0, ()), (z165.2.1, r166.1, ()))))
 (fun q164' =>
 none) q164)
 (fun q104' =>
 none) q104)
 (fun q43' =>
 none) q43
 else none
 else
 (flow_Contract_s_l4 k k (((), (), (), (), (), (), (), (), (z36.2.2.2.2.2.2.1.length : Int), 0, ()), (z36.2.1, (z36.2.2.2.2.2.1.1, (z36.2.2.2.2.2.1.2.1, ())), (z36.2.2.2.1.1, (z36.2.2.2.1.2.1, z36.2.2.2.1.2.2)), z36.2.2.2.2.2.2.1, (), (), true, ()))).bind fun q102 =>
 Sum.elim (fun z167 =>
 (flow_Contract_s_l5 k k (((), (), (), (), (), (), (), (z167.2.2.2.2.1.length : Int), 0, ()), (z167.2.1, (z167.2.2.1.1, (z167.2.2.1.2.1, ())), (z167.2.2.2.1.1, (z167.2.2.2.1.2.1, z167.2.2.2.1.2.2)), z167.2.2.2.2.1, (), (), false, ()))).bind fun q168 =>
 Sum.elim (fun z169 =>
 (tube_Fit k (z169.2.2.1.1, z169.2.2.1.2.1, z169.2.2.2.2.1)).bind fun r170 =>
 some (Sum.inl (((), (), 0, ()), (z169.2.1, r170.1, ()))))
 (fun q168' =>
 none) q168)
 (fun q102' =>
 none) q102)
 (fun q35' =>
 none) q35
 else none)
 (fun q5' =>
 Sum.elim (fun z171 =>
 bif z171.1.2.2.2.2.1 then
 some (Sum.inl (((), (), 1, ()), (z171.2.1, ((0, false, 0, 0), (false, (0, false, 0, 0), 0, false, 0, 0), []), ())))
 else
 (tube_May k z171.2.2.1).bind fun r172 =>
 bif (!r172.1) then
 none
 else
 if z171.2.2.1.2.2.length * 176 <= 140737488355328 then
 (flow_Contract_s_l2 k k (((), (), (), (), (), (), (), (IntKind.i64.wrap ((z171.2.2.1.2.2.length : Int) + 1)), 0, (), (), ()), (z171.2.1, z171.2.2.1, (z171.2.2.2.1.1, (z171.2.2.2.1.2.1, z171.2.2.2.1.2.2)), (z171.2.2.1.1, z171.2.2.1.2.1), ((0, false, 0, 0), ((false, (0, false, 0, 0), 0, false, 0, 0), [])), (z171.2.2.1.1, (z171.2.2.1.2.1, ())), z171.2.2.1.2.2, z171.2.2.1, ()))).bind fun q174 =>
 Sum.elim (fun z175 =>
 (tube_Empty k (z175.2.2.2.2.2.1.1, z175.2.2.2.2.2.1.2.1, z175.2.2.2.2.2.2.1)).bind fun r176 =>
 bif r176.1 then
 (iv_None k).bind fun r177 =>
 if z175.2.2.2.2.2.2.1.length * 176 <= 140737488355328 then
 (flow_Contract_s_l3 k k (((), (), (), (), (), (), (), (), (z175.2.2.2.2.2.2.1.length : Int), 0, ()), (z175.2.1, z175.2.2.1, (z175.2.2.2.1.1, (z175.2.2.2.1.2.1, z175.2.2.2.1.2.2)), (z175.2.2.2.2.1.1, (z175.2.2.2.2.1.2.1, z175.2.2.2.2.1.2.2)), (z175.2.2.2.2.2.1.1, (r177.1, ())), ((0, false, 0, 0), ((false, (0, false, 0, 0), 0, false, 0, 0), [])), r177.1, z175.2.2.2.2.2.2.1, ()))).bind fun q178 =>
 Sum.elim (fun z180 =>
 (flow_Contract_s_l4 k k (((), (), (), (), (), (), (), (), (z180.2.2.2.2.2.2.2.1.length : Int), 0, ()), (z180.2.1, (z180.2.2.2.2.2.1.1, (z180.2.2.2.2.2.1.2.1, ())), (z180.2.2.2.1.1, (z180.2.2.2.1.2.1, z180.2.2.2.1.2.2)), z180.2.2.2.2.2.2.2.1, (), (), true, ()))).bind fun q181 =>
 Sum.elim (fun z182 =>
 (flow_Contract_s_l5 k k (((), (), (), (), (), (), (), (z182.2.2.2.2.1.length : Int), 0, ()), (z182.2.1, (z182.2.2.1.1, (z182.2.2.1.2.1, ())), (z182.2.2.2.1.1, (z182.2.2.2.1.2.1, z182.2.2.2.1.2.2)), z182.2.2.2.2.1, (), (), false, ()))).bind fun q183 =>
 Sum.elim (fun z184 =>
 (tube_Fit k (z184.2.2.1.1, z184.2.2.1.2.1, z184.2.2.2.2.1)).bind fun r185 =>
 some (Sum.inl (((), (), 0, ()), (z184.2.1, r185.1, ()))))
 (fun q183' =>
 none) q183)
 (fun q181' =>
 none) q181)
 (fun q178' =>
 none) q178
 else none
 else
 (flow_Contract_s_l4 k k (((), (), (), (), (), (), (), (), (z175.2.2.2.2.2.2.1.length : Int), 0, ()), (z175.2.1, (z175.2.2.2.2.2.1.1, (z175.2.2.2.2.2.1.2.1, ())), (z175.2.2.2.1.1, (z175.2.2.2.1.2.1, z175.2.2.2.1.2.2)), z175.2.2.2.2.2.2.1, (), (), true, ()))).bind fun q179 =>
 Sum.elim (fun z186 =>
 (flow_Contract_s_l5 k k (((), (), (), (), (), (), (), (z186.2.2.2.2.1.length : Int), 0, ()), (z186.2.1, (z186.2.2.1.1, (z186.2.2.1.2.1, ())), (z186.2.2.2.1.1, (z186.2.2.2.1.2.1, z186.2.2.2.1.2.2)), z186.2.2.2.2.1, (), (), false, ()))).bind fun q187 =>
 Sum.elim (fun z188 =>
 (tube_Fit k (z188.2.2.1.1, z188.2.2.1.2.1, z188.2.2.2.2.1)).bind fun r189 =>
 some (Sum.inl (((), (), 0, ()), (z188.2.1, r189.1, ()))))
 (fun q187' =>
 none) q187)
 (fun q179' =>
 none) q179)
 (fun q174' =>
 none) q174
 else none)
 (fun q5'' =>
 none) q5') q5
abbrev flow_Contract_s_seg (k : Nat) : Seg := ⟨⟨32000, 102, false, [999], []⟩, 72, [], flow_Contract_s_i, flow_Contract_s_o, flow_Contract_s k⟩
theorem flow_Contract_s_seg.ok (k : Nat) : SegOK Tryz.prog (e102 k) (flow_Contract_s_seg k) :=
 SegOK.of (e102.ok k) (by kernel_rfl) (S := flow_Contract_s_seg k) 8 (.two .n (.two .n (.two (.two (.call 14 7 (.two .n (.two (.call 2 8 (.two .n (.two (.two .n (.two (.use (flow_Contract_s_l0_seg k)) .n)) .n)) .n) .n)) .n) .n) (.two (.call 1 32515 (.two .n (.two .n (.two .n (.two .n (.two (.two (.call 1 32519 .n .n) (.two (.rf 0 32008 (.two .n (.two .n (.two (.use (flow_Contract_s_l2_seg k)) .n)))) .n)) (.two (.two .n (.two (.two (.call 1 32522 (.two .n (.two .n (.two .n (.two .n (.two (.two .n (.two (.use (flow_Contract_s_l3_seg k)) .n)) .n))))) .n) .n) .n)) .n)))))) .n) (.two (.two (.call 1 32516 .n .n) (.two (.rf 1 32005 (.two .n (.two (.use (flow_Contract_s_l4_seg k)) .n))) .n)) (.two (.two (.call 1 32524 .n .n) (.two (.rf 2 32013 (.two .n (.two (.use (flow_Contract_s_l5_seg k)) .n))) .n)) (.two (.own 1 .n) .n))))))) ⟨trivial, ⟨trivial, ⟨⟨⟨⟨trivial, ⟨⟨⟨trivial, ⟨⟨trivial, ⟨(flow_Contract_s_l0_seg.ok k), trivial⟩⟩, trivial⟩⟩, trivial⟩, trivial⟩⟩, trivial⟩, trivial⟩, ⟨⟨⟨trivial, ⟨trivial, ⟨trivial, ⟨trivial, ⟨⟨⟨trivial, trivial⟩, ⟨⟨trivial, ⟨trivial, ⟨(flow_Contract_s_l2_seg.ok k), trivial⟩⟩⟩, trivial⟩⟩, ⟨⟨trivial, ⟨⟨⟨⟨trivial, ⟨trivial, ⟨trivial, ⟨trivial, ⟨⟨trivial, ⟨(flow_Contract_s_l3_seg.ok k), trivial⟩⟩, trivial⟩⟩⟩⟩⟩, trivial⟩, trivial⟩, trivial⟩⟩, trivial⟩⟩⟩⟩⟩⟩, trivial⟩, ⟨⟨⟨trivial, trivial⟩, ⟨⟨trivial, ⟨(flow_Contract_s_l4_seg.ok k), trivial⟩⟩, trivial⟩⟩, ⟨⟨⟨trivial, trivial⟩, ⟨⟨trivial, ⟨(flow_Contract_s_l5_seg.ok k), trivial⟩⟩, trivial⟩⟩, ⟨trivial, trivial⟩⟩⟩⟩⟩⟩⟩ (fun x => by kernel_rfl)
abbrev engine_side_flows_s_i : Mask := ⟨[(999, 0, (.k (.ptr 2101250 0 0))), (999, 1, (.k (.arr 3686402 0))), (999, 2, (.k (.arr 3686403 0))), (999, 3, (.k (.arr 45056030 0))), (999, 4, (.k (.arr 49152018 0))), (31000, 0, (.k (.ptr 2101250 0 0)))], [(2101250, .cells (.pr (.pr (.pr (.v T45) (.k (.arr 3686402 0))) (.pr (.v T45) (.k (.arr 3686403 0)))) (.pr (.v .bool) (.pr (.k (.arr 49152018 0)) (.k (.arr 45056030 0)))))), (3686402, .arr 32 T31), (3686403, .arr 32 T31), (45056030, .arr 34 T33), (49152018, .arr 34 T33)], [], 0⟩
abbrev engine_side_flows_s_o : List Out := [⟨.nor, ⟨[(999, 0, (.k (.ptr 2101250 0 0))), (999, 1, (.k (.arr 3686402 0))), (999, 2, (.k (.arr 3686403 0))), (999, 3, (.k (.arr 45056030 0))), (999, 4, (.k (.arr 49152018 0)))], [(2101250, .cells (.pr (.pr (.pr (.v T45) (.k (.arr 3686402 0))) (.pr (.v T45) (.k (.arr 3686403 0)))) (.pr (.v .bool) (.pr (.k (.arr 49152018 0)) (.k (.arr 45056030 0)))))), (3686402, .arr 32 T31), (3686403, .arr 32 T31), (45056030, .arr 34 T33), (49152018, .arr 34 T33)], [], 0⟩⟩]
def engine_side_flows_s (k : Nat) (x : Mask.den engine_side_flows_s_i) : Option (denS engine_side_flows_s_o) :=
 (flow_Contract_s k (((), x.2.1.1.1.1, (), ()), (x.2.2.1, ()))).bind fun q1 =>
 Sum.elim (fun z2 =>
 some (Sum.inl (((), (), (), (), (), ()), ((((z2.2.2.1, ()), (x.2.1.1.2.1, ())), (x.2.1.2.1, ((), ()))), z2.2.1, x.2.2.2.1, x.2.2.2.2.1, x.2.2.2.2.2.1, ()))))
 (fun q1' =>
 none) q1
abbrev engine_side_flows_s_seg (k : Nat) : Seg := ⟨⟨31000, 17, false, [999], []⟩, 47, [], engine_side_flows_s_i, engine_side_flows_s_o, engine_side_flows_s k⟩
theorem engine_side_flows_s_seg.ok (k : Nat) : SegOK Tryz.prog (e102 k) (engine_side_flows_s_seg k) :=
 SegOK.of (e102.ok k) (by kernel_rfl) (S := engine_side_flows_s_seg k) 8 (.seg 9 (flow_Contract_s_seg k) [] [] .n) ⟨(flow_Contract_s_seg.ok k).env rfl rfl, trivial⟩ (fun x => by kernel_rfl)
abbrev engine_side_flows_s1_i : Mask := ⟨[(999, 0, (.k (.ptr 2101250 0 0))), (999, 1, (.k (.arr 3686402 0))), (999, 2, (.k (.arr 3686403 0))), (999, 3, (.k (.arr 45056030 0))), (999, 4, (.k (.arr 49152018 0))), (33000, 0, (.k (.ptr 2101250 0 15)))], [(2101250, .cells (.pr (.pr (.pr (.v T45) (.k (.arr 3686402 0))) (.pr (.v T45) (.k (.arr 3686403 0)))) (.pr (.v .bool) (.pr (.k (.arr 49152018 0)) (.k (.arr 45056030 0)))))), (3686402, .arr 32 T31), (3686403, .arr 32 T31), (45056030, .arr 34 T33), (49152018, .arr 34 T33)], [], 0⟩
abbrev engine_side_flows_s1_o : List Out := [⟨.nor, ⟨[(999, 0, (.k (.ptr 2101250 0 0))), (999, 1, (.k (.arr 3686402 0))), (999, 2, (.k (.arr 3686403 0))), (999, 3, (.k (.arr 45056030 0))), (999, 4, (.k (.arr 49152018 0)))], [(2101250, .cells (.pr (.pr (.pr (.v T45) (.k (.arr 3686402 0))) (.pr (.v T45) (.k (.arr 3686403 0)))) (.pr (.v .bool) (.pr (.k (.arr 49152018 0)) (.k (.arr 45056030 0)))))), (3686402, .arr 32 T31), (3686403, .arr 32 T31), (45056030, .arr 34 T33), (49152018, .arr 34 T33)], [], 0⟩⟩]
def engine_side_flows_s1 (k : Nat) (x : Mask.den engine_side_flows_s1_i) : Option (denS engine_side_flows_s1_o) :=
 (flow_Contract_s k (((), x.2.1.1.2.1, (), ()), (x.2.2.2.1, ()))).bind fun q1 =>
 Sum.elim (fun z2 =>
 some (Sum.inl (((), (), (), (), (), ()), ((((x.2.1.1.1.1, ()), (z2.2.2.1, ())), (x.2.1.2.1, ((), ()))), x.2.2.1, z2.2.1, x.2.2.2.2.1, x.2.2.2.2.2.1, ()))))
 (fun q1' =>
 none) q1
abbrev engine_side_flows_s1_seg (k : Nat) : Seg := ⟨⟨33000, 17, false, [999], []⟩, 47, [], engine_side_flows_s1_i, engine_side_flows_s1_o, engine_side_flows_s1 k⟩
theorem engine_side_flows_s1_seg.ok (k : Nat) : SegOK Tryz.prog (e102 k) (engine_side_flows_s1_seg k) :=
 SegOK.of (e102.ok k) (by kernel_rfl) (S := engine_side_flows_s1_seg k) 8 (.seg 9 (flow_Contract_s_seg k) [(3686403, 3686402)] [] .n) ⟨(flow_Contract_s_seg.ok k).env rfl rfl, trivial⟩ (fun x => by kernel_rfl)
abbrev engine_Engine_round_s_l0_i : Mask := ⟨[(999, 0, (.k (.ptr 2101250 0 0))), (999, 1, (.k (.arr 3686402 0))), (999, 2, (.k (.arr 3686403 0))), (999, 3, (.k (.arr 45056030 0))), (999, 4, (.k (.arr 49152018 0))), (30000, 0, (.k (.ptr 2101250 0 0))), (30000, 3, (.k (.ptr 122880003 0 0))), (30000, 4, (.k (.ptr 122880004 0 0))), (30000, 34, (.k (.arr 49152018 0))), (30000, 35, (.v (.int .i64))), (30000, 36, (.v (.int .i64)))], [(2101250, .cells (.pr (.pr (.pr (.v T45) (.k (.arr 3686402 0))) (.pr (.v T45) (.k (.arr 3686403 0)))) (.pr (.v .bool) (.pr (.k (.arr 49152018 0)) (.k (.arr 45056030 0)))))), (3686402, .arr 32 T31), (3686403, .arr 32 T31), (45056030, .arr 34 T33), (49152018, .arr 34 T33), (122880003, .cells (.v T45)), (122880004, .cells (.v T45))], [], 0⟩
abbrev engine_Engine_round_s_l0_o : List Out := [⟨.exit 0, ⟨[(999, 0, (.k (.ptr 2101250 0 0))), (999, 1, (.k (.arr 3686402 0))), (999, 2, (.k (.arr 3686403 0))), (999, 3, (.k (.arr 45056030 0))), (999, 4, (.k (.arr 49152018 0))), (30000, 0, (.k (.ptr 2101250 0 0))), (30000, 3, (.k (.ptr 122880003 0 0))), (30000, 4, (.k (.ptr 122880004 0 0)))], [(2101250, .cells (.pr (.pr (.pr (.v T45) (.k (.arr 3686402 0))) (.pr (.v T45) (.k (.arr 3686403 0)))) (.pr (.v .bool) (.pr (.k (.arr 49152018 0)) (.k (.arr 45056030 0)))))), (3686402, .arr 32 T31), (3686403, .arr 32 T31), (45056030, .arr 34 T33), (49152018, .arr 34 T33), (122880003, .cells (.v T45)), (122880004, .cells (.v T45))], [], 0⟩⟩]
def engine_Engine_round_s_l0 (k : Nat) : Nat -> Mask.den engine_Engine_round_s_l0_i -> Option (denS engine_Engine_round_s_l0_o)
| 0, _ => none
| m + 1, x =>
 bif (decide (x.1.2.2.2.2.2.2.2.2.2.2.1 < x.1.2.2.2.2.2.2.2.2.2.1)) then
 if 0 <= x.1.2.2.2.2.2.2.2.2.2.2.1 then (x.2.2.2.2.2.1[Int.toNat x.1.2.2.2.2.2.2.2.2.2.2.1]?).bind fun _ =>
 (x.2.2.2.2.2.1[(Int.toNat x.1.2.2.2.2.2.2.2.2.2.2.1)]?).bind fun y6 =>
 (engine_Engine_gate_s1 k (((), (), (), (), (), (), y6.2.1, ()), ((((x.2.1.1.1.1, ()), (x.2.1.1.2.1, ())), (x.2.1.2.1, ((), ()))), x.2.2.1, x.2.2.2.1, x.2.2.2.2.1, x.2.2.2.2.2.1, ()))).bind fun q7 =>
 Sum.elim (fun z8 =>
 (tube_Gate k z8.2.1.1.1.1 z8.1.2.2.2.2.2.1).bind fun r9 =>
 (tube_Gate k z8.2.1.1.2.1 z8.1.2.2.2.2.2.1).bind fun r10 =>
 (polar_Distance k [r9.1, r10.1, y6.2.2.1, y6.2.2.2.1, y6.2.2.2.2]).bind fun r11 =>
 if 0 <= 0 then (r11.1[Int.toNat 0]?).bind fun y12 =>
 (engine_side_set_s k (((), (), (), (), (), (), z8.1.2.2.2.2.2.1, y12, ()), ((((z8.2.1.1.1.1, ()), (z8.2.1.1.2.1, ())), (z8.2.1.2.1, ((), ()))), z8.2.2.1, z8.2.2.2.1, z8.2.2.2.2.1, z8.2.2.2.2.2.1, ()))).bind fun q13 =>
 Sum.elim (fun z14 =>
 if 0 <= 1 then (r11.1[Int.toNat 1]?).bind fun y15 =>
 (engine_side_set_s1 k (((), (), (), (), (), (), z8.1.2.2.2.2.2.1, y15, ()), ((((z14.2.1.1.1.1, ()), (z14.2.1.1.2.1, ())), (z14.2.1.2.1, ((), ()))), z14.2.2.1, z14.2.2.2.1, z14.2.2.2.2.1, z14.2.2.2.2.2.1, ()))).bind fun q16 =>
 Sum.elim (fun z17 =>
 engine_Engine_round_s_l0 k m (((), (), (), (), (), (), (), (), (), x.1.2.2.2.2.2.2.2.2.2.1, (IntKind.i64.wrap (x.1.2.2.2.2.2.2.2.2.2.2.1 + 1)), ()), ((((z17.2.1.1.1.1, ()), (z17.2.1.1.2.1, ())), (z17.2.1.2.1, ((), ()))), z17.2.2.1, z17.2.2.2.1, z17.2.2.2.2.1, z17.2.2.2.2.2.1, x.2.2.2.2.2.2.1, x.2.2.2.2.2.2.2.1, ())))
 (fun q16' =>
 none) q16
 else none)
 (fun q13' =>
 none) q13
 else none)
 (fun q7' =>
 none) q7
 else none
 else
 some (Sum.inl (((), (), (), (), (), (), (), (), ()), ((((x.2.1.1.1.1, ()), (x.2.1.1.2.1, ())), (x.2.1.2.1, ((), ()))), x.2.2.1, x.2.2.2.1, x.2.2.2.2.1, x.2.2.2.2.2.1, x.2.2.2.2.2.2.1, x.2.2.2.2.2.2.2.1, ())))
abbrev engine_Engine_round_s_l0_seg (k : Nat) : Seg := ⟨⟨30000, 107, false, [999], []⟩, 23, [.b, .s2, .s1, .s2, .s2, .s2, .s2], engine_Engine_round_s_l0_i, engine_Engine_round_s_l0_o, engine_Engine_round_s_l0 k k⟩
theorem engine_Engine_round_s_l0_seg.ok (k : Nat) : SegOK Tryz.prog (e102 k) (engine_Engine_round_s_l0_seg k) :=
 SegOK.loop (e102.ok k) (by kernel_rfl) (S := engine_Engine_round_s_l0_seg k) (c := atR (codeOf (e102 k) 23) [.l, .b, .s2, .s1, .s2, .s2, .s2, .s2]) (by kernel_rfl) (engine_Engine_round_s_l0 k) k rfl (fun _ => rfl) 8 (.two .n (.two .n (.two (.two (.two .n (.two (.seg 3 (engine_Engine_gate_s1_seg k) [] [] .n) (.two .n (.two (.seg 8 (engine_side_set_s_seg k) [] [] .n) (.seg 8 (engine_side_set_s1_seg k) [] [] .n))))) .n) .n))) ⟨trivial, ⟨trivial, ⟨⟨⟨trivial, ⟨⟨(engine_Engine_gate_s1_seg.ok k).env rfl rfl, trivial⟩, ⟨trivial, ⟨⟨(engine_side_set_s_seg.ok k).env rfl rfl, trivial⟩, ⟨(engine_side_set_s1_seg.ok k).env rfl rfl, trivial⟩⟩⟩⟩⟩, trivial⟩, trivial⟩⟩⟩ (fun k' x => by kernel_rfl)
abbrev engine_Engine_round_s_i : Mask := ⟨[(999, 0, (.k (.ptr 2101250 0 0))), (999, 1, (.k (.arr 3686402 0))), (999, 2, (.k (.arr 3686403 0))), (999, 3, (.k (.arr 45056030 0))), (999, 4, (.k (.arr 49152018 0))), (30000, 0, (.k (.ptr 2101250 0 0)))], [(2101250, .cells (.pr (.pr (.pr (.v T45) (.k (.arr 3686402 0))) (.pr (.v T45) (.k (.arr 3686403 0)))) (.pr (.v .bool) (.pr (.k (.arr 49152018 0)) (.k (.arr 45056030 0)))))), (3686402, .arr 32 T31), (3686403, .arr 32 T31), (45056030, .arr 34 T33), (49152018, .arr 34 T33)], [], 0⟩
abbrev engine_Engine_round_s_o : List Out := [⟨.ret, ⟨[(999, 0, (.k (.ptr 2101250 0 0))), (999, 1, (.k (.arr 3686402 0))), (999, 2, (.k (.arr 3686403 0))), (999, 3, (.k (.arr 45056030 0))), (999, 4, (.k (.arr 49152018 0))), (30000, 2, (.v .bool))], [(2101250, .cells (.pr (.pr (.pr (.v T45) (.k (.arr 3686402 0))) (.pr (.v T45) (.k (.arr 3686403 0)))) (.pr (.v .bool) (.pr (.k (.arr 49152018 0)) (.k (.arr 45056030 0)))))), (3686402, .arr 32 T31), (3686403, .arr 32 T31), (45056030, .arr 34 T33), (49152018, .arr 34 T33)], [], 0⟩⟩]
def engine_Engine_round_s (k : Nat) (x : Mask.den engine_Engine_round_s_i) : Option (denS engine_Engine_round_s_o) :=
 (engine_side_flows_s k (((), (), (), (), (), (), ()), ((((x.2.1.1.1.1, ()), (x.2.1.1.2.1, ())), (x.2.1.2.1, ((), ()))), x.2.2.1, x.2.2.2.1, x.2.2.2.2.1, x.2.2.2.2.2.1, ()))).bind fun q1 =>
 Sum.elim (fun z2 =>
 (engine_side_flows_s1 k (((), (), (), (), (), (), ()), ((((z2.2.1.1.1.1, ()), (z2.2.1.1.2.1, ())), (z2.2.1.2.1, ((), ()))), z2.2.2.1, z2.2.2.2.1, z2.2.2.2.2.1, z2.2.2.2.2.2.1, ()))).bind fun q3 =>
 Sum.elim (fun z4 =>
 (engine_Engine_round_s_l0 k k (((), (), (), (), (), (), (), (), (), (z4.2.2.2.2.2.1.length : Int), 0, ()), ((((z4.2.1.1.1.1, ()), (z4.2.1.1.2.1, ())), (z4.2.1.2.1, ((), ()))), z4.2.2.1, z4.2.2.2.1, z4.2.2.2.2.1, z4.2.2.2.2.2.1, x.2.1.1.1.1, x.2.1.1.2.1, ()))).bind fun q18 =>
 Sum.elim (fun z19 =>
 (engine_same k z19.2.2.2.2.2.2.1 z19.2.1.1.1.1).bind fun r20 =>
 bif (!r20.1) then
 some (Sum.inl (((), (), (), (), (), true, ()), ((((z19.2.1.1.1.1, ()), (z19.2.1.1.2.1, ())), (z19.2.1.2.1, ((), ()))), z19.2.2.1, z19.2.2.2.1, z19.2.2.2.2.1, z19.2.2.2.2.2.1, ())))
 else
 (engine_same k z19.2.2.2.2.2.2.2.1 z19.2.1.1.2.1).bind fun r21 =>
 some (Sum.inl (((), (), (), (), (), (!r21.1), ()), ((((z19.2.1.1.1.1, ()), (z19.2.1.1.2.1, ())), (z19.2.1.2.1, ((), ()))), z19.2.2.1, z19.2.2.2.1, z19.2.2.2.2.1, z19.2.2.2.2.2.1, ()))))
 (fun q18' =>
 none) q18)
 (fun q3' =>
 none) q3)
 (fun q1' =>
 none) q1
abbrev engine_Engine_round_s_seg (k : Nat) : Seg := ⟨⟨30000, 107, false, [999], []⟩, 23, [], engine_Engine_round_s_i, engine_Engine_round_s_o, engine_Engine_round_s k⟩
theorem engine_Engine_round_s_seg.ok (k : Nat) : SegOK Tryz.prog (e102 k) (engine_Engine_round_s_seg k) :=
 SegOK.of (e102.ok k) (by kernel_rfl) (S := engine_Engine_round_s_seg k) 8 (.two .n (.two .n (.two (.seg 4 (engine_side_flows_s_seg k) [] [] .n) (.two (.seg 4 (engine_side_flows_s1_seg k) [] [] .n) (.two (.two .n (.two (.use (engine_Engine_round_s_l0_seg k)) .n)) .n))))) ⟨trivial, ⟨trivial, ⟨⟨(engine_side_flows_s_seg.ok k).env rfl rfl, trivial⟩, ⟨⟨(engine_side_flows_s1_seg.ok k).env rfl rfl, trivial⟩, ⟨⟨trivial, ⟨(engine_Engine_round_s_l0_seg.ok k), trivial⟩⟩, trivial⟩⟩⟩⟩⟩ (fun x => by kernel_rfl)
abbrev engine_Engine_Do_s_l0_i : Mask := ⟨[(999, 0, (.k (.ptr 2101250 0 0))), (11000, 0, (.k (.ptr 2101250 0 0))), (11000, 33, (.v (.int .i64)))], [(2101250, .cells (.pr (.pr (.pr (.v T45) (.k (.arr 3686402 0))) (.pr (.v T45) (.k (.arr 3686403 0)))) (.pr (.v .bool) (.pr (.k (.arr 49152018 0)) (.k (.arr 45056030 0)))))), (3686402, .arr 32 T31), (3686403, .arr 32 T31), (45056030, .arr 34 T33), (49152018, .arr 34 T33)], [], 0⟩
abbrev engine_Engine_Do_s_l0_o : List Out := [⟨.exit 1, ⟨[(999, 0, (.k (.ptr 2101250 0 0)))], [(2101250, .cells (.pr (.pr (.pr (.v T45) (.k (.arr 3686402 0))) (.pr (.v T45) (.k (.arr 3686403 0)))) (.pr (.v .bool) (.pr (.k (.arr 49152018 0)) (.k (.arr 45056030 0)))))), (3686402, .arr 32 T31), (3686403, .arr 32 T31), (45056030, .arr 34 T33), (49152018, .arr 34 T33)], [], 0⟩⟩]
def engine_Engine_Do_s_l0 (k : Nat) : Nat -> Mask.den engine_Engine_Do_s_l0_i -> Option (denS engine_Engine_Do_s_l0_o)
| 0, _ => none
| m + 1, x =>
 bif (decide (x.1.2.2.1 < 8)) then
 (engine_Engine_round_s k (((), (), (), (), (), (), ()), ((((x.2.1.1.1.1, ()), (x.2.1.1.2.1, ())), (x.2.1.2.1, ((), ()))), x.2.2.1, x.2.2.2.1, x.2.2.2.2.1, x.2.2.2.2.2.1, ()))).bind fun q4 =>
 Sum.elim (fun z5 =>
 bif (!z5.1.2.2.2.2.2.1) then
 some (Sum.inl (((), ()), ((((z5.2.1.1.1.1, ()), (z5.2.1.1.2.1, ())), (z5.2.1.2.1, ((), ()))), z5.2.2.1, z5.2.2.2.1, z5.2.2.2.2.1, z5.2.2.2.2.2.1, ())))
 else
 engine_Engine_Do_s_l0 k m (((), (), (IntKind.i64.wrap (x.1.2.2.1 + 1)), ()), ((((z5.2.1.1.1.1, ()), (z5.2.1.1.2.1, ())), (z5.2.1.2.1, ((), ()))), z5.2.2.1, z5.2.2.2.1, z5.2.2.2.2.1, z5.2.2.2.2.2.1, ())))
 (fun q4' =>
 none) q4
 else
 some (Sum.inl (((), ()), ((((x.2.1.1.1.1, ()), (x.2.1.1.2.1, ())), (x.2.1.2.1, ((), ()))), x.2.2.1, x.2.2.2.1, x.2.2.2.2.1, x.2.2.2.2.2.1, ())))
abbrev engine_Engine_Do_s_l0_seg (k : Nat) : Seg := ⟨⟨11000, 39, false, [999], []⟩, 6, [.b, .s2, .s1, .s2, .s2, .s2, .s2], engine_Engine_Do_s_l0_i, engine_Engine_Do_s_l0_o, engine_Engine_Do_s_l0 k k⟩
theorem engine_Engine_Do_s_l0_seg.ok (k : Nat) : SegOK Tryz.prog (e102 k) (engine_Engine_Do_s_l0_seg k) :=
 SegOK.loop (e102.ok k) (by kernel_rfl) (S := engine_Engine_Do_s_l0_seg k) (c := atR (codeOf (e102 k) 6) [.l, .b, .s2, .s1, .s2, .s2, .s2, .s2]) (by kernel_rfl) (engine_Engine_Do_s_l0 k) k rfl (fun _ => rfl) 8 (.two .n (.two .n (.two (.two (.two (.seg 1 (engine_Engine_round_s_seg k) [] [] .n) .n) .n) .n))) ⟨trivial, ⟨trivial, ⟨⟨⟨⟨(engine_Engine_round_s_seg.ok k).env rfl rfl, trivial⟩, trivial⟩, trivial⟩, trivial⟩⟩⟩ (fun k' x => by kernel_rfl)
abbrev engine_Engine_Do_s_i : Mask := ⟨[(999, 0, (.k (.ptr 2101250 0 0))), (11000, 0, (.k (.ptr 2101250 0 0))), (11000, 1, (.v T33))], [(2101250, .cells (.pr (.pr (.pr (.v T45) (.k (.arr 3686402 0))) (.pr (.v T45) (.k (.arr 3686403 0)))) (.pr (.v .bool) (.pr (.k (.arr 49152018 0)) (.k (.arr 45056030 0)))))), (3686402, .arr 32 T31), (3686403, .arr 32 T31), (45056030, .arr 34 T33), (49152018, .arr 34 T33)], [], 0⟩
abbrev engine_Engine_Do_s_o : List Out := [⟨.ret, ⟨[(999, 0, (.k (.ptr 2101250 0 0))), (11000, 4, (.v (.int .i64)))], [(2101250, .cells (.pr (.pr (.pr (.v T45) (.k (.arr 3686402 0))) (.pr (.v T45) (.k (.arr 3686403 0)))) (.pr (.v .bool) (.pr (.k (.arr 49152018 0)) (.k (.arr 45056030 0)))))), (3686402, .arr 32 T31), (3686403, .arr 32 T31), (45056030, .arr 34 T33), (49152018, .arr 34 T33)], [], 0⟩⟩]
def engine_Engine_Do_s (k : Nat) (x : Mask.den engine_Engine_Do_s_i) : Option (denS engine_Engine_Do_s_o) :=
 (engine_may k x.1.2.2.1).bind fun r1 =>
 bif (!r1.1) then
 some (Sum.inl (((), 1, ()), ((((x.2.1.1.1.1, ()), (x.2.1.1.2.1, ())), (x.2.1.2.1, ((), ()))), x.2.2.1, x.2.2.2.1, x.2.2.2.2.1, x.2.2.2.2.2.1, ())))
 else
 bif (decide ((x.2.2.2.2.1.length : Int) >= 256)) then
 some (Sum.inl (((), 3, ()), ((((x.2.1.1.1.1, ()), (x.2.1.1.2.1, ())), (x.2.1.2.1, ((), ()))), x.2.2.1, x.2.2.2.1, x.2.2.2.2.1, x.2.2.2.2.2.1, ())))
 else
 (engine_Engine_take_s k (((), (), (), (), (), (), x.1.2.2.1, ()), ((((x.2.1.1.1.1, ()), (x.2.1.1.2.1, ())), (x.2.1.2.1, ((), ()))), x.2.2.1, x.2.2.2.1, x.2.2.2.2.1, x.2.2.2.2.2.1, ()))).bind fun q2 =>
 Sum.elim (fun z3 =>
 bif (z3.1.2.2.1 != 0) then
 some (Sum.inl (((), z3.1.2.2.1, ()), ((((z3.2.1.1.1.1, ()), (z3.2.1.1.2.1, ())), (z3.2.1.2.1, ((), ()))), z3.2.2.1, z3.2.2.2.1, z3.2.2.2.2.1, z3.2.2.2.2.2.1, ())))
 else
 if (z3.2.2.2.2.1.length + [x.1.2.2.1].length) * 256 <= 140737488355328 then
 (engine_Engine_Do_s_l0 k k (((), (), 0, ()), ((((z3.2.1.1.1.1, ()), (z3.2.1.1.2.1, ())), (z3.2.1.2.1, ((), ()))), z3.2.2.1, z3.2.2.2.1, (z3.2.2.2.2.1 ++ [x.1.2.2.1]), z3.2.2.2.2.2.1, ()))).bind fun q6 =>
 Sum.elim (fun z7 =>
 some (Sum.inl (((), 0, ()), ((((z7.2.1.1.1.1, ()), (z7.2.1.1.2.1, ())), (z7.2.1.2.1, ((), ()))), z7.2.2.1, z7.2.2.2.1, z7.2.2.2.2.1, z7.2.2.2.2.2.1, ()))))
 (fun q6' =>
 none) q6
 else none)
 (fun q2' =>
 none) q2
abbrev engine_Engine_Do_s_seg (k : Nat) : Seg := ⟨⟨11000, 39, false, [999], []⟩, 6, [], engine_Engine_Do_s_i, engine_Engine_Do_s_o, engine_Engine_Do_s k⟩
theorem engine_Engine_Do_s_seg.ok (k : Nat) : SegOK Tryz.prog (e102 k) (engine_Engine_Do_s_seg k) :=
 SegOK.of (e102.ok k) (by kernel_rfl) (S := engine_Engine_Do_s_seg k) 8 (.two .n (.two .n (.two (.two (.seg 2 (engine_Engine_take_s_seg k) [] [] .n) .n) (.two .n (.two (.two .n (.two (.use (engine_Engine_Do_s_l0_seg k)) .n)) .n))))) ⟨trivial, ⟨trivial, ⟨⟨⟨(engine_Engine_take_s_seg.ok k).env rfl rfl, trivial⟩, trivial⟩, ⟨trivial, ⟨⟨trivial, ⟨(engine_Engine_Do_s_l0_seg.ok k), trivial⟩⟩, trivial⟩⟩⟩⟩⟩ (fun x => by kernel_rfl)
abbrev engine_Engine_Where_s_i : Mask := ⟨[(999, 0, (.k (.ptr 2101250 0 0))), (999, 1, (.k (.arr 3686402 0))), (999, 2, (.k (.arr 3686403 0))), (999, 3, (.k (.arr 45056030 0))), (999, 4, (.k (.arr 49152018 0))), (34000, 0, (.k (.ptr 2101250 0 0))), (34000, 1, (.v T29))], [(2101250, .cells (.pr (.pr (.pr (.v T45) (.k (.arr 3686402 0))) (.pr (.v T45) (.k (.arr 3686403 0)))) (.pr (.v .bool) (.pr (.k (.arr 49152018 0)) (.k (.arr 45056030 0)))))), (3686402, .arr 32 T31), (3686403, .arr 32 T31), (45056030, .arr 34 T33), (49152018, .arr 34 T33)], [], 0⟩
abbrev engine_Engine_Where_s_o : List Out := [⟨.ret, ⟨[(999, 0, (.k (.ptr 2101250 0 0))), (999, 1, (.k (.arr 3686402 0))), (999, 2, (.k (.arr 3686403 0))), (999, 3, (.k (.arr 45056030 0))), (999, 4, (.k (.arr 49152018 0))), (34000, 4, (.k (.ptr 139264004 0 0))), (34000, 5, (.k (.ptr 139264005 0 0)))], [(2101250, .cells (.pr (.pr (.pr (.v T45) (.k (.arr 3686402 0))) (.pr (.v T45) (.k (.arr 3686403 0)))) (.pr (.v .bool) (.pr (.k (.arr 49152018 0)) (.k (.arr 45056030 0)))))), (3686402, .arr 32 T31), (3686403, .arr 32 T31), (45056030, .arr 34 T33), (49152018, .arr 34 T33), (139264004, .cells (.v T31)), (139264005, .cells (.v T31))], [], 0⟩⟩]
def engine_Engine_Where_s (k : Nat) (x : Mask.den engine_Engine_Where_s_i) : Option (denS engine_Engine_Where_s_o) :=
 bif (!x.2.1.2.1) then
 (iv_None k).bind fun r1 =>
 (iv_None k).bind fun r2 =>
 some (Sum.inl (((), (), (), (), (), (), (), ()), ((((x.2.1.1.1.1, ()), (x.2.1.1.2.1, ())), (x.2.1.2.1, ((), ()))), x.2.2.1, x.2.2.2.1, x.2.2.2.2.1, x.2.2.2.2.2.1, r1.1, r2.1, ())))
 else
 (tube_At k x.2.1.1.1.1 x.1.2.2.2.2.2.2.1).bind fun r3 =>
 (tube_At k x.2.1.1.2.1 x.1.2.2.2.2.2.2.1).bind fun r4 =>
 some (Sum.inl (((), (), (), (), (), (), (), ()), ((((x.2.1.1.1.1, ()), (x.2.1.1.2.1, ())), (x.2.1.2.1, ((), ()))), x.2.2.1, x.2.2.2.1, x.2.2.2.2.1, x.2.2.2.2.2.1, r3.1, r4.1, ())))
abbrev engine_Engine_Where_s_seg (k : Nat) : Seg := ⟨⟨34000, 29, false, [999], []⟩, 19, [], engine_Engine_Where_s_i, engine_Engine_Where_s_o, engine_Engine_Where_s k⟩
theorem engine_Engine_Where_s_seg.ok (k : Nat) : SegOK Tryz.prog (e102 k) (engine_Engine_Where_s_seg k) :=
 SegOK.of (e102.ok k) (by kernel_rfl) (S := engine_Engine_Where_s_seg k) 8 .n trivial (fun x => by kernel_rfl)
abbrev engine_Engine_Ops_s_i : Mask := ⟨[(999, 0, (.k (.ptr 2101250 0 0))), (999, 1, (.k (.arr 3686402 0))), (999, 2, (.k (.arr 3686403 0))), (999, 3, (.k (.arr 45056030 0))), (999, 4, (.k (.arr 49152018 0))), (35000, 0, (.k (.ptr 2101250 0 0)))], [(2101250, .cells (.pr (.pr (.pr (.v T45) (.k (.arr 3686402 0))) (.pr (.v T45) (.k (.arr 3686403 0)))) (.pr (.v .bool) (.pr (.k (.arr 49152018 0)) (.k (.arr 45056030 0)))))), (3686402, .arr 32 T31), (3686403, .arr 32 T31), (45056030, .arr 34 T33), (49152018, .arr 34 T33)], [], 0⟩
abbrev engine_Engine_Ops_s_o : List Out := [⟨.ret, ⟨[(999, 0, (.k (.ptr 2101250 0 0))), (999, 1, (.k (.arr 3686402 0))), (999, 2, (.k (.arr 3686403 0))), (999, 3, (.k (.arr 45056030 0))), (999, 4, (.k (.arr 49152018 0))), (35000, 2, (.v T22))], [(2101250, .cells (.pr (.pr (.pr (.v T45) (.k (.arr 3686402 0))) (.pr (.v T45) (.k (.arr 3686403 0)))) (.pr (.v .bool) (.pr (.k (.arr 49152018 0)) (.k (.arr 45056030 0)))))), (3686402, .arr 32 T31), (3686403, .arr 32 T31), (45056030, .arr 34 T33), (49152018, .arr 34 T33)], [], 0⟩⟩]
def engine_Engine_Ops_s (k : Nat) (x : Mask.den engine_Engine_Ops_s_i) : Option (denS engine_Engine_Ops_s_o) :=
 if x.2.2.2.2.1.length * 256 <= 140737488355328 then
 some (Sum.inl (((), (), (), (), (), x.2.2.2.2.1, ()), ((((x.2.1.1.1.1, ()), (x.2.1.1.2.1, ())), (x.2.1.2.1, ((), ()))), x.2.2.1, x.2.2.2.1, x.2.2.2.2.1, x.2.2.2.2.2.1, ())))
 else none
abbrev engine_Engine_Ops_s_seg (k : Nat) : Seg := ⟨⟨35000, 8, false, [999], []⟩, 8, [], engine_Engine_Ops_s_i, engine_Engine_Ops_s_o, engine_Engine_Ops_s k⟩
theorem engine_Engine_Ops_s_seg.ok (k : Nat) : SegOK Tryz.prog (e102 k) (engine_Engine_Ops_s_seg k) :=
 SegOK.of (e102.ok k) (by kernel_rfl) (S := engine_Engine_Ops_s_seg k) 8 .n trivial (fun x => by kernel_rfl)
def pelorustop_awake (k : Nat) : Option (HL [.bool]) :=
 (peloruslaw08_Of k 0 1).bind fun r1 =>
 (engine_Engine_Do_s k (((), (), (0, (0, false, 0, 0), r1.1, r1.1, false, (0, false, 0, 0), 0, false, 0, 0), ()), ((((((0, false, 0, 0), (false, (0, false, 0, 0), 0, false, 0, 0), []), ()), (((0, false, 0, 0), (false, (0, false, 0, 0), 0, false, 0, 0), []), ())), (false, ((), ()))), [], [], [], [], ()))).bind fun q2 =>
 Sum.elim (fun z3 =>
 (num_Of k 0).bind fun r4 =>
 (engine_Engine_Where_s k (((), (), (), (), (), (), r4.1, ()), ((((z3.2.1.1.1.1, ()), (z3.2.1.1.2.1, ())), (z3.2.1.2.1, ((), ()))), z3.2.2.1, z3.2.2.2.1, z3.2.2.2.2.1, z3.2.2.2.2.2.1, ()))).bind fun q5 =>
 Sum.elim (fun z6 =>
 bif (z3.1.2.1 == 0) then
 bif (beqT T31 z6.2.2.2.2.2.2.1 r1.1) then
 bif (beqT T31 z6.2.2.2.2.2.2.2.1 r1.1) then
 bif (!r1.1.1) then
 (engine_Engine_Ops_s k (((), (), (), (), (), (), ()), ((((z6.2.1.1.1.1, ()), (z6.2.1.1.2.1, ())), (z6.2.1.2.1, ((), ()))), z6.2.2.1, z6.2.2.2.1, z6.2.2.2.2.1, z6.2.2.2.2.2.1, ()))).bind fun q7 =>
 Sum.elim (fun z8 =>
 some (((z8.1.2.2.2.2.2.1.length : Int) == 1), ()))
 (fun q7' =>
 none) q7
 else
 some (false, ())
 else
 some (false, ())
 else
 some (false, ())
 else
 some (false, ()))
 (fun q5' =>
 none) q5)
 (fun q2' =>
 none) q2
theorem pelorustop_awake.ok (k : Nat) : SpecOK Tryz.prog G0 4 ⟨[], [.bool], fun x => pelorustop_awake k⟩ :=
 evF_sound (E := (e102 k)) (fn := Tryz.f4) (e102.ok k) (by kernel_rfl) (by kernel_rfl) (by kernel_rfl) 8 (.two .n (.two (.call 0 513 .n .n) (.two .n (.two .n (.two (.seg 4 (engine_Engine_Do_s_seg k) [] [] .n) (.two (.seg 2 (engine_Engine_Where_s_seg k) [] [] .n) (.two (.seg 19 (engine_Engine_Ops_s_seg k) [] [] .n) .n))))))) ⟨trivial, ⟨⟨trivial, trivial⟩, ⟨trivial, ⟨trivial, ⟨⟨(engine_Engine_Do_s_seg.ok k).env rfl rfl, trivial⟩, ⟨⟨(engine_Engine_Where_s_seg.ok k).env rfl rfl, trivial⟩, ⟨⟨(engine_Engine_Ops_s_seg.ok k).env rfl rfl, trivial⟩, trivial⟩⟩⟩⟩⟩⟩⟩ (fun xs => by kernel_rfl)
def e103 (k : Nat) : Env := (e102 k).add 4 ⟨[], [.bool], fun x => pelorustop_awake k⟩
theorem e103.ok (k : Nat) : (e103 k).OK Tryz.prog := (e102.ok k).add (pelorustop_awake.ok k)
abbrev engine_Again_s_l0_i : Mask := ⟨[(36000, 0, (.v T22)), (36000, 5, (.k (.ptr 149557250 0 0))), (36000, 10, (.v T22)), (36000, 11, (.v (.int .i64))), (36000, 12, (.v (.int .i64)))], [(3686404, .arr 32 T31), (3686405, .arr 32 T31), (3686406, .arr 34 T33), (3686407, .arr 34 T33), (149557250, .cells (.pr (.pr (.pr (.v T45) (.k (.arr 3686404 0))) (.pr (.v T45) (.k (.arr 3686405 0)))) (.pr (.v .bool) (.pr (.k (.arr 3686406 0)) (.k (.arr 3686407 0))))))], [], 0⟩
abbrev engine_Again_s_l0_o : List Out := [⟨.exit 0, ⟨[(36000, 0, (.v T22)), (36000, 5, (.k (.ptr 149557250 0 0)))], [(3686404, .arr 32 T31), (3686405, .arr 32 T31), (3686406, .arr 34 T33), (3686407, .arr 34 T33), (149557250, .cells (.pr (.pr (.pr (.v T45) (.k (.arr 3686404 0))) (.pr (.v T45) (.k (.arr 3686405 0)))) (.pr (.v .bool) (.pr (.k (.arr 3686406 0)) (.k (.arr 3686407 0))))))], [], 0⟩⟩, ⟨.ret, ⟨[(36000, 2, (.k (.ptr 149557250 0 0))), (36000, 3, (.v (.int .i64))), (36000, 4, (.v (.int .i64)))], [(3686404, .arr 32 T31), (3686405, .arr 32 T31), (3686406, .arr 34 T33), (3686407, .arr 34 T33), (149557250, .cells (.pr (.pr (.pr (.v T45) (.k (.arr 3686404 0))) (.pr (.v T45) (.k (.arr 3686405 0)))) (.pr (.v .bool) (.pr (.k (.arr 3686406 0)) (.k (.arr 3686407 0))))))], [], 0⟩⟩]
def engine_Again_s_l0 (k : Nat) : Nat -> Mask.den engine_Again_s_l0_i -> Option (denS engine_Again_s_l0_o)
| 0, _ => none
| m + 1, x =>
 bif (decide (x.1.2.2.2.2.1 < x.1.2.2.2.1)) then
 if 0 <= x.1.2.2.2.2.1 then (x.1.2.2.1[Int.toNat x.1.2.2.2.2.1]?).bind fun y11 =>
 (engine_Engine_Do_s k (((), (), y11, ()), ((((x.2.2.2.2.2.1.1.1.1, ()), (x.2.2.2.2.2.1.1.2.1, ())), (x.2.2.2.2.2.1.2.1, ((), ()))), x.2.1, x.2.2.1, x.2.2.2.2.1, x.2.2.2.1, ()))).bind fun q12 =>
 Sum.elim (fun z13 =>
 bif (z13.1.2.1 != 0) then
 some (Sum.inr (Sum.inl (((), x.1.2.2.2.2.1, z13.1.2.1, ()), (z13.2.2.1, z13.2.2.2.1, z13.2.2.2.2.2.1, z13.2.2.2.2.1, (((z13.2.1.1.1.1, ()), (z13.2.1.1.2.1, ())), (z13.2.1.2.1, ((), ()))), ()))))
 else
 engine_Again_s_l0 k m ((x.1.1, (), x.1.2.2.1, x.1.2.2.2.1, (IntKind.i64.wrap (x.1.2.2.2.2.1 + 1)), ()), (z13.2.2.1, z13.2.2.2.1, z13.2.2.2.2.2.1, z13.2.2.2.2.1, (((z13.2.1.1.1.1, ()), (z13.2.1.1.2.1, ())), (z13.2.1.2.1, ((), ()))), ())))
 (fun q12' =>
 none) q12
 else none
 else
 some (Sum.inl ((x.1.1, (), ()), (x.2.1, x.2.2.1, x.2.2.2.1, x.2.2.2.2.1, (((x.2.2.2.2.2.1.1.1.1, ()), (x.2.2.2.2.2.1.1.2.1, ())), (x.2.2.2.2.2.1.2.1, ((), ()))), ())))
abbrev engine_Again_s_l0_seg (k : Nat) : Seg := ⟨⟨36000, 29, false, [999], []⟩, 10, [.b, .s2, .s1, .s2, .s2], engine_Again_s_l0_i, engine_Again_s_l0_o, engine_Again_s_l0 k k⟩
theorem engine_Again_s_l0_seg.ok (k : Nat) : SegOK Tryz.prog (e103 k) (engine_Again_s_l0_seg k) :=
 SegOK.loop (e103.ok k) (by kernel_rfl) (S := engine_Again_s_l0_seg k) (c := atR (codeOf (e103 k) 10) [.l, .b, .s2, .s1, .s2, .s2]) (by kernel_rfl) (engine_Again_s_l0 k) k rfl (fun _ => rfl) 8 (.two .n (.two .n (.two (.two (.two .n (.two (.seg 2 (engine_Engine_Do_s_seg k) [(149557250, 2101250), (3686404, 3686402), (3686405, 3686403), (3686407, 45056030), (3686406, 49152018)] [] .n) .n)) .n) .n))) ⟨trivial, ⟨trivial, ⟨⟨⟨trivial, ⟨⟨(engine_Engine_Do_s_seg.ok k).env rfl rfl, trivial⟩, trivial⟩⟩, trivial⟩, trivial⟩⟩⟩ (fun k' x => by kernel_rfl)
abbrev engine_Again_s_i : Mask := ⟨[(36000, 0, (.v T22))], [], [], 0⟩
abbrev engine_Again_s_o : List Out := [⟨.ret, ⟨[(36000, 2, (.k (.ptr 149557250 0 0))), (36000, 3, (.v (.int .i64))), (36000, 4, (.v (.int .i64)))], [(3686404, .arr 32 T31), (3686405, .arr 32 T31), (3686406, .arr 34 T33), (3686407, .arr 34 T33), (149557250, .cells (.pr (.pr (.pr (.v T45) (.k (.arr 3686404 0))) (.pr (.v T45) (.k (.arr 3686405 0)))) (.pr (.v .bool) (.pr (.k (.arr 3686406 0)) (.k (.arr 3686407 0))))))], [], 0⟩⟩]
def engine_Again_s (k : Nat) (x : Mask.den engine_Again_s_i) : Option (denS engine_Again_s_o) :=
 (engine_Again_s_l0 k k ((x.1.1, (), x.1.1, (x.1.1.length : Int), 0, ()), ([], [], [], [], (((((0, false, 0, 0), (false, (0, false, 0, 0), 0, false, 0, 0), []), ()), (((0, false, 0, 0), (false, (0, false, 0, 0), 0, false, 0, 0), []), ())), (false, ((), ()))), ()))).bind fun q14 =>
 Sum.elim (fun z15 =>
 some (Sum.inl (((), (z15.1.1.length : Int), 0, ()), (z15.2.1, z15.2.2.1, z15.2.2.2.1, z15.2.2.2.2.1, (((z15.2.2.2.2.2.1.1.1.1, ()), (z15.2.2.2.2.2.1.1.2.1, ())), (z15.2.2.2.2.2.1.2.1, ((), ()))), ()))))
 (fun q14' =>
 Sum.elim (fun z16 =>
 some (Sum.inl (((), z16.1.2.1, z16.1.2.2.1, ()), (z16.2.1, z16.2.2.1, z16.2.2.2.1, z16.2.2.2.2.1, (((z16.2.2.2.2.2.1.1.1.1, ()), (z16.2.2.2.2.2.1.1.2.1, ())), (z16.2.2.2.2.2.1.2.1, ((), ()))), ()))))
 (fun q14'' =>
 none) q14') q14
abbrev engine_Again_s_seg (k : Nat) : Seg := ⟨⟨36000, 29, false, [999], []⟩, 10, [], engine_Again_s_i, engine_Again_s_o, engine_Again_s k⟩
theorem engine_Again_s_seg.ok (k : Nat) : SegOK Tryz.prog (e103 k) (engine_Again_s_seg k) :=
 SegOK.of (e103.ok k) (by kernel_rfl) (S := engine_Again_s_seg k) 8 (.two .n (.two (.call 0 36513 .n .n) (.two (.two .n (.two (.use (engine_Again_s_l0_seg k)) .n)) .n))) ⟨trivial, ⟨⟨trivial, trivial⟩, ⟨⟨trivial, ⟨(engine_Again_s_l0_seg.ok k), trivial⟩⟩, trivial⟩⟩⟩ (fun x => by kernel_rfl)
abbrev engine_Engine_X_s_i : Mask := ⟨[(999, 0, (.k (.ptr 2101250 0 0))), (999, 1, (.k (.arr 3686402 0))), (999, 2, (.k (.arr 3686403 0))), (999, 3, (.k (.arr 45056030 0))), (999, 4, (.k (.arr 49152018 0))), (37000, 0, (.k (.ptr 2101250 0 0)))], [(2101250, .cells (.pr (.pr (.pr (.v T45) (.k (.arr 3686402 0))) (.pr (.v T45) (.k (.arr 3686403 0)))) (.pr (.v .bool) (.pr (.k (.arr 49152018 0)) (.k (.arr 45056030 0)))))), (3686402, .arr 32 T31), (3686403, .arr 32 T31), (45056030, .arr 34 T33), (49152018, .arr 34 T33)], [], 0⟩
abbrev engine_Engine_X_s_o : List Out := [⟨.ret, ⟨[(999, 0, (.k (.ptr 2101250 0 0))), (999, 1, (.k (.arr 3686402 0))), (999, 2, (.k (.arr 3686403 0))), (999, 3, (.k (.arr 45056030 0))), (999, 4, (.k (.arr 49152018 0))), (37000, 2, (.k (.ptr 151552002 0 0)))], [(2101250, .cells (.pr (.pr (.pr (.v T45) (.k (.arr 3686402 0))) (.pr (.v T45) (.k (.arr 3686403 0)))) (.pr (.v .bool) (.pr (.k (.arr 49152018 0)) (.k (.arr 45056030 0)))))), (3686402, .arr 32 T31), (3686403, .arr 32 T31), (45056030, .arr 34 T33), (49152018, .arr 34 T33), (151552002, .cells (.v T45))], [], 0⟩⟩]
def engine_Engine_X_s (k : Nat) (x : Mask.den engine_Engine_X_s_i) : Option (denS engine_Engine_X_s_o) :=
 (engine_copied k x.2.1.1.1.1).bind fun r1 =>
 some (Sum.inl (((), (), (), (), (), (), ()), ((((x.2.1.1.1.1, ()), (x.2.1.1.2.1, ())), (x.2.1.2.1, ((), ()))), x.2.2.1, x.2.2.2.1, x.2.2.2.2.1, x.2.2.2.2.2.1, r1.1, ())))
abbrev engine_Engine_X_s_seg (k : Nat) : Seg := ⟨⟨37000, 10, false, [999], []⟩, 12, [], engine_Engine_X_s_i, engine_Engine_X_s_o, engine_Engine_X_s k⟩
theorem engine_Engine_X_s_seg.ok (k : Nat) : SegOK Tryz.prog (e103 k) (engine_Engine_X_s_seg k) :=
 SegOK.of (e103.ok k) (by kernel_rfl) (S := engine_Engine_X_s_seg k) 8 .n trivial (fun x => by kernel_rfl)
abbrev engine_Engine_Y_s_i : Mask := ⟨[(999, 0, (.k (.arr 3686404 0))), (999, 1, (.k (.arr 3686405 0))), (999, 2, (.k (.arr 3686406 0))), (999, 3, (.k (.arr 3686407 0))), (999, 4, (.k (.ptr 149557250 0 0))), (38000, 0, (.k (.ptr 149557250 0 0)))], [(3686404, .arr 32 T31), (3686405, .arr 32 T31), (3686406, .arr 34 T33), (3686407, .arr 34 T33), (149557250, .cells (.pr (.pr (.pr (.v T45) (.k (.arr 3686404 0))) (.pr (.v T45) (.k (.arr 3686405 0)))) (.pr (.v .bool) (.pr (.k (.arr 3686406 0)) (.k (.arr 3686407 0))))))], [], 0⟩
abbrev engine_Engine_Y_s_o : List Out := [⟨.ret, ⟨[(999, 0, (.k (.arr 3686404 0))), (999, 1, (.k (.arr 3686405 0))), (999, 2, (.k (.arr 3686406 0))), (999, 3, (.k (.arr 3686407 0))), (999, 4, (.k (.ptr 149557250 0 0))), (38000, 2, (.k (.ptr 155648002 0 0)))], [(3686404, .arr 32 T31), (3686405, .arr 32 T31), (3686406, .arr 34 T33), (3686407, .arr 34 T33), (149557250, .cells (.pr (.pr (.pr (.v T45) (.k (.arr 3686404 0))) (.pr (.v T45) (.k (.arr 3686405 0)))) (.pr (.v .bool) (.pr (.k (.arr 3686406 0)) (.k (.arr 3686407 0)))))), (155648002, .cells (.v T45))], [], 0⟩⟩]
def engine_Engine_Y_s (k : Nat) (x : Mask.den engine_Engine_Y_s_i) : Option (denS engine_Engine_Y_s_o) :=
 (engine_copied k x.2.2.2.2.2.1.1.2.1).bind fun r1 =>
 some (Sum.inl (((), (), (), (), (), (), ()), (x.2.1, x.2.2.1, x.2.2.2.1, x.2.2.2.2.1, (((x.2.2.2.2.2.1.1.1.1, ()), (x.2.2.2.2.2.1.1.2.1, ())), (x.2.2.2.2.2.1.2.1, ((), ()))), r1.1, ())))
abbrev engine_Engine_Y_s_seg (k : Nat) : Seg := ⟨⟨38000, 10, false, [999], []⟩, 15, [], engine_Engine_Y_s_i, engine_Engine_Y_s_o, engine_Engine_Y_s k⟩
theorem engine_Engine_Y_s_seg.ok (k : Nat) : SegOK Tryz.prog (e103 k) (engine_Engine_Y_s_seg k) :=
 SegOK.of (e103.ok k) (by kernel_rfl) (S := engine_Engine_Y_s_seg k) 8 .n trivial (fun x => by kernel_rfl)
abbrev engine_Engine_Lost_s_i : Mask := ⟨[(999, 0, (.k (.arr 3686404 0))), (999, 1, (.k (.arr 3686405 0))), (999, 2, (.k (.arr 3686406 0))), (999, 3, (.k (.arr 3686407 0))), (999, 4, (.k (.ptr 149557250 0 0))), (39000, 0, (.k (.ptr 149557250 0 0)))], [(3686404, .arr 32 T31), (3686405, .arr 32 T31), (3686406, .arr 34 T33), (3686407, .arr 34 T33), (149557250, .cells (.pr (.pr (.pr (.v T45) (.k (.arr 3686404 0))) (.pr (.v T45) (.k (.arr 3686405 0)))) (.pr (.v .bool) (.pr (.k (.arr 3686406 0)) (.k (.arr 3686407 0))))))], [], 0⟩
abbrev engine_Engine_Lost_s_o : List Out := [⟨.ret, ⟨[(999, 0, (.k (.arr 3686404 0))), (999, 1, (.k (.arr 3686405 0))), (999, 2, (.k (.arr 3686406 0))), (999, 3, (.k (.arr 3686407 0))), (999, 4, (.k (.ptr 149557250 0 0))), (39000, 2, (.v .bool))], [(3686404, .arr 32 T31), (3686405, .arr 32 T31), (3686406, .arr 34 T33), (3686407, .arr 34 T33), (149557250, .cells (.pr (.pr (.pr (.v T45) (.k (.arr 3686404 0))) (.pr (.v T45) (.k (.arr 3686405 0)))) (.pr (.v .bool) (.pr (.k (.arr 3686406 0)) (.k (.arr 3686407 0))))))], [], 0⟩⟩]
def engine_Engine_Lost_s (k : Nat) (x : Mask.den engine_Engine_Lost_s_i) : Option (denS engine_Engine_Lost_s_o) :=
 bif x.2.2.2.2.2.1.2.1 then
 (tube_Empty k x.2.2.2.2.2.1.1.1.1).bind fun r1 =>
 bif r1.1 then
 some (Sum.inl (((), (), (), (), (), true, ()), (x.2.1, x.2.2.1, x.2.2.2.1, x.2.2.2.2.1, (((x.2.2.2.2.2.1.1.1.1, ()), (x.2.2.2.2.2.1.1.2.1, ())), (x.2.2.2.2.2.1.2.1, ((), ()))), ())))
 else
 (tube_Empty k x.2.2.2.2.2.1.1.2.1).bind fun r2 =>
 some (Sum.inl (((), (), (), (), (), r2.1, ()), (x.2.1, x.2.2.1, x.2.2.2.1, x.2.2.2.2.1, (((x.2.2.2.2.2.1.1.1.1, ()), (x.2.2.2.2.2.1.1.2.1, ())), (x.2.2.2.2.2.1.2.1, ((), ()))), ())))
 else
 some (Sum.inl (((), (), (), (), (), false, ()), (x.2.1, x.2.2.1, x.2.2.2.1, x.2.2.2.2.1, (((x.2.2.2.2.2.1.1.1.1, ()), (x.2.2.2.2.2.1.1.2.1, ())), (x.2.2.2.2.2.1.2.1, ((), ()))), ())))
abbrev engine_Engine_Lost_s_seg (k : Nat) : Seg := ⟨⟨39000, 25, false, [999], []⟩, 17, [], engine_Engine_Lost_s_i, engine_Engine_Lost_s_o, engine_Engine_Lost_s k⟩
theorem engine_Engine_Lost_s_seg.ok (k : Nat) : SegOK Tryz.prog (e103 k) (engine_Engine_Lost_s_seg k) :=
 SegOK.of (e103.ok k) (by kernel_rfl) (S := engine_Engine_Lost_s_seg k) 8 .n trivial (fun x => by kernel_rfl)
abbrev pelorustop_TopReplays_l0_i : Mask := ⟨[(0, 0, (.v T22)), (0, 4, (.k (.ptr 2101250 0 0))), (0, 5, (.v (.int .i64)))], [(2101250, .cells (.pr (.pr (.pr (.v T45) (.k (.arr 3686402 0))) (.pr (.v T45) (.k (.arr 3686403 0)))) (.pr (.v .bool) (.pr (.k (.arr 49152018 0)) (.k (.arr 45056030 0)))))), (3686402, .arr 32 T31), (3686403, .arr 32 T31), (45056030, .arr 34 T33), (49152018, .arr 34 T33)], [], 0⟩
abbrev pelorustop_TopReplays_l0_o : List Out := [⟨.exit 0, ⟨[(0, 4, (.k (.ptr 2101250 0 0)))], [(2101250, .cells (.pr (.pr (.pr (.v T45) (.k (.arr 3686402 0))) (.pr (.v T45) (.k (.arr 3686403 0)))) (.pr (.v .bool) (.pr (.k (.arr 49152018 0)) (.k (.arr 45056030 0)))))), (3686402, .arr 32 T31), (3686403, .arr 32 T31), (45056030, .arr 34 T33), (49152018, .arr 34 T33)], [], 0⟩⟩]
def pelorustop_TopReplays_l0 (k : Nat) : Nat -> Mask.den pelorustop_TopReplays_l0_i -> Option (denS pelorustop_TopReplays_l0_o)
| 0, _ => none
| m + 1, x =>
 bif (decide (x.1.2.2.1 < (x.1.1.length : Int))) then
 if 0 <= x.1.2.2.1 then (x.1.1[Int.toNat x.1.2.2.1]?).bind fun y8 =>
 (engine_Engine_Do_s k (((), (), y8, ()), ((((x.2.1.1.1.1, ()), (x.2.1.1.2.1, ())), (x.2.1.2.1, ((), ()))), x.2.2.1, x.2.2.2.1, x.2.2.2.2.1, x.2.2.2.2.2.1, ()))).bind fun q9 =>
 Sum.elim (fun z10 =>
 pelorustop_TopReplays_l0 k m ((x.1.1, (), (IntKind.i64.wrap (x.1.2.2.1 + 1)), ()), ((((z10.2.1.1.1.1, ()), (z10.2.1.1.2.1, ())), (z10.2.1.2.1, ((), ()))), z10.2.2.1, z10.2.2.2.1, z10.2.2.2.2.1, z10.2.2.2.2.2.1, ())))
 (fun q9' =>
 none) q9
 else none
 else
 some (Sum.inl (((), ()), ((((x.2.1.1.1.1, ()), (x.2.1.1.2.1, ())), (x.2.1.2.1, ((), ()))), x.2.2.1, x.2.2.2.1, x.2.2.2.2.1, x.2.2.2.2.2.1, ())))
abbrev pelorustop_TopReplays_l0_seg (k : Nat) : Seg := ⟨⟨0, 143, false, [], []⟩, 3, [.b, .s2, .s1, .s2, .s2, .s2, .s2], pelorustop_TopReplays_l0_i, pelorustop_TopReplays_l0_o, pelorustop_TopReplays_l0 k k⟩
theorem pelorustop_TopReplays_l0_seg.ok (k : Nat) : SegOK Tryz.prog (e103 k) (pelorustop_TopReplays_l0_seg k) :=
 SegOK.loop (e103.ok k) (by kernel_rfl) (S := pelorustop_TopReplays_l0_seg k) (c := atR (codeOf (e103 k) 3) [.l, .b, .s2, .s1, .s2, .s2, .s2, .s2]) (by kernel_rfl) (pelorustop_TopReplays_l0 k) k rfl (fun _ => rfl) 8 (.two .n (.two (.two (.seg 5 (engine_Engine_Do_s_seg k) [] [] .n) .n) .n)) ⟨trivial, ⟨⟨⟨(engine_Engine_Do_s_seg.ok k).env rfl rfl, trivial⟩, trivial⟩, trivial⟩⟩ (fun k' x => by kernel_rfl)
def pelorustop_TopReplays (k : Nat) (x0 : Ty.den T22) : Option (HL [.bool]) :=
 (pelorustop_awake k).bind fun r1 =>
 bif (!r1.1) then
 bif r1.1 then
 some (true, ())
 else
 some (false, ())
 else
 bif (decide ((x0.length : Int) > 24)) then
 bif r1.1 then
 some (true, ())
 else
 some (false, ())
 else
 (pelorustop_TopReplays_l0 k k ((x0, (), 0, ()), ((((((0, false, 0, 0), (false, (0, false, 0, 0), 0, false, 0, 0), []), ()), (((0, false, 0, 0), (false, (0, false, 0, 0), 0, false, 0, 0), []), ())), (false, ((), ()))), [], [], [], [], ()))).bind fun q11 =>
 Sum.elim (fun z12 =>
 (engine_Engine_Ops_s k (((), (), (), (), (), (), ()), ((((z12.2.1.1.1.1, ()), (z12.2.1.1.2.1, ())), (z12.2.1.2.1, ((), ()))), z12.2.2.1, z12.2.2.2.1, z12.2.2.2.2.1, z12.2.2.2.2.2.1, ()))).bind fun q13 =>
 Sum.elim (fun z14 =>
 (codec_Encode k z14.1.2.2.2.2.2.1).bind fun r15 =>
 (codec_Decode k r15.1).bind fun r16 =>
 (engine_Again_s k ((r16.1, ()), ())).bind fun q17 =>
 Sum.elim (fun z18 =>
 bif (r15.2.1 != 0) then
 some (false, ())
 else
 bif (r16.2.1 != 0) then
 some (false, ())
 else
 bif (z18.1.2.2.1 != 0) then
 some (false, ())
 else
 (engine_Engine_Ops_s k (((), (), (), (), (), (), ()), ((((z14.2.1.1.1.1, ()), (z14.2.1.1.2.1, ())), (z14.2.1.2.1, ((), ()))), z14.2.2.1, z14.2.2.2.1, z14.2.2.2.2.1, z14.2.2.2.2.2.1, ()))).bind fun q19 =>
 Sum.elim (fun z20 =>
 bif (z18.1.2.1 != (z20.1.2.2.2.2.2.1.length : Int)) then
 some (false, ())
 else
 (engine_Engine_X_s k (((), (), (), (), (), (), ()), ((((z20.2.1.1.1.1, ()), (z20.2.1.1.2.1, ())), (z20.2.1.2.1, ((), ()))), z20.2.2.1, z20.2.2.2.1, z20.2.2.2.2.1, z20.2.2.2.2.2.1, ()))).bind fun q21 =>
 Sum.elim (fun z22 =>
 (codec_EncodeTube k z22.2.2.2.2.2.2.1).bind fun r23 =>
 (codec_DecodeTube k r23.1).bind fun r24 =>
 (engine_Engine_X_s k (((), (), (), (), (), (), ()), ((((z18.2.2.2.2.2.1.1.1.1, ()), (z18.2.2.2.2.2.1.1.2.1, ())), (z18.2.2.2.2.2.1.2.1, ((), ()))), z18.2.1, z18.2.2.1, z18.2.2.2.2.1, z18.2.2.2.1, ()))).bind fun q25 =>
 Sum.elim (fun z26 =>
 (engine_Engine_X_s k (((), (), (), (), (), (), ()), ((((z22.2.1.1.1.1, ()), (z22.2.1.1.2.1, ())), (z22.2.1.2.1, ((), ()))), z22.2.2.1, z22.2.2.2.1, z22.2.2.2.2.1, z22.2.2.2.2.2.1, ()))).bind fun q27 =>
 Sum.elim (fun z28 =>
 (pelorusref17_Same k z26.2.2.2.2.2.2.1 z28.2.2.2.2.2.2.1).bind fun r29 =>
 (engine_Engine_Y_s k (((), (), (), (), (), (), ()), (z26.2.2.1, z26.2.2.2.1, z26.2.2.2.2.2.1, z26.2.2.2.2.1, (((z26.2.1.1.1.1, ()), (z26.2.1.1.2.1, ())), (z26.2.1.2.1, ((), ()))), ()))).bind fun q30 =>
 Sum.elim (fun z31 =>
 (engine_Engine_Y_s k (((), (), (), (), (), (), ()), (z28.2.2.1, z28.2.2.2.1, z28.2.2.2.2.2.1, z28.2.2.2.2.1, (((z28.2.1.1.1.1, ()), (z28.2.1.1.2.1, ())), (z28.2.1.2.1, ((), ()))), ()))).bind fun q32 =>
 Sum.elim (fun z33 =>
 (pelorusref17_Same k z31.2.2.2.2.2.2.1 z33.2.2.2.2.2.2.1).bind fun r34 =>
 (engine_Engine_X_s k (((), (), (), (), (), (), ()), ((((z33.2.2.2.2.2.1.1.1.1, ()), (z33.2.2.2.2.2.1.1.2.1, ())), (z33.2.2.2.2.2.1.2.1, ((), ()))), z33.2.1, z33.2.2.1, z33.2.2.2.2.1, z33.2.2.2.1, ()))).bind fun q35 =>
 Sum.elim (fun z36 =>
 (pelorusref17_Same k r24.1 z36.2.2.2.2.2.2.1).bind fun r37 =>
 (engine_Engine_Ops_s k (((), (), (), (), (), (), ()), ((((z36.2.1.1.1.1, ()), (z36.2.1.1.2.1, ())), (z36.2.1.2.1, ((), ()))), z36.2.2.1, z36.2.2.2.1, z36.2.2.2.2.1, z36.2.2.2.2.2.1, ()))).bind fun q38 =>
 Sum.elim (fun z39 =>
 (pelorusref23_Same k r16.1 z39.1.2.2.2.2.2.1).bind fun r40 =>
 bif r29.1 then
 bif r34.1 then
 bif r37.1 then
 bif r40.1 then
 bif (r23.2.1 == 0) then
 bif (r24.2.1 == 0) then
 (engine_Engine_Lost_s k (((), (), (), (), (), (), ()), (z31.2.1, z31.2.2.1, z31.2.2.2.1, z31.2.2.2.2.1, (((z31.2.2.2.2.2.1.1.1.1, ()), (z31.2.2.2.2.2.1.1.2.1, ())), (z31.2.2.2.2.2.1.2.1, ((), ()))), ()))).bind fun q41 =>
 Sum.elim (fun z42 =>
 (engine_Engine_Lost_s k (((), (), (), (), (), (), ()), (z39.2.2.1, z39.2.2.2.1, z39.2.2.2.2.2.1, z39.2.2.2.2.1, (((z39.2.1.1.1.1, ()), (z39.2.1.1.2.1, ())), (z39.2.1.2.1, ((), ()))), ()))).bind fun q43 =>
 Sum.elim (fun z44 =>
 some ((z42.1.2.2.2.2.2.1 == z44.1.2.2.2.2.2.1), ()))
 (fun q43' =>
 none) q43)
 (fun q41' =>
 none) q41
 else
 some (false, ())
 else
 some (false, ())
 else
 some (false, ())
 else
 some (false, ())
 else
 some (false, ())
 else
 some (false, ()))
 (fun q38' =>
 none) q38)
 (fun q35' =>
 none) q35)
 (fun q32' =>
 none) q32)
 (fun q30' =>
 none) q30)
 (fun q27' =>
 none) q27)
 (fun q25' =>
 none) q25)
 (fun q21' =>
 none) q21)
 (fun q19' =>
 none) q19)
 (fun q17' =>
 none) q17)
 (fun q13' =>
 none) q13)
 (fun q11' =>
 none) q11
theorem pelorustop_TopReplays.ok (k : Nat) : SpecOK Tryz.prog G0 3 ⟨[T22], [.bool], fun x => pelorustop_TopReplays k x.1⟩ :=
 evF_sound (E := (e103 k)) (fn := Tryz.f3) (e103.ok k) (by kernel_rfl) (by kernel_rfl) (by kernel_rfl) 8 (.two .n (.two .n (.two (.call 0 513 .n .n) (.two .n (.two (.two .n (.two (.use (pelorustop_TopReplays_l0_seg k)) .n)) (.two (.seg 1 (engine_Engine_Ops_s_seg k) [] [] .n) (.two .n (.two (.seg 1 (engine_Again_s_seg k) [] [] .n) (.two (.two (.seg 17 (engine_Engine_Ops_s_seg k) [] [] .n) .n) (.two (.seg 1 (engine_Engine_X_s_seg k) [] [] .n) (.two .n (.two (.seg 1 (engine_Engine_X_s_seg k) [(149557250, 2101250), (3686404, 3686402), (3686405, 3686403), (3686407, 45056030), (3686406, 49152018), (151552002, 900000000)] [] (.seg 3 (engine_Engine_X_s_seg k) [(151552002, 900000001)] [] .n)) (.two (.seg 1 (engine_Engine_Y_s_seg k) [] [] (.seg 3 (engine_Engine_Y_s_seg k) [(3686402, 3686404), (3686403, 3686405), (49152018, 3686406), (45056030, 3686407), (2101250, 149557250), (155648002, 900000002)] [] .n)) (.two (.seg 2 (engine_Engine_X_s_seg k) [(151552002, 900000003)] [(46, 15)] .n) (.two (.seg 2 (engine_Engine_Ops_s_seg k) [] [] .n) (.two (.seg 20 (engine_Engine_Lost_s_seg k) [] [] (.seg 22 (engine_Engine_Lost_s_seg k) [(3686402, 3686404), (3686403, 3686405), (49152018, 3686406), (45056030, 3686407), (2101250, 149557250)] [] .n)) .n)))))))))))))))) ⟨trivial, ⟨trivial, ⟨⟨trivial, trivial⟩, ⟨trivial, ⟨⟨trivial, ⟨(pelorustop_TopReplays_l0_seg.ok k), trivial⟩⟩, ⟨⟨(engine_Engine_Ops_s_seg.ok k).env rfl rfl, trivial⟩, ⟨trivial, ⟨⟨(engine_Again_s_seg.ok k).env rfl rfl, trivial⟩, ⟨⟨⟨(engine_Engine_Ops_s_seg.ok k).env rfl rfl, trivial⟩, trivial⟩, ⟨⟨(engine_Engine_X_s_seg.ok k).env rfl rfl, trivial⟩, ⟨trivial, ⟨⟨(engine_Engine_X_s_seg.ok k).env rfl rfl, ⟨(engine_Engine_X_s_seg.ok k).env rfl rfl, trivial⟩⟩, ⟨⟨(engine_Engine_Y_s_seg.ok k).env rfl rfl, ⟨(engine_Engine_Y_s_seg.ok k).env rfl rfl, trivial⟩⟩, ⟨⟨(engine_Engine_X_s_seg.ok k).env rfl rfl, trivial⟩, ⟨⟨(engine_Engine_Ops_s_seg.ok k).env rfl rfl, trivial⟩, ⟨⟨(engine_Engine_Lost_s_seg.ok k).env rfl rfl, ⟨(engine_Engine_Lost_s_seg.ok k).env rfl rfl, trivial⟩⟩, trivial⟩⟩⟩⟩⟩⟩⟩⟩⟩⟩⟩⟩⟩⟩⟩⟩ (fun xs => by kernel_rfl)
def e104 (k : Nat) : Env := (e103 k).add 3 ⟨[T22], [.bool], fun x => pelorustop_TopReplays k x.1⟩
theorem e104.ok (k : Nat) : (e104 k).OK Tryz.prog := (e103.ok k).add (pelorustop_TopReplays.ok k)
end
end Go.Proofs.YtliiapjinminlaaGreat.Rf
