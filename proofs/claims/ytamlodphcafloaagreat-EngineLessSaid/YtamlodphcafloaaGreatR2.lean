/- What each function of the program answers upon plain values, and that it does (part 2). No condition. -/
import Derived.Test.YtamlodphcafloaaGreatProg
import Derived.Test.YtamlodphcafloaaGreatR1
import Derived.KernelRfl
import Derived.Deep.Draws
import Derived.Tactics
import Derived.Tactics2
import Derived.WalkKit
import Derived.RowKit3
import Derived.Deep.QuietTactic
import Derived.WideLaws
import Derived.Laws.BitsLemmas
import Derived.OrdersHeld
import Derived.OwnWalk
import Derived.BigQuiet
import Derived.Laws.CopyRow
import Derived.Laws.CopyOwn
import Derived.Laws.MakeOwn
import Derived.Deep.RegionLaw
import Derived.LoopN
import Derived.Deep.DeepFit
namespace Go.Proofs.YtamlodphcafloaaGreat.Rf
open Go Go.Proofs Go.Proofs.YtamlodphcafloaaGreat
set_option linter.unusedVariables false
set_option linter.unusedSimpArgs false
set_option maxRecDepth 100000
noncomputable section
def flow_Contract_s_l4 (k : Nat) : Nat → Mask.den flow_Contract_s_l4_i → Option (denS flow_Contract_s_l4_o)
 | 0, _ => none
 | m + 1, x =>
  bif (decide (x.1.2.2.2.2.2.2.2.2.2.1 < x.1.2.2.2.2.2.2.2.2.1)) then
   bif (!x.2.2.2.2.2.2.2.1) then
    (flow_Time k (x.2.2.1.1, x.2.2.1.2.1, x.2.2.2.2.1) (IntKind.i64.wrap ((IntKind.i64.wrap ((x.2.2.2.2.1.length : Int) - 1)) - x.1.2.2.2.2.2.2.2.2.2.1))).bind fun r44 =>
    if 0 ≤ (IntKind.i64.wrap ((IntKind.i64.wrap ((x.2.2.2.2.1.length : Int) - 1)) - x.1.2.2.2.2.2.2.2.2.2.1)) then (x.2.2.2.2.1[Int.toNat (IntKind.i64.wrap ((IntKind.i64.wrap ((x.2.2.2.2.1.length : Int) - 1)) - x.1.2.2.2.2.2.2.2.2.2.1))]?).bind fun _ =>
     if 0 ≤ (IntKind.i64.wrap ((IntKind.i64.wrap ((x.2.2.2.2.1.length : Int) - 1)) - x.1.2.2.2.2.2.2.2.2.2.1)) then (x.2.2.2.2.1[Int.toNat (IntKind.i64.wrap ((IntKind.i64.wrap ((x.2.2.2.2.1.length : Int) - 1)) - x.1.2.2.2.2.2.2.2.2.2.1))]?).bind fun _ =>
      if 0 ≤ (IntKind.i64.wrap ((IntKind.i64.wrap ((x.2.2.2.2.1.length : Int) - 1)) - x.1.2.2.2.2.2.2.2.2.2.1)) then (x.2.1[Int.toNat (IntKind.i64.wrap ((IntKind.i64.wrap ((x.2.2.2.2.1.length : Int) - 1)) - x.1.2.2.2.2.2.2.2.2.2.1))]?).bind fun _ =>
       (x.2.1[(Int.toNat (IntKind.i64.wrap ((IntKind.i64.wrap ((x.2.2.2.2.1.length : Int) - 1)) - x.1.2.2.2.2.2.2.2.2.2.1)))]?).bind fun y48 =>
       (ivop_Mul k y48 r44.1).bind fun r49 =>
       if 0 ≤ (IntKind.i64.wrap ((IntKind.i64.wrap ((x.2.2.2.2.1.length : Int) - 1)) - x.1.2.2.2.2.2.2.2.2.2.1)) then (x.2.1[Int.toNat (IntKind.i64.wrap ((IntKind.i64.wrap ((x.2.2.2.2.1.length : Int) - 1)) - x.1.2.2.2.2.2.2.2.2.2.1))]?).bind fun _ =>
        (x.2.1[(Int.toNat (IntKind.i64.wrap ((IntKind.i64.wrap ((x.2.2.2.2.1.length : Int) - 1)) - x.1.2.2.2.2.2.2.2.2.2.1)))]?).bind fun y51 =>
        (iv_Make k (0, false, 0, 0) r44.1.2.2).bind fun r52 =>
        (ivop_Mul k y51 r52.1).bind fun r53 =>
        bif (decide ((IntKind.i64.wrap ((IntKind.i64.wrap ((x.2.2.2.2.1.length : Int) - 1)) - x.1.2.2.2.2.2.2.2.2.2.1)) > 0)) then
         if 0 ≤ (IntKind.i64.wrap ((IntKind.i64.wrap ((IntKind.i64.wrap ((x.2.2.2.2.1.length : Int) - 1)) - x.1.2.2.2.2.2.2.2.2.2.1)) - 1)) then (x.2.2.2.2.1[Int.toNat (IntKind.i64.wrap ((IntKind.i64.wrap ((IntKind.i64.wrap ((x.2.2.2.2.1.length : Int) - 1)) - x.1.2.2.2.2.2.2.2.2.2.1)) - 1))]?).bind fun _ =>
          (x.2.2.2.2.1[(Int.toNat (IntKind.i64.wrap ((IntKind.i64.wrap ((x.2.2.2.2.1.length : Int) - 1)) - x.1.2.2.2.2.2.2.2.2.2.1)))]?).bind fun y55 =>
          (x.2.2.2.2.1[(Int.toNat (IntKind.i64.wrap ((IntKind.i64.wrap ((IntKind.i64.wrap ((x.2.2.2.2.1.length : Int) - 1)) - x.1.2.2.2.2.2.2.2.2.2.1)) - 1)))]?).bind fun y56 =>
          (ivop_Add k [y56.2.2, r49.1]).bind fun r57 =>
          (iv_Meet k [y55.2.2, r57.1]).bind fun r58 =>
          (x.2.2.2.2.1[(Int.toNat (IntKind.i64.wrap ((IntKind.i64.wrap ((x.2.2.2.2.1.length : Int) - 1)) - x.1.2.2.2.2.2.2.2.2.2.1)))]?).bind fun y59 =>
          ((x.2.2.2.2.1.set (Int.toNat (IntKind.i64.wrap ((IntKind.i64.wrap ((x.2.2.2.2.1.length : Int) - 1)) - x.1.2.2.2.2.2.2.2.2.2.1))) (y59.1, y59.2.1, r58.1))[(Int.toNat (IntKind.i64.wrap ((IntKind.i64.wrap ((x.2.2.2.2.1.length : Int) - 1)) - x.1.2.2.2.2.2.2.2.2.2.1)))]?).bind fun y60 =>
          ((x.2.2.2.2.1.set (Int.toNat (IntKind.i64.wrap ((IntKind.i64.wrap ((x.2.2.2.2.1.length : Int) - 1)) - x.1.2.2.2.2.2.2.2.2.2.1))) (y59.1, y59.2.1, r58.1))[(Int.toNat (IntKind.i64.wrap ((IntKind.i64.wrap ((IntKind.i64.wrap ((x.2.2.2.2.1.length : Int) - 1)) - x.1.2.2.2.2.2.2.2.2.2.1)) - 1)))]?).bind fun y61 =>
          (ivop_Add k [y61.2.2, r53.1]).bind fun r62 =>
          (iv_Meet k [y60.2.1, r62.1]).bind fun r63 =>
          ((x.2.2.2.2.1.set (Int.toNat (IntKind.i64.wrap ((IntKind.i64.wrap ((x.2.2.2.2.1.length : Int) - 1)) - x.1.2.2.2.2.2.2.2.2.2.1))) (y59.1, y59.2.1, r58.1))[(Int.toNat (IntKind.i64.wrap ((IntKind.i64.wrap ((x.2.2.2.2.1.length : Int) - 1)) - x.1.2.2.2.2.2.2.2.2.2.1)))]?).bind fun y64 =>
          flow_Contract_s_l4 k m (((), (), (), (), (), (), (), (), x.1.2.2.2.2.2.2.2.2.1, (IntKind.i64.wrap (x.1.2.2.2.2.2.2.2.2.2.1 + 1)), ()), (x.2.1, (x.2.2.1.1, (x.2.2.1.2.1, ())), (x.2.2.2.1.1, (x.2.2.2.1.2.1, x.2.2.2.1.2.2)), ((x.2.2.2.2.1.set (Int.toNat (IntKind.i64.wrap ((IntKind.i64.wrap ((x.2.2.2.2.1.length : Int) - 1)) - x.1.2.2.2.2.2.2.2.2.2.1))) (y59.1, y59.2.1, r58.1)).set (Int.toNat (IntKind.i64.wrap ((IntKind.i64.wrap ((x.2.2.2.2.1.length : Int) - 1)) - x.1.2.2.2.2.2.2.2.2.2.1))) (y64.1, r63.1, y64.2.2)), (), (), x.2.2.2.2.2.2.2.1, ()))
         else none
        else
         (x.2.2.2.2.1[(Int.toNat (IntKind.i64.wrap ((IntKind.i64.wrap ((x.2.2.2.2.1.length : Int) - 1)) - x.1.2.2.2.2.2.2.2.2.2.1)))]?).bind fun y65 =>
         (ivop_Add k [x.2.2.1.2.1, r49.1]).bind fun r66 =>
         (iv_Meet k [y65.2.2, r66.1]).bind fun r67 =>
         (x.2.2.2.2.1[(Int.toNat (IntKind.i64.wrap ((IntKind.i64.wrap ((x.2.2.2.2.1.length : Int) - 1)) - x.1.2.2.2.2.2.2.2.2.2.1)))]?).bind fun y68 =>
         ((x.2.2.2.2.1.set (Int.toNat (IntKind.i64.wrap ((IntKind.i64.wrap ((x.2.2.2.2.1.length : Int) - 1)) - x.1.2.2.2.2.2.2.2.2.2.1))) (y68.1, y68.2.1, r67.1))[(Int.toNat (IntKind.i64.wrap ((IntKind.i64.wrap ((x.2.2.2.2.1.length : Int) - 1)) - x.1.2.2.2.2.2.2.2.2.2.1)))]?).bind fun y69 =>
         (ivop_Add k [x.2.2.1.2.1, r53.1]).bind fun r70 =>
         (iv_Meet k [y69.2.1, r70.1]).bind fun r71 =>
         ((x.2.2.2.2.1.set (Int.toNat (IntKind.i64.wrap ((IntKind.i64.wrap ((x.2.2.2.2.1.length : Int) - 1)) - x.1.2.2.2.2.2.2.2.2.2.1))) (y68.1, y68.2.1, r67.1))[(Int.toNat (IntKind.i64.wrap ((IntKind.i64.wrap ((x.2.2.2.2.1.length : Int) - 1)) - x.1.2.2.2.2.2.2.2.2.2.1)))]?).bind fun y72 =>
         flow_Contract_s_l4 k m (((), (), (), (), (), (), (), (), x.1.2.2.2.2.2.2.2.2.1, (IntKind.i64.wrap (x.1.2.2.2.2.2.2.2.2.2.1 + 1)), ()), (x.2.1, (x.2.2.1.1, (x.2.2.1.2.1, ())), (x.2.2.2.1.1, (x.2.2.2.1.2.1, x.2.2.2.1.2.2)), ((x.2.2.2.2.1.set (Int.toNat (IntKind.i64.wrap ((IntKind.i64.wrap ((x.2.2.2.2.1.length : Int) - 1)) - x.1.2.2.2.2.2.2.2.2.2.1))) (y68.1, y68.2.1, r67.1)).set (Int.toNat (IntKind.i64.wrap ((IntKind.i64.wrap ((x.2.2.2.2.1.length : Int) - 1)) - x.1.2.2.2.2.2.2.2.2.2.1))) (y72.1, r71.1, y72.2.2)), (), (), x.2.2.2.2.2.2.2.1, ()))
       else none
      else none
     else none
    else none
   else
    (flow_Time k (x.2.2.1.1, x.2.2.1.2.1, x.2.2.2.2.1) x.1.2.2.2.2.2.2.2.2.2.1).bind fun r73 =>
    if 0 ≤ x.1.2.2.2.2.2.2.2.2.2.1 then (x.2.2.2.2.1[Int.toNat x.1.2.2.2.2.2.2.2.2.2.1]?).bind fun _ =>
     if 0 ≤ x.1.2.2.2.2.2.2.2.2.2.1 then (x.2.2.2.2.1[Int.toNat x.1.2.2.2.2.2.2.2.2.2.1]?).bind fun _ =>
      if 0 ≤ x.1.2.2.2.2.2.2.2.2.2.1 then (x.2.1[Int.toNat x.1.2.2.2.2.2.2.2.2.2.1]?).bind fun _ =>
       (x.2.1[(Int.toNat x.1.2.2.2.2.2.2.2.2.2.1)]?).bind fun y77 =>
       (ivop_Mul k y77 r73.1).bind fun r78 =>
       if 0 ≤ x.1.2.2.2.2.2.2.2.2.2.1 then (x.2.1[Int.toNat x.1.2.2.2.2.2.2.2.2.2.1]?).bind fun _ =>
        (x.2.1[(Int.toNat x.1.2.2.2.2.2.2.2.2.2.1)]?).bind fun y80 =>
        (iv_Make k (0, false, 0, 0) r73.1.2.2).bind fun r81 =>
        (ivop_Mul k y80 r81.1).bind fun r82 =>
        bif (decide (x.1.2.2.2.2.2.2.2.2.2.1 > 0)) then
         if 0 ≤ (IntKind.i64.wrap (x.1.2.2.2.2.2.2.2.2.2.1 - 1)) then (x.2.2.2.2.1[Int.toNat (IntKind.i64.wrap (x.1.2.2.2.2.2.2.2.2.2.1 - 1))]?).bind fun _ =>
          (x.2.2.2.2.1[(Int.toNat x.1.2.2.2.2.2.2.2.2.2.1)]?).bind fun y84 =>
          (x.2.2.2.2.1[(Int.toNat (IntKind.i64.wrap (x.1.2.2.2.2.2.2.2.2.2.1 - 1)))]?).bind fun y85 =>
          (ivop_Add k [y85.2.2, r78.1]).bind fun r86 =>
          (iv_Meet k [y84.2.2, r86.1]).bind fun r87 =>
          (x.2.2.2.2.1[(Int.toNat x.1.2.2.2.2.2.2.2.2.2.1)]?).bind fun y88 =>
          ((x.2.2.2.2.1.set (Int.toNat x.1.2.2.2.2.2.2.2.2.2.1) (y88.1, y88.2.1, r87.1))[(Int.toNat x.1.2.2.2.2.2.2.2.2.2.1)]?).bind fun y89 =>
          ((x.2.2.2.2.1.set (Int.toNat x.1.2.2.2.2.2.2.2.2.2.1) (y88.1, y88.2.1, r87.1))[(Int.toNat (IntKind.i64.wrap (x.1.2.2.2.2.2.2.2.2.2.1 - 1)))]?).bind fun y90 =>
          (ivop_Add k [y90.2.2, r82.1]).bind fun r91 =>
          (iv_Meet k [y89.2.1, r91.1]).bind fun r92 =>
          ((x.2.2.2.2.1.set (Int.toNat x.1.2.2.2.2.2.2.2.2.2.1) (y88.1, y88.2.1, r87.1))[(Int.toNat x.1.2.2.2.2.2.2.2.2.2.1)]?).bind fun y93 =>
          flow_Contract_s_l4 k m (((), (), (), (), (), (), (), (), x.1.2.2.2.2.2.2.2.2.1, (IntKind.i64.wrap (x.1.2.2.2.2.2.2.2.2.2.1 + 1)), ()), (x.2.1, (x.2.2.1.1, (x.2.2.1.2.1, ())), (x.2.2.2.1.1, (x.2.2.2.1.2.1, x.2.2.2.1.2.2)), ((x.2.2.2.2.1.set (Int.toNat x.1.2.2.2.2.2.2.2.2.2.1) (y88.1, y88.2.1, r87.1)).set (Int.toNat x.1.2.2.2.2.2.2.2.2.2.1) (y93.1, r92.1, y93.2.2)), (), (), x.2.2.2.2.2.2.2.1, ()))
         else none
        else
         (x.2.2.2.2.1[(Int.toNat x.1.2.2.2.2.2.2.2.2.2.1)]?).bind fun y94 =>
         (ivop_Add k [x.2.2.1.2.1, r78.1]).bind fun r95 =>
         (iv_Meet k [y94.2.2, r95.1]).bind fun r96 =>
         (x.2.2.2.2.1[(Int.toNat x.1.2.2.2.2.2.2.2.2.2.1)]?).bind fun y97 =>
         ((x.2.2.2.2.1.set (Int.toNat x.1.2.2.2.2.2.2.2.2.2.1) (y97.1, y97.2.1, r96.1))[(Int.toNat x.1.2.2.2.2.2.2.2.2.2.1)]?).bind fun y98 =>
         (ivop_Add k [x.2.2.1.2.1, r82.1]).bind fun r99 =>
         (iv_Meet k [y98.2.1, r99.1]).bind fun r100 =>
         ((x.2.2.2.2.1.set (Int.toNat x.1.2.2.2.2.2.2.2.2.2.1) (y97.1, y97.2.1, r96.1))[(Int.toNat x.1.2.2.2.2.2.2.2.2.2.1)]?).bind fun y101 =>
         flow_Contract_s_l4 k m (((), (), (), (), (), (), (), (), x.1.2.2.2.2.2.2.2.2.1, (IntKind.i64.wrap (x.1.2.2.2.2.2.2.2.2.2.1 + 1)), ()), (x.2.1, (x.2.2.1.1, (x.2.2.1.2.1, ())), (x.2.2.2.1.1, (x.2.2.2.1.2.1, x.2.2.2.1.2.2)), ((x.2.2.2.2.1.set (Int.toNat x.1.2.2.2.2.2.2.2.2.2.1) (y97.1, y97.2.1, r96.1)).set (Int.toNat x.1.2.2.2.2.2.2.2.2.2.1) (y101.1, r100.1, y101.2.2)), (), (), x.2.2.2.2.2.2.2.1, ()))
       else none
      else none
     else none
    else none
  else
   some (Sum.inl (((), (), (), (), ()), (x.2.1, (x.2.2.1.1, (x.2.2.1.2.1, ())), (x.2.2.2.1.1, (x.2.2.2.1.2.1, x.2.2.2.1.2.2)), x.2.2.2.2.1, ())))
abbrev flow_Contract_s_l4_seg (k : Nat) : Seg := ⟨⟨23005, 82, false, [23000, 999], [⟨1, 23000, 102, 89, [.b, .s2, .s1, .s2, .s2, .s2, .s2]⟩]⟩, 156, [.b, .s2], flow_Contract_s_l4_i, flow_Contract_s_l4_o, flow_Contract_s_l4 k k⟩
theorem flow_Contract_s_l4_seg.ok (k : Nat) : SegOK Tryz.prog (e99 k) (flow_Contract_s_l4_seg k) :=
 SegOK.loop (e99.ok k) (by kernel_rfl) (S := flow_Contract_s_l4_seg k) (c := atR (codeOf (e99 k) 156) [.l, .b, .s2]) (by kernel_rfl) (flow_Contract_s_l4 k) k rfl (fun _ => rfl) 8 (.two .n (.two .n (.two (.two (.two .n (.two .n (.two .n (.two .n (.two .n (.two .n (.two (.call 2 23011 .n .n) .n))))))) .n) .n))) ⟨trivial, ⟨trivial, ⟨⟨⟨trivial, ⟨trivial, ⟨trivial, ⟨trivial, ⟨trivial, ⟨trivial, ⟨⟨trivial, trivial⟩, trivial⟩⟩⟩⟩⟩⟩⟩, trivial⟩, trivial⟩⟩⟩ (fun k' x => by kernel_rfl)
abbrev flow_Contract_s_l5_i : Mask := ⟨[(999, 0, (.k (.arr 3686401 0))), (23000, 2, (.k (.ptr 94208002 0 0))), (23000, 4, (.k (.ptr 94208004 0 0))), (23013, 0, (.k (.yld 2))), (23013, 1, (.k (.ptr 96354307 0 0))), (23013, 2, (.k (.ptr 96354309 0 0))), (23013, 3, (.k (.ptr 96354308 0 0))), (23013, 13, (.v (.int .i64))), (23013, 14, (.v (.int .i64)))], [(3686401, .arr 32 T31), (94208002, .cells (.pr (.v T24) (.pr (.v T31) (.k (.arr 94208027 0))))), (94208004, .cells (.pr (.v T24) (.pr (.v T31) (.v T33)))), (94208027, .arr 65 T64), (96354307, .cells (.k (.ptr 94208002 0 0))), (96354308, .cells (.k (.arr 3686401 0))), (96354309, .cells (.v .bool))], [], 3⟩
abbrev flow_Contract_s_l5_o : List Out := [⟨.exit 0, ⟨[(999, 0, (.k (.arr 3686401 0))), (23000, 2, (.k (.ptr 94208002 0 0))), (23000, 4, (.k (.ptr 94208004 0 0)))], [(3686401, .arr 32 T31), (94208002, .cells (.pr (.v T24) (.pr (.v T31) (.k (.arr 94208027 0))))), (94208004, .cells (.pr (.v T24) (.pr (.v T31) (.v T33)))), (94208027, .arr 65 T64)], [], 3⟩⟩]
def flow_Contract_s_l5 (k : Nat) : Nat → Mask.den flow_Contract_s_l5_i → Option (denS flow_Contract_s_l5_o)
 | 0, _ => none
 | m + 1, x =>
  bif (decide (x.1.2.2.2.2.2.2.2.2.1 < x.1.2.2.2.2.2.2.2.1)) then
   bif (!x.2.2.2.2.2.2.2.1) then
    (flow_Time k (x.2.2.1.1, x.2.2.1.2.1, x.2.2.2.2.1) (IntKind.i64.wrap ((IntKind.i64.wrap ((x.2.2.2.2.1.length : Int) - 1)) - x.1.2.2.2.2.2.2.2.2.1))).bind fun r106 =>
    if 0 ≤ (IntKind.i64.wrap ((IntKind.i64.wrap ((x.2.2.2.2.1.length : Int) - 1)) - x.1.2.2.2.2.2.2.2.2.1)) then (x.2.2.2.2.1[Int.toNat (IntKind.i64.wrap ((IntKind.i64.wrap ((x.2.2.2.2.1.length : Int) - 1)) - x.1.2.2.2.2.2.2.2.2.1))]?).bind fun _ =>
     if 0 ≤ (IntKind.i64.wrap ((IntKind.i64.wrap ((x.2.2.2.2.1.length : Int) - 1)) - x.1.2.2.2.2.2.2.2.2.1)) then (x.2.2.2.2.1[Int.toNat (IntKind.i64.wrap ((IntKind.i64.wrap ((x.2.2.2.2.1.length : Int) - 1)) - x.1.2.2.2.2.2.2.2.2.1))]?).bind fun _ =>
      if 0 ≤ (IntKind.i64.wrap ((IntKind.i64.wrap ((x.2.2.2.2.1.length : Int) - 1)) - x.1.2.2.2.2.2.2.2.2.1)) then (x.2.1[Int.toNat (IntKind.i64.wrap ((IntKind.i64.wrap ((x.2.2.2.2.1.length : Int) - 1)) - x.1.2.2.2.2.2.2.2.2.1))]?).bind fun _ =>
       (x.2.1[(Int.toNat (IntKind.i64.wrap ((IntKind.i64.wrap ((x.2.2.2.2.1.length : Int) - 1)) - x.1.2.2.2.2.2.2.2.2.1)))]?).bind fun y110 =>
       (ivop_Mul k y110 r106.1).bind fun r111 =>
       if 0 ≤ (IntKind.i64.wrap ((IntKind.i64.wrap ((x.2.2.2.2.1.length : Int) - 1)) - x.1.2.2.2.2.2.2.2.2.1)) then (x.2.1[Int.toNat (IntKind.i64.wrap ((IntKind.i64.wrap ((x.2.2.2.2.1.length : Int) - 1)) - x.1.2.2.2.2.2.2.2.2.1))]?).bind fun _ =>
        (x.2.1[(Int.toNat (IntKind.i64.wrap ((IntKind.i64.wrap ((x.2.2.2.2.1.length : Int) - 1)) - x.1.2.2.2.2.2.2.2.2.1)))]?).bind fun y113 =>
        (iv_Make k (0, false, 0, 0) r106.1.2.2).bind fun r114 =>
        (ivop_Mul k y113 r114.1).bind fun r115 =>
        bif (decide ((IntKind.i64.wrap ((IntKind.i64.wrap ((x.2.2.2.2.1.length : Int) - 1)) - x.1.2.2.2.2.2.2.2.2.1)) > 0)) then
         if 0 ≤ (IntKind.i64.wrap ((IntKind.i64.wrap ((IntKind.i64.wrap ((x.2.2.2.2.1.length : Int) - 1)) - x.1.2.2.2.2.2.2.2.2.1)) - 1)) then (x.2.2.2.2.1[Int.toNat (IntKind.i64.wrap ((IntKind.i64.wrap ((IntKind.i64.wrap ((x.2.2.2.2.1.length : Int) - 1)) - x.1.2.2.2.2.2.2.2.2.1)) - 1))]?).bind fun _ =>
          (x.2.2.2.2.1[(Int.toNat (IntKind.i64.wrap ((IntKind.i64.wrap ((IntKind.i64.wrap ((x.2.2.2.2.1.length : Int) - 1)) - x.1.2.2.2.2.2.2.2.2.1)) - 1)))]?).bind fun y117 =>
          (x.2.2.2.2.1[(Int.toNat (IntKind.i64.wrap ((IntKind.i64.wrap ((x.2.2.2.2.1.length : Int) - 1)) - x.1.2.2.2.2.2.2.2.2.1)))]?).bind fun y118 =>
          (ivop_Sub k y118.2.2 r111.1).bind fun r119 =>
          (iv_Meet k [y117.2.2, r119.1]).bind fun r120 =>
          (x.2.2.2.2.1[(Int.toNat (IntKind.i64.wrap ((IntKind.i64.wrap ((IntKind.i64.wrap ((x.2.2.2.2.1.length : Int) - 1)) - x.1.2.2.2.2.2.2.2.2.1)) - 1)))]?).bind fun y121 =>
          ((x.2.2.2.2.1.set (Int.toNat (IntKind.i64.wrap ((IntKind.i64.wrap ((IntKind.i64.wrap ((x.2.2.2.2.1.length : Int) - 1)) - x.1.2.2.2.2.2.2.2.2.1)) - 1))) (y121.1, y121.2.1, r120.1))[(Int.toNat (IntKind.i64.wrap ((IntKind.i64.wrap ((x.2.2.2.2.1.length : Int) - 1)) - x.1.2.2.2.2.2.2.2.2.1)))]?).bind fun y122 =>
          ((x.2.2.2.2.1.set (Int.toNat (IntKind.i64.wrap ((IntKind.i64.wrap ((IntKind.i64.wrap ((x.2.2.2.2.1.length : Int) - 1)) - x.1.2.2.2.2.2.2.2.2.1)) - 1))) (y121.1, y121.2.1, r120.1))[(Int.toNat (IntKind.i64.wrap ((IntKind.i64.wrap ((x.2.2.2.2.1.length : Int) - 1)) - x.1.2.2.2.2.2.2.2.2.1)))]?).bind fun y123 =>
          (ivop_Sub k y123.2.2 r115.1).bind fun r124 =>
          (iv_Meet k [y122.2.1, r124.1]).bind fun r125 =>
          ((x.2.2.2.2.1.set (Int.toNat (IntKind.i64.wrap ((IntKind.i64.wrap ((IntKind.i64.wrap ((x.2.2.2.2.1.length : Int) - 1)) - x.1.2.2.2.2.2.2.2.2.1)) - 1))) (y121.1, y121.2.1, r120.1))[(Int.toNat (IntKind.i64.wrap ((IntKind.i64.wrap ((x.2.2.2.2.1.length : Int) - 1)) - x.1.2.2.2.2.2.2.2.2.1)))]?).bind fun y126 =>
          flow_Contract_s_l5 k m (((), (), (), (), (), (), (), x.1.2.2.2.2.2.2.2.1, (IntKind.i64.wrap (x.1.2.2.2.2.2.2.2.2.1 + 1)), ()), (x.2.1, (x.2.2.1.1, (x.2.2.1.2.1, ())), (x.2.2.2.1.1, (x.2.2.2.1.2.1, x.2.2.2.1.2.2)), ((x.2.2.2.2.1.set (Int.toNat (IntKind.i64.wrap ((IntKind.i64.wrap ((IntKind.i64.wrap ((x.2.2.2.2.1.length : Int) - 1)) - x.1.2.2.2.2.2.2.2.2.1)) - 1))) (y121.1, y121.2.1, r120.1)).set (Int.toNat (IntKind.i64.wrap ((IntKind.i64.wrap ((x.2.2.2.2.1.length : Int) - 1)) - x.1.2.2.2.2.2.2.2.2.1))) (y126.1, r125.1, y126.2.2)), (), (), x.2.2.2.2.2.2.2.1, ()))
         else none
        else
         (x.2.2.2.2.1[(Int.toNat (IntKind.i64.wrap ((IntKind.i64.wrap ((x.2.2.2.2.1.length : Int) - 1)) - x.1.2.2.2.2.2.2.2.2.1)))]?).bind fun y127 =>
         (ivop_Sub k y127.2.2 r111.1).bind fun r128 =>
         (iv_Meet k [x.2.2.1.2.1, r128.1]).bind fun r129 =>
         (x.2.2.2.2.1[(Int.toNat (IntKind.i64.wrap ((IntKind.i64.wrap ((x.2.2.2.2.1.length : Int) - 1)) - x.1.2.2.2.2.2.2.2.2.1)))]?).bind fun y130 =>
         (x.2.2.2.2.1[(Int.toNat (IntKind.i64.wrap ((IntKind.i64.wrap ((x.2.2.2.2.1.length : Int) - 1)) - x.1.2.2.2.2.2.2.2.2.1)))]?).bind fun y131 =>
         (ivop_Sub k y131.2.2 r115.1).bind fun r132 =>
         (iv_Meet k [y130.2.1, r132.1]).bind fun r133 =>
         (x.2.2.2.2.1[(Int.toNat (IntKind.i64.wrap ((IntKind.i64.wrap ((x.2.2.2.2.1.length : Int) - 1)) - x.1.2.2.2.2.2.2.2.2.1)))]?).bind fun y134 =>
         flow_Contract_s_l5 k m (((), (), (), (), (), (), (), x.1.2.2.2.2.2.2.2.1, (IntKind.i64.wrap (x.1.2.2.2.2.2.2.2.2.1 + 1)), ()), (x.2.1, (x.2.2.1.1, (r129.1, ())), (x.2.2.2.1.1, (x.2.2.2.1.2.1, x.2.2.2.1.2.2)), (x.2.2.2.2.1.set (Int.toNat (IntKind.i64.wrap ((IntKind.i64.wrap ((x.2.2.2.2.1.length : Int) - 1)) - x.1.2.2.2.2.2.2.2.2.1))) (y134.1, r133.1, y134.2.2)), (), (), x.2.2.2.2.2.2.2.1, ()))
       else none
      else none
     else none
    else none
   else
    (flow_Time k (x.2.2.1.1, x.2.2.1.2.1, x.2.2.2.2.1) x.1.2.2.2.2.2.2.2.2.1).bind fun r135 =>
    if 0 ≤ x.1.2.2.2.2.2.2.2.2.1 then (x.2.2.2.2.1[Int.toNat x.1.2.2.2.2.2.2.2.2.1]?).bind fun _ =>
     if 0 ≤ x.1.2.2.2.2.2.2.2.2.1 then (x.2.2.2.2.1[Int.toNat x.1.2.2.2.2.2.2.2.2.1]?).bind fun _ =>
      if 0 ≤ x.1.2.2.2.2.2.2.2.2.1 then (x.2.1[Int.toNat x.1.2.2.2.2.2.2.2.2.1]?).bind fun _ =>
       (x.2.1[(Int.toNat x.1.2.2.2.2.2.2.2.2.1)]?).bind fun y139 =>
       (ivop_Mul k y139 r135.1).bind fun r140 =>
       if 0 ≤ x.1.2.2.2.2.2.2.2.2.1 then (x.2.1[Int.toNat x.1.2.2.2.2.2.2.2.2.1]?).bind fun _ =>
        (x.2.1[(Int.toNat x.1.2.2.2.2.2.2.2.2.1)]?).bind fun y142 =>
        (iv_Make k (0, false, 0, 0) r135.1.2.2).bind fun r143 =>
        (ivop_Mul k y142 r143.1).bind fun r144 =>
        bif (decide (x.1.2.2.2.2.2.2.2.2.1 > 0)) then
         if 0 ≤ (IntKind.i64.wrap (x.1.2.2.2.2.2.2.2.2.1 - 1)) then (x.2.2.2.2.1[Int.toNat (IntKind.i64.wrap (x.1.2.2.2.2.2.2.2.2.1 - 1))]?).bind fun _ =>
          (x.2.2.2.2.1[(Int.toNat (IntKind.i64.wrap (x.1.2.2.2.2.2.2.2.2.1 - 1)))]?).bind fun y146 =>
          (x.2.2.2.2.1[(Int.toNat x.1.2.2.2.2.2.2.2.2.1)]?).bind fun y147 =>
          (ivop_Sub k y147.2.2 r140.1).bind fun r148 =>
          (iv_Meet k [y146.2.2, r148.1]).bind fun r149 =>
          (x.2.2.2.2.1[(Int.toNat (IntKind.i64.wrap (x.1.2.2.2.2.2.2.2.2.1 - 1)))]?).bind fun y150 =>
          ((x.2.2.2.2.1.set (Int.toNat (IntKind.i64.wrap (x.1.2.2.2.2.2.2.2.2.1 - 1))) (y150.1, y150.2.1, r149.1))[(Int.toNat x.1.2.2.2.2.2.2.2.2.1)]?).bind fun y151 =>
          ((x.2.2.2.2.1.set (Int.toNat (IntKind.i64.wrap (x.1.2.2.2.2.2.2.2.2.1 - 1))) (y150.1, y150.2.1, r149.1))[(Int.toNat x.1.2.2.2.2.2.2.2.2.1)]?).bind fun y152 =>
          (ivop_Sub k y152.2.2 r144.1).bind fun r153 =>
          (iv_Meet k [y151.2.1, r153.1]).bind fun r154 =>
          ((x.2.2.2.2.1.set (Int.toNat (IntKind.i64.wrap (x.1.2.2.2.2.2.2.2.2.1 - 1))) (y150.1, y150.2.1, r149.1))[(Int.toNat x.1.2.2.2.2.2.2.2.2.1)]?).bind fun y155 =>
          flow_Contract_s_l5 k m (((), (), (), (), (), (), (), x.1.2.2.2.2.2.2.2.1, (IntKind.i64.wrap (x.1.2.2.2.2.2.2.2.2.1 + 1)), ()), (x.2.1, (x.2.2.1.1, (x.2.2.1.2.1, ())), (x.2.2.2.1.1, (x.2.2.2.1.2.1, x.2.2.2.1.2.2)), ((x.2.2.2.2.1.set (Int.toNat (IntKind.i64.wrap (x.1.2.2.2.2.2.2.2.2.1 - 1))) (y150.1, y150.2.1, r149.1)).set (Int.toNat x.1.2.2.2.2.2.2.2.2.1) (y155.1, r154.1, y155.2.2)), (), (), x.2.2.2.2.2.2.2.1, ()))
         else none
        else
         (x.2.2.2.2.1[(Int.toNat x.1.2.2.2.2.2.2.2.2.1)]?).bind fun y156 =>
         (ivop_Sub k y156.2.2 r140.1).bind fun r157 =>
         (iv_Meet k [x.2.2.1.2.1, r157.1]).bind fun r158 =>
         (x.2.2.2.2.1[(Int.toNat x.1.2.2.2.2.2.2.2.2.1)]?).bind fun y159 =>
         (x.2.2.2.2.1[(Int.toNat x.1.2.2.2.2.2.2.2.2.1)]?).bind fun y160 =>
         (ivop_Sub k y160.2.2 r144.1).bind fun r161 =>
         (iv_Meet k [y159.2.1, r161.1]).bind fun r162 =>
         (x.2.2.2.2.1[(Int.toNat x.1.2.2.2.2.2.2.2.2.1)]?).bind fun y163 =>
         flow_Contract_s_l5 k m (((), (), (), (), (), (), (), x.1.2.2.2.2.2.2.2.1, (IntKind.i64.wrap (x.1.2.2.2.2.2.2.2.2.1 + 1)), ()), (x.2.1, (x.2.2.1.1, (r158.1, ())), (x.2.2.2.1.1, (x.2.2.2.1.2.1, x.2.2.2.1.2.2)), (x.2.2.2.2.1.set (Int.toNat x.1.2.2.2.2.2.2.2.2.1) (y163.1, r162.1, y163.2.2)), (), (), x.2.2.2.2.2.2.2.1, ()))
       else none
      else none
     else none
    else none
  else
   some (Sum.inl (((), (), (), ()), (x.2.1, (x.2.2.1.1, (x.2.2.1.2.1, ())), (x.2.2.2.1.1, (x.2.2.2.1.2.1, x.2.2.2.1.2.2)), x.2.2.2.2.1, ())))
abbrev flow_Contract_s_l5_seg (k : Nat) : Seg := ⟨⟨23013, 82, false, [23000, 999], [⟨2, 23000, 102, 89, [.b, .s2, .s1, .s2, .s2, .s2, .s2, .s2]⟩]⟩, 156, [.b, .s2], flow_Contract_s_l5_i, flow_Contract_s_l5_o, flow_Contract_s_l5 k k⟩
theorem flow_Contract_s_l5_seg.ok (k : Nat) : SegOK Tryz.prog (e99 k) (flow_Contract_s_l5_seg k) :=
 SegOK.loop (e99.ok k) (by kernel_rfl) (S := flow_Contract_s_l5_seg k) (c := atR (codeOf (e99 k) 156) [.l, .b, .s2]) (by kernel_rfl) (flow_Contract_s_l5 k) k rfl (fun _ => rfl) 8 (.two .n (.two .n (.two (.two (.two .n (.two .n (.two .n (.two .n (.two .n (.two .n (.two (.call 2 23014 .n .n) .n))))))) .n) .n))) ⟨trivial, ⟨trivial, ⟨⟨⟨trivial, ⟨trivial, ⟨trivial, ⟨trivial, ⟨trivial, ⟨trivial, ⟨⟨trivial, trivial⟩, trivial⟩⟩⟩⟩⟩⟩⟩, trivial⟩, trivial⟩⟩⟩ (fun k' x => by kernel_rfl)
abbrev flow_Contract_s_i : Mask := ⟨[(999, 0, (.k (.arr 3686401 0))), (23000, 0, (.v T34)), (23000, 1, (.k (.arr 3686401 0)))], [(3686401, .arr 32 T31)], [], 0⟩
abbrev flow_Contract_s_o : List Out := [⟨.ret, ⟨[(999, 0, (.k (.arr 3686401 0))), (23000, 4, (.k (.ptr 94208004 0 0))), (23000, 5, (.v (.int .i64)))], [(3686401, .arr 32 T31), (94208004, .cells (.v T34))], [], 0⟩⟩]
def flow_Contract_s (k : Nat) (x : Mask.den flow_Contract_s_i) : Option (denS flow_Contract_s_o) :=
 (tube_May k x.1.2.1).bind fun r1 =>
 bif (!r1.1) then
  some (Sum.inl (((), (), 1, ()), (x.2.1, ((0, false, 0, 0), (false, (0, false, 0, 0), 0, false, 0, 0), []), ())))
 else
  bif ((x.2.1.length : Int) != (x.1.2.1.2.2.length : Int)) then
   some (Sum.inl (((), (), 1, ()), (x.2.1, ((0, false, 0, 0), (false, (0, false, 0, 0), 0, false, 0, 0), []), ())))
  else
   (flow_Contract_s_l0 k k (((), (), (x.2.1.length : Int), 0, (), (), (), (), false, ()), (x.2.1, x.1.2.1, ((0, false, 0, 0), ((false, (0, false, 0, 0), 0, false, 0, 0), [])), ()))).bind fun q5 =>
   Sum.elim (fun z6 =>
     bif z6.1.2.2.2.2.2.1 then
      some (Sum.inl (((), (), 1, ()), (z6.2.1, ((0, false, 0, 0), (false, (0, false, 0, 0), 0, false, 0, 0), []), ())))
     else
      bif (decide (z6.1.1 ≥ 0)) then
       some (Sum.inl (((), (), 1, ()), (z6.2.1, ((0, false, 0, 0), (false, (0, false, 0, 0), 0, false, 0, 0), []), ())))
      else
       (tube_May k z6.2.2.1).bind fun r7 =>
       bif (!r7.1) then
        none
       else
        if z6.2.2.1.2.2.length * 176 ≤ 140737488355328 then
         (flow_Contract_s_l2 k k (((), (), (), (), (), (), (), (IntKind.i64.wrap ((z6.2.2.1.2.2.length : Int) + 1)), 0, (), (), ()), (z6.2.1, z6.2.2.1, (z6.2.2.2.1.1, (z6.2.2.2.1.2.1, z6.2.2.2.1.2.2)), (z6.2.2.1.1, z6.2.2.1.2.1), ((0, false, 0, 0), ((false, (0, false, 0, 0), 0, false, 0, 0), [])), (z6.2.2.1.1, (z6.2.2.1.2.1, ())), z6.2.2.1.2.2, z6.2.2.1, ()))).bind fun q35 =>
         Sum.elim (fun z36 =>
           (tube_Empty k (z36.2.2.2.2.2.1.1, z36.2.2.2.2.2.1.2.1, z36.2.2.2.2.2.2.1)).bind fun r37 =>
           bif r37.1 then
            (iv_None k).bind fun r38 =>
            if z36.2.2.2.2.2.2.1.length * 176 ≤ 140737488355328 then
             (flow_Contract_s_l3 k k (((), (), (), (), (), (), (), (), (z36.2.2.2.2.2.2.1.length : Int), 0, ()), (z36.2.1, z36.2.2.1, (z36.2.2.2.1.1, (z36.2.2.2.1.2.1, z36.2.2.2.1.2.2)), (z36.2.2.2.2.1.1, (z36.2.2.2.2.1.2.1, z36.2.2.2.2.1.2.2)), (z36.2.2.2.2.2.1.1, (r38.1, ())), ((0, false, 0, 0), ((false, (0, false, 0, 0), 0, false, 0, 0), [])), r38.1, z36.2.2.2.2.2.2.1, ()))).bind fun q43 =>
             Sum.elim (fun z103 =>
               (flow_Contract_s_l4 k k (((), (), (), (), (), (), (), (), (z103.2.2.2.2.2.2.2.1.length : Int), 0, ()), (z103.2.1, (z103.2.2.2.2.2.1.1, (z103.2.2.2.2.2.1.2.1, ())), (z103.2.2.2.1.1, (z103.2.2.2.1.2.1, z103.2.2.2.1.2.2)), z103.2.2.2.2.2.2.2.1, (), (), true, ()))).bind fun q104 =>
               Sum.elim (fun z105 =>
                 (flow_Contract_s_l5 k k (((), (), (), (), (), (), (), (z105.2.2.2.2.1.length : Int), 0, ()), (z105.2.1, (z105.2.2.1.1, (z105.2.2.1.2.1, ())), (z105.2.2.2.1.1, (z105.2.2.2.1.2.1, z105.2.2.2.1.2.2)), z105.2.2.2.2.1, (), (), false, ()))).bind fun q164 =>
                 Sum.elim (fun z165 =>
                   (tube_Fit k (z165.2.2.1.1, z165.2.2.1.2.1, z165.2.2.2.2.1)).bind fun r166 =>
                   some (Sum.inl (((), (), 0, ()), (z165.2.1, r166.1, ()))))
                  (fun q164' =>
                   none) q164)
                (fun q104' =>
                 none) q104)
              (fun q43' =>
               none) q43
            else none
           else
            (flow_Contract_s_l4 k k (((), (), (), (), (), (), (), (), (z36.2.2.2.2.2.2.1.length : Int), 0, ()), (z36.2.1, (z36.2.2.2.2.2.1.1, (z36.2.2.2.2.2.1.2.1, ())), (z36.2.2.2.1.1, (z36.2.2.2.1.2.1, z36.2.2.2.1.2.2)), z36.2.2.2.2.2.2.1, (), (), true, ()))).bind fun q102 =>
            Sum.elim (fun z167 =>
              (flow_Contract_s_l5 k k (((), (), (), (), (), (), (), (z167.2.2.2.2.1.length : Int), 0, ()), (z167.2.1, (z167.2.2.1.1, (z167.2.2.1.2.1, ())), (z167.2.2.2.1.1, (z167.2.2.2.1.2.1, z167.2.2.2.1.2.2)), z167.2.2.2.2.1, (), (), false, ()))).bind fun q168 =>
              Sum.elim (fun z169 =>
                (tube_Fit k (z169.2.2.1.1, z169.2.2.1.2.1, z169.2.2.2.2.1)).bind fun r170 =>
                some (Sum.inl (((), (), 0, ()), (z169.2.1, r170.1, ()))))
               (fun q168' =>
                none) q168)
             (fun q102' =>
              none) q102)
          (fun q35' =>
           none) q35
        else none)
    (fun q5' =>
     Sum.elim (fun z171 =>
       bif z171.1.2.2.2.2.1 then
        some (Sum.inl (((), (), 1, ()), (z171.2.1, ((0, false, 0, 0), (false, (0, false, 0, 0), 0, false, 0, 0), []), ())))
       else
        (tube_May k z171.2.2.1).bind fun r172 =>
        bif (!r172.1) then
         none
        else
         if z171.2.2.1.2.2.length * 176 ≤ 140737488355328 then
          (flow_Contract_s_l2 k k (((), (), (), (), (), (), (), (IntKind.i64.wrap ((z171.2.2.1.2.2.length : Int) + 1)), 0, (), (), ()), (z171.2.1, z171.2.2.1, (z171.2.2.2.1.1, (z171.2.2.2.1.2.1, z171.2.2.2.1.2.2)), (z171.2.2.1.1, z171.2.2.1.2.1), ((0, false, 0, 0), ((false, (0, false, 0, 0), 0, false, 0, 0), [])), (z171.2.2.1.1, (z171.2.2.1.2.1, ())), z171.2.2.1.2.2, z171.2.2.1, ()))).bind fun q174 =>
          Sum.elim (fun z175 =>
            (tube_Empty k (z175.2.2.2.2.2.1.1, z175.2.2.2.2.2.1.2.1, z175.2.2.2.2.2.2.1)).bind fun r176 =>
            bif r176.1 then
             (iv_None k).bind fun r177 =>
             if z175.2.2.2.2.2.2.1.length * 176 ≤ 140737488355328 then
              (flow_Contract_s_l3 k k (((), (), (), (), (), (), (), (), (z175.2.2.2.2.2.2.1.length : Int), 0, ()), (z175.2.1, z175.2.2.1, (z175.2.2.2.1.1, (z175.2.2.2.1.2.1, z175.2.2.2.1.2.2)), (z175.2.2.2.2.1.1, (z175.2.2.2.2.1.2.1, z175.2.2.2.2.1.2.2)), (z175.2.2.2.2.2.1.1, (r177.1, ())), ((0, false, 0, 0), ((false, (0, false, 0, 0), 0, false, 0, 0), [])), r177.1, z175.2.2.2.2.2.2.1, ()))).bind fun q178 =>
              Sum.elim (fun z180 =>
                (flow_Contract_s_l4 k k (((), (), (), (), (), (), (), (), (z180.2.2.2.2.2.2.2.1.length : Int), 0, ()), (z180.2.1, (z180.2.2.2.2.2.1.1, (z180.2.2.2.2.2.1.2.1, ())), (z180.2.2.2.1.1, (z180.2.2.2.1.2.1, z180.2.2.2.1.2.2)), z180.2.2.2.2.2.2.2.1, (), (), true, ()))).bind fun q181 =>
                Sum.elim (fun z182 =>
                  (flow_Contract_s_l5 k k (((), (), (), (), (), (), (), (z182.2.2.2.2.1.length : Int), 0, ()), (z182.2.1, (z182.2.2.1.1, (z182.2.2.1.2.1, ())), (z182.2.2.2.1.1, (z182.2.2.2.1.2.1, z182.2.2.2.1.2.2)), z182.2.2.2.2.1, (), (), false, ()))).bind fun q183 =>
                  Sum.elim (fun z184 =>
                    (tube_Fit k (z184.2.2.1.1, z184.2.2.1.2.1, z184.2.2.2.2.1)).bind fun r185 =>
                    some (Sum.inl (((), (), 0, ()), (z184.2.1, r185.1, ()))))
                   (fun q183' =>
                    none) q183)
                 (fun q181' =>
                  none) q181)
               (fun q178' =>
                none) q178
             else none
            else
             (flow_Contract_s_l4 k k (((), (), (), (), (), (), (), (), (z175.2.2.2.2.2.2.1.length : Int), 0, ()), (z175.2.1, (z175.2.2.2.2.2.1.1, (z175.2.2.2.2.2.1.2.1, ())), (z175.2.2.2.1.1, (z175.2.2.2.1.2.1, z175.2.2.2.1.2.2)), z175.2.2.2.2.2.2.1, (), (), true, ()))).bind fun q179 =>
             Sum.elim (fun z186 =>
               (flow_Contract_s_l5 k k (((), (), (), (), (), (), (), (z186.2.2.2.2.1.length : Int), 0, ()), (z186.2.1, (z186.2.2.1.1, (z186.2.2.1.2.1, ())), (z186.2.2.2.1.1, (z186.2.2.2.1.2.1, z186.2.2.2.1.2.2)), z186.2.2.2.2.1, (), (), false, ()))).bind fun q187 =>
               Sum.elim (fun z188 =>
                 (tube_Fit k (z188.2.2.1.1, z188.2.2.1.2.1, z188.2.2.2.2.1)).bind fun r189 =>
                 some (Sum.inl (((), (), 0, ()), (z188.2.1, r189.1, ()))))
                (fun q187' =>
                 none) q187)
              (fun q179' =>
               none) q179)
           (fun q174' =>
            none) q174
         else none)
      (fun q5'' =>
       none) q5') q5
abbrev flow_Contract_s_seg (k : Nat) : Seg := ⟨⟨23000, 102, false, [999], []⟩, 89, [], flow_Contract_s_i, flow_Contract_s_o, flow_Contract_s k⟩
theorem flow_Contract_s_seg.ok (k : Nat) : SegOK Tryz.prog (e99 k) (flow_Contract_s_seg k) :=
 SegOK.of (e99.ok k) (by kernel_rfl) (S := flow_Contract_s_seg k) 8 (.two .n (.two .n (.two (.two (.call 14 7 (.two .n (.two (.call 2 8 (.two .n (.two (.two .n (.two (.use (flow_Contract_s_l0_seg k)) .n)) .n)) .n) .n)) .n) .n) (.two (.call 1 23515 (.two .n (.two .n (.two .n (.two .n (.two (.two (.call 1 23519 .n .n) (.two (.rf 0 23008 (.two .n (.two .n (.two (.use (flow_Contract_s_l2_seg k)) .n)))) .n)) (.two (.two .n (.two (.two (.call 1 23522 (.two .n (.two .n (.two .n (.two .n (.two (.two .n (.two (.use (flow_Contract_s_l3_seg k)) .n)) .n))))) .n) .n) .n)) .n)))))) .n) (.two (.two (.call 1 23516 .n .n) (.two (.rf 1 23005 (.two .n (.two (.use (flow_Contract_s_l4_seg k)) .n))) .n)) (.two (.two (.call 1 23524 .n .n) (.two (.rf 2 23013 (.two .n (.two (.use (flow_Contract_s_l5_seg k)) .n))) .n)) (.two (.own 1 .n) .n))))))) ⟨trivial, ⟨trivial, ⟨⟨⟨⟨trivial, ⟨⟨⟨trivial, ⟨⟨trivial, ⟨(flow_Contract_s_l0_seg.ok k), trivial⟩⟩, trivial⟩⟩, trivial⟩, trivial⟩⟩, trivial⟩, trivial⟩, ⟨⟨⟨trivial, ⟨trivial, ⟨trivial, ⟨trivial, ⟨⟨⟨trivial, trivial⟩, ⟨⟨trivial, ⟨trivial, ⟨(flow_Contract_s_l2_seg.ok k), trivial⟩⟩⟩, trivial⟩⟩, ⟨⟨trivial, ⟨⟨⟨⟨trivial, ⟨trivial, ⟨trivial, ⟨trivial, ⟨⟨trivial, ⟨(flow_Contract_s_l3_seg.ok k), trivial⟩⟩, trivial⟩⟩⟩⟩⟩, trivial⟩, trivial⟩, trivial⟩⟩, trivial⟩⟩⟩⟩⟩⟩, trivial⟩, ⟨⟨⟨trivial, trivial⟩, ⟨⟨trivial, ⟨(flow_Contract_s_l4_seg.ok k), trivial⟩⟩, trivial⟩⟩, ⟨⟨⟨trivial, trivial⟩, ⟨⟨trivial, ⟨(flow_Contract_s_l5_seg.ok k), trivial⟩⟩, trivial⟩⟩, ⟨trivial, trivial⟩⟩⟩⟩⟩⟩⟩ (fun x => by kernel_rfl)
abbrev engine_side_flows_s_i : Mask := ⟨[(999, 0, (.k (.ptr 2101250 0 0))), (999, 1, (.k (.arr 3686401 0))), (999, 2, (.k (.arr 3686402 0))), (999, 3, (.k (.arr 45056030 0))), (999, 4, (.k (.arr 49152018 0))), (22000, 0, (.k (.ptr 2101250 0 0)))], [(2101250, .cells (.pr (.pr (.pr (.v T34) (.k (.arr 3686401 0))) (.pr (.v T34) (.k (.arr 3686402 0)))) (.pr (.v .bool) (.pr (.k (.arr 49152018 0)) (.k (.arr 45056030 0)))))), (3686401, .arr 32 T31), (3686402, .arr 32 T31), (45056030, .arr 42 T41), (49152018, .arr 42 T41)], [], 0⟩
abbrev engine_side_flows_s_o : List Out := [⟨.nor, ⟨[(999, 0, (.k (.ptr 2101250 0 0))), (999, 1, (.k (.arr 3686401 0))), (999, 2, (.k (.arr 3686402 0))), (999, 3, (.k (.arr 45056030 0))), (999, 4, (.k (.arr 49152018 0)))], [(2101250, .cells (.pr (.pr (.pr (.v T34) (.k (.arr 3686401 0))) (.pr (.v T34) (.k (.arr 3686402 0)))) (.pr (.v .bool) (.pr (.k (.arr 49152018 0)) (.k (.arr 45056030 0)))))), (3686401, .arr 32 T31), (3686402, .arr 32 T31), (45056030, .arr 42 T41), (49152018, .arr 42 T41)], [], 0⟩⟩]
def engine_side_flows_s (k : Nat) (x : Mask.den engine_side_flows_s_i) : Option (denS engine_side_flows_s_o) :=
 (flow_Contract_s k (((), x.2.1.1.1.1, (), ()), (x.2.2.1, ()))).bind fun q1 =>
 Sum.elim (fun z2 =>
   some (Sum.inl (((), (), (), (), (), ()), ((((z2.2.2.1, ()), (x.2.1.1.2.1, ())), (x.2.1.2.1, ((), ()))), z2.2.1, x.2.2.2.1, x.2.2.2.2.1, x.2.2.2.2.2.1, ()))))
  (fun q1' =>
   none) q1
abbrev engine_side_flows_s_seg (k : Nat) : Seg := ⟨⟨22000, 17, false, [999], []⟩, 54, [], engine_side_flows_s_i, engine_side_flows_s_o, engine_side_flows_s k⟩
theorem engine_side_flows_s_seg.ok (k : Nat) : SegOK Tryz.prog (e99 k) (engine_side_flows_s_seg k) :=
 SegOK.of (e99.ok k) (by kernel_rfl) (S := engine_side_flows_s_seg k) 8 (.seg 9 (flow_Contract_s_seg k) [] [] .n) ⟨(flow_Contract_s_seg.ok k).env rfl rfl, trivial⟩ (fun x => by kernel_rfl)
abbrev engine_side_flows_s1_i : Mask := ⟨[(999, 0, (.k (.ptr 2101250 0 0))), (999, 1, (.k (.arr 3686401 0))), (999, 2, (.k (.arr 3686402 0))), (999, 3, (.k (.arr 45056030 0))), (999, 4, (.k (.arr 49152018 0))), (24000, 0, (.k (.ptr 2101250 0 15)))], [(2101250, .cells (.pr (.pr (.pr (.v T34) (.k (.arr 3686401 0))) (.pr (.v T34) (.k (.arr 3686402 0)))) (.pr (.v .bool) (.pr (.k (.arr 49152018 0)) (.k (.arr 45056030 0)))))), (3686401, .arr 32 T31), (3686402, .arr 32 T31), (45056030, .arr 42 T41), (49152018, .arr 42 T41)], [], 0⟩
abbrev engine_side_flows_s1_o : List Out := [⟨.nor, ⟨[(999, 0, (.k (.ptr 2101250 0 0))), (999, 1, (.k (.arr 3686401 0))), (999, 2, (.k (.arr 3686402 0))), (999, 3, (.k (.arr 45056030 0))), (999, 4, (.k (.arr 49152018 0)))], [(2101250, .cells (.pr (.pr (.pr (.v T34) (.k (.arr 3686401 0))) (.pr (.v T34) (.k (.arr 3686402 0)))) (.pr (.v .bool) (.pr (.k (.arr 49152018 0)) (.k (.arr 45056030 0)))))), (3686401, .arr 32 T31), (3686402, .arr 32 T31), (45056030, .arr 42 T41), (49152018, .arr 42 T41)], [], 0⟩⟩]
def engine_side_flows_s1 (k : Nat) (x : Mask.den engine_side_flows_s1_i) : Option (denS engine_side_flows_s1_o) :=
 (flow_Contract_s k (((), x.2.1.1.2.1, (), ()), (x.2.2.2.1, ()))).bind fun q1 =>
 Sum.elim (fun z2 =>
   some (Sum.inl (((), (), (), (), (), ()), ((((x.2.1.1.1.1, ()), (z2.2.2.1, ())), (x.2.1.2.1, ((), ()))), x.2.2.1, z2.2.1, x.2.2.2.2.1, x.2.2.2.2.2.1, ()))))
  (fun q1' =>
   none) q1
abbrev engine_side_flows_s1_seg (k : Nat) : Seg := ⟨⟨24000, 17, false, [999], []⟩, 54, [], engine_side_flows_s1_i, engine_side_flows_s1_o, engine_side_flows_s1 k⟩
theorem engine_side_flows_s1_seg.ok (k : Nat) : SegOK Tryz.prog (e99 k) (engine_side_flows_s1_seg k) :=
 SegOK.of (e99.ok k) (by kernel_rfl) (S := engine_side_flows_s1_seg k) 8 (.seg 9 (flow_Contract_s_seg k) [(3686402, 3686401)] [] .n) ⟨(flow_Contract_s_seg.ok k).env rfl rfl, trivial⟩ (fun x => by kernel_rfl)
abbrev engine_Engine_round_s_l0_i : Mask := ⟨[(999, 0, (.k (.ptr 2101250 0 0))), (999, 1, (.k (.arr 3686401 0))), (999, 2, (.k (.arr 3686402 0))), (999, 3, (.k (.arr 45056030 0))), (999, 4, (.k (.arr 49152018 0))), (21000, 0, (.k (.ptr 2101250 0 0))), (21000, 3, (.k (.ptr 86016003 0 0))), (21000, 4, (.k (.ptr 86016004 0 0))), (21000, 34, (.k (.arr 49152018 0))), (21000, 35, (.v (.int .i64))), (21000, 36, (.v (.int .i64)))], [(2101250, .cells (.pr (.pr (.pr (.v T34) (.k (.arr 3686401 0))) (.pr (.v T34) (.k (.arr 3686402 0)))) (.pr (.v .bool) (.pr (.k (.arr 49152018 0)) (.k (.arr 45056030 0)))))), (3686401, .arr 32 T31), (3686402, .arr 32 T31), (45056030, .arr 42 T41), (49152018, .arr 42 T41), (86016003, .cells (.v T34)), (86016004, .cells (.v T34))], [], 0⟩
abbrev engine_Engine_round_s_l0_o : List Out := [⟨.exit 0, ⟨[(999, 0, (.k (.ptr 2101250 0 0))), (999, 1, (.k (.arr 3686401 0))), (999, 2, (.k (.arr 3686402 0))), (999, 3, (.k (.arr 45056030 0))), (999, 4, (.k (.arr 49152018 0))), (21000, 0, (.k (.ptr 2101250 0 0))), (21000, 3, (.k (.ptr 86016003 0 0))), (21000, 4, (.k (.ptr 86016004 0 0)))], [(2101250, .cells (.pr (.pr (.pr (.v T34) (.k (.arr 3686401 0))) (.pr (.v T34) (.k (.arr 3686402 0)))) (.pr (.v .bool) (.pr (.k (.arr 49152018 0)) (.k (.arr 45056030 0)))))), (3686401, .arr 32 T31), (3686402, .arr 32 T31), (45056030, .arr 42 T41), (49152018, .arr 42 T41), (86016003, .cells (.v T34)), (86016004, .cells (.v T34))], [], 0⟩⟩]
def engine_Engine_round_s_l0 (k : Nat) : Nat → Mask.den engine_Engine_round_s_l0_i → Option (denS engine_Engine_round_s_l0_o)
 | 0, _ => none
 | m + 1, x =>
  bif (decide (x.1.2.2.2.2.2.2.2.2.2.2.1 < x.1.2.2.2.2.2.2.2.2.2.1)) then
   if 0 ≤ x.1.2.2.2.2.2.2.2.2.2.2.1 then (x.2.2.2.2.2.1[Int.toNat x.1.2.2.2.2.2.2.2.2.2.2.1]?).bind fun _ =>
    (x.2.2.2.2.2.1[(Int.toNat x.1.2.2.2.2.2.2.2.2.2.2.1)]?).bind fun y6 =>
    (engine_Engine_gate_s1 k (((), (), (), (), (), (), y6.2.1, ()), ((((x.2.1.1.1.1, ()), (x.2.1.1.2.1, ())), (x.2.1.2.1, ((), ()))), x.2.2.1, x.2.2.2.1, x.2.2.2.2.1, x.2.2.2.2.2.1, ()))).bind fun q7 =>
    Sum.elim (fun z8 =>
      (tube_Gate k z8.2.1.1.1.1 z8.1.2.2.2.2.2.1).bind fun r9 =>
      (tube_Gate k z8.2.1.1.2.1 z8.1.2.2.2.2.2.1).bind fun r10 =>
      (polar_Distance k [r9.1, r10.1, y6.2.2.1, y6.2.2.2.1, y6.2.2.2.2]).bind fun r11 =>
      if 0 ≤ 0 then (r11.1[Int.toNat 0]?).bind fun y12 =>
       (engine_side_set_s k (((), (), (), (), (), (), z8.1.2.2.2.2.2.1, y12, ()), ((((z8.2.1.1.1.1, ()), (z8.2.1.1.2.1, ())), (z8.2.1.2.1, ((), ()))), z8.2.2.1, z8.2.2.2.1, z8.2.2.2.2.1, z8.2.2.2.2.2.1, ()))).bind fun q13 =>
       Sum.elim (fun z14 =>
         if 0 ≤ 1 then (r11.1[Int.toNat 1]?).bind fun y15 =>
          (engine_side_set_s1 k (((), (), (), (), (), (), z8.1.2.2.2.2.2.1, y15, ()), ((((z14.2.1.1.1.1, ()), (z14.2.1.1.2.1, ())), (z14.2.1.2.1, ((), ()))), z14.2.2.1, z14.2.2.2.1, z14.2.2.2.2.1, z14.2.2.2.2.2.1, ()))).bind fun q16 =>
          Sum.elim (fun z17 =>
            engine_Engine_round_s_l0 k m (((), (), (), (), (), (), (), (), (), x.1.2.2.2.2.2.2.2.2.2.1, (IntKind.i64.wrap (x.1.2.2.2.2.2.2.2.2.2.2.1 + 1)), ()), ((((z17.2.1.1.1.1, ()), (z17.2.1.1.2.1, ())), (z17.2.1.2.1, ((), ()))), z17.2.2.1, z17.2.2.2.1, z17.2.2.2.2.1, z17.2.2.2.2.2.1, x.2.2.2.2.2.2.1, x.2.2.2.2.2.2.2.1, ())))
           (fun q16' =>
            none) q16
         else none)
        (fun q13' =>
         none) q13
      else none)
     (fun q7' =>
      none) q7
   else none
  else
   some (Sum.inl (((), (), (), (), (), (), (), (), ()), ((((x.2.1.1.1.1, ()), (x.2.1.1.2.1, ())), (x.2.1.2.1, ((), ()))), x.2.2.1, x.2.2.2.1, x.2.2.2.2.1, x.2.2.2.2.2.1, x.2.2.2.2.2.2.1, x.2.2.2.2.2.2.2.1, ())))
abbrev engine_Engine_round_s_l0_seg (k : Nat) : Seg := ⟨⟨21000, 107, false, [999], []⟩, 26, [.b, .s2, .s1, .s2, .s2, .s2, .s2], engine_Engine_round_s_l0_i, engine_Engine_round_s_l0_o, engine_Engine_round_s_l0 k k⟩
theorem engine_Engine_round_s_l0_seg.ok (k : Nat) : SegOK Tryz.prog (e99 k) (engine_Engine_round_s_l0_seg k) :=
 SegOK.loop (e99.ok k) (by kernel_rfl) (S := engine_Engine_round_s_l0_seg k) (c := atR (codeOf (e99 k) 26) [.l, .b, .s2, .s1, .s2, .s2, .s2, .s2]) (by kernel_rfl) (engine_Engine_round_s_l0 k) k rfl (fun _ => rfl) 8 (.two .n (.two .n (.two (.two (.two .n (.two (.seg 3 (engine_Engine_gate_s1_seg k) [] [] .n) (.two .n (.two (.seg 8 (engine_side_set_s_seg k) [] [] .n) (.seg 8 (engine_side_set_s1_seg k) [] [] .n))))) .n) .n))) ⟨trivial, ⟨trivial, ⟨⟨⟨trivial, ⟨⟨(engine_Engine_gate_s1_seg.ok k).env rfl rfl, trivial⟩, ⟨trivial, ⟨⟨(engine_side_set_s_seg.ok k).env rfl rfl, trivial⟩, ⟨(engine_side_set_s1_seg.ok k).env rfl rfl, trivial⟩⟩⟩⟩⟩, trivial⟩, trivial⟩⟩⟩ (fun k' x => by kernel_rfl)
abbrev engine_Engine_round_s_i : Mask := ⟨[(999, 0, (.k (.ptr 2101250 0 0))), (999, 1, (.k (.arr 3686401 0))), (999, 2, (.k (.arr 3686402 0))), (999, 3, (.k (.arr 45056030 0))), (999, 4, (.k (.arr 49152018 0))), (21000, 0, (.k (.ptr 2101250 0 0)))], [(2101250, .cells (.pr (.pr (.pr (.v T34) (.k (.arr 3686401 0))) (.pr (.v T34) (.k (.arr 3686402 0)))) (.pr (.v .bool) (.pr (.k (.arr 49152018 0)) (.k (.arr 45056030 0)))))), (3686401, .arr 32 T31), (3686402, .arr 32 T31), (45056030, .arr 42 T41), (49152018, .arr 42 T41)], [], 0⟩
abbrev engine_Engine_round_s_o : List Out := [⟨.ret, ⟨[(999, 0, (.k (.ptr 2101250 0 0))), (999, 1, (.k (.arr 3686401 0))), (999, 2, (.k (.arr 3686402 0))), (999, 3, (.k (.arr 45056030 0))), (999, 4, (.k (.arr 49152018 0))), (21000, 2, (.v .bool))], [(2101250, .cells (.pr (.pr (.pr (.v T34) (.k (.arr 3686401 0))) (.pr (.v T34) (.k (.arr 3686402 0)))) (.pr (.v .bool) (.pr (.k (.arr 49152018 0)) (.k (.arr 45056030 0)))))), (3686401, .arr 32 T31), (3686402, .arr 32 T31), (45056030, .arr 42 T41), (49152018, .arr 42 T41)], [], 0⟩⟩]
def engine_Engine_round_s (k : Nat) (x : Mask.den engine_Engine_round_s_i) : Option (denS engine_Engine_round_s_o) :=
 (engine_side_flows_s k (((), (), (), (), (), (), ()), ((((x.2.1.1.1.1, ()), (x.2.1.1.2.1, ())), (x.2.1.2.1, ((), ()))), x.2.2.1, x.2.2.2.1, x.2.2.2.2.1, x.2.2.2.2.2.1, ()))).bind fun q1 =>
 Sum.elim (fun z2 =>
   (engine_side_flows_s1 k (((), (), (), (), (), (), ()), ((((z2.2.1.1.1.1, ()), (z2.2.1.1.2.1, ())), (z2.2.1.2.1, ((), ()))), z2.2.2.1, z2.2.2.2.1, z2.2.2.2.2.1, z2.2.2.2.2.2.1, ()))).bind fun q3 =>
   Sum.elim (fun z4 =>
     (engine_Engine_round_s_l0 k k (((), (), (), (), (), (), (), (), (), (z4.2.2.2.2.2.1.length : Int), 0, ()), ((((z4.2.1.1.1.1, ()), (z4.2.1.1.2.1, ())), (z4.2.1.2.1, ((), ()))), z4.2.2.1, z4.2.2.2.1, z4.2.2.2.2.1, z4.2.2.2.2.2.1, x.2.1.1.1.1, x.2.1.1.2.1, ()))).bind fun q18 =>
     Sum.elim (fun z19 =>
       (engine_same k z19.2.2.2.2.2.2.1 z19.2.1.1.1.1).bind fun r20 =>
       bif (!r20.1) then
        some (Sum.inl (((), (), (), (), (), true, ()), ((((z19.2.1.1.1.1, ()), (z19.2.1.1.2.1, ())), (z19.2.1.2.1, ((), ()))), z19.2.2.1, z19.2.2.2.1, z19.2.2.2.2.1, z19.2.2.2.2.2.1, ())))
       else
        (engine_same k z19.2.2.2.2.2.2.2.1 z19.2.1.1.2.1).bind fun r21 =>
        some (Sum.inl (((), (), (), (), (), (!r21.1), ()), ((((z19.2.1.1.1.1, ()), (z19.2.1.1.2.1, ())), (z19.2.1.2.1, ((), ()))), z19.2.2.1, z19.2.2.2.1, z19.2.2.2.2.1, z19.2.2.2.2.2.1, ()))))
      (fun q18' =>
       none) q18)
    (fun q3' =>
     none) q3)
  (fun q1' =>
   none) q1
abbrev engine_Engine_round_s_seg (k : Nat) : Seg := ⟨⟨21000, 107, false, [999], []⟩, 26, [], engine_Engine_round_s_i, engine_Engine_round_s_o, engine_Engine_round_s k⟩
theorem engine_Engine_round_s_seg.ok (k : Nat) : SegOK Tryz.prog (e99 k) (engine_Engine_round_s_seg k) :=
 SegOK.of (e99.ok k) (by kernel_rfl) (S := engine_Engine_round_s_seg k) 8 (.two .n (.two .n (.two (.seg 4 (engine_side_flows_s_seg k) [] [] .n) (.two (.seg 4 (engine_side_flows_s1_seg k) [] [] .n) (.two (.two .n (.two (.use (engine_Engine_round_s_l0_seg k)) .n)) .n))))) ⟨trivial, ⟨trivial, ⟨⟨(engine_side_flows_s_seg.ok k).env rfl rfl, trivial⟩, ⟨⟨(engine_side_flows_s1_seg.ok k).env rfl rfl, trivial⟩, ⟨⟨trivial, ⟨(engine_Engine_round_s_l0_seg.ok k), trivial⟩⟩, trivial⟩⟩⟩⟩⟩ (fun x => by kernel_rfl)
abbrev engine_Engine_Do_s_l0_i : Mask := ⟨[(999, 0, (.k (.ptr 2101250 0 0))), (11000, 0, (.k (.ptr 2101250 0 0))), (11000, 33, (.v (.int .i64)))], [(2101250, .cells (.pr (.pr (.pr (.v T34) (.k (.arr 3686401 0))) (.pr (.v T34) (.k (.arr 3686402 0)))) (.pr (.v .bool) (.pr (.k (.arr 49152018 0)) (.k (.arr 45056030 0)))))), (3686401, .arr 32 T31), (3686402, .arr 32 T31), (45056030, .arr 42 T41), (49152018, .arr 42 T41)], [], 0⟩
abbrev engine_Engine_Do_s_l0_o : List Out := [⟨.exit 1, ⟨[(999, 0, (.k (.ptr 2101250 0 0)))], [(2101250, .cells (.pr (.pr (.pr (.v T34) (.k (.arr 3686401 0))) (.pr (.v T34) (.k (.arr 3686402 0)))) (.pr (.v .bool) (.pr (.k (.arr 49152018 0)) (.k (.arr 45056030 0)))))), (3686401, .arr 32 T31), (3686402, .arr 32 T31), (45056030, .arr 42 T41), (49152018, .arr 42 T41)], [], 0⟩⟩]
def engine_Engine_Do_s_l0 (k : Nat) : Nat → Mask.den engine_Engine_Do_s_l0_i → Option (denS engine_Engine_Do_s_l0_o)
 | 0, _ => none
 | m + 1, x =>
  bif (decide (x.1.2.2.1 < 8)) then
   (engine_Engine_round_s k (((), (), (), (), (), (), ()), ((((x.2.1.1.1.1, ()), (x.2.1.1.2.1, ())), (x.2.1.2.1, ((), ()))), x.2.2.1, x.2.2.2.1, x.2.2.2.2.1, x.2.2.2.2.2.1, ()))).bind fun q4 =>
   Sum.elim (fun z5 =>
     bif (!z5.1.2.2.2.2.2.1) then
      some (Sum.inl (((), ()), ((((z5.2.1.1.1.1, ()), (z5.2.1.1.2.1, ())), (z5.2.1.2.1, ((), ()))), z5.2.2.1, z5.2.2.2.1, z5.2.2.2.2.1, z5.2.2.2.2.2.1, ())))
     else
      engine_Engine_Do_s_l0 k m (((), (), (IntKind.i64.wrap (x.1.2.2.1 + 1)), ()), ((((z5.2.1.1.1.1, ()), (z5.2.1.1.2.1, ())), (z5.2.1.2.1, ((), ()))), z5.2.2.1, z5.2.2.2.1, z5.2.2.2.2.1, z5.2.2.2.2.2.1, ())))
    (fun q4' =>
     none) q4
  else
   some (Sum.inl (((), ()), ((((x.2.1.1.1.1, ()), (x.2.1.1.2.1, ())), (x.2.1.2.1, ((), ()))), x.2.2.1, x.2.2.2.1, x.2.2.2.2.1, x.2.2.2.2.2.1, ())))
abbrev engine_Engine_Do_s_l0_seg (k : Nat) : Seg := ⟨⟨11000, 39, false, [999], []⟩, 10, [.b, .s2, .s1, .s2, .s2, .s2, .s2], engine_Engine_Do_s_l0_i, engine_Engine_Do_s_l0_o, engine_Engine_Do_s_l0 k k⟩
theorem engine_Engine_Do_s_l0_seg.ok (k : Nat) : SegOK Tryz.prog (e99 k) (engine_Engine_Do_s_l0_seg k) :=
 SegOK.loop (e99.ok k) (by kernel_rfl) (S := engine_Engine_Do_s_l0_seg k) (c := atR (codeOf (e99 k) 10) [.l, .b, .s2, .s1, .s2, .s2, .s2, .s2]) (by kernel_rfl) (engine_Engine_Do_s_l0 k) k rfl (fun _ => rfl) 8 (.two .n (.two .n (.two (.two (.two (.seg 1 (engine_Engine_round_s_seg k) [] [] .n) .n) .n) .n))) ⟨trivial, ⟨trivial, ⟨⟨⟨⟨(engine_Engine_round_s_seg.ok k).env rfl rfl, trivial⟩, trivial⟩, trivial⟩, trivial⟩⟩⟩ (fun k' x => by kernel_rfl)
abbrev engine_Engine_Do_s_i : Mask := ⟨[(999, 0, (.k (.ptr 2101250 0 0))), (11000, 0, (.k (.ptr 2101250 0 0))), (11000, 1, (.v T41))], [(2101250, .cells (.pr (.pr (.pr (.v T34) (.k (.arr 3686401 0))) (.pr (.v T34) (.k (.arr 3686402 0)))) (.pr (.v .bool) (.pr (.k (.arr 49152018 0)) (.k (.arr 45056030 0)))))), (3686401, .arr 32 T31), (3686402, .arr 32 T31), (45056030, .arr 42 T41), (49152018, .arr 42 T41)], [], 0⟩
abbrev engine_Engine_Do_s_o : List Out := [⟨.ret, ⟨[(999, 0, (.k (.ptr 2101250 0 0))), (11000, 4, (.v (.int .i64)))], [(2101250, .cells (.pr (.pr (.pr (.v T34) (.k (.arr 3686401 0))) (.pr (.v T34) (.k (.arr 3686402 0)))) (.pr (.v .bool) (.pr (.k (.arr 49152018 0)) (.k (.arr 45056030 0)))))), (3686401, .arr 32 T31), (3686402, .arr 32 T31), (45056030, .arr 42 T41), (49152018, .arr 42 T41)], [], 0⟩⟩]
def engine_Engine_Do_s (k : Nat) (x : Mask.den engine_Engine_Do_s_i) : Option (denS engine_Engine_Do_s_o) :=
 (engine_may k x.1.2.2.1).bind fun r1 =>
 bif (!r1.1) then
  some (Sum.inl (((), 1, ()), ((((x.2.1.1.1.1, ()), (x.2.1.1.2.1, ())), (x.2.1.2.1, ((), ()))), x.2.2.1, x.2.2.2.1, x.2.2.2.2.1, x.2.2.2.2.2.1, ())))
 else
  bif (decide ((x.2.2.2.2.1.length : Int) ≥ 256)) then
   some (Sum.inl (((), 3, ()), ((((x.2.1.1.1.1, ()), (x.2.1.1.2.1, ())), (x.2.1.2.1, ((), ()))), x.2.2.1, x.2.2.2.1, x.2.2.2.2.1, x.2.2.2.2.2.1, ())))
  else
   (engine_Engine_take_s k (((), (), (), (), (), (), x.1.2.2.1, ()), ((((x.2.1.1.1.1, ()), (x.2.1.1.2.1, ())), (x.2.1.2.1, ((), ()))), x.2.2.1, x.2.2.2.1, x.2.2.2.2.1, x.2.2.2.2.2.1, ()))).bind fun q2 =>
   Sum.elim (fun z3 =>
     bif (z3.1.2.2.1 != 0) then
      some (Sum.inl (((), z3.1.2.2.1, ()), ((((z3.2.1.1.1.1, ()), (z3.2.1.1.2.1, ())), (z3.2.1.2.1, ((), ()))), z3.2.2.1, z3.2.2.2.1, z3.2.2.2.2.1, z3.2.2.2.2.2.1, ())))
     else
      if (z3.2.2.2.2.1.length + [x.1.2.2.1].length) * 256 ≤ 140737488355328 then
       (engine_Engine_Do_s_l0 k k (((), (), 0, ()), ((((z3.2.1.1.1.1, ()), (z3.2.1.1.2.1, ())), (z3.2.1.2.1, ((), ()))), z3.2.2.1, z3.2.2.2.1, (z3.2.2.2.2.1 ++ [x.1.2.2.1]), z3.2.2.2.2.2.1, ()))).bind fun q6 =>
       Sum.elim (fun z7 =>
         some (Sum.inl (((), 0, ()), ((((z7.2.1.1.1.1, ()), (z7.2.1.1.2.1, ())), (z7.2.1.2.1, ((), ()))), z7.2.2.1, z7.2.2.2.1, z7.2.2.2.2.1, z7.2.2.2.2.2.1, ()))))
        (fun q6' =>
         none) q6
      else none)
    (fun q2' =>
     none) q2
abbrev engine_Engine_Do_s_seg (k : Nat) : Seg := ⟨⟨11000, 39, false, [999], []⟩, 10, [], engine_Engine_Do_s_i, engine_Engine_Do_s_o, engine_Engine_Do_s k⟩
theorem engine_Engine_Do_s_seg.ok (k : Nat) : SegOK Tryz.prog (e99 k) (engine_Engine_Do_s_seg k) :=
 SegOK.of (e99.ok k) (by kernel_rfl) (S := engine_Engine_Do_s_seg k) 8 (.two .n (.two .n (.two (.two (.seg 2 (engine_Engine_take_s_seg k) [] [] .n) .n) (.two .n (.two (.two .n (.two (.use (engine_Engine_Do_s_l0_seg k)) .n)) .n))))) ⟨trivial, ⟨trivial, ⟨⟨⟨(engine_Engine_take_s_seg.ok k).env rfl rfl, trivial⟩, trivial⟩, ⟨trivial, ⟨⟨trivial, ⟨(engine_Engine_Do_s_l0_seg.ok k), trivial⟩⟩, trivial⟩⟩⟩⟩⟩ (fun x => by kernel_rfl)
abbrev engine_Engine_Where_s_i : Mask := ⟨[(999, 0, (.k (.ptr 2101250 0 0))), (999, 1, (.k (.arr 3686401 0))), (999, 2, (.k (.arr 3686402 0))), (999, 3, (.k (.arr 45056030 0))), (999, 4, (.k (.arr 49152018 0))), (25000, 0, (.k (.ptr 2101250 0 0))), (25000, 1, (.v T24))], [(2101250, .cells (.pr (.pr (.pr (.v T34) (.k (.arr 3686401 0))) (.pr (.v T34) (.k (.arr 3686402 0)))) (.pr (.v .bool) (.pr (.k (.arr 49152018 0)) (.k (.arr 45056030 0)))))), (3686401, .arr 32 T31), (3686402, .arr 32 T31), (45056030, .arr 42 T41), (49152018, .arr 42 T41)], [], 0⟩
abbrev engine_Engine_Where_s_o : List Out := [⟨.ret, ⟨[(999, 0, (.k (.ptr 2101250 0 0))), (999, 1, (.k (.arr 3686401 0))), (999, 2, (.k (.arr 3686402 0))), (999, 3, (.k (.arr 45056030 0))), (999, 4, (.k (.arr 49152018 0))), (25000, 4, (.k (.ptr 102400004 0 0))), (25000, 5, (.k (.ptr 102400005 0 0)))], [(2101250, .cells (.pr (.pr (.pr (.v T34) (.k (.arr 3686401 0))) (.pr (.v T34) (.k (.arr 3686402 0)))) (.pr (.v .bool) (.pr (.k (.arr 49152018 0)) (.k (.arr 45056030 0)))))), (3686401, .arr 32 T31), (3686402, .arr 32 T31), (45056030, .arr 42 T41), (49152018, .arr 42 T41), (102400004, .cells (.v T31)), (102400005, .cells (.v T31))], [], 0⟩⟩]
def engine_Engine_Where_s (k : Nat) (x : Mask.den engine_Engine_Where_s_i) : Option (denS engine_Engine_Where_s_o) :=
 bif (!x.2.1.2.1) then
  (iv_None k).bind fun r1 =>
  (iv_None k).bind fun r2 =>
  some (Sum.inl (((), (), (), (), (), (), (), ()), ((((x.2.1.1.1.1, ()), (x.2.1.1.2.1, ())), (x.2.1.2.1, ((), ()))), x.2.2.1, x.2.2.2.1, x.2.2.2.2.1, x.2.2.2.2.2.1, r1.1, r2.1, ())))
 else
  (tube_At k x.2.1.1.1.1 x.1.2.2.2.2.2.2.1).bind fun r3 =>
  (tube_At k x.2.1.1.2.1 x.1.2.2.2.2.2.2.1).bind fun r4 =>
  some (Sum.inl (((), (), (), (), (), (), (), ()), ((((x.2.1.1.1.1, ()), (x.2.1.1.2.1, ())), (x.2.1.2.1, ((), ()))), x.2.2.1, x.2.2.2.1, x.2.2.2.2.1, x.2.2.2.2.2.1, r3.1, r4.1, ())))
abbrev engine_Engine_Where_s_seg (k : Nat) : Seg := ⟨⟨25000, 29, false, [999], []⟩, 12, [], engine_Engine_Where_s_i, engine_Engine_Where_s_o, engine_Engine_Where_s k⟩
theorem engine_Engine_Where_s_seg.ok (k : Nat) : SegOK Tryz.prog (e99 k) (engine_Engine_Where_s_seg k) :=
 SegOK.of (e99.ok k) (by kernel_rfl) (S := engine_Engine_Where_s_seg k) 8 .n trivial (fun x => by kernel_rfl)
abbrev engine_Engine_Lost_s_i : Mask := ⟨[(999, 0, (.k (.ptr 2101250 0 0))), (999, 1, (.k (.arr 3686401 0))), (999, 2, (.k (.arr 3686402 0))), (999, 3, (.k (.arr 45056030 0))), (999, 4, (.k (.arr 49152018 0))), (26000, 0, (.k (.ptr 2101250 0 0)))], [(2101250, .cells (.pr (.pr (.pr (.v T34) (.k (.arr 3686401 0))) (.pr (.v T34) (.k (.arr 3686402 0)))) (.pr (.v .bool) (.pr (.k (.arr 49152018 0)) (.k (.arr 45056030 0)))))), (3686401, .arr 32 T31), (3686402, .arr 32 T31), (45056030, .arr 42 T41), (49152018, .arr 42 T41)], [], 0⟩
abbrev engine_Engine_Lost_s_o : List Out := [⟨.ret, ⟨[(999, 0, (.k (.ptr 2101250 0 0))), (999, 1, (.k (.arr 3686401 0))), (999, 2, (.k (.arr 3686402 0))), (999, 3, (.k (.arr 45056030 0))), (999, 4, (.k (.arr 49152018 0))), (26000, 2, (.v .bool))], [(2101250, .cells (.pr (.pr (.pr (.v T34) (.k (.arr 3686401 0))) (.pr (.v T34) (.k (.arr 3686402 0)))) (.pr (.v .bool) (.pr (.k (.arr 49152018 0)) (.k (.arr 45056030 0)))))), (3686401, .arr 32 T31), (3686402, .arr 32 T31), (45056030, .arr 42 T41), (49152018, .arr 42 T41)], [], 0⟩⟩]
def engine_Engine_Lost_s (k : Nat) (x : Mask.den engine_Engine_Lost_s_i) : Option (denS engine_Engine_Lost_s_o) :=
 bif x.2.1.2.1 then
  (tube_Empty k x.2.1.1.1.1).bind fun r1 =>
  bif r1.1 then
   some (Sum.inl (((), (), (), (), (), true, ()), ((((x.2.1.1.1.1, ()), (x.2.1.1.2.1, ())), (x.2.1.2.1, ((), ()))), x.2.2.1, x.2.2.2.1, x.2.2.2.2.1, x.2.2.2.2.2.1, ())))
  else
   (tube_Empty k x.2.1.1.2.1).bind fun r2 =>
   some (Sum.inl (((), (), (), (), (), r2.1, ()), ((((x.2.1.1.1.1, ()), (x.2.1.1.2.1, ())), (x.2.1.2.1, ((), ()))), x.2.2.1, x.2.2.2.1, x.2.2.2.2.1, x.2.2.2.2.2.1, ())))
 else
  some (Sum.inl (((), (), (), (), (), false, ()), ((((x.2.1.1.1.1, ()), (x.2.1.1.2.1, ())), (x.2.1.2.1, ((), ()))), x.2.2.1, x.2.2.2.1, x.2.2.2.2.1, x.2.2.2.2.2.1, ())))
abbrev engine_Engine_Lost_s_seg (k : Nat) : Seg := ⟨⟨26000, 25, false, [999], []⟩, 17, [], engine_Engine_Lost_s_i, engine_Engine_Lost_s_o, engine_Engine_Lost_s k⟩
theorem engine_Engine_Lost_s_seg.ok (k : Nat) : SegOK Tryz.prog (e99 k) (engine_Engine_Lost_s_seg k) :=
 SegOK.of (e99.ok k) (by kernel_rfl) (S := engine_Engine_Lost_s_seg k) 8 .n trivial (fun x => by kernel_rfl)
def peloruslaw22_awake (k : Nat) : Option (HL [.bool]) :=
 (peloruslaw08_Of k 0 0).bind fun r1 =>
 (engine_Engine_Do_s k (((), (), (0, (0, false, 0, 0), r1.1, r1.1, false, (0, false, 0, 0), 0, false, 0, 0), ()), ((((((0, false, 0, 0), (false, (0, false, 0, 0), 0, false, 0, 0), []), ()), (((0, false, 0, 0), (false, (0, false, 0, 0), 0, false, 0, 0), []), ())), (false, ((), ()))), [], [], [], [], ()))).bind fun q2 =>
 Sum.elim (fun z3 =>
   (num_Of k 1).bind fun r4 =>
   (peloruslaw08_Of k 1 2).bind fun r5 =>
   (engine_Engine_Do_s k (((), (), (1, r4.1, r5.1, r1.1, false, (0, false, 0, 0), 0, false, 0, 0), ()), ((((z3.2.1.1.1.1, ()), (z3.2.1.1.2.1, ())), (z3.2.1.2.1, ((), ()))), z3.2.2.1, z3.2.2.2.1, z3.2.2.2.2.1, z3.2.2.2.2.2.1, ()))).bind fun q6 =>
   Sum.elim (fun z7 =>
     (num_Of k 1).bind fun r8 =>
     (peloruslaw08_Of k 2 3).bind fun r9 =>
     (engine_Engine_Do_s k (((), (), (2, r8.1, r9.1, r1.1, false, (0, false, 0, 0), 0, false, 0, 0), ()), ((((z7.2.1.1.1.1, ()), (z7.2.1.1.2.1, ())), (z7.2.1.2.1, ((), ()))), z7.2.2.1, z7.2.2.2.1, z7.2.2.2.2.1, z7.2.2.2.2.2.1, ()))).bind fun q10 =>
     Sum.elim (fun z11 =>
       (num_Of k 1).bind fun r12 =>
       (engine_Engine_Where_s k (((), (), (), (), (), (), r12.1, ()), ((((z11.2.1.1.1.1, ()), (z11.2.1.1.2.1, ())), (z11.2.1.2.1, ((), ()))), z11.2.2.1, z11.2.2.2.1, z11.2.2.2.2.1, z11.2.2.2.2.2.1, ()))).bind fun q13 =>
       Sum.elim (fun z14 =>
         bif (z3.1.2.1 == 0) then
          bif (z7.1.2.1 == 0) then
           bif (z11.1.2.1 == 0) then
            (peloruslaw08_Of k 2 2).bind fun r15 =>
            bif (beqT T31 z14.2.2.2.2.2.2.1 r15.1) then
             bif (beqT T31 z14.2.2.2.2.2.2.2.1 r1.1) then
              bif (!z14.2.2.2.2.2.2.1.1) then
               bif (z14.2.2.2.2.2.2.1.2.1.1 == 1) then
                (engine_Engine_Lost_s k (((), (), (), (), (), (), ()), ((((z14.2.1.1.1.1, ()), (z14.2.1.1.2.1, ())), (z14.2.1.2.1, ((), ()))), z14.2.2.1, z14.2.2.2.1, z14.2.2.2.2.1, z14.2.2.2.2.2.1, ()))).bind fun q16 =>
                Sum.elim (fun z17 =>
                  some ((!z17.1.2.2.2.2.2.1), ()))
                 (fun q16' =>
                  none) q16
               else
                some (false, ())
              else
               some (false, ())
             else
              some (false, ())
            else
             some (false, ())
           else
            some (false, ())
          else
           some (false, ())
         else
          some (false, ()))
        (fun q13' =>
         none) q13)
      (fun q10' =>
       none) q10)
    (fun q6' =>
     none) q6)
  (fun q2' =>
   none) q2
theorem peloruslaw22_awake.ok (k : Nat) : SpecOK Tryz.prog G0 7 ⟨[], [.bool], fun x => peloruslaw22_awake k⟩ :=
 evF_sound (E := (e99 k)) (fn := Tryz.f7) (e99.ok k) (by kernel_rfl) (by kernel_rfl) (by kernel_rfl) 8 (.two .n (.two (.call 0 513 .n .n) (.two .n (.two .n (.two (.seg 4 (engine_Engine_Do_s_seg k) [] [] .n) (.two (.seg 5 (engine_Engine_Do_s_seg k) [] [] .n) (.two (.seg 5 (engine_Engine_Do_s_seg k) [] [] .n) (.two (.seg 2 (engine_Engine_Where_s_seg k) [] [] .n) (.two (.seg 33 (engine_Engine_Lost_s_seg k) [] [] .n) .n))))))))) ⟨trivial, ⟨⟨trivial, trivial⟩, ⟨trivial, ⟨trivial, ⟨⟨(engine_Engine_Do_s_seg.ok k).env rfl rfl, trivial⟩, ⟨⟨(engine_Engine_Do_s_seg.ok k).env rfl rfl, trivial⟩, ⟨⟨(engine_Engine_Do_s_seg.ok k).env rfl rfl, trivial⟩, ⟨⟨(engine_Engine_Where_s_seg.ok k).env rfl rfl, trivial⟩, ⟨⟨(engine_Engine_Lost_s_seg.ok k).env rfl rfl, trivial⟩, trivial⟩⟩⟩⟩⟩⟩⟩⟩⟩ (fun xs => by kernel_rfl)
def e100 (k : Nat) : Env := (e99 k).add 7 ⟨[], [.bool], fun x => peloruslaw22_awake k⟩
theorem e100.ok (k : Nat) : (e100 k).OK Tryz.prog := (e99.ok k).add (peloruslaw22_awake.ok k)
abbrev engine_Engine_X_s_i : Mask := ⟨[(999, 0, (.k (.ptr 2101250 0 0))), (999, 1, (.k (.arr 3686401 0))), (999, 2, (.k (.arr 3686402 0))), (999, 3, (.k (.arr 45056030 0))), (999, 4, (.k (.arr 49152018 0))), (27000, 0, (.k (.ptr 2101250 0 0)))], [(2101250, .cells (.pr (.pr (.pr (.v T34) (.k (.arr 3686401 0))) (.pr (.v T34) (.k (.arr 3686402 0)))) (.pr (.v .bool) (.pr (.k (.arr 49152018 0)) (.k (.arr 45056030 0)))))), (3686401, .arr 32 T31), (3686402, .arr 32 T31), (45056030, .arr 42 T41), (49152018, .arr 42 T41)], [], 0⟩
abbrev engine_Engine_X_s_o : List Out := [⟨.ret, ⟨[(999, 0, (.k (.ptr 2101250 0 0))), (999, 1, (.k (.arr 3686401 0))), (999, 2, (.k (.arr 3686402 0))), (999, 3, (.k (.arr 45056030 0))), (999, 4, (.k (.arr 49152018 0))), (27000, 2, (.k (.ptr 110592002 0 0)))], [(2101250, .cells (.pr (.pr (.pr (.v T34) (.k (.arr 3686401 0))) (.pr (.v T34) (.k (.arr 3686402 0)))) (.pr (.v .bool) (.pr (.k (.arr 49152018 0)) (.k (.arr 45056030 0)))))), (3686401, .arr 32 T31), (3686402, .arr 32 T31), (45056030, .arr 42 T41), (49152018, .arr 42 T41), (110592002, .cells (.v T34))], [], 0⟩⟩]
def engine_Engine_X_s (k : Nat) (x : Mask.den engine_Engine_X_s_i) : Option (denS engine_Engine_X_s_o) :=
 (engine_copied k x.2.1.1.1.1).bind fun r1 =>
 some (Sum.inl (((), (), (), (), (), (), ()), ((((x.2.1.1.1.1, ()), (x.2.1.1.2.1, ())), (x.2.1.2.1, ((), ()))), x.2.2.1, x.2.2.2.1, x.2.2.2.2.1, x.2.2.2.2.2.1, r1.1, ())))
abbrev engine_Engine_X_s_seg (k : Nat) : Seg := ⟨⟨27000, 10, false, [999], []⟩, 15, [], engine_Engine_X_s_i, engine_Engine_X_s_o, engine_Engine_X_s k⟩
theorem engine_Engine_X_s_seg.ok (k : Nat) : SegOK Tryz.prog (e100 k) (engine_Engine_X_s_seg k) :=
 SegOK.of (e100.ok k) (by kernel_rfl) (S := engine_Engine_X_s_seg k) 8 .n trivial (fun x => by kernel_rfl)
abbrev engine_Engine_Y_s_i : Mask := ⟨[(999, 0, (.k (.ptr 2101250 0 0))), (999, 1, (.k (.arr 3686401 0))), (999, 2, (.k (.arr 3686402 0))), (999, 3, (.k (.arr 45056030 0))), (999, 4, (.k (.arr 49152018 0))), (28000, 0, (.k (.ptr 2101250 0 0)))], [(2101250, .cells (.pr (.pr (.pr (.v T34) (.k (.arr 3686401 0))) (.pr (.v T34) (.k (.arr 3686402 0)))) (.pr (.v .bool) (.pr (.k (.arr 49152018 0)) (.k (.arr 45056030 0)))))), (3686401, .arr 32 T31), (3686402, .arr 32 T31), (45056030, .arr 42 T41), (49152018, .arr 42 T41)], [], 0⟩
abbrev engine_Engine_Y_s_o : List Out := [⟨.ret, ⟨[(999, 0, (.k (.ptr 2101250 0 0))), (999, 1, (.k (.arr 3686401 0))), (999, 2, (.k (.arr 3686402 0))), (999, 3, (.k (.arr 45056030 0))), (999, 4, (.k (.arr 49152018 0))), (28000, 2, (.k (.ptr 114688002 0 0)))], [(2101250, .cells (.pr (.pr (.pr (.v T34) (.k (.arr 3686401 0))) (.pr (.v T34) (.k (.arr 3686402 0)))) (.pr (.v .bool) (.pr (.k (.arr 49152018 0)) (.k (.arr 45056030 0)))))), (3686401, .arr 32 T31), (3686402, .arr 32 T31), (45056030, .arr 42 T41), (49152018, .arr 42 T41), (114688002, .cells (.v T34))], [], 0⟩⟩]
def engine_Engine_Y_s (k : Nat) (x : Mask.den engine_Engine_Y_s_i) : Option (denS engine_Engine_Y_s_o) :=
 (engine_copied k x.2.1.1.2.1).bind fun r1 =>
 some (Sum.inl (((), (), (), (), (), (), ()), ((((x.2.1.1.1.1, ()), (x.2.1.1.2.1, ())), (x.2.1.2.1, ((), ()))), x.2.2.1, x.2.2.2.1, x.2.2.2.2.1, x.2.2.2.2.2.1, r1.1, ())))
abbrev engine_Engine_Y_s_seg (k : Nat) : Seg := ⟨⟨28000, 10, false, [999], []⟩, 16, [], engine_Engine_Y_s_i, engine_Engine_Y_s_o, engine_Engine_Y_s k⟩
theorem engine_Engine_Y_s_seg.ok (k : Nat) : SegOK Tryz.prog (e100 k) (engine_Engine_Y_s_seg k) :=
 SegOK.of (e100.ok k) (by kernel_rfl) (S := engine_Engine_Y_s_seg k) 8 .n trivial (fun x => by kernel_rfl)
abbrev engine_Engine_Ops_s_i : Mask := ⟨[(999, 0, (.k (.ptr 2101250 0 0))), (999, 1, (.k (.arr 3686401 0))), (999, 2, (.k (.arr 3686402 0))), (999, 3, (.k (.arr 45056030 0))), (999, 4, (.k (.arr 49152018 0))), (29000, 0, (.k (.ptr 2101250 0 0)))], [(2101250, .cells (.pr (.pr (.pr (.v T34) (.k (.arr 3686401 0))) (.pr (.v T34) (.k (.arr 3686402 0)))) (.pr (.v .bool) (.pr (.k (.arr 49152018 0)) (.k (.arr 45056030 0)))))), (3686401, .arr 32 T31), (3686402, .arr 32 T31), (45056030, .arr 42 T41), (49152018, .arr 42 T41)], [], 0⟩
abbrev engine_Engine_Ops_s_o : List Out := [⟨.ret, ⟨[(999, 0, (.k (.ptr 2101250 0 0))), (999, 1, (.k (.arr 3686401 0))), (999, 2, (.k (.arr 3686402 0))), (999, 3, (.k (.arr 45056030 0))), (999, 4, (.k (.arr 49152018 0))), (29000, 2, (.v T22))], [(2101250, .cells (.pr (.pr (.pr (.v T34) (.k (.arr 3686401 0))) (.pr (.v T34) (.k (.arr 3686402 0)))) (.pr (.v .bool) (.pr (.k (.arr 49152018 0)) (.k (.arr 45056030 0)))))), (3686401, .arr 32 T31), (3686402, .arr 32 T31), (45056030, .arr 42 T41), (49152018, .arr 42 T41)], [], 0⟩⟩]
def engine_Engine_Ops_s (k : Nat) (x : Mask.den engine_Engine_Ops_s_i) : Option (denS engine_Engine_Ops_s_o) :=
 if x.2.2.2.2.1.length * 256 ≤ 140737488355328 then
  some (Sum.inl (((), (), (), (), (), x.2.2.2.2.1, ()), ((((x.2.1.1.1.1, ()), (x.2.1.1.2.1, ())), (x.2.1.2.1, ((), ()))), x.2.2.1, x.2.2.2.1, x.2.2.2.2.1, x.2.2.2.2.2.1, ())))
 else none
abbrev engine_Engine_Ops_s_seg (k : Nat) : Seg := ⟨⟨29000, 8, false, [999], []⟩, 19, [], engine_Engine_Ops_s_i, engine_Engine_Ops_s_o, engine_Engine_Ops_s k⟩
theorem engine_Engine_Ops_s_seg.ok (k : Nat) : SegOK Tryz.prog (e100 k) (engine_Engine_Ops_s_seg k) :=
 SegOK.of (e100.ok k) (by kernel_rfl) (S := engine_Engine_Ops_s_seg k) 8 .n trivial (fun x => by kernel_rfl)
abbrev peloruslaw22_EngineRefuses_l0_i : Mask := ⟨[(0, 0, (.v T22)), (0, 3, (.k (.ptr 3 0 0))), (0, 6, (.k (.ptr 2101250 0 0))), (0, 7, (.v (.int .i64)))], [(3, .cells (.v T41)), (2101250, .cells (.pr (.pr (.pr (.v T34) (.k (.arr 3686401 0))) (.pr (.v T34) (.k (.arr 3686402 0)))) (.pr (.v .bool) (.pr (.k (.arr 49152018 0)) (.k (.arr 45056030 0)))))), (3686401, .arr 32 T31), (3686402, .arr 32 T31), (45056030, .arr 42 T41), (49152018, .arr 42 T41)], [], 0⟩
abbrev peloruslaw22_EngineRefuses_l0_o : List Out := [⟨.exit 0, ⟨[(0, 3, (.k (.ptr 3 0 0))), (0, 6, (.k (.ptr 2101250 0 0)))], [(3, .cells (.v T41)), (2101250, .cells (.pr (.pr (.pr (.v T34) (.k (.arr 3686401 0))) (.pr (.v T34) (.k (.arr 3686402 0)))) (.pr (.v .bool) (.pr (.k (.arr 49152018 0)) (.k (.arr 45056030 0)))))), (3686401, .arr 32 T31), (3686402, .arr 32 T31), (45056030, .arr 42 T41), (49152018, .arr 42 T41)], [], 0⟩⟩]
def peloruslaw22_EngineRefuses_l0 (k : Nat) : Nat → Mask.den peloruslaw22_EngineRefuses_l0_i → Option (denS peloruslaw22_EngineRefuses_l0_o)
 | 0, _ => none
 | m + 1, x =>
  bif (decide (x.1.2.2.2.1 < (x.1.1.length : Int))) then
   if 0 ≤ x.1.2.2.2.1 then (x.1.1[Int.toNat x.1.2.2.2.1]?).bind fun y8 =>
    (engine_Engine_Do_s k (((), (), y8, ()), ((((x.2.2.1.1.1.1, ()), (x.2.2.1.1.2.1, ())), (x.2.2.1.2.1, ((), ()))), x.2.2.2.1, x.2.2.2.2.1, x.2.2.2.2.2.1, x.2.2.2.2.2.2.1, ()))).bind fun q9 =>
    Sum.elim (fun z10 =>
      peloruslaw22_EngineRefuses_l0 k m ((x.1.1, (), (), (IntKind.i64.wrap (x.1.2.2.2.1 + 1)), ()), (x.2.1, (((z10.2.1.1.1.1, ()), (z10.2.1.1.2.1, ())), (z10.2.1.2.1, ((), ()))), z10.2.2.1, z10.2.2.2.1, z10.2.2.2.2.1, z10.2.2.2.2.2.1, ())))
     (fun q9' =>
      none) q9
   else none
  else
   some (Sum.inl (((), (), ()), (x.2.1, (((x.2.2.1.1.1.1, ()), (x.2.2.1.1.2.1, ())), (x.2.2.1.2.1, ((), ()))), x.2.2.2.1, x.2.2.2.2.1, x.2.2.2.2.2.1, x.2.2.2.2.2.2.1, ())))
abbrev peloruslaw22_EngineRefuses_l0_seg (k : Nat) : Seg := ⟨⟨0, 88, false, [], []⟩, 4, [.b, .s2, .s1, .s2, .s2, .s2, .s2], peloruslaw22_EngineRefuses_l0_i, peloruslaw22_EngineRefuses_l0_o, peloruslaw22_EngineRefuses_l0 k k⟩
theorem peloruslaw22_EngineRefuses_l0_seg.ok (k : Nat) : SegOK Tryz.prog (e100 k) (peloruslaw22_EngineRefuses_l0_seg k) :=
 SegOK.loop (e100.ok k) (by kernel_rfl) (S := peloruslaw22_EngineRefuses_l0_seg k) (c := atR (codeOf (e100 k) 4) [.l, .b, .s2, .s1, .s2, .s2, .s2, .s2]) (by kernel_rfl) (peloruslaw22_EngineRefuses_l0 k) k rfl (fun _ => rfl) 8 (.two .n (.two (.two (.seg 5 (engine_Engine_Do_s_seg k) [] [] .n) .n) .n)) ⟨trivial, ⟨⟨⟨(engine_Engine_Do_s_seg.ok k).env rfl rfl, trivial⟩, trivial⟩, trivial⟩⟩ (fun k' x => by kernel_rfl)
def peloruslaw22_EngineRefuses (k : Nat) (x0 : Ty.den T22) (x1 : Ty.den T41) : Option (HL [.bool]) :=
 (peloruslaw22_awake k).bind fun r1 =>
 bif (!r1.1) then
  bif r1.1 then
   some (true, ())
  else
   some (false, ())
 else
  bif (decide ((x0.length : Int) > 24)) then
   bif r1.1 then
    some (true, ())
   else
    some (false, ())
  else
   (peloruslaw22_EngineRefuses_l0 k k ((x0, (), (), 0, ()), (x1, (((((0, false, 0, 0), (false, (0, false, 0, 0), 0, false, 0, 0), []), ()), (((0, false, 0, 0), (false, (0, false, 0, 0), 0, false, 0, 0), []), ())), (false, ((), ()))), [], [], [], [], ()))).bind fun q11 =>
   Sum.elim (fun z12 =>
     (engine_Engine_X_s k (((), (), (), (), (), (), ()), ((((z12.2.2.1.1.1.1, ()), (z12.2.2.1.1.2.1, ())), (z12.2.2.1.2.1, ((), ()))), z12.2.2.2.1, z12.2.2.2.2.1, z12.2.2.2.2.2.1, z12.2.2.2.2.2.2.1, ()))).bind fun q13 =>
     Sum.elim (fun z14 =>
       (engine_Engine_Y_s k (((), (), (), (), (), (), ()), ((((z14.2.1.1.1.1, ()), (z14.2.1.1.2.1, ())), (z14.2.1.2.1, ((), ()))), z14.2.2.1, z14.2.2.2.1, z14.2.2.2.2.1, z14.2.2.2.2.2.1, ()))).bind fun q15 =>
       Sum.elim (fun z16 =>
         (engine_Engine_Ops_s k (((), (), (), (), (), (), ()), ((((z16.2.1.1.1.1, ()), (z16.2.1.1.2.1, ())), (z16.2.1.2.1, ((), ()))), z16.2.2.1, z16.2.2.2.1, z16.2.2.2.2.1, z16.2.2.2.2.2.1, ()))).bind fun q17 =>
         Sum.elim (fun z18 =>
           (engine_Engine_Lost_s k (((), (), (), (), (), (), ()), ((((z18.2.1.1.1.1, ()), (z18.2.1.1.2.1, ())), (z18.2.1.2.1, ((), ()))), z18.2.2.1, z18.2.2.2.1, z18.2.2.2.2.1, z18.2.2.2.2.2.1, ()))).bind fun q19 =>
           Sum.elim (fun z20 =>
             (engine_Engine_Do_s k (((), (), z12.2.1, ()), ((((z20.2.1.1.1.1, ()), (z20.2.1.1.2.1, ())), (z20.2.1.2.1, ((), ()))), z20.2.2.1, z20.2.2.2.1, z20.2.2.2.2.1, z20.2.2.2.2.2.1, ()))).bind fun q21 =>
             Sum.elim (fun z22 =>
               bif (z22.1.2.1 == 0) then
                (engine_Engine_Ops_s k (((), (), (), (), (), (), ()), ((((z22.2.1.1.1.1, ()), (z22.2.1.1.2.1, ())), (z22.2.1.2.1, ((), ()))), z22.2.2.1, z22.2.2.2.1, z22.2.2.2.2.1, z22.2.2.2.2.2.1, ()))).bind fun q23 =>
                Sum.elim (fun z25 =>
                  some (((z25.1.2.2.2.2.2.1.length : Int) == (IntKind.i64.wrap ((z18.1.2.2.2.2.2.1.length : Int) + 1))), ()))
                 (fun q23' =>
                  none) q23
               else
                (engine_Engine_X_s k (((), (), (), (), (), (), ()), ((((z22.2.1.1.1.1, ()), (z22.2.1.1.2.1, ())), (z22.2.1.2.1, ((), ()))), z22.2.2.1, z22.2.2.2.1, z22.2.2.2.2.1, z22.2.2.2.2.2.1, ()))).bind fun q24 =>
                Sum.elim (fun z26 =>
                  (pelorusref17_Same k z26.2.2.2.2.2.2.1 z14.2.2.2.2.2.2.1).bind fun r27 =>
                  (engine_Engine_Y_s k (((), (), (), (), (), (), ()), ((((z26.2.1.1.1.1, ()), (z26.2.1.1.2.1, ())), (z26.2.1.2.1, ((), ()))), z26.2.2.1, z26.2.2.2.1, z26.2.2.2.2.1, z26.2.2.2.2.2.1, ()))).bind fun q28 =>
                  Sum.elim (fun z29 =>
                    (pelorusref17_Same k z29.2.2.2.2.2.2.1 z16.2.2.2.2.2.2.1).bind fun r30 =>
                    bif r27.1 then
                     bif r30.1 then
                      (engine_Engine_Ops_s k (((), (), (), (), (), (), ()), ((((z29.2.1.1.1.1, ()), (z29.2.1.1.2.1, ())), (z29.2.1.2.1, ((), ()))), z29.2.2.1, z29.2.2.2.1, z29.2.2.2.2.1, z29.2.2.2.2.2.1, ()))).bind fun q31 =>
                      Sum.elim (fun z32 =>
                        bif ((z32.1.2.2.2.2.2.1.length : Int) == (z18.1.2.2.2.2.2.1.length : Int)) then
                         (engine_Engine_Lost_s k (((), (), (), (), (), (), ()), ((((z32.2.1.1.1.1, ()), (z32.2.1.1.2.1, ())), (z32.2.1.2.1, ((), ()))), z32.2.2.1, z32.2.2.2.1, z32.2.2.2.2.1, z32.2.2.2.2.2.1, ()))).bind fun q33 =>
                         Sum.elim (fun z34 =>
                           some ((z34.1.2.2.2.2.2.1 == z20.1.2.2.2.2.2.1), ()))
                          (fun q33' =>
                           none) q33
                        else
                         some (false, ()))
                       (fun q31' =>
                        none) q31
                     else
                      some (false, ())
                    else
                     some (false, ()))
                   (fun q28' =>
                    none) q28)
                 (fun q24' =>
                  none) q24)
              (fun q21' =>
               none) q21)
            (fun q19' =>
             none) q19)
          (fun q17' =>
           none) q17)
        (fun q15' =>
         none) q15)
      (fun q13' =>
       none) q13)
    (fun q11' =>
     none) q11
theorem peloruslaw22_EngineRefuses.ok (k : Nat) : SpecOK Tryz.prog G0 4 ⟨[T22, T41], [.bool], fun x => peloruslaw22_EngineRefuses k x.1 x.2.1⟩ :=
 evF_sound (E := (e100 k)) (fn := Tryz.f4) (e100.ok k) (by kernel_rfl) (by kernel_rfl) (by kernel_rfl) 8 (.two .n (.two .n (.two (.call 0 513 .n .n) (.two .n (.two (.two .n (.two (.use (peloruslaw22_EngineRefuses_l0_seg k)) .n)) (.two (.seg 1 (engine_Engine_X_s_seg k) [] [] .n) (.two (.seg 1 (engine_Engine_Y_s_seg k) [] [] .n) (.two (.seg 1 (engine_Engine_Ops_s_seg k) [] [] .n) (.two (.seg 1 (engine_Engine_Lost_s_seg k) [] [] .n) (.two (.two (.seg 2 (engine_Engine_Do_s_seg k) [] [] .n) (.two (.two (.seg 1 (engine_Engine_Ops_s_seg k) [] [] .n) .n) .n)) (.two (.seg 1 (engine_Engine_X_s_seg k) [(110592002, 900000000)] [(35, 8)] .n) (.two (.seg 1 (engine_Engine_Y_s_seg k) [(114688002, 900000001)] [(35, 9)] .n) (.two (.seg 6 (engine_Engine_Ops_s_seg k) [] [] (.seg 13 (engine_Engine_Lost_s_seg k) [] [] .n)) .n))))))))))))) ⟨trivial, ⟨trivial, ⟨⟨trivial, trivial⟩, ⟨trivial, ⟨⟨trivial, ⟨(peloruslaw22_EngineRefuses_l0_seg.ok k), trivial⟩⟩, ⟨⟨(engine_Engine_X_s_seg.ok k).env rfl rfl, trivial⟩, ⟨⟨(engine_Engine_Y_s_seg.ok k).env rfl rfl, trivial⟩, ⟨⟨(engine_Engine_Ops_s_seg.ok k).env rfl rfl, trivial⟩, ⟨⟨(engine_Engine_Lost_s_seg.ok k).env rfl rfl, trivial⟩, ⟨⟨⟨(engine_Engine_Do_s_seg.ok k).env rfl rfl, trivial⟩, ⟨⟨⟨(engine_Engine_Ops_s_seg.ok k).env rfl rfl, trivial⟩, trivial⟩, trivial⟩⟩, ⟨⟨(engine_Engine_X_s_seg.ok k).env rfl rfl, trivial⟩, ⟨⟨(engine_Engine_Y_s_seg.ok k).env rfl rfl, trivial⟩, ⟨⟨(engine_Engine_Ops_s_seg.ok k).env rfl rfl, ⟨(engine_Engine_Lost_s_seg.ok k).env rfl rfl, trivial⟩⟩, trivial⟩⟩⟩⟩⟩⟩⟩⟩⟩⟩⟩⟩⟩ (fun xs => by kernel_rfl)
def e101 (k : Nat) : Env := (e100 k).add 4 ⟨[T22, T41], [.bool], fun x => peloruslaw22_EngineRefuses k x.1 x.2.1⟩
theorem e101.ok (k : Nat) : (e101 k).OK Tryz.prog := (e100.ok k).add (peloruslaw22_EngineRefuses.ok k)
abbrev engine_Again_s_l0_i : Mask := ⟨[(30000, 0, (.v T22)), (30000, 5, (.k (.ptr 124981250 0 0))), (30000, 10, (.v T22)), (30000, 11, (.v (.int .i64))), (30000, 12, (.v (.int .i64)))], [(3686403, .arr 32 T31), (3686404, .arr 32 T31), (3686405, .arr 42 T41), (3686406, .arr 42 T41), (124981250, .cells (.pr (.pr (.pr (.v T34) (.k (.arr 3686403 0))) (.pr (.v T34) (.k (.arr 3686404 0)))) (.pr (.v .bool) (.pr (.k (.arr 3686405 0)) (.k (.arr 3686406 0))))))], [], 0⟩
abbrev engine_Again_s_l0_o : List Out := [⟨.exit 0, ⟨[(30000, 0, (.v T22)), (30000, 5, (.k (.ptr 124981250 0 0)))], [(3686403, .arr 32 T31), (3686404, .arr 32 T31), (3686405, .arr 42 T41), (3686406, .arr 42 T41), (124981250, .cells (.pr (.pr (.pr (.v T34) (.k (.arr 3686403 0))) (.pr (.v T34) (.k (.arr 3686404 0)))) (.pr (.v .bool) (.pr (.k (.arr 3686405 0)) (.k (.arr 3686406 0))))))], [], 0⟩⟩, ⟨.ret, ⟨[(30000, 2, (.k (.ptr 124981250 0 0))), (30000, 3, (.v (.int .i64))), (30000, 4, (.v (.int .i64)))], [(3686403, .arr 32 T31), (3686404, .arr 32 T31), (3686405, .arr 42 T41), (3686406, .arr 42 T41), (124981250, .cells (.pr (.pr (.pr (.v T34) (.k (.arr 3686403 0))) (.pr (.v T34) (.k (.arr 3686404 0)))) (.pr (.v .bool) (.pr (.k (.arr 3686405 0)) (.k (.arr 3686406 0))))))], [], 0⟩⟩]
def engine_Again_s_l0 (k : Nat) : Nat → Mask.den engine_Again_s_l0_i → Option (denS engine_Again_s_l0_o)
 | 0, _ => none
 | m + 1, x =>
  bif (decide (x.1.2.2.2.2.1 < x.1.2.2.2.1)) then
   if 0 ≤ x.1.2.2.2.2.1 then (x.1.2.2.1[Int.toNat x.1.2.2.2.2.1]?).bind fun y11 =>
    (engine_Engine_Do_s k (((), (), y11, ()), ((((x.2.2.2.2.2.1.1.1.1, ()), (x.2.2.2.2.2.1.1.2.1, ())), (x.2.2.2.2.2.1.2.1, ((), ()))), x.2.1, x.2.2.1, x.2.2.2.2.1, x.2.2.2.1, ()))).bind fun q12 =>
    Sum.elim (fun z13 =>
      bif (z13.1.2.1 != 0) then
       some (Sum.inr (Sum.inl (((), x.1.2.2.2.2.1, z13.1.2.1, ()), (z13.2.2.1, z13.2.2.2.1, z13.2.2.2.2.2.1, z13.2.2.2.2.1, (((z13.2.1.1.1.1, ()), (z13.2.1.1.2.1, ())), (z13.2.1.2.1, ((), ()))), ()))))
      else
       engine_Again_s_l0 k m ((x.1.1, (), x.1.2.2.1, x.1.2.2.2.1, (IntKind.i64.wrap (x.1.2.2.2.2.1 + 1)), ()), (z13.2.2.1, z13.2.2.2.1, z13.2.2.2.2.2.1, z13.2.2.2.2.1, (((z13.2.1.1.1.1, ()), (z13.2.1.1.2.1, ())), (z13.2.1.2.1, ((), ()))), ())))
     (fun q12' =>
      none) q12
   else none
  else
   some (Sum.inl ((x.1.1, (), ()), (x.2.1, x.2.2.1, x.2.2.2.1, x.2.2.2.2.1, (((x.2.2.2.2.2.1.1.1.1, ()), (x.2.2.2.2.2.1.1.2.1, ())), (x.2.2.2.2.2.1.2.1, ((), ()))), ())))
abbrev engine_Again_s_l0_seg (k : Nat) : Seg := ⟨⟨30000, 29, false, [999], []⟩, 20, [.b, .s2, .s1, .s2, .s2], engine_Again_s_l0_i, engine_Again_s_l0_o, engine_Again_s_l0 k k⟩
theorem engine_Again_s_l0_seg.ok (k : Nat) : SegOK Tryz.prog (e101 k) (engine_Again_s_l0_seg k) :=
 SegOK.loop (e101.ok k) (by kernel_rfl) (S := engine_Again_s_l0_seg k) (c := atR (codeOf (e101 k) 20) [.l, .b, .s2, .s1, .s2, .s2]) (by kernel_rfl) (engine_Again_s_l0 k) k rfl (fun _ => rfl) 8 (.two .n (.two .n (.two (.two (.two .n (.two (.seg 2 (engine_Engine_Do_s_seg k) [(124981250, 2101250), (3686403, 3686401), (3686404, 3686402), (3686406, 45056030), (3686405, 49152018)] [] .n) .n)) .n) .n))) ⟨trivial, ⟨trivial, ⟨⟨⟨trivial, ⟨⟨(engine_Engine_Do_s_seg.ok k).env rfl rfl, trivial⟩, trivial⟩⟩, trivial⟩, trivial⟩⟩⟩ (fun k' x => by kernel_rfl)
abbrev engine_Again_s_i : Mask := ⟨[(30000, 0, (.v T22))], [], [], 0⟩
abbrev engine_Again_s_o : List Out := [⟨.ret, ⟨[(30000, 2, (.k (.ptr 124981250 0 0))), (30000, 3, (.v (.int .i64))), (30000, 4, (.v (.int .i64)))], [(3686403, .arr 32 T31), (3686404, .arr 32 T31), (3686405, .arr 42 T41), (3686406, .arr 42 T41), (124981250, .cells (.pr (.pr (.pr (.v T34) (.k (.arr 3686403 0))) (.pr (.v T34) (.k (.arr 3686404 0)))) (.pr (.v .bool) (.pr (.k (.arr 3686405 0)) (.k (.arr 3686406 0))))))], [], 0⟩⟩]
def engine_Again_s (k : Nat) (x : Mask.den engine_Again_s_i) : Option (denS engine_Again_s_o) :=
 (engine_Again_s_l0 k k ((x.1.1, (), x.1.1, (x.1.1.length : Int), 0, ()), ([], [], [], [], (((((0, false, 0, 0), (false, (0, false, 0, 0), 0, false, 0, 0), []), ()), (((0, false, 0, 0), (false, (0, false, 0, 0), 0, false, 0, 0), []), ())), (false, ((), ()))), ()))).bind fun q14 =>
 Sum.elim (fun z15 =>
   some (Sum.inl (((), (z15.1.1.length : Int), 0, ()), (z15.2.1, z15.2.2.1, z15.2.2.2.1, z15.2.2.2.2.1, (((z15.2.2.2.2.2.1.1.1.1, ()), (z15.2.2.2.2.2.1.1.2.1, ())), (z15.2.2.2.2.2.1.2.1, ((), ()))), ()))))
  (fun q14' =>
   Sum.elim (fun z16 =>
     some (Sum.inl (((), z16.1.2.1, z16.1.2.2.1, ()), (z16.2.1, z16.2.2.1, z16.2.2.2.1, z16.2.2.2.2.1, (((z16.2.2.2.2.2.1.1.1.1, ()), (z16.2.2.2.2.2.1.1.2.1, ())), (z16.2.2.2.2.2.1.2.1, ((), ()))), ()))))
    (fun q14'' =>
     none) q14') q14
abbrev engine_Again_s_seg (k : Nat) : Seg := ⟨⟨30000, 29, false, [999], []⟩, 20, [], engine_Again_s_i, engine_Again_s_o, engine_Again_s k⟩
theorem engine_Again_s_seg.ok (k : Nat) : SegOK Tryz.prog (e101 k) (engine_Again_s_seg k) :=
 SegOK.of (e101.ok k) (by kernel_rfl) (S := engine_Again_s_seg k) 8 (.two .n (.two (.call 0 30513 .n .n) (.two (.two .n (.two (.use (engine_Again_s_l0_seg k)) .n)) .n))) ⟨trivial, ⟨⟨trivial, trivial⟩, ⟨⟨trivial, ⟨(engine_Again_s_l0_seg.ok k), trivial⟩⟩, trivial⟩⟩⟩ (fun x => by kernel_rfl)
abbrev peloruslaw22_EngineAgain_l0_i : Mask := ⟨[(0, 0, (.v T22)), (0, 1, (.v (.int .i64))), (0, 6, (.k (.ptr 2101250 0 0))), (0, 7, (.v (.int .i64)))], [(2101250, .cells (.pr (.pr (.pr (.v T34) (.k (.arr 3686401 0))) (.pr (.v T34) (.k (.arr 3686402 0)))) (.pr (.v .bool) (.pr (.k (.arr 49152018 0)) (.k (.arr 45056030 0)))))), (3686401, .arr 32 T31), (3686402, .arr 32 T31), (45056030, .arr 42 T41), (49152018, .arr 42 T41)], [], 0⟩
abbrev peloruslaw22_EngineAgain_l0_o : List Out := [⟨.exit 0, ⟨[(0, 1, (.v (.int .i64))), (0, 6, (.k (.ptr 2101250 0 0)))], [(2101250, .cells (.pr (.pr (.pr (.v T34) (.k (.arr 3686401 0))) (.pr (.v T34) (.k (.arr 3686402 0)))) (.pr (.v .bool) (.pr (.k (.arr 49152018 0)) (.k (.arr 45056030 0)))))), (3686401, .arr 32 T31), (3686402, .arr 32 T31), (45056030, .arr 42 T41), (49152018, .arr 42 T41)], [], 0⟩⟩]
def peloruslaw22_EngineAgain_l0 (k : Nat) : Nat → Mask.den peloruslaw22_EngineAgain_l0_i → Option (denS peloruslaw22_EngineAgain_l0_o)
 | 0, _ => none
 | m + 1, x =>
  bif (decide (x.1.2.2.2.1 < (x.1.1.length : Int))) then
   if 0 ≤ x.1.2.2.2.1 then (x.1.1[Int.toNat x.1.2.2.2.1]?).bind fun y8 =>
    (engine_Engine_Do_s k (((), (), y8, ()), ((((x.2.1.1.1.1, ()), (x.2.1.1.2.1, ())), (x.2.1.2.1, ((), ()))), x.2.2.1, x.2.2.2.1, x.2.2.2.2.1, x.2.2.2.2.2.1, ()))).bind fun q9 =>
    Sum.elim (fun z10 =>
      peloruslaw22_EngineAgain_l0 k m ((x.1.1, x.1.2.1, (), (IntKind.i64.wrap (x.1.2.2.2.1 + 1)), ()), ((((z10.2.1.1.1.1, ()), (z10.2.1.1.2.1, ())), (z10.2.1.2.1, ((), ()))), z10.2.2.1, z10.2.2.2.1, z10.2.2.2.2.1, z10.2.2.2.2.2.1, ())))
     (fun q9' =>
      none) q9
   else none
  else
   some (Sum.inl ((x.1.2.1, (), ()), ((((x.2.1.1.1.1, ()), (x.2.1.1.2.1, ())), (x.2.1.2.1, ((), ()))), x.2.2.1, x.2.2.2.1, x.2.2.2.2.1, x.2.2.2.2.2.1, ())))
abbrev peloruslaw22_EngineAgain_l0_seg (k : Nat) : Seg := ⟨⟨0, 143, false, [], []⟩, 5, [.b, .s2, .s1, .s2, .s2, .s2, .s2], peloruslaw22_EngineAgain_l0_i, peloruslaw22_EngineAgain_l0_o, peloruslaw22_EngineAgain_l0 k k⟩
theorem peloruslaw22_EngineAgain_l0_seg.ok (k : Nat) : SegOK Tryz.prog (e101 k) (peloruslaw22_EngineAgain_l0_seg k) :=
 SegOK.loop (e101.ok k) (by kernel_rfl) (S := peloruslaw22_EngineAgain_l0_seg k) (c := atR (codeOf (e101 k) 5) [.l, .b, .s2, .s1, .s2, .s2, .s2, .s2]) (by kernel_rfl) (peloruslaw22_EngineAgain_l0 k) k rfl (fun _ => rfl) 8 (.two .n (.two (.two (.seg 5 (engine_Engine_Do_s_seg k) [] [] .n) .n) .n)) ⟨trivial, ⟨⟨⟨(engine_Engine_Do_s_seg.ok k).env rfl rfl, trivial⟩, trivial⟩, trivial⟩⟩ (fun k' x => by kernel_rfl)
abbrev peloruslaw22_EngineAgain_l1_i : Mask := ⟨[(0, 6, (.k (.ptr 2101250 0 0))), (0, 8, (.v T22)), (0, 9, (.k (.ptr 124981250 0 0))), (0, 12, (.k (.ptr 900000004 0 0))), (0, 15, (.v (.int .i64)))], [(2101250, .cells (.pr (.pr (.pr (.v T34) (.k (.arr 3686401 0))) (.pr (.v T34) (.k (.arr 3686402 0)))) (.pr (.v .bool) (.pr (.k (.arr 49152018 0)) (.k (.arr 45056030 0)))))), (3686401, .arr 32 T31), (3686402, .arr 32 T31), (3686403, .arr 32 T31), (3686404, .arr 32 T31), (3686405, .arr 42 T41), (3686406, .arr 42 T41), (45056030, .arr 42 T41), (49152018, .arr 42 T41), (124981250, .cells (.pr (.pr (.pr (.v T34) (.k (.arr 3686403 0))) (.pr (.v T34) (.k (.arr 3686404 0)))) (.pr (.v .bool) (.pr (.k (.arr 3686405 0)) (.k (.arr 3686406 0)))))), (900000000, .arr 32 T31), (900000001, .arr 32 T31), (900000002, .arr 42 T41), (900000003, .arr 42 T41), (900000004, .cells (.pr (.pr (.pr (.v T34) (.k (.arr 900000000 0))) (.pr (.v T34) (.k (.arr 900000001 0)))) (.pr (.v .bool) (.pr (.k (.arr 900000002 0)) (.k (.arr 900000003 0))))))], [], 0⟩
abbrev peloruslaw22_EngineAgain_l1_o : List Out := [⟨.exit 2, ⟨[(0, 6, (.k (.ptr 2101250 0 0))), (0, 8, (.v T22)), (0, 9, (.k (.ptr 124981250 0 0))), (0, 12, (.k (.ptr 900000004 0 0)))], [(2101250, .cells (.pr (.pr (.pr (.v T34) (.k (.arr 3686401 0))) (.pr (.v T34) (.k (.arr 3686402 0)))) (.pr (.v .bool) (.pr (.k (.arr 49152018 0)) (.k (.arr 45056030 0)))))), (3686401, .arr 32 T31), (3686402, .arr 32 T31), (3686403, .arr 32 T31), (3686404, .arr 32 T31), (3686405, .arr 42 T41), (3686406, .arr 42 T41), (45056030, .arr 42 T41), (49152018, .arr 42 T41), (124981250, .cells (.pr (.pr (.pr (.v T34) (.k (.arr 3686403 0))) (.pr (.v T34) (.k (.arr 3686404 0)))) (.pr (.v .bool) (.pr (.k (.arr 3686405 0)) (.k (.arr 3686406 0)))))), (900000000, .arr 32 T31), (900000001, .arr 32 T31), (900000002, .arr 42 T41), (900000003, .arr 42 T41), (900000004, .cells (.pr (.pr (.pr (.v T34) (.k (.arr 900000000 0))) (.pr (.v T34) (.k (.arr 900000001 0)))) (.pr (.v .bool) (.pr (.k (.arr 900000002 0)) (.k (.arr 900000003 0))))))], [], 0⟩⟩]
def peloruslaw22_EngineAgain_l1 (k : Nat) : Nat → Mask.den peloruslaw22_EngineAgain_l1_i → Option (denS peloruslaw22_EngineAgain_l1_o)
 | 0, _ => none
 | m + 1, x =>
  bif (decide (x.1.2.2.2.2.1 < (x.1.2.1.length : Int))) then
   if 0 ≤ x.1.2.2.2.2.1 then (x.1.2.1[Int.toNat x.1.2.2.2.2.1]?).bind fun y19 =>
    (engine_Engine_Do_s k (((), (), y19, ()), ((((x.2.2.2.2.2.2.2.2.2.2.2.2.2.2.2.1.1.1.1, ()), (x.2.2.2.2.2.2.2.2.2.2.2.2.2.2.2.1.1.2.1, ())), (x.2.2.2.2.2.2.2.2.2.2.2.2.2.2.2.1.2.1, ((), ()))), x.2.2.2.2.2.2.2.2.2.2.2.1, x.2.2.2.2.2.2.2.2.2.2.2.2.1, x.2.2.2.2.2.2.2.2.2.2.2.2.2.2.1, x.2.2.2.2.2.2.2.2.2.2.2.2.2.1, ()))).bind fun q20 =>
    Sum.elim (fun z21 =>
      peloruslaw22_EngineAgain_l1 k m (((), x.1.2.1, (), (), (IntKind.i64.wrap (x.1.2.2.2.2.1 + 1)), ()), ((((x.2.1.1.1.1, ()), (x.2.1.1.2.1, ())), (x.2.1.2.1, ((), ()))), x.2.2.1, x.2.2.2.1, x.2.2.2.2.1, x.2.2.2.2.2.1, x.2.2.2.2.2.2.1, x.2.2.2.2.2.2.2.1, x.2.2.2.2.2.2.2.2.1, x.2.2.2.2.2.2.2.2.2.1, (((x.2.2.2.2.2.2.2.2.2.2.1.1.1.1, ()), (x.2.2.2.2.2.2.2.2.2.2.1.1.2.1, ())), (x.2.2.2.2.2.2.2.2.2.2.1.2.1, ((), ()))), z21.2.2.1, z21.2.2.2.1, z21.2.2.2.2.2.1, z21.2.2.2.2.1, (((z21.2.1.1.1.1, ()), (z21.2.1.1.2.1, ())), (z21.2.1.2.1, ((), ()))), ())))
     (fun q20' =>
      none) q20
   else none
  else
   some (Sum.inl (((), x.1.2.1, (), (), ()), ((((x.2.1.1.1.1, ()), (x.2.1.1.2.1, ())), (x.2.1.2.1, ((), ()))), x.2.2.1, x.2.2.2.1, x.2.2.2.2.1, x.2.2.2.2.2.1, x.2.2.2.2.2.2.1, x.2.2.2.2.2.2.2.1, x.2.2.2.2.2.2.2.2.1, x.2.2.2.2.2.2.2.2.2.1, (((x.2.2.2.2.2.2.2.2.2.2.1.1.1.1, ()), (x.2.2.2.2.2.2.2.2.2.2.1.1.2.1, ())), (x.2.2.2.2.2.2.2.2.2.2.1.2.1, ((), ()))), x.2.2.2.2.2.2.2.2.2.2.2.1, x.2.2.2.2.2.2.2.2.2.2.2.2.1, x.2.2.2.2.2.2.2.2.2.2.2.2.2.1, x.2.2.2.2.2.2.2.2.2.2.2.2.2.2.1, (((x.2.2.2.2.2.2.2.2.2.2.2.2.2.2.2.1.1.1.1, ()), (x.2.2.2.2.2.2.2.2.2.2.2.2.2.2.2.1.1.2.1, ())), (x.2.2.2.2.2.2.2.2.2.2.2.2.2.2.2.1.2.1, ((), ()))), ())))
abbrev peloruslaw22_EngineAgain_l1_seg (k : Nat) : Seg := ⟨⟨0, 143, false, [], []⟩, 5, [.b, .s2, .s1, .s2, .s2, .s2, .s2, .s2, .s2, .s2, .s2, .s2, .s2, .s2], peloruslaw22_EngineAgain_l1_i, peloruslaw22_EngineAgain_l1_o, peloruslaw22_EngineAgain_l1 k k⟩
theorem peloruslaw22_EngineAgain_l1_seg.ok (k : Nat) : SegOK Tryz.prog (e101 k) (peloruslaw22_EngineAgain_l1_seg k) :=
 SegOK.loop (e101.ok k) (by kernel_rfl) (S := peloruslaw22_EngineAgain_l1_seg k) (c := atR (codeOf (e101 k) 5) [.l, .b, .s2, .s1, .s2, .s2, .s2, .s2, .s2, .s2, .s2, .s2, .s2, .s2, .s2]) (by kernel_rfl) (peloruslaw22_EngineAgain_l1 k) k rfl (fun _ => rfl) 8 (.two .n (.two (.two (.seg 5 (engine_Engine_Do_s_seg k) [(900000004, 2101250), (900000000, 3686401), (900000001, 3686402), (900000003, 45056030), (900000002, 49152018)] [] .n) .n) .n)) ⟨trivial, ⟨⟨⟨(engine_Engine_Do_s_seg.ok k).env rfl rfl, trivial⟩, trivial⟩, trivial⟩⟩ (fun k' x => by kernel_rfl)
def peloruslaw22_EngineAgain (k : Nat) (x0 : Ty.den T22) (x1 : Ty.den (.int .i64)) : Option (HL [.bool]) :=
 (peloruslaw22_awake k).bind fun r1 =>
 bif (!r1.1) then
  bif r1.1 then
   some (true, ())
  else
   some (false, ())
 else
  bif (decide ((x0.length : Int) > 24)) then
   bif r1.1 then
    some (true, ())
   else
    some (false, ())
  else
   (peloruslaw22_EngineAgain_l0 k k ((x0, x1, (), 0, ()), ((((((0, false, 0, 0), (false, (0, false, 0, 0), 0, false, 0, 0), []), ()), (((0, false, 0, 0), (false, (0, false, 0, 0), 0, false, 0, 0), []), ())), (false, ((), ()))), [], [], [], [], ()))).bind fun q11 =>
   Sum.elim (fun z12 =>
     (engine_Engine_Ops_s k (((), (), (), (), (), (), ()), ((((z12.2.1.1.1.1, ()), (z12.2.1.1.2.1, ())), (z12.2.1.2.1, ((), ()))), z12.2.2.1, z12.2.2.2.1, z12.2.2.2.2.1, z12.2.2.2.2.2.1, ()))).bind fun q13 =>
     Sum.elim (fun z14 =>
       (engine_Again_s k ((z14.1.2.2.2.2.2.1, ()), ())).bind fun q15 =>
       Sum.elim (fun z16 =>
         bif (z16.1.2.2.1 != 0) then
          some (false, ())
         else
          bif (z16.1.2.1 != (z14.1.2.2.2.2.2.1.length : Int)) then
           some (false, ())
          else
           bif (decide (z12.1.1 < 0)) then
            some (true, ())
           else
            bif (decide (z12.1.1 > (z14.1.2.2.2.2.2.1.length : Int))) then
             some (true, ())
            else
             if (0 : Int) ≤ 0 ∧ 0 ≤ z12.1.1 ∧ z12.1.1 ≤ (z14.1.2.2.2.2.2.1.length : Int) then
              (engine_Again_s k (((List.drop (Int.toNat 0) (List.take (Int.toNat z12.1.1) z14.1.2.2.2.2.2.1)), ()), ())).bind fun q17 =>
              Sum.elim (fun z18 =>
                bif (z18.1.2.2.1 != 0) then
                 some (false, ())
                else
                 (peloruslaw22_EngineAgain_l1 k k (((), z14.1.2.2.2.2.2.1, (), (), z12.1.1, ()), ((((z14.2.1.1.1.1, ()), (z14.2.1.1.2.1, ())), (z14.2.1.2.1, ((), ()))), z14.2.2.1, z14.2.2.2.1, z16.2.1, z16.2.2.1, z16.2.2.2.1, z16.2.2.2.2.1, z14.2.2.2.2.1, z14.2.2.2.2.2.1, (((z16.2.2.2.2.2.1.1.1.1, ()), (z16.2.2.2.2.2.1.1.2.1, ())), (z16.2.2.2.2.2.1.2.1, ((), ()))), z18.2.1, z18.2.2.1, z18.2.2.2.1, z18.2.2.2.2.1, (((z18.2.2.2.2.2.1.1.1.1, ()), (z18.2.2.2.2.2.1.1.2.1, ())), (z18.2.2.2.2.2.1.2.1, ((), ()))), ()))).bind fun q22 =>
                 Sum.elim (fun z23 =>
                   (engine_Engine_X_s k (((), (), (), (), (), (), ()), ((((z23.2.2.2.2.2.2.2.2.2.2.1.1.1.1, ()), (z23.2.2.2.2.2.2.2.2.2.2.1.1.2.1, ())), (z23.2.2.2.2.2.2.2.2.2.2.1.2.1, ((), ()))), z23.2.2.2.2.1, z23.2.2.2.2.2.1, z23.2.2.2.2.2.2.2.1, z23.2.2.2.2.2.2.1, ()))).bind fun q24 =>
                   Sum.elim (fun z25 =>
                     (engine_Engine_X_s k (((), (), (), (), (), (), ()), ((((z23.2.1.1.1.1, ()), (z23.2.1.1.2.1, ())), (z23.2.1.2.1, ((), ()))), z23.2.2.1, z23.2.2.2.1, z23.2.2.2.2.2.2.2.2.1, z23.2.2.2.2.2.2.2.2.2.1, ()))).bind fun q26 =>
                     Sum.elim (fun z27 =>
                       (pelorusref17_Same k z25.2.2.2.2.2.2.1 z27.2.2.2.2.2.2.1).bind fun r28 =>
                       (engine_Engine_Y_s k (((), (), (), (), (), (), ()), ((((z25.2.1.1.1.1, ()), (z25.2.1.1.2.1, ())), (z25.2.1.2.1, ((), ()))), z25.2.2.1, z25.2.2.2.1, z25.2.2.2.2.1, z25.2.2.2.2.2.1, ()))).bind fun q29 =>
                       Sum.elim (fun z30 =>
                         (engine_Engine_Y_s k (((), (), (), (), (), (), ()), ((((z27.2.1.1.1.1, ()), (z27.2.1.1.2.1, ())), (z27.2.1.2.1, ((), ()))), z27.2.2.1, z27.2.2.2.1, z27.2.2.2.2.1, z27.2.2.2.2.2.1, ()))).bind fun q31 =>
                         Sum.elim (fun z32 =>
                           (pelorusref17_Same k z30.2.2.2.2.2.2.1 z32.2.2.2.2.2.2.1).bind fun r33 =>
                           (engine_Engine_X_s k (((), (), (), (), (), (), ()), ((((z23.2.2.2.2.2.2.2.2.2.2.2.2.2.2.2.1.1.1.1, ()), (z23.2.2.2.2.2.2.2.2.2.2.2.2.2.2.2.1.1.2.1, ())), (z23.2.2.2.2.2.2.2.2.2.2.2.2.2.2.2.1.2.1, ((), ()))), z23.2.2.2.2.2.2.2.2.2.2.2.1, z23.2.2.2.2.2.2.2.2.2.2.2.2.1, z23.2.2.2.2.2.2.2.2.2.2.2.2.2.2.1, z23.2.2.2.2.2.2.2.2.2.2.2.2.2.1, ()))).bind fun q34 =>
                           Sum.elim (fun z35 =>
                             (engine_Engine_X_s k (((), (), (), (), (), (), ()), ((((z32.2.1.1.1.1, ()), (z32.2.1.1.2.1, ())), (z32.2.1.2.1, ((), ()))), z32.2.2.1, z32.2.2.2.1, z32.2.2.2.2.1, z32.2.2.2.2.2.1, ()))).bind fun q36 =>
                             Sum.elim (fun z37 =>
                               (pelorusref17_Same k z35.2.2.2.2.2.2.1 z37.2.2.2.2.2.2.1).bind fun r38 =>
                               (engine_Engine_Y_s k (((), (), (), (), (), (), ()), ((((z35.2.1.1.1.1, ()), (z35.2.1.1.2.1, ())), (z35.2.1.2.1, ((), ()))), z35.2.2.1, z35.2.2.2.1, z35.2.2.2.2.1, z35.2.2.2.2.2.1, ()))).bind fun q39 =>
                               Sum.elim (fun z40 =>
                                 (engine_Engine_Y_s k (((), (), (), (), (), (), ()), ((((z37.2.1.1.1.1, ()), (z37.2.1.1.2.1, ())), (z37.2.1.2.1, ((), ()))), z37.2.2.1, z37.2.2.2.1, z37.2.2.2.2.1, z37.2.2.2.2.2.1, ()))).bind fun q41 =>
                                 Sum.elim (fun z42 =>
                                   (pelorusref17_Same k z40.2.2.2.2.2.2.1 z42.2.2.2.2.2.2.1).bind fun r43 =>
                                   bif r28.1 then
                                    bif r33.1 then
                                     bif r38.1 then
                                      bif r43.1 then
                                       (engine_Engine_Ops_s k (((), (), (), (), (), (), ()), ((((z30.2.1.1.1.1, ()), (z30.2.1.1.2.1, ())), (z30.2.1.2.1, ((), ()))), z30.2.2.1, z30.2.2.2.1, z30.2.2.2.2.1, z30.2.2.2.2.2.1, ()))).bind fun q44 =>
                                       Sum.elim (fun z45 =>
                                         some (((z45.1.2.2.2.2.2.1.length : Int) == (z23.1.2.1.length : Int)), ()))
                                        (fun q44' =>
                                         none) q44
                                      else
                                       some (false, ())
                                     else
                                      some (false, ())
                                    else
                                     some (false, ())
                                   else
                                    some (false, ()))
                                  (fun q41' =>
                                   none) q41)
                                (fun q39' =>
                                 none) q39)
                              (fun q36' =>
                               none) q36)
                            (fun q34' =>
                             none) q34)
                          (fun q31' =>
                           none) q31)
                        (fun q29' =>
                         none) q29)
                      (fun q26' =>
                       none) q26)
                    (fun q24' =>
                     none) q24)
                  (fun q22' =>
                   none) q22)
               (fun q17' =>
                none) q17
             else none)
        (fun q15' =>
         none) q15)
      (fun q13' =>
       none) q13)
    (fun q11' =>
     none) q11
theorem peloruslaw22_EngineAgain.ok (k : Nat) : SpecOK Tryz.prog G0 5 ⟨[T22, (.int .i64)], [.bool], fun x => peloruslaw22_EngineAgain k x.1 x.2.1⟩ :=
 evF_sound (E := (e101 k)) (fn := Tryz.f5) (e101.ok k) (by kernel_rfl) (by kernel_rfl) (by kernel_rfl) 8 (.two .n (.two .n (.two (.call 0 513 .n .n) (.two .n (.two (.two .n (.two (.use (peloruslaw22_EngineAgain_l0_seg k)) .n)) (.two (.seg 1 (engine_Engine_Ops_s_seg k) [] [] .n) (.two (.seg 1 (engine_Again_s_seg k) [] [] .n) (.two .n (.two .n (.two (.seg 3 (engine_Again_s_seg k) [(3686403, 900000000), (3686404, 900000001), (3686405, 900000002), (3686406, 900000003), (124981250, 900000004)] [] .n) (.two .n (.two (.two .n (.two (.use (peloruslaw22_EngineAgain_l1_seg k)) .n)) (.two (.seg 1 (engine_Engine_X_s_seg k) [(124981250, 2101250), (3686403, 3686401), (3686404, 3686402), (3686406, 45056030), (3686405, 49152018)] [] (.seg 3 (engine_Engine_X_s_seg k) [(110592002, 900000005)] [] .n)) (.two (.seg 1 (engine_Engine_Y_s_seg k) [(124981250, 2101250), (3686403, 3686401), (3686404, 3686402), (3686406, 45056030), (3686405, 49152018)] [] (.seg 3 (engine_Engine_Y_s_seg k) [(114688002, 900000006)] [] .n)) (.two (.seg 1 (engine_Engine_X_s_seg k) [(900000004, 2101250), (900000000, 3686401), (900000001, 3686402), (900000003, 45056030), (900000002, 49152018), (110592002, 900000007)] [] (.seg 3 (engine_Engine_X_s_seg k) [(110592002, 900000008)] [] .n)) (.two (.seg 1 (engine_Engine_Y_s_seg k) [(900000004, 2101250), (900000000, 3686401), (900000001, 3686402), (900000003, 45056030), (900000002, 49152018), (114688002, 900000009)] [] (.seg 3 (engine_Engine_Y_s_seg k) [(114688002, 900000010)] [] .n)) (.two (.seg 12 (engine_Engine_Ops_s_seg k) [(124981250, 2101250), (3686403, 3686401), (3686404, 3686402), (3686406, 45056030), (3686405, 49152018)] [] .n) .n))))))))))))))))) ⟨trivial, ⟨trivial, ⟨⟨trivial, trivial⟩, ⟨trivial, ⟨⟨trivial, ⟨(peloruslaw22_EngineAgain_l0_seg.ok k), trivial⟩⟩, ⟨⟨(engine_Engine_Ops_s_seg.ok k).env rfl rfl, trivial⟩, ⟨⟨(engine_Again_s_seg.ok k).env rfl rfl, trivial⟩, ⟨trivial, ⟨trivial, ⟨⟨(engine_Again_s_seg.ok k).env rfl rfl, trivial⟩, ⟨trivial, ⟨⟨trivial, ⟨(peloruslaw22_EngineAgain_l1_seg.ok k), trivial⟩⟩, ⟨⟨(engine_Engine_X_s_seg.ok k).env rfl rfl, ⟨(engine_Engine_X_s_seg.ok k).env rfl rfl, trivial⟩⟩, ⟨⟨(engine_Engine_Y_s_seg.ok k).env rfl rfl, ⟨(engine_Engine_Y_s_seg.ok k).env rfl rfl, trivial⟩⟩, ⟨⟨(engine_Engine_X_s_seg.ok k).env rfl rfl, ⟨(engine_Engine_X_s_seg.ok k).env rfl rfl, trivial⟩⟩, ⟨⟨(engine_Engine_Y_s_seg.ok k).env rfl rfl, ⟨(engine_Engine_Y_s_seg.ok k).env rfl rfl, trivial⟩⟩, ⟨⟨(engine_Engine_Ops_s_seg.ok k).env rfl rfl, trivial⟩, trivial⟩⟩⟩⟩⟩⟩⟩⟩⟩⟩⟩⟩⟩⟩⟩⟩⟩ (fun xs => by kernel_rfl)
def e102 (k : Nat) : Env := (e101 k).add 5 ⟨[T22, (.int .i64)], [.bool], fun x => peloruslaw22_EngineAgain k x.1 x.2.1⟩
theorem e102.ok (k : Nat) : (e102 k).OK Tryz.prog := (e101.ok k).add (peloruslaw22_EngineAgain.ok k)
abbrev peloruslaw22_EngineLess_l0_i : Mask := ⟨[(0, 0, (.v T22)), (0, 3, (.k (.ptr 3 0 0))), (0, 6, (.k (.ptr 2101250 0 0))), (0, 7, (.v (.int .i64)))], [(3, .cells (.v T41)), (2101250, .cells (.pr (.pr (.pr (.v T34) (.k (.arr 3686401 0))) (.pr (.v T34) (.k (.arr 3686402 0)))) (.pr (.v .bool) (.pr (.k (.arr 49152018 0)) (.k (.arr 45056030 0)))))), (3686401, .arr 32 T31), (3686402, .arr 32 T31), (45056030, .arr 42 T41), (49152018, .arr 42 T41)], [], 0⟩
abbrev peloruslaw22_EngineLess_l0_o : List Out := [⟨.exit 0, ⟨[(0, 3, (.k (.ptr 3 0 0))), (0, 6, (.k (.ptr 2101250 0 0)))], [(3, .cells (.v T41)), (2101250, .cells (.pr (.pr (.pr (.v T34) (.k (.arr 3686401 0))) (.pr (.v T34) (.k (.arr 3686402 0)))) (.pr (.v .bool) (.pr (.k (.arr 49152018 0)) (.k (.arr 45056030 0)))))), (3686401, .arr 32 T31), (3686402, .arr 32 T31), (45056030, .arr 42 T41), (49152018, .arr 42 T41)], [], 0⟩⟩]
def peloruslaw22_EngineLess_l0 (k : Nat) : Nat → Mask.den peloruslaw22_EngineLess_l0_i → Option (denS peloruslaw22_EngineLess_l0_o)
 | 0, _ => none
 | m + 1, x =>
  bif (decide (x.1.2.2.2.1 < (x.1.1.length : Int))) then
   if 0 ≤ x.1.2.2.2.1 then (x.1.1[Int.toNat x.1.2.2.2.1]?).bind fun y8 =>
    (engine_Engine_Do_s k (((), (), y8, ()), ((((x.2.2.1.1.1.1, ()), (x.2.2.1.1.2.1, ())), (x.2.2.1.2.1, ((), ()))), x.2.2.2.1, x.2.2.2.2.1, x.2.2.2.2.2.1, x.2.2.2.2.2.2.1, ()))).bind fun q9 =>
    Sum.elim (fun z10 =>
      peloruslaw22_EngineLess_l0 k m ((x.1.1, (), (), (IntKind.i64.wrap (x.1.2.2.2.1 + 1)), ()), (x.2.1, (((z10.2.1.1.1.1, ()), (z10.2.1.1.2.1, ())), (z10.2.1.2.1, ((), ()))), z10.2.2.1, z10.2.2.2.1, z10.2.2.2.2.1, z10.2.2.2.2.2.1, ())))
     (fun q9' =>
      none) q9
   else none
  else
   some (Sum.inl (((), (), ()), (x.2.1, (((x.2.2.1.1.1.1, ()), (x.2.2.1.1.2.1, ())), (x.2.2.1.2.1, ((), ()))), x.2.2.2.1, x.2.2.2.2.1, x.2.2.2.2.2.1, x.2.2.2.2.2.2.1, ())))
abbrev peloruslaw22_EngineLess_l0_seg (k : Nat) : Seg := ⟨⟨0, 79, false, [], []⟩, 6, [.b, .s2, .s1, .s2, .s2, .s2, .s2], peloruslaw22_EngineLess_l0_i, peloruslaw22_EngineLess_l0_o, peloruslaw22_EngineLess_l0 k k⟩
theorem peloruslaw22_EngineLess_l0_seg.ok (k : Nat) : SegOK Tryz.prog (e102 k) (peloruslaw22_EngineLess_l0_seg k) :=
 SegOK.loop (e102.ok k) (by kernel_rfl) (S := peloruslaw22_EngineLess_l0_seg k) (c := atR (codeOf (e102 k) 6) [.l, .b, .s2, .s1, .s2, .s2, .s2, .s2]) (by kernel_rfl) (peloruslaw22_EngineLess_l0 k) k rfl (fun _ => rfl) 8 (.two .n (.two (.two (.seg 5 (engine_Engine_Do_s_seg k) [] [] .n) .n) .n)) ⟨trivial, ⟨⟨⟨(engine_Engine_Do_s_seg.ok k).env rfl rfl, trivial⟩, trivial⟩, trivial⟩⟩ (fun k' x => by kernel_rfl)
def peloruslaw22_EngineLess (k : Nat) (x0 : Ty.den T22) (x1 : Ty.den T41) : Option (HL [.bool]) :=
 (peloruslaw22_awake k).bind fun r1 =>
 bif (!r1.1) then
  bif r1.1 then
   some (true, ())
  else
   some (false, ())
 else
  bif (decide ((x0.length : Int) > 24)) then
   bif r1.1 then
    some (true, ())
   else
    some (false, ())
  else
   bif (x1.1 == 0) then
    bif r1.1 then
     some (true, ())
    else
     some (false, ())
   else
    bif (x1.1 == 1) then
     bif r1.1 then
      some (true, ())
     else
      some (false, ())
    else
     (peloruslaw22_EngineLess_l0 k k ((x0, (), (), 0, ()), (x1, (((((0, false, 0, 0), (false, (0, false, 0, 0), 0, false, 0, 0), []), ()), (((0, false, 0, 0), (false, (0, false, 0, 0), 0, false, 0, 0), []), ())), (false, ((), ()))), [], [], [], [], ()))).bind fun q11 =>
     Sum.elim (fun z12 =>
       (engine_Engine_X_s k (((), (), (), (), (), (), ()), ((((z12.2.2.1.1.1.1, ()), (z12.2.2.1.1.2.1, ())), (z12.2.2.1.2.1, ((), ()))), z12.2.2.2.1, z12.2.2.2.2.1, z12.2.2.2.2.2.1, z12.2.2.2.2.2.2.1, ()))).bind fun q13 =>
       Sum.elim (fun z14 =>
         (engine_Engine_Y_s k (((), (), (), (), (), (), ()), ((((z14.2.1.1.1.1, ()), (z14.2.1.1.2.1, ())), (z14.2.1.2.1, ((), ()))), z14.2.2.1, z14.2.2.2.1, z14.2.2.2.2.1, z14.2.2.2.2.2.1, ()))).bind fun q15 =>
         Sum.elim (fun z16 =>
           (engine_Engine_Lost_s k (((), (), (), (), (), (), ()), ((((z16.2.1.1.1.1, ()), (z16.2.1.1.2.1, ())), (z16.2.1.2.1, ((), ()))), z16.2.2.1, z16.2.2.2.1, z16.2.2.2.2.1, z16.2.2.2.2.2.1, ()))).bind fun q17 =>
           Sum.elim (fun z18 =>
             (engine_Engine_Do_s k (((), (), z12.2.1, ()), ((((z18.2.1.1.1.1, ()), (z18.2.1.1.2.1, ())), (z18.2.1.2.1, ((), ()))), z18.2.2.1, z18.2.2.2.1, z18.2.2.2.2.1, z18.2.2.2.2.2.1, ()))).bind fun q19 =>
             Sum.elim (fun z20 =>
               bif (z20.1.2.1 != 0) then
                some (true, ())
               else
                (engine_Engine_X_s k (((), (), (), (), (), (), ()), ((((z20.2.1.1.1.1, ()), (z20.2.1.1.2.1, ())), (z20.2.1.2.1, ((), ()))), z20.2.2.1, z20.2.2.2.1, z20.2.2.2.2.1, z20.2.2.2.2.2.1, ()))).bind fun q21 =>
                Sum.elim (fun z22 =>
                  (tube_Within k z22.2.2.2.2.2.2.1 z14.2.2.2.2.2.2.1).bind fun r23 =>
                  bif r23.1 then
                   (engine_Engine_Y_s k (((), (), (), (), (), (), ()), ((((z22.2.1.1.1.1, ()), (z22.2.1.1.2.1, ())), (z22.2.1.2.1, ((), ()))), z22.2.2.1, z22.2.2.2.1, z22.2.2.2.2.1, z22.2.2.2.2.2.1, ()))).bind fun q24 =>
                   Sum.elim (fun z25 =>
                     (tube_Within k z25.2.2.2.2.2.2.1 z16.2.2.2.2.2.2.1).bind fun r26 =>
                     bif r26.1 then
                      bif (!z18.1.2.2.2.2.2.1) then
                       some (true, ())
                      else
                       (engine_Engine_Lost_s k (((), (), (), (), (), (), ()), ((((z25.2.1.1.1.1, ()), (z25.2.1.1.2.1, ())), (z25.2.1.2.1, ((), ()))), z25.2.2.1, z25.2.2.2.1, z25.2.2.2.2.1, z25.2.2.2.2.2.1, ()))).bind fun q27 =>
                       Sum.elim (fun z28 =>
                         some (z28.1.2.2.2.2.2.1, ()))
                        (fun q27' =>
                         none) q27
                     else
                      some (false, ()))
                    (fun q24' =>
                     none) q24
                  else
                   some (false, ()))
                 (fun q21' =>
                  none) q21)
              (fun q19' =>
               none) q19)
            (fun q17' =>
             none) q17)
          (fun q15' =>
           none) q15)
        (fun q13' =>
         none) q13)
      (fun q11' =>
       none) q11
theorem peloruslaw22_EngineLess.ok (k : Nat) : SpecOK Tryz.prog G0 6 ⟨[T22, T41], [.bool], fun x => peloruslaw22_EngineLess k x.1 x.2.1⟩ :=
 evF_sound (E := (e102 k)) (fn := Tryz.f6) (e102.ok k) (by kernel_rfl) (by kernel_rfl) (by kernel_rfl) 8 (.two .n (.two .n (.two (.call 0 513 .n .n) (.two .n (.two (.two .n (.two (.use (peloruslaw22_EngineLess_l0_seg k)) .n)) (.two (.seg 1 (engine_Engine_X_s_seg k) [] [] .n) (.two (.seg 1 (engine_Engine_Y_s_seg k) [] [] .n) (.two (.seg 1 (engine_Engine_Lost_s_seg k) [] [] .n) (.two (.two (.seg 2 (engine_Engine_Do_s_seg k) [] [] .n) .n) (.two (.seg 1 (engine_Engine_X_s_seg k) [(110592002, 900000000)] [(35, 8)] (.seg 6 (engine_Engine_Y_s_seg k) [(114688002, 900000001)] [(35, 9)] (.seg 15 (engine_Engine_Lost_s_seg k) [] [] .n))) .n)))))))))) ⟨trivial, ⟨trivial, ⟨⟨trivial, trivial⟩, ⟨trivial, ⟨⟨trivial, ⟨(peloruslaw22_EngineLess_l0_seg.ok k), trivial⟩⟩, ⟨⟨(engine_Engine_X_s_seg.ok k).env rfl rfl, trivial⟩, ⟨⟨(engine_Engine_Y_s_seg.ok k).env rfl rfl, trivial⟩, ⟨⟨(engine_Engine_Lost_s_seg.ok k).env rfl rfl, trivial⟩, ⟨⟨⟨(engine_Engine_Do_s_seg.ok k).env rfl rfl, trivial⟩, trivial⟩, ⟨⟨(engine_Engine_X_s_seg.ok k).env rfl rfl, ⟨(engine_Engine_Y_s_seg.ok k).env rfl rfl, ⟨(engine_Engine_Lost_s_seg.ok k).env rfl rfl, trivial⟩⟩⟩, trivial⟩⟩⟩⟩⟩⟩⟩⟩⟩⟩ (fun xs => by kernel_rfl)
def e103 (k : Nat) : Env := (e102 k).add 6 ⟨[T22, T41], [.bool], fun x => peloruslaw22_EngineLess k x.1 x.2.1⟩
theorem e103.ok (k : Nat) : (e103 k).OK Tryz.prog := (e102.ok k).add (peloruslaw22_EngineLess.ok k)
end
end Go.Proofs.YtamlodphcafloaaGreat.Rf
