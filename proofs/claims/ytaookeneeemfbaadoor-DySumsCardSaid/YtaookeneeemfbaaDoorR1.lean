/- What each function of the program answers upon plain values, and that it does (part 1). No condition. -/
import Derived.Test.YtaookeneeemfbaaDoorProg
import Derived.Test.YtaookeneeemfbaaDoorE3
import Derived.KernelRfl
import Derived.Deep.Draws
import Derived.Tactics
import Derived.Tactics2
import Derived.WalkKit
import Derived.RowKit3
import Derived.Deep.QuietTactic
import Derived.WideLaws
import Derived.Laws.BitsLemmas
import Derived.OrdersHeld
import Derived.OwnWalk
import Derived.BigQuiet
namespace Go.Proofs.YtaookeneeemfbaaDoor.Rf
open Go Go.Proofs Go.Proofs.YtaookeneeemfbaaDoor
set_option linter.unusedVariables false
set_option linter.unusedSimpArgs false
set_option maxRecDepth 100000
noncomputable section
abbrev T7 : Ty := (.pair (.int .i64) (.pair (.int .i64) (.pair .bool (.int .u8))))
abbrev T22 : Ty := (.list (.int .u32))
abbrev T23 : Ty := (.pair .bool T22)
abbrev T26 : Ty := (.pair T23 (.int .i64))
abbrev T43 : Ty := (.list T26)
abbrev T76 : Ty := (.list T23)
noncomputable def bytes0 : ByteArray := ⟨#[0, 1, 2, 2, 3, 3, 3, 3, 4, 4, 4, 4, 4, 4, 4, 4, 5, 5, 5, 5, 5, 5, 5, 5, 5, 5, 5, 5, 5, 5, 5, 5, 6, 6, 6, 6, 6, 6, 6, 6, 6, 6, 6, 6, 6, 6, 6, 6, 6, 6, 6, 6, 6, 6, 6, 6, 6, 6, 6, 6, 6, 6, 6, 6, 7, 7, 7, 7, 7, 7, 7, 7, 7, 7, 7, 7, 7, 7, 7, 7, 7, 7, 7, 7, 7, 7, 7, 7, 7, 7, 7, 7, 7, 7, 7, 7, 7, 7, 7, 7, 7, 7, 7, 7, 7, 7, 7, 7, 7, 7, 7, 7, 7, 7, 7, 7, 7, 7, 7, 7, 7, 7, 7, 7, 7, 7, 7, 7, 8, 8, 8, 8, 8, 8, 8, 8, 8, 8, 8, 8, 8, 8, 8, 8, 8, 8, 8, 8, 8, 8, 8, 8, 8, 8, 8, 8, 8, 8, 8, 8, 8, 8, 8, 8, 8, 8, 8, 8, 8, 8, 8, 8, 8, 8, 8, 8, 8, 8, 8, 8, 8, 8, 8, 8, 8, 8, 8, 8, 8, 8, 8, 8, 8, 8, 8, 8, 8, 8, 8, 8, 8, 8, 8, 8, 8, 8, 8, 8, 8, 8, 8, 8, 8, 8, 8, 8, 8, 8, 8, 8, 8, 8, 8, 8, 8, 8, 8, 8, 8, 8, 8, 8, 8, 8, 8, 8, 8, 8, 8, 8, 8, 8, 8, 8, 8, 8, 8, 8, 8, 8, 8, 8, 8, 8, 8, 8]⟩
def tabs : Tables where
  ty := [(2, (.int .i64)), (3, (.int .i64)), (4, .bool), (5, (.int .u8)), (6, (.int .u8)), (7, T7), (8, T7), (12, (.int .u64)), (21, (.int .i32)), (22, T22), (23, T23), (24, T23), (26, T26), (27, T26), (43, T43), (51, (.int .u32)), (61, (.int .u64)), (62, (.int .u64)), (76, T76), (87, (.int .u8)), (88, (.int .u8)), (91, (.int .i32)), (92, (.int .i32))]
  lay := []
  el := [(22, 51, 4), (43, 27, 40), (76, 24, 32)]
  eq := [7, 8]
  str := [9, 10, 11]
  pt := []
  fld := [(7, [(0, 0, 2), (1, 1, 3), (2, 2, 4), (3, 3, 6)]), (8, [(0, 0, 2), (1, 1, 3), (2, 2, 4), (3, 3, 6)]), (23, [(0, 0, 4), (1, 1, 22)]), (24, [(0, 0, 4), (1, 1, 22)]), (26, [(0, 0, 24), (1, 2, 3)]), (27, [(0, 0, 24), (1, 2, 3)])]
  arr := []
  st := []
noncomputable def fnL : List (Nat × Func) := [(67, Tryd.f67), (78, Tryd.f78), (65, Tryd.f65), (38, Tryd.f38), (39, Tryd.f39), (66, Tryd.f66), (40, Tryd.f40), (68, Tryd.f68), (64, Tryd.f64), (41, Tryd.f41), (42, Tryd.f42), (10, Tryd.f10), (47, Tryd.f47), (15, Tryd.f15), (46, Tryd.f46), (71, Tryd.f71), (53, Tryd.f53), (72, Tryd.f72), (73, Tryd.f73), (54, Tryd.f54), (24, Tryd.f24), (52, Tryd.f52), (50, Tryd.f50), (51, Tryd.f51), (21, Tryd.f21), (23, Tryd.f23), (25, Tryd.f25), (37, Tryd.f37), (9, Tryd.f9), (61, Tryd.f61), (34, Tryd.f34), (11, Tryd.f11), (19, Tryd.f19), (17, Tryd.f17), (59, Tryd.f59), (32, Tryd.f32), (28, Tryd.f28), (20, Tryd.f20), (69, Tryd.f69), (43, Tryd.f43), (44, Tryd.f44), (79, Tryd.f79), (84, Tryd.f84), (80, Tryd.f80), (81, Tryd.f81), (85, Tryd.f85), (82, Tryd.f82), (83, Tryd.f83), (70, Tryd.f70), (45, Tryd.f45), (12, Tryd.f12), (76, Tryd.f76), (62, Tryd.f62), (74, Tryd.f74), (56, Tryd.f56), (27, Tryd.f27), (60, Tryd.f60), (33, Tryd.f33), (29, Tryd.f29), (75, Tryd.f75), (57, Tryd.f57), (30, Tryd.f30), (58, Tryd.f58), (31, Tryd.f31), (49, Tryd.f49), (77, Tryd.f77), (63, Tryd.f63), (35, Tryd.f35), (36, Tryd.f36), (6, Tryd.f6)]
theorem fnL.ok : FnsOK Tryd.prog fnL := ⟨⟨Tryd.func67, by kernel_rfl⟩, ⟨Tryd.func78, by kernel_rfl⟩, ⟨Tryd.func65, by kernel_rfl⟩, ⟨Tryd.func38, by kernel_rfl⟩, ⟨Tryd.func39, by kernel_rfl⟩, ⟨Tryd.func66, by kernel_rfl⟩, ⟨Tryd.func40, by kernel_rfl⟩, ⟨Tryd.func68, by kernel_rfl⟩, ⟨Tryd.func64, by kernel_rfl⟩, ⟨Tryd.func41, by kernel_rfl⟩, ⟨Tryd.func42, by kernel_rfl⟩, ⟨Tryd.func10, by kernel_rfl⟩, ⟨Tryd.func47, by kernel_rfl⟩, ⟨Tryd.func15, by kernel_rfl⟩, ⟨Tryd.func46, by kernel_rfl⟩, ⟨Tryd.func71, by kernel_rfl⟩, ⟨Tryd.func53, by kernel_rfl⟩, ⟨Tryd.func72, by kernel_rfl⟩, ⟨Tryd.func73, by kernel_rfl⟩, ⟨Tryd.func54, by kernel_rfl⟩, ⟨Tryd.func24, by kernel_rfl⟩, ⟨Tryd.func52, by kernel_rfl⟩, ⟨Tryd.func50, by kernel_rfl⟩, ⟨Tryd.func51, by kernel_rfl⟩, ⟨Tryd.func21, by kernel_rfl⟩, ⟨Tryd.func23, by kernel_rfl⟩, ⟨Tryd.func25, by kernel_rfl⟩, ⟨Tryd.func37, by kernel_rfl⟩, ⟨Tryd.func9, by kernel_rfl⟩, ⟨Tryd.func61, by kernel_rfl⟩, ⟨Tryd.func34, by kernel_rfl⟩, ⟨Tryd.func11, by kernel_rfl⟩, ⟨Tryd.func19, by kernel_rfl⟩, ⟨Tryd.func17, by kernel_rfl⟩, ⟨Tryd.func59, by kernel_rfl⟩, ⟨Tryd.func32, by kernel_rfl⟩, ⟨Tryd.func28, by kernel_rfl⟩, ⟨Tryd.func20, by kernel_rfl⟩, ⟨Tryd.func69, by kernel_rfl⟩, ⟨Tryd.func43, by kernel_rfl⟩, ⟨Tryd.func44, by kernel_rfl⟩, ⟨Tryd.func79, by kernel_rfl⟩, ⟨Tryd.func84, by kernel_rfl⟩, ⟨Tryd.func80, by kernel_rfl⟩, ⟨Tryd.func81, by kernel_rfl⟩, ⟨Tryd.func85, by kernel_rfl⟩, ⟨Tryd.func82, by kernel_rfl⟩, ⟨Tryd.func83, by kernel_rfl⟩, ⟨Tryd.func70, by kernel_rfl⟩, ⟨Tryd.func45, by kernel_rfl⟩, ⟨Tryd.func12, by kernel_rfl⟩, ⟨Tryd.func76, by kernel_rfl⟩, ⟨Tryd.func62, by kernel_rfl⟩, ⟨Tryd.func74, by kernel_rfl⟩, ⟨Tryd.func56, by kernel_rfl⟩, ⟨Tryd.func27, by kernel_rfl⟩, ⟨Tryd.func60, by kernel_rfl⟩, ⟨Tryd.func33, by kernel_rfl⟩, ⟨Tryd.func29, by kernel_rfl⟩, ⟨Tryd.func75, by kernel_rfl⟩, ⟨Tryd.func57, by kernel_rfl⟩, ⟨Tryd.func30, by kernel_rfl⟩, ⟨Tryd.func58, by kernel_rfl⟩, ⟨Tryd.func31, by kernel_rfl⟩, ⟨Tryd.func49, by kernel_rfl⟩, ⟨Tryd.func77, by kernel_rfl⟩, ⟨Tryd.func63, by kernel_rfl⟩, ⟨Tryd.func35, by kernel_rfl⟩, ⟨Tryd.func36, by kernel_rfl⟩, ⟨Tryd.func6, by kernel_rfl⟩, trivial⟩
def clL : List (Nat × TypeId) := [(68, 22)]
theorem clL.ok : ClsOK Tryd.prog clL := ⟨clone_ok (tb := 4) Tryd.func68 (by kernel_rfl) (by kernel_rfl) (by kernel_rfl) (by kernel_rfl), trivial⟩
/-! ### math/bits.TrailingZeros32: a contract where the library's table lies (Tryd: the seat's alias; 66: the function's number) -/
section
open Go.RowKit
/-- What the library's table holds. -/
def tz32tab : List Int := [0, 1, 28, 2, 29, 14, 24, 3, 30, 22, 20, 15, 25, 17, 4, 8, 31, 27, 13, 23, 21, 19, 16, 7, 26, 12, 18, 6, 11, 5, 10, 9]
/-- The table that lies there. -/
def tzG (w : World) : Prop := ∀ i : Nat, i < 32 → w.cell? ⟨0, i, none⟩ = some (.int .u8 (tz32tab.getD i 0))
structure Drwn (w w' : World) : Prop where mk :: (out : ∃ n, w' = w.drewN n)
theorem Drwn.refl (w : World) : Drwn w w := ⟨⟨0, rfl⟩⟩
theorem Drwn.step {w w' : World} (h : Drwn w w') (n : Nat) : Drwn w (w'.drewN n) := by
  obtain ⟨m, rfl⟩ := h
  exact ⟨⟨m + n, World.drewN_drewN ..⟩⟩
theorem Drwn.below {w w' : World} (h : Drwn w w') : Below w.heap.size w w' := by
  obtain ⟨n, rfl⟩ := h
  induction n with
  | zero => exact Below.refl _ _
  | succ n ih => rw [← World.drew_drewN]; exact ih.drew
def tz32ix (a0 : Int) : Int := Go.bits .and .u32 a0 (-a0 % 4294967296) * 125613361 % 4294967296 / 134217728
def tz32 (a0 : Int) : Option Int := if a0 = 0 then some 32 else if 0 ≤ tz32ix a0 ∧ tz32ix a0 < 32 then some (wrap64 (tz32tab.getD (tz32ix a0).toNat 0)) else none
theorem tz32.calls (a0 : Int) (r : Int) (w : World) (h : tz32 a0 = some r) (htab_ : tzG w) :
    Calls Tryd.prog 66 #[.int .u32 a0] w fun e w' => e = .returned (.int .i64 r) ∧ Drwn w w' := by
  by_cases c0 : a0 = 0
  · have e0 : (some 32 : Option Int) = some r := by simpa [tz32, c0] using h
    obtain rfl := Option.some.inj e0
    subst c0
    clear h htab_
    go_enter Tryd.func66, Tryd.ntmps66
    go_wp2
    go_ret
    exact ⟨rfl, by repeat (first | exact Drwn.refl _ | apply Drwn.step)⟩
  · unfold tz32 at h
    rw [if_neg c0] at h
    by_cases hq : 0 ≤ tz32ix a0 ∧ tz32ix a0 < 32
    · rw [if_pos hq] at h
      obtain rfl := Option.some.inj h
      have hc := htab_ (tz32ix a0).toNat (by omega)
      have hcb : (a0 == 0) = false := beq_eq_false_iff_ne.mpr c0
      obtain ⟨h0, h1⟩ := hq
      clear h htab_ c0
      generalize hr : tz32tab.getD (tz32ix a0).toNat 0 = r at hc ⊢
      clear hr
      unfold tz32ix at hc h0 h1
      replace h0 := eq_true h0
      replace h1 := eq_true h1
      go_enter Tryd.func66, Tryd.ntmps66
      go_wp2
      go_ret
      exact ⟨rfl, by repeat (first | exact Drwn.refl _ | apply Drwn.step)⟩
    · rw [if_neg hq] at h; exact absurd h (by simp)
def w_tz (_k : Nat) (x : Int) : Option (HL [(.int .i64)]) := (tz32 x).map fun r => (r, ())
theorem w_tz.ok (k : Nat) : SpecOK Tryd.prog tzG 66 ⟨[(.int .u32)], [(.int .i64)], fun x => w_tz k x.1⟩ := by
  refine ⟨⟨_, _, Tryd.func66, by kernel_rfl, rfl⟩, fun w ok xs vs r hg hxs hr => ?_⟩
  obtain ⟨v0, q0, rfl, h0, rfl⟩ := hxs
  obtain ⟨r1, hb, rfl⟩ := Option.map_eq_some_iff.1 hr
  rw [Rep.int h0]
  refine (tz32.calls xs.1 r1 w hb (hg w (Below.refl _ _))).mono fun e w' he => ?_
  obtain ⟨rfl, hw⟩ := he
  exact ⟨_, rfl, hw.below, [.int .i64 r1], rfl, rfl⟩
end
abbrev G0 : World → Prop := tzG
def xtL : List (Nat × Spec) := []
theorem xtL.ok : XtsOK Tryd.prog xtL := trivial
def e0 (_k : Nat) : Env := baseE G0 tabs fnL clL xtL
theorem e0.ok (k : Nat) : (e0 k).OK Tryd.prog := Env.OK.base (by kernel_rfl) fnL.ok clL.ok xtL.ok
def e1 (k : Nat) : Env := (e0 k).add 66 ⟨[(.int .u32)], [(.int .i64)], fun x => w_tz k x.1⟩
theorem e1.ok (k : Nat) : (e1 k).OK Tryd.prog := (e0.ok k).add (w_tz.ok k)
abbrev nat_cut_l0_i : Mask := ⟨[(0, 0, (.v T22))], [], [], 0⟩
abbrev nat_cut_l0_o : List Out := [⟨.exit 0, ⟨[(0, 0, (.v T22))], [], [], 0⟩⟩]
def nat_cut_l0 (k : Nat) : Nat → Mask.den nat_cut_l0_i → Option (denS nat_cut_l0_o)
 | 0, _ => none
 | m + 1, x =>
  bif (decide ((x.1.1.length : Int) > 0)) then
   if 0 ≤ (IntKind.i64.wrap ((x.1.1.length : Int) - 1)) then (x.1.1[Int.toNat (IntKind.i64.wrap ((x.1.1.length : Int) - 1))]?).bind fun y1 =>
    bif (y1 == 0) then
     if (0 : Int) ≤ 0 ∧ 0 ≤ (IntKind.i64.wrap ((x.1.1.length : Int) - 1)) ∧ (IntKind.i64.wrap ((x.1.1.length : Int) - 1)) ≤ (x.1.1.length : Int) then
      nat_cut_l0 k m (((List.drop (Int.toNat 0) (List.take (Int.toNat (IntKind.i64.wrap ((x.1.1.length : Int) - 1))) x.1.1)), ()), ())
     else none
    else
     some (Sum.inl ((x.1.1, ()), ()))
   else none
  else
   some (Sum.inl ((x.1.1, ()), ()))
abbrev nat_cut_l0_seg (k : Nat) : Seg := ⟨⟨0, 21, false, [], []⟩, 67, [.b, .s1, .s2], nat_cut_l0_i, nat_cut_l0_o, nat_cut_l0 k k⟩
theorem nat_cut_l0_seg.ok (k : Nat) : SegOK Tryd.prog (e1 k) (nat_cut_l0_seg k) :=
 SegOK.loop (e1.ok k) (by kernel_rfl) (S := nat_cut_l0_seg k) (c := atR (codeOf (e1 k) 67) [.l, .b, .s1, .s2]) (by kernel_rfl) (nat_cut_l0 k) k rfl (fun _ => rfl) 8 .n trivial (fun k' x => by kernel_rfl)
def nat_cut (k : Nat) (x0 : Ty.den T22) : Option (HL [T22]) :=
 (nat_cut_l0 k k ((x0, ()), ())).bind fun q2 =>
 Sum.elim (fun z3 =>
   some (z3.1.1, ()))
  (fun q2' =>
   none) q2
theorem nat_cut.ok (k : Nat) : SpecOK Tryd.prog G0 67 ⟨[T22], [T22], fun x => nat_cut k x.1⟩ :=
 evF_sound (E := (e1 k)) (fn := Tryd.f67) (e1.ok k) (by kernel_rfl) (by kernel_rfl) (by kernel_rfl) 8 (.two .n (.two (.two (.use (nat_cut_l0_seg k)) .n) .n)) ⟨trivial, ⟨⟨(nat_cut_l0_seg.ok k), trivial⟩, trivial⟩⟩ (fun xs => by kernel_rfl)
def e2 (k : Nat) : Env := (e1 k).add 67 ⟨[T22], [T22], fun x => nat_cut k x.1⟩
theorem e2.ok (k : Nat) : (e2 k).OK Tryd.prog := (e1.ok k).add (nat_cut.ok k)
def bits_Len32 (k : Nat) (x0 : Ty.den (.int .u32)) : Option (HL [(.int .i64)]) :=
 bif (decide (x0 ≥ 65536)) then
  bif (decide ((Int.fdiv x0 (2 ^ min (Int.toNat 16) IntKind.u32.bits)) ≥ 256)) then
   if 0 ≤ (IntKind.u8.wrap (Int.fdiv (Int.fdiv x0 (2 ^ min (Int.toNat 16) IntKind.u32.bits)) (2 ^ min (Int.toNat 8) IntKind.u32.bits))) then (bytes0[Int.toNat (IntKind.u8.wrap (Int.fdiv (Int.fdiv x0 (2 ^ min (Int.toNat 16) IntKind.u32.bits)) (2 ^ min (Int.toNat 8) IntKind.u32.bits)))]?).bind fun y1 =>
    some ((IntKind.i64.wrap ((IntKind.i64.wrap (16 + 8)) + (IntKind.i64.wrap (y1.toNat : Int)))), ())
   else none
  else
   if 0 ≤ (IntKind.u8.wrap (Int.fdiv x0 (2 ^ min (Int.toNat 16) IntKind.u32.bits))) then (bytes0[Int.toNat (IntKind.u8.wrap (Int.fdiv x0 (2 ^ min (Int.toNat 16) IntKind.u32.bits)))]?).bind fun y2 =>
    some ((IntKind.i64.wrap (16 + (IntKind.i64.wrap (y2.toNat : Int)))), ())
   else none
 else
  bif (decide (x0 ≥ 256)) then
   if 0 ≤ (IntKind.u8.wrap (Int.fdiv x0 (2 ^ min (Int.toNat 8) IntKind.u32.bits))) then (bytes0[Int.toNat (IntKind.u8.wrap (Int.fdiv x0 (2 ^ min (Int.toNat 8) IntKind.u32.bits)))]?).bind fun y3 =>
    some ((IntKind.i64.wrap ((IntKind.i64.wrap (0 + 8)) + (IntKind.i64.wrap (y3.toNat : Int)))), ())
   else none
  else
   if 0 ≤ (IntKind.u8.wrap x0) then (bytes0[Int.toNat (IntKind.u8.wrap x0)]?).bind fun y4 =>
    some ((IntKind.i64.wrap (0 + (IntKind.i64.wrap (y4.toNat : Int)))), ())
   else none
theorem bits_Len32.ok (k : Nat) : SpecOK Tryd.prog G0 78 ⟨[(.int .u32)], [(.int .i64)], fun x => bits_Len32 k x.1⟩ :=
 evF_sound (E := (e2 k)) (fn := Tryd.f78) (e2.ok k) (by kernel_rfl) (by kernel_rfl) (by kernel_rfl) 8 .n trivial (fun xs => by kernel_rfl)
def e3 (k : Nat) : Env := (e2 k).add 78 ⟨[(.int .u32)], [(.int .i64)], fun x => bits_Len32 k x.1⟩
theorem e3.ok (k : Nat) : (e3 k).OK Tryd.prog := (e2.ok k).add (bits_Len32.ok k)
def nat_Len (k : Nat) (x0 : Ty.den T22) : Option (HL [(.int .i64)]) :=
 (nat_cut k x0).bind fun r1 =>
 bif ((r1.1.length : Int) == 0) then
  some (0, ())
 else
  if 0 ≤ (IntKind.i64.wrap ((r1.1.length : Int) - 1)) then (r1.1[Int.toNat (IntKind.i64.wrap ((r1.1.length : Int) - 1))]?).bind fun y2 =>
   (bits_Len32 k y2).bind fun r3 =>
   some ((IntKind.i64.wrap ((IntKind.i64.wrap (32 * (IntKind.i64.wrap ((r1.1.length : Int) - 1)))) + r3.1)), ())
  else none
theorem nat_Len.ok (k : Nat) : SpecOK Tryd.prog G0 65 ⟨[T22], [(.int .i64)], fun x => nat_Len k x.1⟩ :=
 evF_sound (E := (e3 k)) (fn := Tryd.f65) (e3.ok k) (by kernel_rfl) (by kernel_rfl) (by kernel_rfl) 8 .n trivial (fun xs => by kernel_rfl)
def e4 (k : Nat) : Env := (e3 k).add 65 ⟨[T22], [(.int .i64)], fun x => nat_Len k x.1⟩
theorem e4.ok (k : Nat) : (e4 k).OK Tryd.prog := (e3.ok k).add (nat_Len.ok k)
def whole_Sign (k : Nat) (x0 : Ty.den T23) : Option (HL [(.int .i64)]) :=
 (nat_Len k x0.2).bind fun r1 =>
 bif (r1.1 == 0) then
  some (0, ())
 else
  bif x0.1 then
   some ((-1), ())
  else
   some (1, ())
theorem whole_Sign.ok (k : Nat) : SpecOK Tryd.prog G0 38 ⟨[T23], [(.int .i64)], fun x => whole_Sign k x.1⟩ :=
 evF_sound (E := (e4 k)) (fn := Tryd.f38) (e4.ok k) (by kernel_rfl) (by kernel_rfl) (by kernel_rfl) 8 .n trivial (fun xs => by kernel_rfl)
def e5 (k : Nat) : Env := (e4 k).add 38 ⟨[T23], [(.int .i64)], fun x => whole_Sign k x.1⟩
theorem e5.ok (k : Nat) : (e5 k).OK Tryd.prog := (e4.ok k).add (whole_Sign.ok k)
def dy_within (k : Nat) (x0 : Ty.den (.int .i64)) : Option (HL [.bool]) :=
 bif (decide (x0 ≥ (-4194304))) then
  some ((decide (x0 ≤ 4194304)), ())
 else
  some (false, ())
theorem dy_within.ok (k : Nat) : SpecOK Tryd.prog G0 39 ⟨[(.int .i64)], [.bool], fun x => dy_within k x.1⟩ :=
 evF_sound (E := (e5 k)) (fn := Tryd.f39) (e5.ok k) (by kernel_rfl) (by kernel_rfl) (by kernel_rfl) 8 .n trivial (fun xs => by kernel_rfl)
def e6 (k : Nat) : Env := (e5 k).add 39 ⟨[(.int .i64)], [.bool], fun x => dy_within k x.1⟩
theorem e6.ok (k : Nat) : (e6 k).OK Tryd.prog := (e5.ok k).add (dy_within.ok k)
abbrev dy_trailing_l0_i : Mask := ⟨[(0, 3, (.v (.int .i64))), (0, 6, (.v T22)), (0, 7, (.v (.int .i64))), (0, 8, (.v (.int .i64)))], [], [], 0⟩
abbrev dy_trailing_l0_o : List Out := [⟨.ret, ⟨[(0, 2, (.v (.int .i64)))], [], [], 0⟩⟩, ⟨.exit 0, ⟨[(0, 3, (.v (.int .i64)))], [], [], 0⟩⟩]
def dy_trailing_l0 (k : Nat) : Nat → Mask.den dy_trailing_l0_i → Option (denS dy_trailing_l0_o)
 | 0, _ => none
 | m + 1, x =>
  bif (decide (x.1.2.2.2.1 < x.1.2.2.1)) then
   if 0 ≤ x.1.2.2.2.1 then (x.1.2.1[Int.toNat x.1.2.2.2.1]?).bind fun y1 =>
    bif (y1 != 0) then
     (w_tz k y1).bind fun r2 =>
     some (Sum.inl (((IntKind.i64.wrap (x.1.1 + r2.1)), ()), ()))
    else
     dy_trailing_l0 k m (((IntKind.i64.wrap (x.1.1 + 32)), x.1.2.1, x.1.2.2.1, (IntKind.i64.wrap (x.1.2.2.2.1 + 1)), ()), ())
   else none
  else
   some (Sum.inr (Sum.inl ((x.1.1, ()), ())))
abbrev dy_trailing_l0_seg (k : Nat) : Seg := ⟨⟨0, 22, false, [], []⟩, 40, [.b, .s2, .s1, .s2, .s2], dy_trailing_l0_i, dy_trailing_l0_o, dy_trailing_l0 k k⟩
theorem dy_trailing_l0_seg.ok (k : Nat) : SegOK Tryd.prog (e6 k) (dy_trailing_l0_seg k) :=
 SegOK.loop (e6.ok k) (by kernel_rfl) (S := dy_trailing_l0_seg k) (c := atR (codeOf (e6 k) 40) [.l, .b, .s2, .s1, .s2, .s2]) (by kernel_rfl) (dy_trailing_l0 k) k rfl (fun _ => rfl) 8 .n trivial (fun k' x => by kernel_rfl)
def dy_trailing (k : Nat) (x0 : Ty.den T22) : Option (HL [(.int .i64)]) :=
 (dy_trailing_l0 k k ((0, x0, (x0.length : Int), 0, ()), ())).bind fun q3 =>
 Sum.elim (fun z4 =>
   some (z4.1.1, ()))
  (fun q3' =>
   Sum.elim (fun z5 =>
     some (z5.1.1, ()))
    (fun q3'' =>
     none) q3') q3
theorem dy_trailing.ok (k : Nat) : SpecOK Tryd.prog G0 40 ⟨[T22], [(.int .i64)], fun x => dy_trailing k x.1⟩ :=
 evF_sound (E := (e6 k)) (fn := Tryd.f40) (e6.ok k) (by kernel_rfl) (by kernel_rfl) (by kernel_rfl) 8 (.two .n (.two .n (.two (.two .n (.two (.use (dy_trailing_l0_seg k)) .n)) .n))) ⟨trivial, ⟨trivial, ⟨⟨trivial, ⟨(dy_trailing_l0_seg.ok k), trivial⟩⟩, trivial⟩⟩⟩ (fun xs => by kernel_rfl)
def e7 (k : Nat) : Env := (e6 k).add 40 ⟨[T22], [(.int .i64)], fun x => dy_trailing k x.1⟩
theorem e7.ok (k : Nat) : (e7 k).OK Tryd.prog := (e6.ok k).add (dy_trailing.ok k)
def nat_Trim (k : Nat) (x0 : Ty.den T22) : Option (HL [T22]) :=
 (nat_cut k x0).bind fun r1 =>
 if r1.1.length * 4 ≤ 140737488355328 then
  some (r1.1, ())
 else none
theorem nat_Trim.ok (k : Nat) : SpecOK Tryd.prog G0 64 ⟨[T22], [T22], fun x => nat_Trim k x.1⟩ :=
 evF_sound (E := (e7 k)) (fn := Tryd.f64) (e7.ok k) (by kernel_rfl) (by kernel_rfl) (by kernel_rfl) 8 .n trivial (fun xs => by kernel_rfl)
def e8 (k : Nat) : Env := (e7 k).add 64 ⟨[T22], [T22], fun x => nat_Trim k x.1⟩
theorem e8.ok (k : Nat) : (e8 k).OK Tryd.prog := (e7.ok k).add (nat_Trim.ok k)
def whole_Make (k : Nat) (x0 : Ty.den .bool) (x1 : Ty.den T22) : Option (HL [T23]) :=
 (nat_Trim k x1).bind fun r1 =>
 bif x0 then
  some (((decide ((r1.1.length : Int) > 0)), r1.1), ())
 else
  some ((false, r1.1), ())
theorem whole_Make.ok (k : Nat) : SpecOK Tryd.prog G0 41 ⟨[.bool, T22], [T23], fun x => whole_Make k x.1 x.2.1⟩ :=
 evF_sound (E := (e8 k)) (fn := Tryd.f41) (e8.ok k) (by kernel_rfl) (by kernel_rfl) (by kernel_rfl) 8 .n trivial (fun xs => by kernel_rfl)
def e9 (k : Nat) : Env := (e8 k).add 41 ⟨[.bool, T22], [T23], fun x => whole_Make k x.1 x.2.1⟩
theorem e9.ok (k : Nat) : (e9 k).OK Tryd.prog := (e8.ok k).add (whole_Make.ok k)
abbrev nat_Shr_l0_i : Mask := ⟨[(0, 0, (.v T22)), (0, 5, (.v (.int .i64))), (0, 6, (.v (.int .i64))), (0, 7, (.k (.arr 31 0))), (0, 33, (.v (.int .i64))), (0, 34, (.v (.int .i64)))], [(31, .arr 51 (.int .u32))], [], 0⟩
abbrev nat_Shr_l0_o : List Out := [⟨.exit 1, ⟨[(0, 7, (.k (.arr 31 0)))], [(31, .arr 51 (.int .u32))], [], 0⟩⟩]
def nat_Shr_l0 (k : Nat) : Nat → Mask.den nat_Shr_l0_i → Option (denS nat_Shr_l0_o)
 | 0, _ => none
 | m + 1, x =>
  bif (decide (x.1.2.2.2.2.2.1 < x.1.2.2.2.2.1)) then
   if 0 ≤ (IntKind.i64.wrap (x.1.2.2.2.2.2.1 + x.1.2.1)) then (x.1.1[Int.toNat (IntKind.i64.wrap (x.1.2.2.2.2.2.1 + x.1.2.1))]?).bind fun y2 =>
    bif (decide ((IntKind.i64.wrap ((IntKind.i64.wrap (x.1.2.2.2.2.2.1 + x.1.2.1)) + 1)) < (x.1.1.length : Int))) then
     if 0 ≤ (IntKind.i64.wrap ((IntKind.i64.wrap (x.1.2.2.2.2.2.1 + x.1.2.1)) + 1)) then (x.1.1[Int.toNat (IntKind.i64.wrap ((IntKind.i64.wrap (x.1.2.2.2.2.2.1 + x.1.2.1)) + 1))]?).bind fun y3 =>
      if x.1.2.2.1 < 0 then none else
      if 0 ≤ x.1.2.2.2.2.2.1 then (x.2.1[Int.toNat x.1.2.2.2.2.2.1]?).bind fun _ =>
       (x.2.1[(Int.toNat x.1.2.2.2.2.2.1)]?).bind fun y5 =>
       nat_Shr_l0 k m ((x.1.1, x.1.2.1, x.1.2.2.1, (), x.1.2.2.2.2.1, (IntKind.i64.wrap (x.1.2.2.2.2.2.1 + 1)), ()), ((x.2.1.set (Int.toNat x.1.2.2.2.2.2.1) (IntKind.u32.wrap (Int.fdiv (IntKind.u64.wrap (BitVec.toNat (BitVec.ofInt IntKind.u64.bits (IntKind.u64.wrap y2) ||| BitVec.ofInt IntKind.u64.bits (IntKind.u64.wrap ((IntKind.u64.wrap y3) * 2 ^ min (Int.toNat 32) IntKind.u64.bits))))) (2 ^ min (Int.toNat x.1.2.2.1) IntKind.u64.bits)))), ()))
      else none
     else none
    else
     if x.1.2.2.1 < 0 then none else
     if 0 ≤ x.1.2.2.2.2.2.1 then (x.2.1[Int.toNat x.1.2.2.2.2.2.1]?).bind fun _ =>
      (x.2.1[(Int.toNat x.1.2.2.2.2.2.1)]?).bind fun y7 =>
      nat_Shr_l0 k m ((x.1.1, x.1.2.1, x.1.2.2.1, (), x.1.2.2.2.2.1, (IntKind.i64.wrap (x.1.2.2.2.2.2.1 + 1)), ()), ((x.2.1.set (Int.toNat x.1.2.2.2.2.2.1) (IntKind.u32.wrap (Int.fdiv (IntKind.u64.wrap y2) (2 ^ min (Int.toNat x.1.2.2.1) IntKind.u64.bits)))), ()))
     else none
   else none
  else
   some (Sum.inl (((), ()), (x.2.1, ())))
abbrev nat_Shr_l0_seg (k : Nat) : Seg := ⟨⟨0, 72, false, [], []⟩, 42, [.b, .s2, .s1, .s2, .s2, .s2, .s2, .s2], nat_Shr_l0_i, nat_Shr_l0_o, nat_Shr_l0 k k⟩
theorem nat_Shr_l0_seg.ok (k : Nat) : SegOK Tryd.prog (e9 k) (nat_Shr_l0_seg k) :=
 SegOK.loop (e9.ok k) (by kernel_rfl) (S := nat_Shr_l0_seg k) (c := atR (codeOf (e9 k) 42) [.l, .b, .s2, .s1, .s2, .s2, .s2, .s2, .s2]) (by kernel_rfl) (nat_Shr_l0 k) k rfl (fun _ => rfl) 8 .n trivial (fun k' x => by kernel_rfl)
def nat_Shr (k : Nat) (x0 : Ty.den T22) (x1 : Ty.den (.int .i64)) : Option (HL [T22]) :=
 (nat_cut k x0).bind fun r1 =>
 bif (decide (x1 < 1)) then
  if r1.1.length * 4 ≤ 140737488355328 then
   some (r1.1, ())
  else none
 else
  bif (decide (x1 ≥ (IntKind.i64.wrap (32 * (r1.1.length : Int))))) then
   some ([], ())
  else
   if (IntKind.i64.wrap ((r1.1.length : Int) - (IntKind.i64.wrap (Int.tdiv x1 32)))) = (IntKind.i64.wrap ((r1.1.length : Int) - (IntKind.i64.wrap (Int.tdiv x1 32)))) ∧ 0 ≤ (IntKind.i64.wrap ((r1.1.length : Int) - (IntKind.i64.wrap (Int.tdiv x1 32)))) ∧ Int.toNat (IntKind.i64.wrap ((r1.1.length : Int) - (IntKind.i64.wrap (Int.tdiv x1 32)))) * 4 ≤ 140737488355328 then
    (nat_Shr_l0 k k ((r1.1, (IntKind.i64.wrap (Int.tdiv x1 32)), (Int.tmod x1 32), (), ((List.replicate (Int.toNat (IntKind.i64.wrap ((r1.1.length : Int) - (IntKind.i64.wrap (Int.tdiv x1 32))))) (0 : Int)).length : Int), 0, ()), ((List.replicate (Int.toNat (IntKind.i64.wrap ((r1.1.length : Int) - (IntKind.i64.wrap (Int.tdiv x1 32))))) (0 : Int)), ()))).bind fun q8 =>
    Sum.elim (fun z9 =>
      (nat_cut k z9.2.1).bind fun r10 =>
      some (r10.1, ()))
     (fun q8' =>
      none) q8
   else none
theorem nat_Shr.ok (k : Nat) : SpecOK Tryd.prog G0 42 ⟨[T22, (.int .i64)], [T22], fun x => nat_Shr k x.1 x.2.1⟩ :=
 evF_sound (E := (e9 k)) (fn := Tryd.f42) (e9.ok k) (by kernel_rfl) (by kernel_rfl) (by kernel_rfl) 8 (.two .n (.two .n (.two .n (.two .n (.two .n (.two (.two .n (.two (.use (nat_Shr_l0_seg k)) .n)) (.two (.own 1 .n) .n))))))) ⟨trivial, ⟨trivial, ⟨trivial, ⟨trivial, ⟨trivial, ⟨⟨trivial, ⟨(nat_Shr_l0_seg.ok k), trivial⟩⟩, ⟨trivial, trivial⟩⟩⟩⟩⟩⟩⟩ (fun xs => by kernel_rfl)
def e10 (k : Nat) : Env := (e9 k).add 42 ⟨[T22, (.int .i64)], [T22], fun x => nat_Shr k x.1 x.2.1⟩
theorem e10.ok (k : Nat) : (e10 k).OK Tryd.prog := (e9.ok k).add (nat_Shr.ok k)
def dy_Make (k : Nat) (x0 : Ty.den T23) (x1 : Ty.den (.int .i64)) : Option (HL [T26]) :=
 (whole_Sign k x0).bind fun r1 =>
 bif (r1.1 == 0) then
  some (((false, []), 0), ())
 else
  (dy_within k x1).bind fun r2 =>
  bif (!r2.1) then
   some (((false, []), 0), ())
  else
   (dy_trailing k x0.2).bind fun r3 =>
   (dy_within k (IntKind.i64.wrap (x1 + r3.1))).bind fun r4 =>
   bif (!r4.1) then
    some (((false, []), 0), ())
   else
    (nat_Shr k x0.2 r3.1).bind fun r5 =>
    (whole_Make k x0.1 r5.1).bind fun r6 =>
    some ((r6.1, (IntKind.i64.wrap (x1 + r3.1))), ())
theorem dy_Make.ok (k : Nat) : SpecOK Tryd.prog G0 10 ⟨[T23, (.int .i64)], [T26], fun x => dy_Make k x.1 x.2.1⟩ :=
 evF_sound (E := (e10 k)) (fn := Tryd.f10) (e10.ok k) (by kernel_rfl) (by kernel_rfl) (by kernel_rfl) 8 .n trivial (fun xs => by kernel_rfl)
def e11 (k : Nat) : Env := (e10 k).add 10 ⟨[T23, (.int .i64)], [T26], fun x => dy_Make k x.1 x.2.1⟩
theorem e11.ok (k : Nat) : (e11 k).OK Tryd.prog := (e10.ok k).add (dy_Make.ok k)
def whole_May (k : Nat) (x0 : Ty.den T23) : Option (HL [.bool]) :=
 bif ((x0.2.length : Int) == 0) then
  some ((!x0.1), ())
 else
  if 0 ≤ (IntKind.i64.wrap ((x0.2.length : Int) - 1)) then (x0.2[Int.toNat (IntKind.i64.wrap ((x0.2.length : Int) - 1))]?).bind fun y1 =>
   some ((y1 != 0), ())
  else none
theorem whole_May.ok (k : Nat) : SpecOK Tryd.prog G0 47 ⟨[T23], [.bool], fun x => whole_May k x.1⟩ :=
 evF_sound (E := (e11 k)) (fn := Tryd.f47) (e11.ok k) (by kernel_rfl) (by kernel_rfl) (by kernel_rfl) 8 .n trivial (fun xs => by kernel_rfl)
def e12 (k : Nat) : Env := (e11 k).add 47 ⟨[T23], [.bool], fun x => whole_May k x.1⟩
theorem e12.ok (k : Nat) : (e12 k).OK Tryd.prog := (e11.ok k).add (whole_May.ok k)
def dy_May (k : Nat) (x0 : Ty.den T26) : Option (HL [.bool]) :=
 bif ((x0.1.2.length : Int) == 0) then
  bif (!x0.1.1) then
   some ((x0.2 == 0), ())
  else
   some (false, ())
 else
  (whole_May k x0.1).bind fun r1 =>
  bif r1.1 then
   if 0 ≤ 0 then (x0.1.2[Int.toNat 0]?).bind fun y2 =>
    bif ((IntKind.u32.wrap (BitVec.toNat (BitVec.ofInt IntKind.u32.bits y2 &&& BitVec.ofInt IntKind.u32.bits 1))) == 1) then
     (dy_within k x0.2).bind fun r3 =>
     some (r3.1, ())
    else
     some (false, ())
   else none
  else
   some (false, ())
theorem dy_May.ok (k : Nat) : SpecOK Tryd.prog G0 15 ⟨[T26], [.bool], fun x => dy_May k x.1⟩ :=
 evF_sound (E := (e12 k)) (fn := Tryd.f15) (e12.ok k) (by kernel_rfl) (by kernel_rfl) (by kernel_rfl) 8 .n trivial (fun xs => by kernel_rfl)
def e13 (k : Nat) : Env := (e12 k).add 15 ⟨[T26], [.bool], fun x => dy_May k x.1⟩
theorem e13.ok (k : Nat) : (e13 k).OK Tryd.prog := (e12.ok k).add (dy_May.ok k)
def dy_fair (k : Nat) (x0 : Ty.den T26) : Option (HL [T26]) :=
 (dy_May k x0).bind fun r1 =>
 bif r1.1 then
  some (x0, ())
 else
  (dy_Make k x0.1 x0.2).bind fun r2 =>
  some (r2.1, ())
theorem dy_fair.ok (k : Nat) : SpecOK Tryd.prog G0 46 ⟨[T26], [T26], fun x => dy_fair k x.1⟩ :=
 evF_sound (E := (e13 k)) (fn := Tryd.f46) (e13.ok k) (by kernel_rfl) (by kernel_rfl) (by kernel_rfl) 8 .n trivial (fun xs => by kernel_rfl)
def e14 (k : Nat) : Env := (e13 k).add 46 ⟨[T26], [T26], fun x => dy_fair k x.1⟩
theorem e14.ok (k : Nat) : (e14 k).OK Tryd.prog := (e13.ok k).add (dy_fair.ok k)
def bits_Add32 (k : Nat) (x0 : Ty.den (.int .u32)) (x1 : Ty.den (.int .u32)) (x2 : Ty.den (.int .u32)) : Option (HL [(.int .u32), (.int .u32)]) :=
 some ((IntKind.u32.wrap (IntKind.u64.wrap ((IntKind.u64.wrap ((IntKind.u64.wrap x0) + (IntKind.u64.wrap x1))) + (IntKind.u64.wrap x2)))), (IntKind.u32.wrap (Int.fdiv (IntKind.u64.wrap ((IntKind.u64.wrap ((IntKind.u64.wrap x0) + (IntKind.u64.wrap x1))) + (IntKind.u64.wrap x2))) (2 ^ min (Int.toNat 32) IntKind.u64.bits))), ())
theorem bits_Add32.ok (k : Nat) : SpecOK Tryd.prog G0 71 ⟨[(.int .u32), (.int .u32), (.int .u32)], [(.int .u32), (.int .u32)], fun x => bits_Add32 k x.1 x.2.1 x.2.2.1⟩ :=
 evF_sound (E := (e14 k)) (fn := Tryd.f71) (e14.ok k) (by kernel_rfl) (by kernel_rfl) (by kernel_rfl) 8 .n trivial (fun xs => by kernel_rfl)
def e15 (k : Nat) : Env := (e14 k).add 71 ⟨[(.int .u32), (.int .u32), (.int .u32)], [(.int .u32), (.int .u32)], fun x => bits_Add32 k x.1 x.2.1 x.2.2.1⟩
theorem e15.ok (k : Nat) : (e15 k).OK Tryd.prog := (e14.ok k).add (bits_Add32.ok k)
abbrev nat_Add_l0_i : Mask := ⟨[(0, 0, (.v T22)), (0, 1, (.v T22)), (0, 5, (.k (.arr 19 0))), (0, 6, (.v (.int .u32))), (0, 21, (.v (.int .i64))), (0, 22, (.v (.int .i64)))], [(19, .arr 51 (.int .u32))], [], 0⟩
abbrev nat_Add_l0_o : List Out := [⟨.exit 0, ⟨[(0, 0, (.v T22)), (0, 5, (.k (.arr 19 0))), (0, 6, (.v (.int .u32)))], [(19, .arr 51 (.int .u32))], [], 0⟩⟩]
def nat_Add_l0 (k : Nat) : Nat → Mask.den nat_Add_l0_i → Option (denS nat_Add_l0_o)
 | 0, _ => none
 | m + 1, x =>
  bif (decide (x.1.2.2.2.2.2.1 < x.1.2.2.2.2.1)) then
   bif (decide (x.1.2.2.2.2.2.1 < (x.1.2.1.length : Int))) then
    if 0 ≤ x.1.2.2.2.2.2.1 then (x.1.2.1[Int.toNat x.1.2.2.2.2.2.1]?).bind fun y1 =>
     if 0 ≤ x.1.2.2.2.2.2.1 then (x.1.1[Int.toNat x.1.2.2.2.2.2.1]?).bind fun y2 =>
      (bits_Add32 k y2 y1 x.1.2.2.2.1).bind fun r3 =>
      if 0 ≤ x.1.2.2.2.2.2.1 then (x.2.1[Int.toNat x.1.2.2.2.2.2.1]?).bind fun _ =>
       (x.2.1[(Int.toNat x.1.2.2.2.2.2.1)]?).bind fun y5 =>
       nat_Add_l0 k m ((x.1.1, x.1.2.1, (), r3.2.1, x.1.2.2.2.2.1, (IntKind.i64.wrap (x.1.2.2.2.2.2.1 + 1)), ()), ((x.2.1.set (Int.toNat x.1.2.2.2.2.2.1) r3.1), ()))
      else none
     else none
    else none
   else
    if 0 ≤ x.1.2.2.2.2.2.1 then (x.1.1[Int.toNat x.1.2.2.2.2.2.1]?).bind fun y6 =>
     (bits_Add32 k y6 0 x.1.2.2.2.1).bind fun r7 =>
     if 0 ≤ x.1.2.2.2.2.2.1 then (x.2.1[Int.toNat x.1.2.2.2.2.2.1]?).bind fun _ =>
      (x.2.1[(Int.toNat x.1.2.2.2.2.2.1)]?).bind fun y9 =>
      nat_Add_l0 k m ((x.1.1, x.1.2.1, (), r7.2.1, x.1.2.2.2.2.1, (IntKind.i64.wrap (x.1.2.2.2.2.2.1 + 1)), ()), ((x.2.1.set (Int.toNat x.1.2.2.2.2.2.1) r7.1), ()))
     else none
    else none
  else
   some (Sum.inl ((x.1.1, (), x.1.2.2.2.1, ()), (x.2.1, ())))
abbrev nat_Add_l0_seg (k : Nat) : Seg := ⟨⟨0, 54, false, [], []⟩, 53, [.b, .s2, .s1, .s2, .s2, .s2, .s2], nat_Add_l0_i, nat_Add_l0_o, nat_Add_l0 k k⟩
theorem nat_Add_l0_seg.ok (k : Nat) : SegOK Tryd.prog (e15 k) (nat_Add_l0_seg k) :=
 SegOK.loop (e15.ok k) (by kernel_rfl) (S := nat_Add_l0_seg k) (c := atR (codeOf (e15 k) 53) [.l, .b, .s2, .s1, .s2, .s2, .s2, .s2]) (by kernel_rfl) (nat_Add_l0 k) k rfl (fun _ => rfl) 8 .n trivial (fun k' x => by kernel_rfl)
def nat_Add (k : Nat) (x0 : Ty.den T22) (x1 : Ty.den T22) : Option (HL [T22]) :=
 bif (decide ((x0.length : Int) < (x1.length : Int))) then
  if (IntKind.i64.wrap ((x1.length : Int) + 1)) = (IntKind.i64.wrap ((x1.length : Int) + 1)) ∧ 0 ≤ (IntKind.i64.wrap ((x1.length : Int) + 1)) ∧ Int.toNat (IntKind.i64.wrap ((x1.length : Int) + 1)) * 4 ≤ 140737488355328 then
   (nat_Add_l0 k k ((x1, x0, (), 0, (x1.length : Int), 0, ()), ((List.replicate (Int.toNat (IntKind.i64.wrap ((x1.length : Int) + 1))) (0 : Int)), ()))).bind fun q10 =>
   Sum.elim (fun z12 =>
     if 0 ≤ (z12.1.1.length : Int) then (z12.2.1[Int.toNat (z12.1.1.length : Int)]?).bind fun _ =>
      (z12.2.1[(Int.toNat (z12.1.1.length : Int))]?).bind fun y14 =>
      (nat_cut k (z12.2.1.set (Int.toNat (z12.1.1.length : Int)) z12.1.2.2.1)).bind fun r15 =>
      some (r15.1, ())
     else none)
    (fun q10' =>
     none) q10
  else none
 else
  if (IntKind.i64.wrap ((x0.length : Int) + 1)) = (IntKind.i64.wrap ((x0.length : Int) + 1)) ∧ 0 ≤ (IntKind.i64.wrap ((x0.length : Int) + 1)) ∧ Int.toNat (IntKind.i64.wrap ((x0.length : Int) + 1)) * 4 ≤ 140737488355328 then
   (nat_Add_l0 k k ((x0, x1, (), 0, (x0.length : Int), 0, ()), ((List.replicate (Int.toNat (IntKind.i64.wrap ((x0.length : Int) + 1))) (0 : Int)), ()))).bind fun q11 =>
   Sum.elim (fun z16 =>
     if 0 ≤ (z16.1.1.length : Int) then (z16.2.1[Int.toNat (z16.1.1.length : Int)]?).bind fun _ =>
      (z16.2.1[(Int.toNat (z16.1.1.length : Int))]?).bind fun y18 =>
      (nat_cut k (z16.2.1.set (Int.toNat (z16.1.1.length : Int)) z16.1.2.2.1)).bind fun r19 =>
      some (r19.1, ())
     else none)
    (fun q11' =>
     none) q11
  else none
theorem nat_Add.ok (k : Nat) : SpecOK Tryd.prog G0 53 ⟨[T22, T22], [T22], fun x => nat_Add k x.1 x.2.1⟩ :=
 evF_sound (E := (e15 k)) (fn := Tryd.f53) (e15.ok k) (by kernel_rfl) (by kernel_rfl) (by kernel_rfl) 8 (.two .n (.two .n (.two .n (.two .n (.two (.two .n (.two (.use (nat_Add_l0_seg k)) .n)) (.two .n (.two (.own 1 .n) .n))))))) ⟨trivial, ⟨trivial, ⟨trivial, ⟨trivial, ⟨⟨trivial, ⟨(nat_Add_l0_seg.ok k), trivial⟩⟩, ⟨trivial, ⟨trivial, trivial⟩⟩⟩⟩⟩⟩⟩ (fun xs => by kernel_rfl)
def e16 (k : Nat) : Env := (e15 k).add 53 ⟨[T22, T22], [T22], fun x => nat_Add k x.1 x.2.1⟩
theorem e16.ok (k : Nat) : (e16 k).OK Tryd.prog := (e15.ok k).add (nat_Add.ok k)
abbrev nat_Cmp_l0_i : Mask := ⟨[(0, 0, (.v T22)), (0, 1, (.v T22)), (0, 24, (.v (.int .i64))), (0, 25, (.v (.int .i64)))], [], [], 0⟩
abbrev nat_Cmp_l0_o : List Out := [⟨.ret, ⟨[(0, 4, (.v (.int .i64)))], [], [], 0⟩⟩, ⟨.exit 1, ⟨[], [], [], 0⟩⟩]
def nat_Cmp_l0 (k : Nat) : Nat → Mask.den nat_Cmp_l0_i → Option (denS nat_Cmp_l0_o)
 | 0, _ => none
 | m + 1, x =>
  bif (decide (x.1.2.2.2.1 < x.1.2.2.1)) then
   if 0 ≤ (IntKind.i64.wrap ((IntKind.i64.wrap ((x.1.1.length : Int) - 1)) - x.1.2.2.2.1)) then (x.1.1[Int.toNat (IntKind.i64.wrap ((IntKind.i64.wrap ((x.1.1.length : Int) - 1)) - x.1.2.2.2.1))]?).bind fun y3 =>
    if 0 ≤ (IntKind.i64.wrap ((IntKind.i64.wrap ((x.1.1.length : Int) - 1)) - x.1.2.2.2.1)) then (x.1.2.1[Int.toNat (IntKind.i64.wrap ((IntKind.i64.wrap ((x.1.1.length : Int) - 1)) - x.1.2.2.2.1))]?).bind fun y4 =>
     bif (decide (y3 < y4)) then
      some (Sum.inl (((-1), ()), ()))
     else
      if 0 ≤ (IntKind.i64.wrap ((IntKind.i64.wrap ((x.1.1.length : Int) - 1)) - x.1.2.2.2.1)) then (x.1.1[Int.toNat (IntKind.i64.wrap ((IntKind.i64.wrap ((x.1.1.length : Int) - 1)) - x.1.2.2.2.1))]?).bind fun y5 =>
       if 0 ≤ (IntKind.i64.wrap ((IntKind.i64.wrap ((x.1.1.length : Int) - 1)) - x.1.2.2.2.1)) then (x.1.2.1[Int.toNat (IntKind.i64.wrap ((IntKind.i64.wrap ((x.1.1.length : Int) - 1)) - x.1.2.2.2.1))]?).bind fun y6 =>
        bif (decide (y5 > y6)) then
         some (Sum.inl ((1, ()), ()))
        else
         nat_Cmp_l0 k m ((x.1.1, x.1.2.1, x.1.2.2.1, (IntKind.i64.wrap (x.1.2.2.2.1 + 1)), ()), ())
       else none
      else none
    else none
   else none
  else
   some (Sum.inr (Sum.inl ((), ())))
abbrev nat_Cmp_l0_seg (k : Nat) : Seg := ⟨⟨0, 54, false, [], []⟩, 72, [.b, .s2, .s1, .s2, .s2, .s2], nat_Cmp_l0_i, nat_Cmp_l0_o, nat_Cmp_l0 k k⟩
theorem nat_Cmp_l0_seg.ok (k : Nat) : SegOK Tryd.prog (e16 k) (nat_Cmp_l0_seg k) :=
 SegOK.loop (e16.ok k) (by kernel_rfl) (S := nat_Cmp_l0_seg k) (c := atR (codeOf (e16 k) 72) [.l, .b, .s2, .s1, .s2, .s2, .s2]) (by kernel_rfl) (nat_Cmp_l0 k) k rfl (fun _ => rfl) 8 .n trivial (fun k' x => by kernel_rfl)
def nat_Cmp (k : Nat) (x0 : Ty.den T22) (x1 : Ty.den T22) : Option (HL [(.int .i64)]) :=
 (nat_cut k x0).bind fun r1 =>
 (nat_cut k x1).bind fun r2 =>
 bif (decide ((r1.1.length : Int) < (r2.1.length : Int))) then
  some ((-1), ())
 else
  bif (decide ((r1.1.length : Int) > (r2.1.length : Int))) then
   some (1, ())
  else
   (nat_Cmp_l0 k k ((r1.1, r2.1, (r1.1.length : Int), 0, ()), ())).bind fun q7 =>
   Sum.elim (fun z8 =>
     some (z8.1.1, ()))
    (fun q7' =>
     Sum.elim (fun z9 =>
       some (0, ()))
      (fun q7'' =>
       none) q7') q7
theorem nat_Cmp.ok (k : Nat) : SpecOK Tryd.prog G0 72 ⟨[T22, T22], [(.int .i64)], fun x => nat_Cmp k x.1 x.2.1⟩ :=
 evF_sound (E := (e16 k)) (fn := Tryd.f72) (e16.ok k) (by kernel_rfl) (by kernel_rfl) (by kernel_rfl) 8 (.two .n (.two .n (.two .n (.two (.two .n (.two (.use (nat_Cmp_l0_seg k)) .n)) .n)))) ⟨trivial, ⟨trivial, ⟨trivial, ⟨⟨trivial, ⟨(nat_Cmp_l0_seg.ok k), trivial⟩⟩, trivial⟩⟩⟩⟩ (fun xs => by kernel_rfl)
def e17 (k : Nat) : Env := (e16 k).add 72 ⟨[T22, T22], [(.int .i64)], fun x => nat_Cmp k x.1 x.2.1⟩
theorem e17.ok (k : Nat) : (e17 k).OK Tryd.prog := (e16.ok k).add (nat_Cmp.ok k)
def bits_Sub32 (k : Nat) (x0 : Ty.den (.int .u32)) (x1 : Ty.den (.int .u32)) (x2 : Ty.den (.int .u32)) : Option (HL [(.int .u32), (.int .u32)]) :=
 some ((IntKind.u32.wrap ((IntKind.u32.wrap (x0 - x1)) - x2)), (Int.fdiv (IntKind.u32.wrap (BitVec.toNat (BitVec.ofInt IntKind.u32.bits (IntKind.u32.wrap (BitVec.toNat (BitVec.ofInt IntKind.u32.bits (IntKind.u32.wrap (BitVec.toNat (BitVec.ofInt IntKind.u32.bits (if IntKind.u32.signed then -1 else IntKind.u32.max) ^^^ BitVec.ofInt IntKind.u32.bits x0))) &&& BitVec.ofInt IntKind.u32.bits x1))) ||| BitVec.ofInt IntKind.u32.bits (IntKind.u32.wrap (BitVec.toNat (BitVec.ofInt IntKind.u32.bits (IntKind.u32.wrap (BitVec.toNat (BitVec.ofInt IntKind.u32.bits (if IntKind.u32.signed then -1 else IntKind.u32.max) ^^^ BitVec.ofInt IntKind.u32.bits (IntKind.u32.wrap (BitVec.toNat (BitVec.ofInt IntKind.u32.bits x0 ^^^ BitVec.ofInt IntKind.u32.bits x1)))))) &&& BitVec.ofInt IntKind.u32.bits (IntKind.u32.wrap ((IntKind.u32.wrap (x0 - x1)) - x2)))))))) (2 ^ min (Int.toNat 31) IntKind.u32.bits)), ())
theorem bits_Sub32.ok (k : Nat) : SpecOK Tryd.prog G0 73 ⟨[(.int .u32), (.int .u32), (.int .u32)], [(.int .u32), (.int .u32)], fun x => bits_Sub32 k x.1 x.2.1 x.2.2.1⟩ :=
 evF_sound (E := (e17 k)) (fn := Tryd.f73) (e17.ok k) (by kernel_rfl) (by kernel_rfl) (by kernel_rfl) 8 .n trivial (fun xs => by kernel_rfl)
def e18 (k : Nat) : Env := (e17 k).add 73 ⟨[(.int .u32), (.int .u32), (.int .u32)], [(.int .u32), (.int .u32)], fun x => bits_Sub32 k x.1 x.2.1 x.2.2.1⟩
theorem e18.ok (k : Nat) : (e18 k).OK Tryd.prog := (e17.ok k).add (bits_Sub32.ok k)
abbrev nat_Sub_l0_i : Mask := ⟨[(0, 0, (.v T22)), (0, 1, (.v T22)), (0, 6, (.k (.arr 20 0))), (0, 7, (.v (.int .u32))), (0, 22, (.v (.int .i64))), (0, 23, (.v (.int .i64)))], [(20, .arr 51 (.int .u32))], [], 0⟩
abbrev nat_Sub_l0_o : List Out := [⟨.exit 0, ⟨[(0, 6, (.k (.arr 20 0)))], [(20, .arr 51 (.int .u32))], [], 0⟩⟩]
def nat_Sub_l0 (k : Nat) : Nat → Mask.den nat_Sub_l0_i → Option (denS nat_Sub_l0_o)
 | 0, _ => none
 | m + 1, x =>
  bif (decide (x.1.2.2.2.2.2.1 < x.1.2.2.2.2.1)) then
   bif (decide (x.1.2.2.2.2.2.1 < (x.1.2.1.length : Int))) then
    if 0 ≤ x.1.2.2.2.2.2.1 then (x.1.2.1[Int.toNat x.1.2.2.2.2.2.1]?).bind fun y4 =>
     if 0 ≤ x.1.2.2.2.2.2.1 then (x.1.1[Int.toNat x.1.2.2.2.2.2.1]?).bind fun y5 =>
      (bits_Sub32 k y5 y4 x.1.2.2.2.1).bind fun r6 =>
      if 0 ≤ x.1.2.2.2.2.2.1 then (x.2.1[Int.toNat x.1.2.2.2.2.2.1]?).bind fun _ =>
       (x.2.1[(Int.toNat x.1.2.2.2.2.2.1)]?).bind fun y8 =>
       nat_Sub_l0 k m ((x.1.1, x.1.2.1, (), r6.2.1, x.1.2.2.2.2.1, (IntKind.i64.wrap (x.1.2.2.2.2.2.1 + 1)), ()), ((x.2.1.set (Int.toNat x.1.2.2.2.2.2.1) r6.1), ()))
      else none
     else none
    else none
   else
    if 0 ≤ x.1.2.2.2.2.2.1 then (x.1.1[Int.toNat x.1.2.2.2.2.2.1]?).bind fun y9 =>
     (bits_Sub32 k y9 0 x.1.2.2.2.1).bind fun r10 =>
     if 0 ≤ x.1.2.2.2.2.2.1 then (x.2.1[Int.toNat x.1.2.2.2.2.2.1]?).bind fun _ =>
      (x.2.1[(Int.toNat x.1.2.2.2.2.2.1)]?).bind fun y12 =>
      nat_Sub_l0 k m ((x.1.1, x.1.2.1, (), r10.2.1, x.1.2.2.2.2.1, (IntKind.i64.wrap (x.1.2.2.2.2.2.1 + 1)), ()), ((x.2.1.set (Int.toNat x.1.2.2.2.2.2.1) r10.1), ()))
     else none
    else none
  else
   some (Sum.inl (((), ()), (x.2.1, ())))
abbrev nat_Sub_l0_seg (k : Nat) : Seg := ⟨⟨0, 50, false, [], []⟩, 54, [.b, .s2, .s1, .s2, .s2, .s2, .s2, .s2], nat_Sub_l0_i, nat_Sub_l0_o, nat_Sub_l0 k k⟩
theorem nat_Sub_l0_seg.ok (k : Nat) : SegOK Tryd.prog (e18 k) (nat_Sub_l0_seg k) :=
 SegOK.loop (e18.ok k) (by kernel_rfl) (S := nat_Sub_l0_seg k) (c := atR (codeOf (e18 k) 54) [.l, .b, .s2, .s1, .s2, .s2, .s2, .s2, .s2]) (by kernel_rfl) (nat_Sub_l0 k) k rfl (fun _ => rfl) 8 .n trivial (fun k' x => by kernel_rfl)
def nat_Sub (k : Nat) (x0 : Ty.den T22) (x1 : Ty.den T22) : Option (HL [T22, .bool]) :=
 (nat_cut k x0).bind fun r1 =>
 (nat_cut k x1).bind fun r2 =>
 (nat_Cmp k r1.1 r2.1).bind fun r3 =>
 bif (decide (r3.1 < 0)) then
  some ([], false, ())
 else
  if (r1.1.length : Int) = (r1.1.length : Int) ∧ 0 ≤ (r1.1.length : Int) ∧ Int.toNat (r1.1.length : Int) * 4 ≤ 140737488355328 then
   (nat_Sub_l0 k k ((r1.1, r2.1, (), 0, (r1.1.length : Int), 0, ()), ((List.replicate (Int.toNat (r1.1.length : Int)) (0 : Int)), ()))).bind fun q13 =>
   Sum.elim (fun z14 =>
     (nat_cut k z14.2.1).bind fun r15 =>
     some (r15.1, true, ()))
    (fun q13' =>
     none) q13
  else none
theorem nat_Sub.ok (k : Nat) : SpecOK Tryd.prog G0 54 ⟨[T22, T22], [T22, .bool], fun x => nat_Sub k x.1 x.2.1⟩ :=
 evF_sound (E := (e18 k)) (fn := Tryd.f54) (e18.ok k) (by kernel_rfl) (by kernel_rfl) (by kernel_rfl) 8 (.two .n (.two .n (.two .n (.two .n (.two .n (.two (.two .n (.two (.use (nat_Sub_l0_seg k)) .n)) (.two (.own 1 .n) .n))))))) ⟨trivial, ⟨trivial, ⟨trivial, ⟨trivial, ⟨trivial, ⟨⟨trivial, ⟨(nat_Sub_l0_seg.ok k), trivial⟩⟩, ⟨trivial, trivial⟩⟩⟩⟩⟩⟩⟩ (fun xs => by kernel_rfl)
def e19 (k : Nat) : Env := (e18 k).add 54 ⟨[T22, T22], [T22, .bool], fun x => nat_Sub k x.1 x.2.1⟩
theorem e19.ok (k : Nat) : (e19 k).OK Tryd.prog := (e18.ok k).add (nat_Sub.ok k)
def whole_Add (k : Nat) (x0 : Ty.den T23) (x1 : Ty.den T23) : Option (HL [T23]) :=
 bif (x0.1 == x1.1) then
  (nat_Add k x0.2 x1.2).bind fun r1 =>
  (whole_Make k x0.1 r1.1).bind fun r2 =>
  some (r2.1, ())
 else
  (nat_Sub k x0.2 x1.2).bind fun r3 =>
  bif r3.2.1 then
   (whole_Make k x0.1 r3.1).bind fun r4 =>
   some (r4.1, ())
  else
   (nat_Sub k x1.2 x0.2).bind fun r5 =>
   (whole_Make k x1.1 r5.1).bind fun r6 =>
   some (r6.1, ())
theorem whole_Add.ok (k : Nat) : SpecOK Tryd.prog G0 24 ⟨[T23, T23], [T23], fun x => whole_Add k x.1 x.2.1⟩ :=
 evF_sound (E := (e19 k)) (fn := Tryd.f24) (e19.ok k) (by kernel_rfl) (by kernel_rfl) (by kernel_rfl) 8 .n trivial (fun xs => by kernel_rfl)
def e20 (k : Nat) : Env := (e19 k).add 24 ⟨[T23, T23], [T23], fun x => whole_Add k x.1 x.2.1⟩
theorem e20.ok (k : Nat) : (e20 k).OK Tryd.prog := (e19.ok k).add (whole_Add.ok k)
abbrev nat_Shl_l0_i : Mask := ⟨[(0, 5, (.v (.int .i64))), (0, 6, (.v (.int .i64))), (0, 7, (.k (.arr 35 0))), (0, 36, (.v T22)), (0, 37, (.v (.int .i64))), (0, 38, (.v (.int .i64)))], [(35, .arr 51 (.int .u32))], [], 0⟩
abbrev nat_Shl_l0_o : List Out := [⟨.exit 1, ⟨[(0, 7, (.k (.arr 35 0)))], [(35, .arr 51 (.int .u32))], [], 0⟩⟩]
def nat_Shl_l0 (k : Nat) : Nat → Mask.den nat_Shl_l0_i → Option (denS nat_Shl_l0_o)
 | 0, _ => none
 | m + 1, x =>
  bif (decide (x.1.2.2.2.2.2.1 < x.1.2.2.2.2.1)) then
   if 0 ≤ x.1.2.2.2.2.2.1 then (x.1.2.2.2.1[Int.toNat x.1.2.2.2.2.2.1]?).bind fun y2 =>
    if x.1.2.1 < 0 then none else
    if 0 ≤ (IntKind.i64.wrap (x.1.2.2.2.2.2.1 + x.1.1)) then (x.2.1[Int.toNat (IntKind.i64.wrap (x.1.2.2.2.2.2.1 + x.1.1))]?).bind fun _ =>
     (x.2.1[(Int.toNat (IntKind.i64.wrap (x.1.2.2.2.2.2.1 + x.1.1)))]?).bind fun y4 =>
     if 0 ≤ (IntKind.i64.wrap (x.1.2.2.2.2.2.1 + x.1.1)) then (x.2.1[Int.toNat (IntKind.i64.wrap (x.1.2.2.2.2.2.1 + x.1.1))]?).bind fun _ =>
      (x.2.1[(Int.toNat (IntKind.i64.wrap (x.1.2.2.2.2.2.1 + x.1.1)))]?).bind fun y6 =>
      if 0 ≤ (IntKind.i64.wrap ((IntKind.i64.wrap (x.1.2.2.2.2.2.1 + x.1.1)) + 1)) then ((x.2.1.set (Int.toNat (IntKind.i64.wrap (x.1.2.2.2.2.2.1 + x.1.1))) (IntKind.u32.wrap (BitVec.toNat (BitVec.ofInt IntKind.u32.bits y4 ||| BitVec.ofInt IntKind.u32.bits (IntKind.u32.wrap (IntKind.u64.wrap ((IntKind.u64.wrap y2) * 2 ^ min (Int.toNat x.1.2.1) IntKind.u64.bits)))))))[Int.toNat (IntKind.i64.wrap ((IntKind.i64.wrap (x.1.2.2.2.2.2.1 + x.1.1)) + 1))]?).bind fun _ =>
       ((x.2.1.set (Int.toNat (IntKind.i64.wrap (x.1.2.2.2.2.2.1 + x.1.1))) (IntKind.u32.wrap (BitVec.toNat (BitVec.ofInt IntKind.u32.bits y4 ||| BitVec.ofInt IntKind.u32.bits (IntKind.u32.wrap (IntKind.u64.wrap ((IntKind.u64.wrap y2) * 2 ^ min (Int.toNat x.1.2.1) IntKind.u64.bits)))))))[(Int.toNat (IntKind.i64.wrap ((IntKind.i64.wrap (x.1.2.2.2.2.2.1 + x.1.1)) + 1)))]?).bind fun y8 =>
       if 0 ≤ (IntKind.i64.wrap ((IntKind.i64.wrap (x.1.2.2.2.2.2.1 + x.1.1)) + 1)) then ((x.2.1.set (Int.toNat (IntKind.i64.wrap (x.1.2.2.2.2.2.1 + x.1.1))) (IntKind.u32.wrap (BitVec.toNat (BitVec.ofInt IntKind.u32.bits y4 ||| BitVec.ofInt IntKind.u32.bits (IntKind.u32.wrap (IntKind.u64.wrap ((IntKind.u64.wrap y2) * 2 ^ min (Int.toNat x.1.2.1) IntKind.u64.bits)))))))[Int.toNat (IntKind.i64.wrap ((IntKind.i64.wrap (x.1.2.2.2.2.2.1 + x.1.1)) + 1))]?).bind fun _ =>
        ((x.2.1.set (Int.toNat (IntKind.i64.wrap (x.1.2.2.2.2.2.1 + x.1.1))) (IntKind.u32.wrap (BitVec.toNat (BitVec.ofInt IntKind.u32.bits y4 ||| BitVec.ofInt IntKind.u32.bits (IntKind.u32.wrap (IntKind.u64.wrap ((IntKind.u64.wrap y2) * 2 ^ min (Int.toNat x.1.2.1) IntKind.u64.bits)))))))[(Int.toNat (IntKind.i64.wrap ((IntKind.i64.wrap (x.1.2.2.2.2.2.1 + x.1.1)) + 1)))]?).bind fun y10 =>
        nat_Shl_l0 k m ((x.1.1, x.1.2.1, (), x.1.2.2.2.1, x.1.2.2.2.2.1, (IntKind.i64.wrap (x.1.2.2.2.2.2.1 + 1)), ()), (((x.2.1.set (Int.toNat (IntKind.i64.wrap (x.1.2.2.2.2.2.1 + x.1.1))) (IntKind.u32.wrap (BitVec.toNat (BitVec.ofInt IntKind.u32.bits y4 ||| BitVec.ofInt IntKind.u32.bits (IntKind.u32.wrap (IntKind.u64.wrap ((IntKind.u64.wrap y2) * 2 ^ min (Int.toNat x.1.2.1) IntKind.u64.bits))))))).set (Int.toNat (IntKind.i64.wrap ((IntKind.i64.wrap (x.1.2.2.2.2.2.1 + x.1.1)) + 1))) (IntKind.u32.wrap (BitVec.toNat (BitVec.ofInt IntKind.u32.bits y8 ||| BitVec.ofInt IntKind.u32.bits (IntKind.u32.wrap (Int.fdiv (IntKind.u64.wrap ((IntKind.u64.wrap y2) * 2 ^ min (Int.toNat x.1.2.1) IntKind.u64.bits)) (2 ^ min (Int.toNat 32) IntKind.u64.bits))))))), ()))
       else none
      else none
     else none
    else none
   else none
  else
   some (Sum.inl (((), ()), (x.2.1, ())))
abbrev nat_Shl_l0_seg (k : Nat) : Seg := ⟨⟨0, 72, false, [], []⟩, 52, [.b, .s2, .s1, .s2, .s2, .s2, .s2, .s2], nat_Shl_l0_i, nat_Shl_l0_o, nat_Shl_l0 k k⟩
theorem nat_Shl_l0_seg.ok (k : Nat) : SegOK Tryd.prog (e20 k) (nat_Shl_l0_seg k) :=
 SegOK.loop (e20.ok k) (by kernel_rfl) (S := nat_Shl_l0_seg k) (c := atR (codeOf (e20 k) 52) [.l, .b, .s2, .s1, .s2, .s2, .s2, .s2, .s2]) (by kernel_rfl) (nat_Shl_l0 k) k rfl (fun _ => rfl) 8 .n trivial (fun k' x => by kernel_rfl)
def nat_Shl (k : Nat) (x0 : Ty.den T22) (x1 : Ty.den (.int .i64)) : Option (HL [T22]) :=
 (nat_cut k x0).bind fun r1 =>
 bif (decide (x1 < 1)) then
  if r1.1.length * 4 ≤ 140737488355328 then
   some (r1.1, ())
  else none
 else
  bif (decide (x1 > 16777216)) then
   some ([], ())
  else
   bif ((r1.1.length : Int) == 0) then
    some ([], ())
   else
    if (IntKind.i64.wrap ((IntKind.i64.wrap ((r1.1.length : Int) + (IntKind.i64.wrap (Int.tdiv x1 32)))) + 1)) = (IntKind.i64.wrap ((IntKind.i64.wrap ((r1.1.length : Int) + (IntKind.i64.wrap (Int.tdiv x1 32)))) + 1)) ∧ 0 ≤ (IntKind.i64.wrap ((IntKind.i64.wrap ((r1.1.length : Int) + (IntKind.i64.wrap (Int.tdiv x1 32)))) + 1)) ∧ Int.toNat (IntKind.i64.wrap ((IntKind.i64.wrap ((r1.1.length : Int) + (IntKind.i64.wrap (Int.tdiv x1 32)))) + 1)) * 4 ≤ 140737488355328 then
     (nat_Shl_l0 k k (((IntKind.i64.wrap (Int.tdiv x1 32)), (Int.tmod x1 32), (), r1.1, (r1.1.length : Int), 0, ()), ((List.replicate (Int.toNat (IntKind.i64.wrap ((IntKind.i64.wrap ((r1.1.length : Int) + (IntKind.i64.wrap (Int.tdiv x1 32)))) + 1))) (0 : Int)), ()))).bind fun q11 =>
     Sum.elim (fun z12 =>
       (nat_cut k z12.2.1).bind fun r13 =>
       some (r13.1, ()))
      (fun q11' =>
       none) q11
    else none
theorem nat_Shl.ok (k : Nat) : SpecOK Tryd.prog G0 52 ⟨[T22, (.int .i64)], [T22], fun x => nat_Shl k x.1 x.2.1⟩ :=
 evF_sound (E := (e20 k)) (fn := Tryd.f52) (e20.ok k) (by kernel_rfl) (by kernel_rfl) (by kernel_rfl) 8 (.two .n (.two .n (.two .n (.two .n (.two .n (.two (.two .n (.two (.use (nat_Shl_l0_seg k)) .n)) (.two (.own 1 .n) .n))))))) ⟨trivial, ⟨trivial, ⟨trivial, ⟨trivial, ⟨trivial, ⟨⟨trivial, ⟨(nat_Shl_l0_seg.ok k), trivial⟩⟩, ⟨trivial, trivial⟩⟩⟩⟩⟩⟩⟩ (fun xs => by kernel_rfl)
def e21 (k : Nat) : Env := (e20 k).add 52 ⟨[T22, (.int .i64)], [T22], fun x => nat_Shl k x.1 x.2.1⟩
theorem e21.ok (k : Nat) : (e21 k).OK Tryd.prog := (e20.ok k).add (nat_Shl.ok k)
def dy_add (k : Nat) (x0 : Ty.den T26) (x1 : Ty.den T26) : Option (HL [T26]) :=
 bif ((x0.1.2.length : Int) == 0) then
  some (x1, ())
 else
  bif ((x1.1.2.length : Int) == 0) then
   some (x0, ())
  else
   bif (decide (x0.2 > x1.2)) then
    (nat_Shl k x0.1.2 (IntKind.i64.wrap (x0.2 - x1.2))).bind fun r1 =>
    (whole_Add k x1.1 (x0.1.1, r1.1)).bind fun r2 =>
    (dy_Make k r2.1 x1.2).bind fun r3 =>
    some (r3.1, ())
   else
    (nat_Shl k x1.1.2 (IntKind.i64.wrap (x1.2 - x0.2))).bind fun r4 =>
    (whole_Add k x0.1 (x1.1.1, r4.1)).bind fun r5 =>
    (dy_Make k r5.1 x0.2).bind fun r6 =>
    some (r6.1, ())
theorem dy_add.ok (k : Nat) : SpecOK Tryd.prog G0 50 ⟨[T26, T26], [T26], fun x => dy_add k x.1 x.2.1⟩ :=
 evF_sound (E := (e21 k)) (fn := Tryd.f50) (e21.ok k) (by kernel_rfl) (by kernel_rfl) (by kernel_rfl) 8 .n trivial (fun xs => by kernel_rfl)
def e22 (k : Nat) : Env := (e21 k).add 50 ⟨[T26, T26], [T26], fun x => dy_add k x.1 x.2.1⟩
theorem e22.ok (k : Nat) : (e22 k).OK Tryd.prog := (e21.ok k).add (dy_add.ok k)
def dy_own (k : Nat) (x0 : Ty.den T26) : Option (HL [T26]) :=
 (dy_Make k x0.1 x0.2).bind fun r1 =>
 some (r1.1, ())
theorem dy_own.ok (k : Nat) : SpecOK Tryd.prog G0 51 ⟨[T26], [T26], fun x => dy_own k x.1⟩ :=
 evF_sound (E := (e22 k)) (fn := Tryd.f51) (e22.ok k) (by kernel_rfl) (by kernel_rfl) (by kernel_rfl) 8 .n trivial (fun xs => by kernel_rfl)
def e23 (k : Nat) : Env := (e22 k).add 51 ⟨[T26], [T26], fun x => dy_own k x.1⟩
theorem e23.ok (k : Nat) : (e23 k).OK Tryd.prog := (e22.ok k).add (dy_own.ok k)
abbrev dy_Add_l0_i : Mask := ⟨[(0, 2, (.k (.ptr 2 0 0))), (0, 3, (.k (.ptr 3 0 0))), (0, 6, (.v T43)), (0, 7, (.v (.int .i64))), (0, 8, (.v (.int .i64)))], [(2, .cells (.pr (.pr (.v .bool) (.v T22)) (.v (.int .i64)))), (3, .cells (.v T26))], [], 0⟩
abbrev dy_Add_l0_o : List Out := [⟨.exit 0, ⟨[(0, 2, (.k (.ptr 2 0 0))), (0, 3, (.k (.ptr 3 0 0)))], [(2, .cells (.pr (.pr (.v .bool) (.v T22)) (.v (.int .i64)))), (3, .cells (.v T26))], [], 0⟩⟩]
def dy_Add_l0 (k : Nat) : Nat → Mask.den dy_Add_l0_i → Option (denS dy_Add_l0_o)
 | 0, _ => none
 | m + 1, x =>
  bif (decide (x.1.2.2.2.2.1 < x.1.2.2.2.1)) then
   if 0 ≤ x.1.2.2.2.2.1 then (x.1.2.2.1[Int.toNat x.1.2.2.2.2.1]?).bind fun y4 =>
    (dy_fair k y4).bind fun r5 =>
    (dy_add k x.2.2.1 r5.1).bind fun r6 =>
    dy_Add_l0 k m (((), (), x.1.2.2.1, x.1.2.2.2.1, (IntKind.i64.wrap (x.1.2.2.2.2.1 + 1)), ()), (((x.2.1.1.1, x.2.1.1.2), x.2.1.2), r6.1, ()))
   else none
  else
   some (Sum.inl (((), (), ()), (((x.2.1.1.1, x.2.1.1.2), x.2.1.2), x.2.2.1, ())))
abbrev dy_Add_l0_seg (k : Nat) : Seg := ⟨⟨0, 19, false, [], []⟩, 21, [.b, .s2, .s1, .s2, .s2], dy_Add_l0_i, dy_Add_l0_o, dy_Add_l0 k k⟩
theorem dy_Add_l0_seg.ok (k : Nat) : SegOK Tryd.prog (e23 k) (dy_Add_l0_seg k) :=
 SegOK.loop (e23.ok k) (by kernel_rfl) (S := dy_Add_l0_seg k) (c := atR (codeOf (e23 k) 21) [.l, .b, .s2, .s1, .s2, .s2]) (by kernel_rfl) (dy_Add_l0 k) k rfl (fun _ => rfl) 8 .n trivial (fun k' x => by kernel_rfl)
def dy_Add (k : Nat) (x0 : Ty.den T43) : Option (HL [T26]) :=
 (dy_Add_l0 k k (((), (), x0, (x0.length : Int), 0, ()), (((false, []), 0), ((false, []), 0), ()))).bind fun q7 =>
 Sum.elim (fun z8 =>
   (dy_own k z8.2.2.1).bind fun r9 =>
   some (r9.1, ()))
  (fun q7' =>
   none) q7
theorem dy_Add.ok (k : Nat) : SpecOK Tryd.prog G0 21 ⟨[T43], [T26], fun x => dy_Add k x.1⟩ :=
 evF_sound (E := (e23 k)) (fn := Tryd.f21) (e23.ok k) (by kernel_rfl) (by kernel_rfl) (by kernel_rfl) 8 (.two .n (.two .n (.two (.two .n (.two (.use (dy_Add_l0_seg k)) .n)) .n))) ⟨trivial, ⟨trivial, ⟨⟨trivial, ⟨(dy_Add_l0_seg.ok k), trivial⟩⟩, trivial⟩⟩⟩ (fun xs => by kernel_rfl)
def e24 (k : Nat) : Env := (e23 k).add 21 ⟨[T43], [T26], fun x => dy_Add k x.1⟩
theorem e24.ok (k : Nat) : (e24 k).OK Tryd.prog := (e23.ok k).add (dy_Add.ok k)
def dy_Floor (k : Nat) (x0 : Ty.den T26) : Option (HL [T23]) :=
 (dy_fair k x0).bind fun r1 =>
 bif (decide (r1.1.2 ≥ 0)) then
  (nat_Shl k r1.1.1.2 r1.1.2).bind fun r2 =>
  (whole_Make k r1.1.1.1 r2.1).bind fun r3 =>
  some (r3.1, ())
 else
  (nat_Shr k r1.1.1.2 (IntKind.i64.wrap (0 - r1.1.2))).bind fun r4 =>
  bif r1.1.1.1 then
   (nat_Add k r4.1 [1]).bind fun r5 =>
   (whole_Make k r1.1.1.1 r5.1).bind fun r6 =>
   some (r6.1, ())
  else
   (whole_Make k r1.1.1.1 r4.1).bind fun r7 =>
   some (r7.1, ())
theorem dy_Floor.ok (k : Nat) : SpecOK Tryd.prog G0 23 ⟨[T26], [T23], fun x => dy_Floor k x.1⟩ :=
 evF_sound (E := (e24 k)) (fn := Tryd.f23) (e24.ok k) (by kernel_rfl) (by kernel_rfl) (by kernel_rfl) 8 .n trivial (fun xs => by kernel_rfl)
def e25 (k : Nat) : Env := (e24 k).add 23 ⟨[T26], [T23], fun x => dy_Floor k x.1⟩
theorem e25.ok (k : Nat) : (e25 k).OK Tryd.prog := (e24.ok k).add (dy_Floor.ok k)
def whole_From (k : Nat) (x0 : Ty.den (.int .i64)) : Option (HL [T23]) :=
 bif (decide (x0 < 0)) then
  (whole_Make k (decide (x0 < 0)) [(IntKind.u32.wrap (IntKind.u64.wrap (0 - (IntKind.u64.wrap x0)))), (IntKind.u32.wrap (Int.fdiv (IntKind.u64.wrap (0 - (IntKind.u64.wrap x0))) (2 ^ min (Int.toNat 32) IntKind.u64.bits)))]).bind fun r1 =>
  some (r1.1, ())
 else
  (whole_Make k (decide (x0 < 0)) [(IntKind.u32.wrap (IntKind.u64.wrap x0)), (IntKind.u32.wrap (Int.fdiv (IntKind.u64.wrap x0) (2 ^ min (Int.toNat 32) IntKind.u64.bits)))]).bind fun r2 =>
  some (r2.1, ())
theorem whole_From.ok (k : Nat) : SpecOK Tryd.prog G0 25 ⟨[(.int .i64)], [T23], fun x => whole_From k x.1⟩ :=
 evF_sound (E := (e25 k)) (fn := Tryd.f25) (e25.ok k) (by kernel_rfl) (by kernel_rfl) (by kernel_rfl) 8 .n trivial (fun xs => by kernel_rfl)
def e26 (k : Nat) : Env := (e25 k).add 25 ⟨[(.int .i64)], [T23], fun x => whole_From k x.1⟩
theorem e26.ok (k : Nat) : (e26 k).OK Tryd.prog := (e25.ok k).add (whole_From.ok k)
abbrev whole_Int_l0_i : Mask := ⟨[(0, 1, (.k (.ptr 1 0 0))), (0, 5, (.v (.int .u64))), (0, 16, (.v T22)), (0, 17, (.v (.int .i64))), (0, 18, (.v (.int .i64)))], [(1, .cells (.v T23))], [], 0⟩
abbrev whole_Int_l0_o : List Out := [⟨.exit 0, ⟨[(0, 1, (.k (.ptr 1 0 0))), (0, 5, (.v (.int .u64)))], [(1, .cells (.v T23))], [], 0⟩⟩]
def whole_Int_l0 (k : Nat) : Nat → Mask.den whole_Int_l0_i → Option (denS whole_Int_l0_o)
 | 0, _ => none
 | m + 1, x =>
  bif (decide (x.1.2.2.2.2.1 < x.1.2.2.2.1)) then
   if 0 ≤ x.1.2.2.2.2.1 then (x.1.2.2.1[Int.toNat x.1.2.2.2.2.1]?).bind fun y2 =>
    if (IntKind.i64.wrap (32 * x.1.2.2.2.2.1)) < 0 then none else
    whole_Int_l0 k m (((), (IntKind.u64.wrap (BitVec.toNat (BitVec.ofInt IntKind.u64.bits x.1.2.1 ||| BitVec.ofInt IntKind.u64.bits (IntKind.u64.wrap ((IntKind.u64.wrap y2) * 2 ^ min (Int.toNat (IntKind.i64.wrap (32 * x.1.2.2.2.2.1))) IntKind.u64.bits))))), x.1.2.2.1, x.1.2.2.2.1, (IntKind.i64.wrap (x.1.2.2.2.2.1 + 1)), ()), (x.2.1, ()))
   else none
  else
   some (Sum.inl (((), x.1.2.1, ()), (x.2.1, ())))
abbrev whole_Int_l0_seg (k : Nat) : Seg := ⟨⟨0, 61, false, [], []⟩, 37, [.b, .s2, .s1, .s2, .s2, .s2, .s2], whole_Int_l0_i, whole_Int_l0_o, whole_Int_l0 k k⟩
theorem whole_Int_l0_seg.ok (k : Nat) : SegOK Tryd.prog (e26 k) (whole_Int_l0_seg k) :=
 SegOK.loop (e26.ok k) (by kernel_rfl) (S := whole_Int_l0_seg k) (c := atR (codeOf (e26 k) 37) [.l, .b, .s2, .s1, .s2, .s2, .s2, .s2]) (by kernel_rfl) (whole_Int_l0 k) k rfl (fun _ => rfl) 8 .n trivial (fun k' x => by kernel_rfl)
def whole_Int (k : Nat) (x0 : Ty.den T23) : Option (HL [(.int .i64), .bool]) :=
 (nat_Trim k x0.2).bind fun r1 =>
 bif (decide ((r1.1.length : Int) > 2)) then
  some (0, false, ())
 else
  (whole_Int_l0 k k (((), 0, r1.1, (r1.1.length : Int), 0, ()), (x0, ()))).bind fun q3 =>
  Sum.elim (fun z4 =>
    bif z4.2.1.1 then
     bif ((IntKind.i64.wrap (0 - (IntKind.i64.wrap z4.1.2.1))) == 0) then
      bif (z4.1.2.1 == 0) then
       some ((IntKind.i64.wrap (0 - (IntKind.i64.wrap z4.1.2.1))), true, ())
      else
       bif (z4.1.2.1 != 0) then
        bif ((IntKind.i64.wrap (0 - (IntKind.i64.wrap z4.1.2.1))) != 0) then
         bif (!((decide ((IntKind.i64.wrap (0 - (IntKind.i64.wrap z4.1.2.1))) < 0)) == z4.2.1.1)) then
          some (0, false, ())
         else
          some ((IntKind.i64.wrap (0 - (IntKind.i64.wrap z4.1.2.1))), true, ())
        else
         some (0, false, ())
       else
        some (0, false, ())
     else
      bif (z4.1.2.1 != 0) then
       bif ((IntKind.i64.wrap (0 - (IntKind.i64.wrap z4.1.2.1))) != 0) then
        bif (!((decide ((IntKind.i64.wrap (0 - (IntKind.i64.wrap z4.1.2.1))) < 0)) == z4.2.1.1)) then
         some (0, false, ())
        else
         some ((IntKind.i64.wrap (0 - (IntKind.i64.wrap z4.1.2.1))), true, ())
       else
        some (0, false, ())
      else
       some (0, false, ())
    else
     bif ((IntKind.i64.wrap z4.1.2.1) == 0) then
      bif (z4.1.2.1 == 0) then
       some ((IntKind.i64.wrap z4.1.2.1), true, ())
      else
       bif (z4.1.2.1 != 0) then
        bif ((IntKind.i64.wrap z4.1.2.1) != 0) then
         bif (!((decide ((IntKind.i64.wrap z4.1.2.1) < 0)) == z4.2.1.1)) then
          some (0, false, ())
         else
          some ((IntKind.i64.wrap z4.1.2.1), true, ())
        else
         some (0, false, ())
       else
        some (0, false, ())
     else
      bif (z4.1.2.1 != 0) then
       bif ((IntKind.i64.wrap z4.1.2.1) != 0) then
        bif (!((decide ((IntKind.i64.wrap z4.1.2.1) < 0)) == z4.2.1.1)) then
         some (0, false, ())
        else
         some ((IntKind.i64.wrap z4.1.2.1), true, ())
       else
        some (0, false, ())
      else
       some (0, false, ()))
   (fun q3' =>
    none) q3
theorem whole_Int.ok (k : Nat) : SpecOK Tryd.prog G0 37 ⟨[T23], [(.int .i64), .bool], fun x => whole_Int k x.1⟩ :=
 evF_sound (E := (e26 k)) (fn := Tryd.f37) (e26.ok k) (by kernel_rfl) (by kernel_rfl) (by kernel_rfl) 8 (.two .n (.two .n (.two .n (.two .n (.two (.two .n (.two (.use (whole_Int_l0_seg k)) .n)) .n))))) ⟨trivial, ⟨trivial, ⟨trivial, ⟨trivial, ⟨⟨trivial, ⟨(whole_Int_l0_seg.ok k), trivial⟩⟩, trivial⟩⟩⟩⟩⟩ (fun xs => by kernel_rfl)
def e27 (k : Nat) : Env := (e26 k).add 37 ⟨[T23], [(.int .i64), .bool], fun x => whole_Int k x.1⟩
theorem e27.ok (k : Nat) : (e27 k).OK Tryd.prog := (e26.ok k).add (whole_Int.ok k)
def peloruslaw03_awake (k : Nat) : Option (HL [.bool]) :=
 (whole_From k 12).bind fun r1 =>
 (dy_Make k r1.1 (-3)).bind fun r2 =>
 (whole_From k 1).bind fun r3 =>
 (dy_Make k r3.1 (-1)).bind fun r4 =>
 (whole_From k 1).bind fun r5 =>
 (dy_Make k r5.1 (-2)).bind fun r6 =>
 (dy_Add k [r4.1, r6.1]).bind fun r7 =>
 (whole_From k (-1)).bind fun r8 =>
 (dy_Make k r8.1 (-1)).bind fun r9 =>
 (dy_Floor k r9.1).bind fun r10 =>
 (whole_Int k r10.1).bind fun r11 =>
 bif (r2.1.2 == (-1)) then
  bif (r7.1.2 == (-2)) then
   bif ((r7.1.1.2.length : Int) == 1) then
    if 0 ≤ 0 then (r7.1.1.2[Int.toNat 0]?).bind fun y12 =>
     bif (y12 == 3) then
      bif (r11.1 == (-1)) then
       some (r11.2.1, ())
      else
       some (false, ())
     else
      some (false, ())
    else none
   else
    some (false, ())
  else
   some (false, ())
 else
  some (false, ())
theorem peloruslaw03_awake.ok (k : Nat) : SpecOK Tryd.prog G0 9 ⟨[], [.bool], fun x => peloruslaw03_awake k⟩ :=
 evF_sound (E := (e27 k)) (fn := Tryd.f9) (e27.ok k) (by kernel_rfl) (by kernel_rfl) (by kernel_rfl) 8 .n trivial (fun xs => by kernel_rfl)
def e28 (k : Nat) : Env := (e27 k).add 9 ⟨[], [.bool], fun x => peloruslaw03_awake k⟩
theorem e28.ok (k : Nat) : (e28 k).OK Tryd.prog := (e27.ok k).add (peloruslaw03_awake.ok k)
abbrev pelorusref01_Same_l0_i : Mask := ⟨[(0, 0, (.v T22)), (0, 1, (.v T22)), (0, 5, (.v (.int .i64)))], [], [], 0⟩
abbrev pelorusref01_Same_l0_o : List Out := [⟨.ret, ⟨[(0, 4, (.v .bool))], [], [], 0⟩⟩, ⟨.exit 0, ⟨[], [], [], 0⟩⟩]
def pelorusref01_Same_l0 (k : Nat) : Nat → Mask.den pelorusref01_Same_l0_i → Option (denS pelorusref01_Same_l0_o)
 | 0, _ => none
 | m + 1, x =>
  bif (decide (x.1.2.2.1 < (x.1.1.length : Int))) then
   if 0 ≤ x.1.2.2.1 then (x.1.1[Int.toNat x.1.2.2.1]?).bind fun y1 =>
    if 0 ≤ x.1.2.2.1 then (x.1.2.1[Int.toNat x.1.2.2.1]?).bind fun y2 =>
     bif (y1 != y2) then
      some (Sum.inl ((false, ()), ()))
     else
      pelorusref01_Same_l0 k m ((x.1.1, x.1.2.1, (IntKind.i64.wrap (x.1.2.2.1 + 1)), ()), ())
    else none
   else none
  else
   some (Sum.inr (Sum.inl ((), ())))
abbrev pelorusref01_Same_l0_seg (k : Nat) : Seg := ⟨⟨0, 26, false, [], []⟩, 61, [.b, .s2, .s1, .s2, .s2], pelorusref01_Same_l0_i, pelorusref01_Same_l0_o, pelorusref01_Same_l0 k k⟩
theorem pelorusref01_Same_l0_seg.ok (k : Nat) : SegOK Tryd.prog (e28 k) (pelorusref01_Same_l0_seg k) :=
 SegOK.loop (e28.ok k) (by kernel_rfl) (S := pelorusref01_Same_l0_seg k) (c := atR (codeOf (e28 k) 61) [.l, .b, .s2, .s1, .s2, .s2]) (by kernel_rfl) (pelorusref01_Same_l0 k) k rfl (fun _ => rfl) 8 .n trivial (fun k' x => by kernel_rfl)
def pelorusref01_Same (k : Nat) (x0 : Ty.den T22) (x1 : Ty.den T22) : Option (HL [.bool]) :=
 bif ((x0.length : Int) != (x1.length : Int)) then
  some (false, ())
 else
  (pelorusref01_Same_l0 k k ((x0, x1, 0, ()), ())).bind fun q3 =>
  Sum.elim (fun z4 =>
    some (z4.1.1, ()))
   (fun q3' =>
    Sum.elim (fun z5 =>
      some (true, ()))
     (fun q3'' =>
      none) q3') q3
theorem pelorusref01_Same.ok (k : Nat) : SpecOK Tryd.prog G0 61 ⟨[T22, T22], [.bool], fun x => pelorusref01_Same k x.1 x.2.1⟩ :=
 evF_sound (E := (e28 k)) (fn := Tryd.f61) (e28.ok k) (by kernel_rfl) (by kernel_rfl) (by kernel_rfl) 8 (.two .n (.two .n (.two (.two .n (.two (.use (pelorusref01_Same_l0_seg k)) .n)) .n))) ⟨trivial, ⟨trivial, ⟨⟨trivial, ⟨(pelorusref01_Same_l0_seg.ok k), trivial⟩⟩, trivial⟩⟩⟩ (fun xs => by kernel_rfl)
def e29 (k : Nat) : Env := (e28 k).add 61 ⟨[T22, T22], [.bool], fun x => pelorusref01_Same k x.1 x.2.1⟩
theorem e29.ok (k : Nat) : (e29 k).OK Tryd.prog := (e28.ok k).add (pelorusref01_Same.ok k)
def pelorusref02_Alike (k : Nat) (x0 : Ty.den T23) (x1 : Ty.den T23) : Option (HL [.bool]) :=
 (pelorusref01_Same k x0.2 x1.2).bind fun r1 =>
 bif r1.1 then
  some ((x0.1 == x1.1), ())
 else
  some (false, ())
theorem pelorusref02_Alike.ok (k : Nat) : SpecOK Tryd.prog G0 34 ⟨[T23, T23], [.bool], fun x => pelorusref02_Alike k x.1 x.2.1⟩ :=
 evF_sound (E := (e29 k)) (fn := Tryd.f34) (e29.ok k) (by kernel_rfl) (by kernel_rfl) (by kernel_rfl) 8 .n trivial (fun xs => by kernel_rfl)
def e30 (k : Nat) : Env := (e29 k).add 34 ⟨[T23, T23], [.bool], fun x => pelorusref02_Alike k x.1 x.2.1⟩
theorem e30.ok (k : Nat) : (e30 k).OK Tryd.prog := (e29.ok k).add (pelorusref02_Alike.ok k)
def pelorusref03_Alike (k : Nat) (x0 : Ty.den T26) (x1 : Ty.den T26) : Option (HL [.bool]) :=
 (pelorusref02_Alike k x0.1 x1.1).bind fun r1 =>
 bif r1.1 then
  some ((x0.2 == x1.2), ())
 else
  some (false, ())
theorem pelorusref03_Alike.ok (k : Nat) : SpecOK Tryd.prog G0 11 ⟨[T26, T26], [.bool], fun x => pelorusref03_Alike k x.1 x.2.1⟩ :=
 evF_sound (E := (e30 k)) (fn := Tryd.f11) (e30.ok k) (by kernel_rfl) (by kernel_rfl) (by kernel_rfl) 8 .n trivial (fun xs => by kernel_rfl)
def e31 (k : Nat) : Env := (e30 k).add 11 ⟨[T26, T26], [.bool], fun x => pelorusref03_Alike k x.1 x.2.1⟩
theorem e31.ok (k : Nat) : (e31 k).OK Tryd.prog := (e30.ok k).add (pelorusref03_Alike.ok k)
def peloruslaw03_Few (k : Nat) (x0 : Ty.den T26) : Option (HL [.bool]) :=
 bif (decide ((x0.1.2.length : Int) ≤ 20)) then
  bif (decide (x0.2 ≥ (-1000))) then
   some ((decide (x0.2 ≤ 1000)), ())
  else
   some (false, ())
 else
  some (false, ())
theorem peloruslaw03_Few.ok (k : Nat) : SpecOK Tryd.prog G0 19 ⟨[T26], [.bool], fun x => peloruslaw03_Few k x.1⟩ :=
 evF_sound (E := (e31 k)) (fn := Tryd.f19) (e31.ok k) (by kernel_rfl) (by kernel_rfl) (by kernel_rfl) 8 .n trivial (fun xs => by kernel_rfl)
def e32 (k : Nat) : Env := (e31 k).add 19 ⟨[T26], [.bool], fun x => peloruslaw03_Few k x.1⟩
theorem e32.ok (k : Nat) : (e32 k).OK Tryd.prog := (e31.ok k).add (peloruslaw03_Few.ok k)
def dy_Sign (k : Nat) (x0 : Ty.den T26) : Option (HL [(.int .i64)]) :=
 (dy_fair k x0).bind fun r1 =>
 (whole_Sign k r1.1.1).bind fun r2 =>
 some (r2.1, ())
theorem dy_Sign.ok (k : Nat) : SpecOK Tryd.prog G0 17 ⟨[T26], [(.int .i64)], fun x => dy_Sign k x.1⟩ :=
 evF_sound (E := (e32 k)) (fn := Tryd.f17) (e32.ok k) (by kernel_rfl) (by kernel_rfl) (by kernel_rfl) 8 .n trivial (fun xs => by kernel_rfl)
def e33 (k : Nat) : Env := (e32 k).add 17 ⟨[T26], [(.int .i64)], fun x => dy_Sign k x.1⟩
theorem e33.ok (k : Nat) : (e33 k).OK Tryd.prog := (e32.ok k).add (dy_Sign.ok k)
def whole_Neg (k : Nat) (x0 : Ty.den T23) : Option (HL [T23]) :=
 (whole_Make k (!x0.1) x0.2).bind fun r1 =>
 some (r1.1, ())
theorem whole_Neg.ok (k : Nat) : SpecOK Tryd.prog G0 59 ⟨[T23], [T23], fun x => whole_Neg k x.1⟩ :=
 evF_sound (E := (e33 k)) (fn := Tryd.f59) (e33.ok k) (by kernel_rfl) (by kernel_rfl) (by kernel_rfl) 8 .n trivial (fun xs => by kernel_rfl)
def e34 (k : Nat) : Env := (e33 k).add 59 ⟨[T23], [T23], fun x => whole_Neg k x.1⟩
theorem e34.ok (k : Nat) : (e34 k).OK Tryd.prog := (e33.ok k).add (whole_Neg.ok k)
def dy_Neg (k : Nat) (x0 : Ty.den T26) : Option (HL [T26]) :=
 (whole_Neg k x0.1).bind fun r1 =>
 (dy_Make k r1.1 x0.2).bind fun r2 =>
 some (r2.1, ())
theorem dy_Neg.ok (k : Nat) : SpecOK Tryd.prog G0 32 ⟨[T26], [T26], fun x => dy_Neg k x.1⟩ :=
 evF_sound (E := (e34 k)) (fn := Tryd.f32) (e34.ok k) (by kernel_rfl) (by kernel_rfl) (by kernel_rfl) 8 .n trivial (fun xs => by kernel_rfl)
def e35 (k : Nat) : Env := (e34 k).add 32 ⟨[T26], [T26], fun x => dy_Neg k x.1⟩
theorem e35.ok (k : Nat) : (e35 k).OK Tryd.prog := (e34.ok k).add (dy_Neg.ok k)
def dy_Sub (k : Nat) (x0 : Ty.den T26) (x1 : Ty.den T26) : Option (HL [T26]) :=
 (dy_Neg k x1).bind fun r1 =>
 (dy_Add k [x0, r1.1]).bind fun r2 =>
 some (r2.1, ())
theorem dy_Sub.ok (k : Nat) : SpecOK Tryd.prog G0 28 ⟨[T26, T26], [T26], fun x => dy_Sub k x.1 x.2.1⟩ :=
 evF_sound (E := (e35 k)) (fn := Tryd.f28) (e35.ok k) (by kernel_rfl) (by kernel_rfl) (by kernel_rfl) 8 .n trivial (fun xs => by kernel_rfl)
def e36 (k : Nat) : Env := (e35 k).add 28 ⟨[T26, T26], [T26], fun x => dy_Sub k x.1 x.2.1⟩
theorem e36.ok (k : Nat) : (e36 k).OK Tryd.prog := (e35.ok k).add (dy_Sub.ok k)
def dy_Cmp (k : Nat) (x0 : Ty.den T26) (x1 : Ty.den T26) : Option (HL [(.int .i64)]) :=
 (dy_Sub k x0 x1).bind fun r1 =>
 (dy_Sign k r1.1).bind fun r2 =>
 some (r2.1, ())
theorem dy_Cmp.ok (k : Nat) : SpecOK Tryd.prog G0 20 ⟨[T26, T26], [(.int .i64)], fun x => dy_Cmp k x.1 x.2.1⟩ :=
 evF_sound (E := (e36 k)) (fn := Tryd.f20) (e36.ok k) (by kernel_rfl) (by kernel_rfl) (by kernel_rfl) 8 .n trivial (fun xs => by kernel_rfl)
def e37 (k : Nat) : Env := (e36 k).add 20 ⟨[T26, T26], [(.int .i64)], fun x => dy_Cmp k x.1 x.2.1⟩
theorem e37.ok (k : Nat) : (e37 k).OK Tryd.prog := (e36.ok k).add (dy_Cmp.ok k)
abbrev pelorusref01_Trim_l0_i : Mask := ⟨[(0, 0, (.v T22)), (0, 3, (.v (.int .i64)))], [], [], 0⟩
abbrev pelorusref01_Trim_l0_o : List Out := [⟨.exit 0, ⟨[(0, 0, (.v T22)), (0, 3, (.v (.int .i64)))], [], [], 0⟩⟩]
def pelorusref01_Trim_l0 (k : Nat) : Nat → Mask.den pelorusref01_Trim_l0_i → Option (denS pelorusref01_Trim_l0_o)
 | 0, _ => none
 | m + 1, x =>
  bif (decide (x.1.2.1 > 0)) then
   if 0 ≤ (IntKind.i64.wrap (x.1.2.1 - 1)) then (x.1.1[Int.toNat (IntKind.i64.wrap (x.1.2.1 - 1))]?).bind fun y1 =>
    bif (y1 == 0) then
     pelorusref01_Trim_l0 k m ((x.1.1, (IntKind.i64.wrap (x.1.2.1 - 1)), ()), ())
    else
     some (Sum.inl ((x.1.1, x.1.2.1, ()), ()))
   else none
  else
   some (Sum.inl ((x.1.1, x.1.2.1, ()), ()))
abbrev pelorusref01_Trim_l0_seg (k : Nat) : Seg := ⟨⟨0, 22, false, [], []⟩, 69, [.b, .s1, .s2, .s2], pelorusref01_Trim_l0_i, pelorusref01_Trim_l0_o, pelorusref01_Trim_l0 k k⟩
theorem pelorusref01_Trim_l0_seg.ok (k : Nat) : SegOK Tryd.prog (e37 k) (pelorusref01_Trim_l0_seg k) :=
 SegOK.loop (e37.ok k) (by kernel_rfl) (S := pelorusref01_Trim_l0_seg k) (c := atR (codeOf (e37 k) 69) [.l, .b, .s1, .s2, .s2]) (by kernel_rfl) (pelorusref01_Trim_l0 k) k rfl (fun _ => rfl) 8 .n trivial (fun k' x => by kernel_rfl)
def pelorusref01_Trim (k : Nat) (x0 : Ty.den T22) : Option (HL [T22]) :=
 (pelorusref01_Trim_l0 k k ((x0, (x0.length : Int), ()), ())).bind fun q2 =>
 Sum.elim (fun z3 =>
   if (0 : Int) ≤ 0 ∧ 0 ≤ z3.1.2.1 ∧ z3.1.2.1 ≤ (z3.1.1.length : Int) then
    if (List.drop (Int.toNat 0) (List.take (Int.toNat z3.1.2.1) z3.1.1)).length * 4 ≤ 140737488355328 then
     some ((List.drop (Int.toNat 0) (List.take (Int.toNat z3.1.2.1) z3.1.1)), ())
    else none
   else none)
  (fun q2' =>
   none) q2
theorem pelorusref01_Trim.ok (k : Nat) : SpecOK Tryd.prog G0 69 ⟨[T22], [T22], fun x => pelorusref01_Trim k x.1⟩ :=
 evF_sound (E := (e37 k)) (fn := Tryd.f69) (e37.ok k) (by kernel_rfl) (by kernel_rfl) (by kernel_rfl) 8 (.two .n (.two .n (.two (.two (.use (pelorusref01_Trim_l0_seg k)) .n) .n))) ⟨trivial, ⟨trivial, ⟨⟨(pelorusref01_Trim_l0_seg.ok k), trivial⟩, trivial⟩⟩⟩ (fun xs => by kernel_rfl)
def e38 (k : Nat) : Env := (e37 k).add 69 ⟨[T22], [T22], fun x => pelorusref01_Trim k x.1⟩
theorem e38.ok (k : Nat) : (e38 k).OK Tryd.prog := (e37.ok k).add (pelorusref01_Trim.ok k)
def pelorusref02_Make (k : Nat) (x0 : Ty.den .bool) (x1 : Ty.den T22) : Option (HL [T23]) :=
 (pelorusref01_Trim k x1).bind fun r1 =>
 bif x0 then
  some (((decide ((r1.1.length : Int) > 0)), r1.1), ())
 else
  some ((false, r1.1), ())
theorem pelorusref02_Make.ok (k : Nat) : SpecOK Tryd.prog G0 43 ⟨[.bool, T22], [T23], fun x => pelorusref02_Make k x.1 x.2.1⟩ :=
 evF_sound (E := (e38 k)) (fn := Tryd.f43) (e38.ok k) (by kernel_rfl) (by kernel_rfl) (by kernel_rfl) 8 .n trivial (fun xs => by kernel_rfl)
def e39 (k : Nat) : Env := (e38 k).add 43 ⟨[.bool, T22], [T23], fun x => pelorusref02_Make k x.1 x.2.1⟩
theorem e39.ok (k : Nat) : (e39 k).OK Tryd.prog := (e38.ok k).add (pelorusref02_Make.ok k)
def pelorusref03_even (k : Nat) (x0 : Ty.den T22) : Option (HL [.bool]) :=
 bif (decide ((x0.length : Int) > 0)) then
  if 0 ≤ 0 then (x0[Int.toNat 0]?).bind fun y1 =>
   some (((Int.tmod y1 2) == 0), ())
  else none
 else
  some (false, ())
theorem pelorusref03_even.ok (k : Nat) : SpecOK Tryd.prog G0 44 ⟨[T22], [.bool], fun x => pelorusref03_even k x.1⟩ :=
 evF_sound (E := (e39 k)) (fn := Tryd.f44) (e39.ok k) (by kernel_rfl) (by kernel_rfl) (by kernel_rfl) 8 .n trivial (fun xs => by kernel_rfl)
def e40 (k : Nat) : Env := (e39 k).add 44 ⟨[T22], [.bool], fun x => pelorusref03_even k x.1⟩
theorem e40.ok (k : Nat) : (e40 k).OK Tryd.prog := (e39.ok k).add (pelorusref03_even.ok k)
abbrev pelorusref01_Len_l0_i : Mask := ⟨[(0, 4, (.v (.int .i64))), (0, 5, (.v (.int .u32)))], [], [], 0⟩
abbrev pelorusref01_Len_l0_o : List Out := [⟨.exit 0, ⟨[(0, 4, (.v (.int .i64)))], [], [], 0⟩⟩]
def pelorusref01_Len_l0 (k : Nat) : Nat → Mask.den pelorusref01_Len_l0_i → Option (denS pelorusref01_Len_l0_o)
 | 0, _ => none
 | m + 1, x =>
  bif (decide (x.1.2.1 > 0)) then
   pelorusref01_Len_l0 k m (((IntKind.i64.wrap (x.1.1 + 1)), (IntKind.u32.wrap (Int.tdiv x.1.2.1 2)), ()), ())
  else
   some (Sum.inl ((x.1.1, ()), ()))
abbrev pelorusref01_Len_l0_seg (k : Nat) : Seg := ⟨⟨0, 28, false, [], []⟩, 79, [.b, .s2, .s1, .s2, .s2, .s2, .s2], pelorusref01_Len_l0_i, pelorusref01_Len_l0_o, pelorusref01_Len_l0 k k⟩
theorem pelorusref01_Len_l0_seg.ok (k : Nat) : SegOK Tryd.prog (e40 k) (pelorusref01_Len_l0_seg k) :=
 SegOK.loop (e40.ok k) (by kernel_rfl) (S := pelorusref01_Len_l0_seg k) (c := atR (codeOf (e40 k) 79) [.l, .b, .s2, .s1, .s2, .s2, .s2, .s2]) (by kernel_rfl) (pelorusref01_Len_l0 k) k rfl (fun _ => rfl) 8 .n trivial (fun k' x => by kernel_rfl)
def pelorusref01_Len (k : Nat) (x0 : Ty.den T22) : Option (HL [(.int .i64)]) :=
 (pelorusref01_Trim k x0).bind fun r1 =>
 bif ((r1.1.length : Int) == 0) then
  some (0, ())
 else
  if 0 ≤ (IntKind.i64.wrap ((r1.1.length : Int) - 1)) then (r1.1[Int.toNat (IntKind.i64.wrap ((r1.1.length : Int) - 1))]?).bind fun y2 =>
   (pelorusref01_Len_l0 k k (((IntKind.i64.wrap (32 * (IntKind.i64.wrap ((r1.1.length : Int) - 1)))), y2, ()), ())).bind fun q3 =>
   Sum.elim (fun z4 =>
     some (z4.1.1, ()))
    (fun q3' =>
     none) q3
  else none
theorem pelorusref01_Len.ok (k : Nat) : SpecOK Tryd.prog G0 79 ⟨[T22], [(.int .i64)], fun x => pelorusref01_Len k x.1⟩ :=
 evF_sound (E := (e40 k)) (fn := Tryd.f79) (e40.ok k) (by kernel_rfl) (by kernel_rfl) (by kernel_rfl) 8 (.two .n (.two .n (.two .n (.two .n (.two (.two .n (.two (.use (pelorusref01_Len_l0_seg k)) .n)) .n))))) ⟨trivial, ⟨trivial, ⟨trivial, ⟨trivial, ⟨⟨trivial, ⟨(pelorusref01_Len_l0_seg.ok k), trivial⟩⟩, trivial⟩⟩⟩⟩⟩ (fun xs => by kernel_rfl)
def e41 (k : Nat) : Env := (e40 k).add 79 ⟨[T22], [(.int .i64)], fun x => pelorusref01_Len k x.1⟩
theorem e41.ok (k : Nat) : (e41 k).OK Tryd.prog := (e40.ok k).add (pelorusref01_Len.ok k)
def pelorusref01_at (k : Nat) (x0 : Ty.den T22) (x1 : Ty.den (.int .i64)) : Option (HL [(.int .u64)]) :=
 bif (decide (x1 ≥ (x0.length : Int))) then
  some (0, ())
 else
  if 0 ≤ x1 then (x0[Int.toNat x1]?).bind fun y1 =>
   some ((IntKind.u64.wrap y1), ())
  else none
theorem pelorusref01_at.ok (k : Nat) : SpecOK Tryd.prog G0 84 ⟨[T22, (.int .i64)], [(.int .u64)], fun x => pelorusref01_at k x.1 x.2.1⟩ :=
 evF_sound (E := (e41 k)) (fn := Tryd.f84) (e41.ok k) (by kernel_rfl) (by kernel_rfl) (by kernel_rfl) 8 .n trivial (fun xs => by kernel_rfl)
def e42 (k : Nat) : Env := (e41 k).add 84 ⟨[T22, (.int .i64)], [(.int .u64)], fun x => pelorusref01_at k x.1 x.2.1⟩
theorem e42.ok (k : Nat) : (e42 k).OK Tryd.prog := (e41.ok k).add (pelorusref01_at.ok k)
abbrev pelorusref01_Add_l0_i : Mask := ⟨[(0, 0, (.v T22)), (0, 1, (.v T22)), (0, 5, (.k (.arr 39 0))), (0, 6, (.v (.int .u64))), (0, 7, (.v (.int .i64)))], [(39, .arr 51 (.int .u32))], [], 0⟩
abbrev pelorusref01_Add_l0_o : List Out := [⟨.exit 0, ⟨[(0, 5, (.k (.arr 39 0)))], [(39, .arr 51 (.int .u32))], [], 0⟩⟩]
def pelorusref01_Add_l0 (k : Nat) : Nat → Mask.den pelorusref01_Add_l0_i → Option (denS pelorusref01_Add_l0_o)
 | 0, _ => none
 | m + 1, x =>
  bif (decide (x.1.2.2.2.2.1 < (x.1.1.length : Int))) then
   (pelorusref01_at k x.1.1 x.1.2.2.2.2.1).bind fun r3 =>
   (pelorusref01_at k x.1.2.1 x.1.2.2.2.2.1).bind fun r4 =>
   if (x.2.1.length + [(IntKind.u32.wrap (Int.tmod (IntKind.u64.wrap ((IntKind.u64.wrap (r3.1 + r4.1)) + x.1.2.2.2.1)) 4294967296))].length) * 4 ≤ 140737488355328 then
    pelorusref01_Add_l0 k m ((x.1.1, x.1.2.1, (), (IntKind.u64.wrap (Int.tdiv (IntKind.u64.wrap ((IntKind.u64.wrap (r3.1 + r4.1)) + x.1.2.2.2.1)) 4294967296)), (IntKind.i64.wrap (x.1.2.2.2.2.1 + 1)), ()), ((x.2.1 ++ [(IntKind.u32.wrap (Int.tmod (IntKind.u64.wrap ((IntKind.u64.wrap (r3.1 + r4.1)) + x.1.2.2.2.1)) 4294967296))]), ()))
   else none
  else
   bif (decide (x.1.2.2.2.2.1 < (x.1.2.1.length : Int))) then
    (pelorusref01_at k x.1.1 x.1.2.2.2.2.1).bind fun r5 =>
    (pelorusref01_at k x.1.2.1 x.1.2.2.2.2.1).bind fun r6 =>
    if (x.2.1.length + [(IntKind.u32.wrap (Int.tmod (IntKind.u64.wrap ((IntKind.u64.wrap (r5.1 + r6.1)) + x.1.2.2.2.1)) 4294967296))].length) * 4 ≤ 140737488355328 then
     pelorusref01_Add_l0 k m ((x.1.1, x.1.2.1, (), (IntKind.u64.wrap (Int.tdiv (IntKind.u64.wrap ((IntKind.u64.wrap (r5.1 + r6.1)) + x.1.2.2.2.1)) 4294967296)), (IntKind.i64.wrap (x.1.2.2.2.2.1 + 1)), ()), ((x.2.1 ++ [(IntKind.u32.wrap (Int.tmod (IntKind.u64.wrap ((IntKind.u64.wrap (r5.1 + r6.1)) + x.1.2.2.2.1)) 4294967296))]), ()))
    else none
   else
    bif (decide (x.1.2.2.2.1 > 0)) then
     (pelorusref01_at k x.1.1 x.1.2.2.2.2.1).bind fun r7 =>
     (pelorusref01_at k x.1.2.1 x.1.2.2.2.2.1).bind fun r8 =>
     if (x.2.1.length + [(IntKind.u32.wrap (Int.tmod (IntKind.u64.wrap ((IntKind.u64.wrap (r7.1 + r8.1)) + x.1.2.2.2.1)) 4294967296))].length) * 4 ≤ 140737488355328 then
      pelorusref01_Add_l0 k m ((x.1.1, x.1.2.1, (), (IntKind.u64.wrap (Int.tdiv (IntKind.u64.wrap ((IntKind.u64.wrap (r7.1 + r8.1)) + x.1.2.2.2.1)) 4294967296)), (IntKind.i64.wrap (x.1.2.2.2.2.1 + 1)), ()), ((x.2.1 ++ [(IntKind.u32.wrap (Int.tmod (IntKind.u64.wrap ((IntKind.u64.wrap (r7.1 + r8.1)) + x.1.2.2.2.1)) 4294967296))]), ()))
     else none
    else
     some (Sum.inl (((), ()), (x.2.1, ())))
abbrev pelorusref01_Add_l0_seg (k : Nat) : Seg := ⟨⟨0, 44, false, [], []⟩, 80, [.b, .s2, .s1, .s2, .s2, .s2], pelorusref01_Add_l0_i, pelorusref01_Add_l0_o, pelorusref01_Add_l0 k k⟩
theorem pelorusref01_Add_l0_seg.ok (k : Nat) : SegOK Tryd.prog (e42 k) (pelorusref01_Add_l0_seg k) :=
 SegOK.loop (e42.ok k) (by kernel_rfl) (S := pelorusref01_Add_l0_seg k) (c := atR (codeOf (e42 k) 80) [.l, .b, .s2, .s1, .s2, .s2, .s2]) (by kernel_rfl) (pelorusref01_Add_l0 k) k rfl (fun _ => rfl) 8 .n trivial (fun k' x => by kernel_rfl)
def pelorusref01_Add (k : Nat) (x0 : Ty.den T22) (x1 : Ty.den T22) : Option (HL [T22]) :=
 (pelorusref01_Add_l0 k k ((x0, x1, (), 0, 0, ()), ([], ()))).bind fun q9 =>
 Sum.elim (fun z10 =>
   (pelorusref01_Trim k z10.2.1).bind fun r11 =>
   some (r11.1, ()))
  (fun q9' =>
   none) q9
theorem pelorusref01_Add.ok (k : Nat) : SpecOK Tryd.prog G0 80 ⟨[T22, T22], [T22], fun x => pelorusref01_Add k x.1 x.2.1⟩ :=
 evF_sound (E := (e42 k)) (fn := Tryd.f80) (e42.ok k) (by kernel_rfl) (by kernel_rfl) (by kernel_rfl) 8 (.two .n (.two .n (.two .n (.two (.two .n (.two (.use (pelorusref01_Add_l0_seg k)) .n)) (.two (.own 1 .n) .n))))) ⟨trivial, ⟨trivial, ⟨trivial, ⟨⟨trivial, ⟨(pelorusref01_Add_l0_seg.ok k), trivial⟩⟩, ⟨trivial, trivial⟩⟩⟩⟩⟩ (fun xs => by kernel_rfl)
def e43 (k : Nat) : Env := (e42 k).add 80 ⟨[T22, T22], [T22], fun x => pelorusref01_Add k x.1 x.2.1⟩
theorem e43.ok (k : Nat) : (e43 k).OK Tryd.prog := (e42.ok k).add (pelorusref01_Add.ok k)
def pelorusref01_bit (k : Nat) (x0 : Ty.den T22) (x1 : Ty.den (.int .i64)) : Option (HL [.bool]) :=
 (pelorusref01_at k x0 (IntKind.i64.wrap (Int.tdiv x1 32))).bind fun r1 =>
 if (IntKind.u64.wrap (Int.tmod x1 32)) < 0 then none else
 some (((Int.tmod (Int.fdiv r1.1 (2 ^ min (Int.toNat (IntKind.u64.wrap (Int.tmod x1 32))) IntKind.u64.bits)) 2) == 1), ())
theorem pelorusref01_bit.ok (k : Nat) : SpecOK Tryd.prog G0 81 ⟨[T22, (.int .i64)], [.bool], fun x => pelorusref01_bit k x.1 x.2.1⟩ :=
 evF_sound (E := (e43 k)) (fn := Tryd.f81) (e43.ok k) (by kernel_rfl) (by kernel_rfl) (by kernel_rfl) 8 .n trivial (fun xs => by kernel_rfl)
def e44 (k : Nat) : Env := (e43 k).add 81 ⟨[T22, (.int .i64)], [.bool], fun x => pelorusref01_bit k x.1 x.2.1⟩
theorem e44.ok (k : Nat) : (e44 k).OK Tryd.prog := (e43.ok k).add (pelorusref01_bit.ok k)
abbrev pelorusref01_Cmp_l0_i : Mask := ⟨[(0, 5, (.v T22)), (0, 6, (.v T22)), (0, 7, (.v (.int .i64)))], [], [], 0⟩
abbrev pelorusref01_Cmp_l0_o : List Out := [⟨.ret, ⟨[(0, 4, (.v (.int .i64)))], [], [], 0⟩⟩, ⟨.exit 0, ⟨[], [], [], 0⟩⟩]
def pelorusref01_Cmp_l0 (k : Nat) : Nat → Mask.den pelorusref01_Cmp_l0_i → Option (denS pelorusref01_Cmp_l0_o)
 | 0, _ => none
 | m + 1, x =>
  bif (decide (x.1.2.2.1 ≥ 0)) then
   if 0 ≤ x.1.2.2.1 then (x.1.1[Int.toNat x.1.2.2.1]?).bind fun y3 =>
    if 0 ≤ x.1.2.2.1 then (x.1.2.1[Int.toNat x.1.2.2.1]?).bind fun y4 =>
     bif (decide (y3 < y4)) then
      some (Sum.inl (((-1), ()), ()))
     else
      if 0 ≤ x.1.2.2.1 then (x.1.1[Int.toNat x.1.2.2.1]?).bind fun y5 =>
       if 0 ≤ x.1.2.2.1 then (x.1.2.1[Int.toNat x.1.2.2.1]?).bind fun y6 =>
        bif (decide (y5 > y6)) then
         some (Sum.inl ((1, ()), ()))
        else
         pelorusref01_Cmp_l0 k m ((x.1.1, x.1.2.1, (IntKind.i64.wrap (x.1.2.2.1 - 1)), ()), ())
       else none
      else none
    else none
   else none
  else
   some (Sum.inr (Sum.inl ((), ())))
abbrev pelorusref01_Cmp_l0_seg (k : Nat) : Seg := ⟨⟨0, 47, false, [], []⟩, 85, [.b, .s2, .s1, .s2, .s2, .s2, .s2], pelorusref01_Cmp_l0_i, pelorusref01_Cmp_l0_o, pelorusref01_Cmp_l0 k k⟩
theorem pelorusref01_Cmp_l0_seg.ok (k : Nat) : SegOK Tryd.prog (e44 k) (pelorusref01_Cmp_l0_seg k) :=
 SegOK.loop (e44.ok k) (by kernel_rfl) (S := pelorusref01_Cmp_l0_seg k) (c := atR (codeOf (e44 k) 85) [.l, .b, .s2, .s1, .s2, .s2, .s2, .s2]) (by kernel_rfl) (pelorusref01_Cmp_l0 k) k rfl (fun _ => rfl) 8 .n trivial (fun k' x => by kernel_rfl)
def pelorusref01_Cmp (k : Nat) (x0 : Ty.den T22) (x1 : Ty.den T22) : Option (HL [(.int .i64)]) :=
 (pelorusref01_Trim k x0).bind fun r1 =>
 (pelorusref01_Trim k x1).bind fun r2 =>
 bif ((r1.1.length : Int) != (r2.1.length : Int)) then
  bif (decide ((r1.1.length : Int) < (r2.1.length : Int))) then
   some ((-1), ())
  else
   some (1, ())
 else
  (pelorusref01_Cmp_l0 k k ((r1.1, r2.1, (IntKind.i64.wrap ((r1.1.length : Int) - 1)), ()), ())).bind fun q7 =>
  Sum.elim (fun z8 =>
    some (z8.1.1, ()))
   (fun q7' =>
    Sum.elim (fun z9 =>
      some (0, ()))
     (fun q7'' =>
      none) q7') q7
theorem pelorusref01_Cmp.ok (k : Nat) : SpecOK Tryd.prog G0 85 ⟨[T22, T22], [(.int .i64)], fun x => pelorusref01_Cmp k x.1 x.2.1⟩ :=
 evF_sound (E := (e44 k)) (fn := Tryd.f85) (e44.ok k) (by kernel_rfl) (by kernel_rfl) (by kernel_rfl) 8 (.two .n (.two .n (.two .n (.two .n (.two (.two .n (.two (.use (pelorusref01_Cmp_l0_seg k)) .n)) .n))))) ⟨trivial, ⟨trivial, ⟨trivial, ⟨trivial, ⟨⟨trivial, ⟨(pelorusref01_Cmp_l0_seg.ok k), trivial⟩⟩, trivial⟩⟩⟩⟩⟩ (fun xs => by kernel_rfl)
def e45 (k : Nat) : Env := (e44 k).add 85 ⟨[T22, T22], [(.int .i64)], fun x => pelorusref01_Cmp k x.1 x.2.1⟩
theorem e45.ok (k : Nat) : (e45 k).OK Tryd.prog := (e44.ok k).add (pelorusref01_Cmp.ok k)
abbrev pelorusref01_Sub_l0_i : Mask := ⟨[(0, 0, (.v T22)), (0, 1, (.v T22)), (0, 6, (.k (.arr 35 0))), (0, 7, (.v (.int .u64))), (0, 8, (.v (.int .i64)))], [(35, .arr 51 (.int .u32))], [], 0⟩
abbrev pelorusref01_Sub_l0_o : List Out := [⟨.exit 0, ⟨[(0, 6, (.k (.arr 35 0)))], [(35, .arr 51 (.int .u32))], [], 0⟩⟩]
def pelorusref01_Sub_l0 (k : Nat) : Nat → Mask.den pelorusref01_Sub_l0_i → Option (denS pelorusref01_Sub_l0_o)
 | 0, _ => none
 | m + 1, x =>
  bif (decide (x.1.2.2.2.2.1 < (x.1.1.length : Int))) then
   (pelorusref01_at k x.1.1 x.1.2.2.2.2.1).bind fun r4 =>
   (pelorusref01_at k x.1.2.1 x.1.2.2.2.2.1).bind fun r5 =>
   if (x.2.1.length + [(IntKind.u32.wrap (Int.tmod (IntKind.u64.wrap ((IntKind.u64.wrap ((IntKind.u64.wrap (4294967296 + r4.1)) - r5.1)) - x.1.2.2.2.1)) 4294967296))].length) * 4 ≤ 140737488355328 then
    pelorusref01_Sub_l0 k m ((x.1.1, x.1.2.1, (), (IntKind.u64.wrap (1 - (IntKind.u64.wrap (Int.tdiv (IntKind.u64.wrap ((IntKind.u64.wrap ((IntKind.u64.wrap (4294967296 + r4.1)) - r5.1)) - x.1.2.2.2.1)) 4294967296)))), (IntKind.i64.wrap (x.1.2.2.2.2.1 + 1)), ()), ((x.2.1 ++ [(IntKind.u32.wrap (Int.tmod (IntKind.u64.wrap ((IntKind.u64.wrap ((IntKind.u64.wrap (4294967296 + r4.1)) - r5.1)) - x.1.2.2.2.1)) 4294967296))]), ()))
   else none
  else
   some (Sum.inl (((), ()), (x.2.1, ())))
abbrev pelorusref01_Sub_l0_seg (k : Nat) : Seg := ⟨⟨0, 41, false, [], []⟩, 82, [.b, .s2, .s1, .s2, .s2, .s2, .s2], pelorusref01_Sub_l0_i, pelorusref01_Sub_l0_o, pelorusref01_Sub_l0 k k⟩
theorem pelorusref01_Sub_l0_seg.ok (k : Nat) : SegOK Tryd.prog (e45 k) (pelorusref01_Sub_l0_seg k) :=
 SegOK.loop (e45.ok k) (by kernel_rfl) (S := pelorusref01_Sub_l0_seg k) (c := atR (codeOf (e45 k) 82) [.l, .b, .s2, .s1, .s2, .s2, .s2, .s2]) (by kernel_rfl) (pelorusref01_Sub_l0 k) k rfl (fun _ => rfl) 8 .n trivial (fun k' x => by kernel_rfl)
def pelorusref01_Sub (k : Nat) (x0 : Ty.den T22) (x1 : Ty.den T22) : Option (HL [T22, .bool]) :=
 (pelorusref01_Cmp k x0 x1).bind fun r1 =>
 bif (decide (r1.1 < 0)) then
  some ([], false, ())
 else
  (pelorusref01_Sub_l0 k k ((x0, x1, (), 0, 0, ()), ([], ()))).bind fun q6 =>
  Sum.elim (fun z7 =>
    (pelorusref01_Trim k z7.2.1).bind fun r8 =>
    some (r8.1, true, ()))
   (fun q6' =>
    none) q6
theorem pelorusref01_Sub.ok (k : Nat) : SpecOK Tryd.prog G0 82 ⟨[T22, T22], [T22, .bool], fun x => pelorusref01_Sub k x.1 x.2.1⟩ :=
 evF_sound (E := (e45 k)) (fn := Tryd.f82) (e45.ok k) (by kernel_rfl) (by kernel_rfl) (by kernel_rfl) 8 (.two .n (.two .n (.two .n (.two .n (.two (.two .n (.two (.use (pelorusref01_Sub_l0_seg k)) .n)) (.two (.own 1 .n) .n)))))) ⟨trivial, ⟨trivial, ⟨trivial, ⟨trivial, ⟨⟨trivial, ⟨(pelorusref01_Sub_l0_seg.ok k), trivial⟩⟩, ⟨trivial, trivial⟩⟩⟩⟩⟩⟩ (fun xs => by kernel_rfl)
def e46 (k : Nat) : Env := (e45 k).add 82 ⟨[T22, T22], [T22, .bool], fun x => pelorusref01_Sub k x.1 x.2.1⟩
theorem e46.ok (k : Nat) : (e46 k).OK Tryd.prog := (e45.ok k).add (pelorusref01_Sub.ok k)
abbrev pelorusref01_set_l0_i : Mask := ⟨[(0, 1, (.v (.int .i64))), (0, 5, (.k (.arr 7 0)))], [(7, .arr 51 (.int .u32))], [], 0⟩
abbrev pelorusref01_set_l0_o : List Out := [⟨.exit 0, ⟨[(0, 1, (.v (.int .i64))), (0, 5, (.k (.arr 7 0)))], [(7, .arr 51 (.int .u32))], [], 0⟩⟩]
def pelorusref01_set_l0 (k : Nat) : Nat → Mask.den pelorusref01_set_l0_i → Option (denS pelorusref01_set_l0_o)
 | 0, _ => none
 | m + 1, x =>
  bif (decide ((x.2.1.length : Int) ≤ (IntKind.i64.wrap (Int.tdiv x.1.1 32)))) then
   if (x.2.1.length + [0].length) * 4 ≤ 140737488355328 then
    pelorusref01_set_l0 k m ((x.1.1, (), ()), ((x.2.1 ++ [0]), ()))
   else none
  else
   some (Sum.inl ((x.1.1, (), ()), (x.2.1, ())))
abbrev pelorusref01_set_l0_seg (k : Nat) : Seg := ⟨⟨0, 31, false, [], []⟩, 83, [.b, .s1, .s2, .s2], pelorusref01_set_l0_i, pelorusref01_set_l0_o, pelorusref01_set_l0 k k⟩
theorem pelorusref01_set_l0_seg.ok (k : Nat) : SegOK Tryd.prog (e46 k) (pelorusref01_set_l0_seg k) :=
 SegOK.loop (e46.ok k) (by kernel_rfl) (S := pelorusref01_set_l0_seg k) (c := atR (codeOf (e46 k) 83) [.l, .b, .s1, .s2, .s2]) (by kernel_rfl) (pelorusref01_set_l0 k) k rfl (fun _ => rfl) 8 .n trivial (fun k' x => by kernel_rfl)
def pelorusref01_set (k : Nat) (x0 : Ty.den T22) (x1 : Ty.den (.int .i64)) : Option (HL [T22]) :=
 if x0.length * 4 ≤ 140737488355328 then
  (pelorusref01_set_l0 k k ((x1, (), ()), (x0, ()))).bind fun q1 =>
  Sum.elim (fun z2 =>
    if 0 ≤ (IntKind.i64.wrap (Int.tdiv z2.1.1 32)) then (z2.2.1[Int.toNat (IntKind.i64.wrap (Int.tdiv z2.1.1 32))]?).bind fun _ =>
     (z2.2.1[(Int.toNat (IntKind.i64.wrap (Int.tdiv z2.1.1 32)))]?).bind fun y4 =>
     if (IntKind.u64.wrap (Int.tmod z2.1.1 32)) < 0 then none else
     if 0 ≤ (IntKind.i64.wrap (Int.tdiv z2.1.1 32)) then (z2.2.1[Int.toNat (IntKind.i64.wrap (Int.tdiv z2.1.1 32))]?).bind fun _ =>
      (z2.2.1[(Int.toNat (IntKind.i64.wrap (Int.tdiv z2.1.1 32)))]?).bind fun y6 =>
      some ((z2.2.1.set (Int.toNat (IntKind.i64.wrap (Int.tdiv z2.1.1 32))) (IntKind.u32.wrap (y4 + (IntKind.u32.wrap (1 * 2 ^ min (Int.toNat (IntKind.u64.wrap (Int.tmod z2.1.1 32))) IntKind.u32.bits))))), ())
     else none
    else none)
   (fun q1' =>
    none) q1
 else none
theorem pelorusref01_set.ok (k : Nat) : SpecOK Tryd.prog G0 83 ⟨[T22, (.int .i64)], [T22], fun x => pelorusref01_set k x.1 x.2.1⟩ :=
 evF_sound (E := (e46 k)) (fn := Tryd.f83) (e46.ok k) (by kernel_rfl) (by kernel_rfl) (by kernel_rfl) 8 (.two .n (.two .n (.two (.two (.use (pelorusref01_set_l0_seg k)) .n) .n))) ⟨trivial, ⟨trivial, ⟨⟨(pelorusref01_set_l0_seg.ok k), trivial⟩, trivial⟩⟩⟩ (fun xs => by kernel_rfl)
def e47 (k : Nat) : Env := (e46 k).add 83 ⟨[T22, (.int .i64)], [T22], fun x => pelorusref01_set k x.1 x.2.1⟩
theorem e47.ok (k : Nat) : (e47 k).OK Tryd.prog := (e46.ok k).add (pelorusref01_set.ok k)
abbrev pelorusref01_Div_l0_i : Mask := ⟨[(0, 0, (.v T22)), (0, 7, (.v T22)), (0, 8, (.v T22)), (0, 9, (.v T22)), (0, 10, (.v (.int .i64)))], [], [], 0⟩
abbrev pelorusref01_Div_l0_o : List Out := [⟨.exit 0, ⟨[(0, 8, (.v T22)), (0, 9, (.v T22))], [], [], 0⟩⟩]
def pelorusref01_Div_l0 (k : Nat) : Nat → Mask.den pelorusref01_Div_l0_i → Option (denS pelorusref01_Div_l0_o)
 | 0, _ => none
 | m + 1, x =>
  bif (decide (x.1.2.2.2.2.1 ≥ 0)) then
   (pelorusref01_Add k x.1.2.2.2.1 x.1.2.2.2.1).bind fun r3 =>
   (pelorusref01_bit k x.1.1 x.1.2.2.2.2.1).bind fun r4 =>
   bif r4.1 then
    (pelorusref01_Add k r3.1 [1]).bind fun r5 =>
    (pelorusref01_Sub k r5.1 x.1.2.1).bind fun r6 =>
    bif r6.2.1 then
     (pelorusref01_set k x.1.2.2.1 x.1.2.2.2.2.1).bind fun r7 =>
     pelorusref01_Div_l0 k m ((x.1.1, x.1.2.1, r7.1, r6.1, (IntKind.i64.wrap (x.1.2.2.2.2.1 - 1)), ()), ())
    else
     pelorusref01_Div_l0 k m ((x.1.1, x.1.2.1, x.1.2.2.1, r5.1, (IntKind.i64.wrap (x.1.2.2.2.2.1 - 1)), ()), ())
   else
    (pelorusref01_Sub k r3.1 x.1.2.1).bind fun r8 =>
    bif r8.2.1 then
     (pelorusref01_set k x.1.2.2.1 x.1.2.2.2.2.1).bind fun r9 =>
     pelorusref01_Div_l0 k m ((x.1.1, x.1.2.1, r9.1, r8.1, (IntKind.i64.wrap (x.1.2.2.2.2.1 - 1)), ()), ())
    else
     pelorusref01_Div_l0 k m ((x.1.1, x.1.2.1, x.1.2.2.1, r3.1, (IntKind.i64.wrap (x.1.2.2.2.2.1 - 1)), ()), ())
  else
   some (Sum.inl ((x.1.2.2.1, x.1.2.2.2.1, ()), ()))
abbrev pelorusref01_Div_l0_seg (k : Nat) : Seg := ⟨⟨0, 51, false, [], []⟩, 70, [.b, .s2, .s1, .s2, .s2, .s2, .s2, .s2], pelorusref01_Div_l0_i, pelorusref01_Div_l0_o, pelorusref01_Div_l0 k k⟩
theorem pelorusref01_Div_l0_seg.ok (k : Nat) : SegOK Tryd.prog (e47 k) (pelorusref01_Div_l0_seg k) :=
 SegOK.loop (e47.ok k) (by kernel_rfl) (S := pelorusref01_Div_l0_seg k) (c := atR (codeOf (e47 k) 70) [.l, .b, .s2, .s1, .s2, .s2, .s2, .s2, .s2]) (by kernel_rfl) (pelorusref01_Div_l0 k) k rfl (fun _ => rfl) 8 .n trivial (fun k' x => by kernel_rfl)
def pelorusref01_Div (k : Nat) (x0 : Ty.den T22) (x1 : Ty.den T22) : Option (HL [T22, T22, .bool]) :=
 (pelorusref01_Trim k x1).bind fun r1 =>
 bif ((r1.1.length : Int) == 0) then
  some ([], [], false, ())
 else
  (pelorusref01_Len k x0).bind fun r2 =>
  (pelorusref01_Div_l0 k k ((x0, r1.1, [], [], (IntKind.i64.wrap (r2.1 - 1)), ()), ())).bind fun q10 =>
  Sum.elim (fun z11 =>
    (pelorusref01_Trim k z11.1.1).bind fun r12 =>
    (pelorusref01_Trim k z11.1.2.1).bind fun r13 =>
    some (r12.1, r13.1, true, ()))
   (fun q10' =>
    none) q10
theorem pelorusref01_Div.ok (k : Nat) : SpecOK Tryd.prog G0 70 ⟨[T22, T22], [T22, T22, .bool], fun x => pelorusref01_Div k x.1 x.2.1⟩ :=
 evF_sound (E := (e47 k)) (fn := Tryd.f70) (e47.ok k) (by kernel_rfl) (by kernel_rfl) (by kernel_rfl) 8 (.two .n (.two .n (.two .n (.two .n (.two .n (.two (.two .n (.two (.use (pelorusref01_Div_l0_seg k)) .n)) .n)))))) ⟨trivial, ⟨trivial, ⟨trivial, ⟨trivial, ⟨trivial, ⟨⟨trivial, ⟨(pelorusref01_Div_l0_seg.ok k), trivial⟩⟩, trivial⟩⟩⟩⟩⟩⟩ (fun xs => by kernel_rfl)
def e48 (k : Nat) : Env := (e47 k).add 70 ⟨[T22, T22], [T22, T22, .bool], fun x => pelorusref01_Div k x.1 x.2.1⟩
theorem e48.ok (k : Nat) : (e48 k).OK Tryd.prog := (e47.ok k).add (pelorusref01_Div.ok k)
def pelorusref01_Shr (k : Nat) (x0 : Ty.den T22) (x1 : Ty.den (.int .i64)) : Option (HL [T22]) :=
 bif (decide (x1 < 1)) then
  (pelorusref01_Trim k x0).bind fun r1 =>
  some (r1.1, ())
 else
  bif (decide (x1 ≥ (IntKind.i64.wrap (32 * (x0.length : Int))))) then
   some ([], ())
  else
   if (0 : Int) ≤ (IntKind.i64.wrap (Int.tdiv x1 32)) ∧ (IntKind.i64.wrap (Int.tdiv x1 32)) ≤ (x0.length : Int) ∧ (x0.length : Int) ≤ (x0.length : Int) then
    (pelorusref01_Trim k (List.drop (Int.toNat (IntKind.i64.wrap (Int.tdiv x1 32))) (List.take (Int.toNat (x0.length : Int)) x0))).bind fun r2 =>
    if (IntKind.u64.wrap (Int.tmod x1 32)) < 0 then none else
    (pelorusref01_Div k r2.1 [(IntKind.u32.wrap (1 * 2 ^ min (Int.toNat (IntKind.u64.wrap (Int.tmod x1 32))) IntKind.u32.bits))]).bind fun r3 =>
    some (r3.1, ())
   else none
theorem pelorusref01_Shr.ok (k : Nat) : SpecOK Tryd.prog G0 45 ⟨[T22, (.int .i64)], [T22], fun x => pelorusref01_Shr k x.1 x.2.1⟩ :=
 evF_sound (E := (e48 k)) (fn := Tryd.f45) (e48.ok k) (by kernel_rfl) (by kernel_rfl) (by kernel_rfl) 8 .n trivial (fun xs => by kernel_rfl)
def e49 (k : Nat) : Env := (e48 k).add 45 ⟨[T22, (.int .i64)], [T22], fun x => pelorusref01_Shr k x.1 x.2.1⟩
theorem e49.ok (k : Nat) : (e49 k).OK Tryd.prog := (e48.ok k).add (pelorusref01_Shr.ok k)
abbrev pelorusref03_Make_l0_i : Mask := ⟨[(0, 1, (.v (.int .i64))), (0, 4, (.k (.ptr 4 0 0))), (0, 5, (.k (.ptr 5 0 0))), (0, 6, (.v (.int .i64)))], [(4, .cells (.pr (.pr (.v .bool) (.v T22)) (.v (.int .i64)))), (5, .cells (.v T23))], [], 0⟩
abbrev pelorusref03_Make_l0_o : List Out := [⟨.exit 0, ⟨[(0, 1, (.v (.int .i64))), (0, 4, (.k (.ptr 4 0 0))), (0, 5, (.k (.ptr 5 0 0)))], [(4, .cells (.pr (.pr (.v .bool) (.v T22)) (.v (.int .i64)))), (5, .cells (.v T23))], [], 0⟩⟩]
def pelorusref03_Make_l0 (k : Nat) : Nat → Mask.den pelorusref03_Make_l0_i → Option (denS pelorusref03_Make_l0_o)
 | 0, _ => none
 | m + 1, x =>
  bif (decide (x.1.2.2.2.1 < 4000000)) then
   (pelorusref03_even k x.2.2.1.2).bind fun r2 =>
   bif (!r2.1) then
    some (Sum.inl ((x.1.1, (), (), ()), (((x.2.1.1.1, x.2.1.1.2), x.2.1.2), x.2.2.1, ())))
   else
    (pelorusref01_Shr k x.2.2.1.2 1).bind fun r3 =>
    pelorusref03_Make_l0 k m (((IntKind.i64.wrap (x.1.1 + 1)), (), (), (IntKind.i64.wrap (x.1.2.2.2.1 + 1)), ()), (((x.2.1.1.1, x.2.1.1.2), x.2.1.2), (x.2.2.1.1, r3.1), ()))
  else
   some (Sum.inl ((x.1.1, (), (), ()), (((x.2.1.1.1, x.2.1.1.2), x.2.1.2), x.2.2.1, ())))
abbrev pelorusref03_Make_l0_seg (k : Nat) : Seg := ⟨⟨0, 49, false, [], []⟩, 12, [.b, .s2, .s1, .s2, .s2, .s2], pelorusref03_Make_l0_i, pelorusref03_Make_l0_o, pelorusref03_Make_l0 k k⟩
theorem pelorusref03_Make_l0_seg.ok (k : Nat) : SegOK Tryd.prog (e49 k) (pelorusref03_Make_l0_seg k) :=
 SegOK.loop (e49.ok k) (by kernel_rfl) (S := pelorusref03_Make_l0_seg k) (c := atR (codeOf (e49 k) 12) [.l, .b, .s2, .s1, .s2, .s2, .s2]) (by kernel_rfl) (pelorusref03_Make_l0 k) k rfl (fun _ => rfl) 8 .n trivial (fun k' x => by kernel_rfl)
def pelorusref03_Make (k : Nat) (x0 : Ty.den T23) (x1 : Ty.den (.int .i64)) : Option (HL [T26]) :=
 (pelorusref02_Make k x0.1 x0.2).bind fun r1 =>
 bif ((r1.1.2.length : Int) == 0) then
  some (((false, []), 0), ())
 else
  bif (decide (x1 < (-4194304))) then
   some (((false, []), 0), ())
  else
   bif (decide (x1 > 4194304)) then
    some (((false, []), 0), ())
   else
    (pelorusref03_Make_l0 k k ((x1, (), (), 0, ()), (((false, []), 0), r1.1, ()))).bind fun q4 =>
    Sum.elim (fun z5 =>
      bif (decide (z5.1.1 > 4194304)) then
       some (((false, []), 0), ())
      else
       some ((z5.2.2.1, z5.1.1), ()))
     (fun q4' =>
      none) q4
theorem pelorusref03_Make.ok (k : Nat) : SpecOK Tryd.prog G0 12 ⟨[T23, (.int .i64)], [T26], fun x => pelorusref03_Make k x.1 x.2.1⟩ :=
 evF_sound (E := (e49 k)) (fn := Tryd.f12) (e49.ok k) (by kernel_rfl) (by kernel_rfl) (by kernel_rfl) 8 (.two .n (.two .n (.two .n (.two (.two .n (.two (.use (pelorusref03_Make_l0_seg k)) .n)) .n)))) ⟨trivial, ⟨trivial, ⟨trivial, ⟨⟨trivial, ⟨(pelorusref03_Make_l0_seg.ok k), trivial⟩⟩, trivial⟩⟩⟩⟩ (fun xs => by kernel_rfl)
def e50 (k : Nat) : Env := (e49 k).add 12 ⟨[T23, (.int .i64)], [T26], fun x => pelorusref03_Make k x.1 x.2.1⟩
theorem e50.ok (k : Nat) : (e50 k).OK Tryd.prog := (e49.ok k).add (pelorusref03_Make.ok k)
abbrev pelorusref01_Mul_l1_i : Mask := ⟨[(0, 0, (.v T22)), (0, 1, (.v T22)), (0, 5, (.k (.arr 19 0))), (0, 6, (.v (.int .i64))), (0, 8, (.k (.arr 48 0))), (0, 9, (.v (.int .u64))), (0, 10, (.v (.int .i64)))], [(19, .arr 51 (.int .u32)), (48, .arr 51 (.int .u32))], [], 0⟩
abbrev pelorusref01_Mul_l1_o : List Out := [⟨.exit 2, ⟨[(0, 0, (.v T22)), (0, 1, (.v T22)), (0, 5, (.k (.arr 19 0))), (0, 6, (.v (.int .i64))), (0, 8, (.k (.arr 48 0))), (0, 9, (.v (.int .u64)))], [(19, .arr 51 (.int .u32)), (48, .arr 51 (.int .u32))], [], 0⟩⟩]
def pelorusref01_Mul_l1 (k : Nat) : Nat → Mask.den pelorusref01_Mul_l1_i → Option (denS pelorusref01_Mul_l1_o)
 | 0, _ => none
 | m + 1, x =>
  bif (decide (x.1.2.2.2.2.2.2.1 < (x.1.1.length : Int))) then
   if 0 ≤ x.1.2.2.2.2.2.2.1 then (x.1.1[Int.toNat x.1.2.2.2.2.2.2.1]?).bind fun y3 =>
    if 0 ≤ x.1.2.2.2.1 then (x.1.2.1[Int.toNat x.1.2.2.2.1]?).bind fun y4 =>
     if (x.2.2.1.length + [(IntKind.u32.wrap (Int.tmod (IntKind.u64.wrap ((IntKind.u64.wrap ((IntKind.u64.wrap y3) * (IntKind.u64.wrap y4))) + x.1.2.2.2.2.2.1)) 4294967296))].length) * 4 ≤ 140737488355328 then
      pelorusref01_Mul_l1 k m ((x.1.1, x.1.2.1, (), x.1.2.2.2.1, (), (IntKind.u64.wrap (Int.tdiv (IntKind.u64.wrap ((IntKind.u64.wrap ((IntKind.u64.wrap y3) * (IntKind.u64.wrap y4))) + x.1.2.2.2.2.2.1)) 4294967296)), (IntKind.i64.wrap (x.1.2.2.2.2.2.2.1 + 1)), ()), (x.2.1, (x.2.2.1 ++ [(IntKind.u32.wrap (Int.tmod (IntKind.u64.wrap ((IntKind.u64.wrap ((IntKind.u64.wrap y3) * (IntKind.u64.wrap y4))) + x.1.2.2.2.2.2.1)) 4294967296))]), ()))
     else none
    else none
   else none
  else
   some (Sum.inl ((x.1.1, x.1.2.1, (), x.1.2.2.2.1, (), x.1.2.2.2.2.2.1, ()), (x.2.1, x.2.2.1, ())))
abbrev pelorusref01_Mul_l1_seg (k : Nat) : Seg := ⟨⟨0, 61, false, [], []⟩, 76, [.b, .s2, .s1, .s2, .s2, .s2, .s2, .s2, .b, .s1, .s2, .l, .b, .s2, .s1, .s2, .s2], pelorusref01_Mul_l1_i, pelorusref01_Mul_l1_o, pelorusref01_Mul_l1 k k⟩
theorem pelorusref01_Mul_l1_seg.ok (k : Nat) : SegOK Tryd.prog (e50 k) (pelorusref01_Mul_l1_seg k) :=
 SegOK.loop (e50.ok k) (by kernel_rfl) (S := pelorusref01_Mul_l1_seg k) (c := atR (codeOf (e50 k) 76) [.l, .b, .s2, .s1, .s2, .s2, .s2, .s2, .s2, .b, .s1, .s2, .l, .b, .s2, .s1, .s2, .s2]) (by kernel_rfl) (pelorusref01_Mul_l1 k) k rfl (fun _ => rfl) 8 .n trivial (fun k' x => by kernel_rfl)
abbrev pelorusref01_Mul_l0_i : Mask := ⟨[(0, 0, (.v T22)), (0, 1, (.v T22)), (0, 5, (.v T22)), (0, 6, (.v (.int .i64)))], [], [], 0⟩
abbrev pelorusref01_Mul_l0_o : List Out := [⟨.exit 0, ⟨[(0, 5, (.v T22))], [], [], 0⟩⟩]
def pelorusref01_Mul_l0 (k : Nat) : Nat → Mask.den pelorusref01_Mul_l0_i → Option (denS pelorusref01_Mul_l0_o)
 | 0, _ => none
 | m + 1, x =>
  bif (decide (x.1.2.2.2.1 ≥ 0)) then
   if ([0].length + x.1.2.2.1.length) * 4 ≤ 140737488355328 then
    (pelorusref01_Mul_l1 k k ((x.1.1, x.1.2.1, (), x.1.2.2.2.1, (), 0, 0, ()), (([0] ++ x.1.2.2.1), [], ()))).bind fun q5 =>
    Sum.elim (fun z9 =>
      if (z9.2.2.1.length + [(IntKind.u32.wrap z9.1.2.2.2.2.2.1)].length) * 4 ≤ 140737488355328 then
       (pelorusref01_Add k z9.2.1 (z9.2.2.1 ++ [(IntKind.u32.wrap z9.1.2.2.2.2.2.1)])).bind fun r10 =>
       pelorusref01_Mul_l0 k m ((z9.1.1, z9.1.2.1, r10.1, (IntKind.i64.wrap (z9.1.2.2.2.1 - 1)), ()), ())
      else none)
     (fun q5' =>
      none) q5
   else none
  else
   some (Sum.inl ((x.1.2.2.1, ()), ()))
abbrev pelorusref01_Mul_l0_seg (k : Nat) : Seg := ⟨⟨0, 61, false, [], []⟩, 76, [.b, .s2, .s1, .s2, .s2], pelorusref01_Mul_l0_i, pelorusref01_Mul_l0_o, pelorusref01_Mul_l0 k k⟩
theorem pelorusref01_Mul_l0_seg.ok (k : Nat) : SegOK Tryd.prog (e50 k) (pelorusref01_Mul_l0_seg k) :=
 SegOK.loop (e50.ok k) (by kernel_rfl) (S := pelorusref01_Mul_l0_seg k) (c := atR (codeOf (e50 k) 76) [.l, .b, .s2, .s1, .s2, .s2]) (by kernel_rfl) (pelorusref01_Mul_l0 k) k rfl (fun _ => rfl) 8 (.two .n (.two (.two (.two (.own 0 .n) (.two .n (.two .n (.two .n (.two .n (.two (.two .n (.two (.use (pelorusref01_Mul_l1_seg k)) .n)) (.two .n (.own 2 .n)))))))) .n) .n)) ⟨trivial, ⟨⟨⟨trivial, ⟨trivial, ⟨trivial, ⟨trivial, ⟨trivial, ⟨⟨trivial, ⟨(pelorusref01_Mul_l1_seg.ok k), trivial⟩⟩, ⟨trivial, trivial⟩⟩⟩⟩⟩⟩⟩, trivial⟩, trivial⟩⟩ (fun k' x => by kernel_rfl)
def pelorusref01_Mul (k : Nat) (x0 : Ty.den T22) (x1 : Ty.den T22) : Option (HL [T22]) :=
 (pelorusref01_Mul_l0 k k ((x0, x1, [], (IntKind.i64.wrap ((x1.length : Int) - 1)), ()), ())).bind fun q6 =>
 Sum.elim (fun z7 =>
   (pelorusref01_Trim k z7.1.1).bind fun r8 =>
   some (r8.1, ()))
  (fun q6' =>
   none) q6
theorem pelorusref01_Mul.ok (k : Nat) : SpecOK Tryd.prog G0 76 ⟨[T22, T22], [T22], fun x => pelorusref01_Mul k x.1 x.2.1⟩ :=
 evF_sound (E := (e50 k)) (fn := Tryd.f76) (e50.ok k) (by kernel_rfl) (by kernel_rfl) (by kernel_rfl) 8 (.two .n (.two .n (.two (.two .n (.two (.use (pelorusref01_Mul_l0_seg k)) .n)) .n))) ⟨trivial, ⟨trivial, ⟨⟨trivial, ⟨(pelorusref01_Mul_l0_seg.ok k), trivial⟩⟩, trivial⟩⟩⟩ (fun xs => by kernel_rfl)
def e51 (k : Nat) : Env := (e50 k).add 76 ⟨[T22, T22], [T22], fun x => pelorusref01_Mul k x.1 x.2.1⟩
theorem e51.ok (k : Nat) : (e51 k).OK Tryd.prog := (e50.ok k).add (pelorusref01_Mul.ok k)
def pelorusref01_Shl (k : Nat) (x0 : Ty.den T22) (x1 : Ty.den (.int .i64)) : Option (HL [T22]) :=
 bif (decide (x1 < 1)) then
  (pelorusref01_Trim k x0).bind fun r1 =>
  some (r1.1, ())
 else
  bif (decide (x1 > 16777216)) then
   some ([], ())
  else
   if (IntKind.i64.wrap (Int.tdiv x1 32)) = (IntKind.i64.wrap (Int.tdiv x1 32)) ∧ 0 ≤ (IntKind.i64.wrap (Int.tdiv x1 32)) ∧ Int.toNat (IntKind.i64.wrap (Int.tdiv x1 32)) * 4 ≤ 140737488355328 then
    if ((List.replicate (Int.toNat (IntKind.i64.wrap (Int.tdiv x1 32))) (0 : Int)).length + x0.length) * 4 ≤ 140737488355328 then
     if (IntKind.u64.wrap (Int.tmod x1 32)) < 0 then none else
     (pelorusref01_Mul k ((List.replicate (Int.toNat (IntKind.i64.wrap (Int.tdiv x1 32))) (0 : Int)) ++ x0) [(IntKind.u32.wrap (1 * 2 ^ min (Int.toNat (IntKind.u64.wrap (Int.tmod x1 32))) IntKind.u32.bits))]).bind fun r2 =>
     some (r2.1, ())
    else none
   else none
theorem pelorusref01_Shl.ok (k : Nat) : SpecOK Tryd.prog G0 62 ⟨[T22, (.int .i64)], [T22], fun x => pelorusref01_Shl k x.1 x.2.1⟩ :=
 evF_sound (E := (e51 k)) (fn := Tryd.f62) (e51.ok k) (by kernel_rfl) (by kernel_rfl) (by kernel_rfl) 8 (.two .n (.two .n (.two .n (.two .n (.two .n (.two .n (.two (.own 3 .n) .n))))))) ⟨trivial, ⟨trivial, ⟨trivial, ⟨trivial, ⟨trivial, ⟨trivial, ⟨trivial, trivial⟩⟩⟩⟩⟩⟩⟩ (fun xs => by kernel_rfl)
def e52 (k : Nat) : Env := (e51 k).add 62 ⟨[T22, (.int .i64)], [T22], fun x => pelorusref01_Shl k x.1 x.2.1⟩
theorem e52.ok (k : Nat) : (e52 k).OK Tryd.prog := (e51.ok k).add (pelorusref01_Shl.ok k)
def pelorusref02_Add (k : Nat) (x0 : Ty.den T23) (x1 : Ty.den T23) : Option (HL [T23]) :=
 bif (x0.1 == x1.1) then
  (pelorusref01_Add k x0.2 x1.2).bind fun r1 =>
  (pelorusref02_Make k x0.1 r1.1).bind fun r2 =>
  some (r2.1, ())
 else
  (pelorusref01_Sub k x0.2 x1.2).bind fun r3 =>
  bif r3.2.1 then
   (pelorusref02_Make k x0.1 r3.1).bind fun r4 =>
   some (r4.1, ())
  else
   (pelorusref01_Sub k x1.2 x0.2).bind fun r5 =>
   (pelorusref02_Make k x1.1 r5.1).bind fun r6 =>
   some (r6.1, ())
theorem pelorusref02_Add.ok (k : Nat) : SpecOK Tryd.prog G0 74 ⟨[T23, T23], [T23], fun x => pelorusref02_Add k x.1 x.2.1⟩ :=
 evF_sound (E := (e52 k)) (fn := Tryd.f74) (e52.ok k) (by kernel_rfl) (by kernel_rfl) (by kernel_rfl) 8 .n trivial (fun xs => by kernel_rfl)
def e53 (k : Nat) : Env := (e52 k).add 74 ⟨[T23, T23], [T23], fun x => pelorusref02_Add k x.1 x.2.1⟩
theorem e53.ok (k : Nat) : (e53 k).OK Tryd.prog := (e52.ok k).add (pelorusref02_Add.ok k)
def pelorusref03_Two (k : Nat) (x0 : Ty.den T26) (x1 : Ty.den T26) : Option (HL [T26]) :=
 (pelorusref03_Make k x0.1 x0.2).bind fun r1 =>
 (pelorusref03_Make k x1.1 x1.2).bind fun r2 =>
 bif ((r1.1.1.2.length : Int) == 0) then
  some (r2.1, ())
 else
  bif ((r2.1.1.2.length : Int) == 0) then
   some (r1.1, ())
  else
   bif (decide (r1.1.2 > r2.1.2)) then
    (pelorusref01_Shl k r1.1.1.2 (IntKind.i64.wrap (r1.1.2 - r2.1.2))).bind fun r3 =>
    (pelorusref02_Make k r1.1.1.1 r3.1).bind fun r4 =>
    (pelorusref02_Add k r2.1.1 r4.1).bind fun r5 =>
    (pelorusref03_Make k r5.1 r2.1.2).bind fun r6 =>
    some (r6.1, ())
   else
    (pelorusref01_Shl k r2.1.1.2 (IntKind.i64.wrap (r2.1.2 - r1.1.2))).bind fun r7 =>
    (pelorusref02_Make k r2.1.1.1 r7.1).bind fun r8 =>
    (pelorusref02_Add k r1.1.1 r8.1).bind fun r9 =>
    (pelorusref03_Make k r9.1 r1.1.2).bind fun r10 =>
    some (r10.1, ())
theorem pelorusref03_Two.ok (k : Nat) : SpecOK Tryd.prog G0 56 ⟨[T26, T26], [T26], fun x => pelorusref03_Two k x.1 x.2.1⟩ :=
 evF_sound (E := (e53 k)) (fn := Tryd.f56) (e53.ok k) (by kernel_rfl) (by kernel_rfl) (by kernel_rfl) 8 .n trivial (fun xs => by kernel_rfl)
def e54 (k : Nat) : Env := (e53 k).add 56 ⟨[T26, T26], [T26], fun x => pelorusref03_Two k x.1 x.2.1⟩
theorem e54.ok (k : Nat) : (e54 k).OK Tryd.prog := (e53.ok k).add (pelorusref03_Two.ok k)
abbrev pelorusref03_Add_l0_i : Mask := ⟨[(0, 0, (.v T43)), (0, 2, (.k (.ptr 2 0 0))), (0, 3, (.k (.ptr 3 0 0))), (0, 4, (.v (.int .i64)))], [(2, .cells (.pr (.pr (.v .bool) (.v T22)) (.v (.int .i64)))), (3, .cells (.v T26))], [], 0⟩
abbrev pelorusref03_Add_l0_o : List Out := [⟨.exit 0, ⟨[(0, 2, (.k (.ptr 2 0 0))), (0, 3, (.k (.ptr 3 0 0)))], [(2, .cells (.pr (.pr (.v .bool) (.v T22)) (.v (.int .i64)))), (3, .cells (.v T26))], [], 0⟩⟩]
def pelorusref03_Add_l0 (k : Nat) : Nat → Mask.den pelorusref03_Add_l0_i → Option (denS pelorusref03_Add_l0_o)
 | 0, _ => none
 | m + 1, x =>
  bif (decide (x.1.2.2.2.1 < (x.1.1.length : Int))) then
   if 0 ≤ x.1.2.2.2.1 then (x.1.1[Int.toNat x.1.2.2.2.1]?).bind fun y3 =>
    (pelorusref03_Two k x.2.2.1 y3).bind fun r4 =>
    pelorusref03_Add_l0 k m ((x.1.1, (), (), (IntKind.i64.wrap (x.1.2.2.2.1 + 1)), ()), (((x.2.1.1.1, x.2.1.1.2), x.2.1.2), r4.1, ()))
   else none
  else
   some (Sum.inl (((), (), ()), (((x.2.1.1.1, x.2.1.1.2), x.2.1.2), x.2.2.1, ())))
abbrev pelorusref03_Add_l0_seg (k : Nat) : Seg := ⟨⟨0, 19, false, [], []⟩, 27, [.b, .s2, .s1, .s2, .s2], pelorusref03_Add_l0_i, pelorusref03_Add_l0_o, pelorusref03_Add_l0 k k⟩
theorem pelorusref03_Add_l0_seg.ok (k : Nat) : SegOK Tryd.prog (e54 k) (pelorusref03_Add_l0_seg k) :=
 SegOK.loop (e54.ok k) (by kernel_rfl) (S := pelorusref03_Add_l0_seg k) (c := atR (codeOf (e54 k) 27) [.l, .b, .s2, .s1, .s2, .s2]) (by kernel_rfl) (pelorusref03_Add_l0 k) k rfl (fun _ => rfl) 8 .n trivial (fun k' x => by kernel_rfl)
def pelorusref03_Add (k : Nat) (x0 : Ty.den T43) : Option (HL [T26]) :=
 (pelorusref03_Add_l0 k k ((x0, (), (), 0, ()), (((false, []), 0), ((false, []), 0), ()))).bind fun q5 =>
 Sum.elim (fun z6 =>
   some (z6.2.2.1, ()))
  (fun q5' =>
   none) q5
theorem pelorusref03_Add.ok (k : Nat) : SpecOK Tryd.prog G0 27 ⟨[T43], [T26], fun x => pelorusref03_Add k x.1⟩ :=
 evF_sound (E := (e54 k)) (fn := Tryd.f27) (e54.ok k) (by kernel_rfl) (by kernel_rfl) (by kernel_rfl) 8 (.two .n (.two .n (.two (.two .n (.two (.use (pelorusref03_Add_l0_seg k)) .n)) .n))) ⟨trivial, ⟨trivial, ⟨⟨trivial, ⟨(pelorusref03_Add_l0_seg.ok k), trivial⟩⟩, trivial⟩⟩⟩ (fun xs => by kernel_rfl)
def e55 (k : Nat) : Env := (e54 k).add 27 ⟨[T43], [T26], fun x => pelorusref03_Add k x.1⟩
theorem e55.ok (k : Nat) : (e55 k).OK Tryd.prog := (e54.ok k).add (pelorusref03_Add.ok k)
def pelorusref02_Neg (k : Nat) (x0 : Ty.den T23) : Option (HL [T23]) :=
 (pelorusref02_Make k (!x0.1) x0.2).bind fun r1 =>
 some (r1.1, ())
theorem pelorusref02_Neg.ok (k : Nat) : SpecOK Tryd.prog G0 60 ⟨[T23], [T23], fun x => pelorusref02_Neg k x.1⟩ :=
 evF_sound (E := (e55 k)) (fn := Tryd.f60) (e55.ok k) (by kernel_rfl) (by kernel_rfl) (by kernel_rfl) 8 .n trivial (fun xs => by kernel_rfl)
def e56 (k : Nat) : Env := (e55 k).add 60 ⟨[T23], [T23], fun x => pelorusref02_Neg k x.1⟩
theorem e56.ok (k : Nat) : (e56 k).OK Tryd.prog := (e55.ok k).add (pelorusref02_Neg.ok k)
def pelorusref03_Neg (k : Nat) (x0 : Ty.den T26) : Option (HL [T26]) :=
 (pelorusref02_Neg k x0.1).bind fun r1 =>
 (pelorusref03_Make k r1.1 x0.2).bind fun r2 =>
 some (r2.1, ())
theorem pelorusref03_Neg.ok (k : Nat) : SpecOK Tryd.prog G0 33 ⟨[T26], [T26], fun x => pelorusref03_Neg k x.1⟩ :=
 evF_sound (E := (e56 k)) (fn := Tryd.f33) (e56.ok k) (by kernel_rfl) (by kernel_rfl) (by kernel_rfl) 8 .n trivial (fun xs => by kernel_rfl)
def e57 (k : Nat) : Env := (e56 k).add 33 ⟨[T26], [T26], fun x => pelorusref03_Neg k x.1⟩
theorem e57.ok (k : Nat) : (e57 k).OK Tryd.prog := (e56.ok k).add (pelorusref03_Neg.ok k)
def pelorusref03_Sub (k : Nat) (x0 : Ty.den T26) (x1 : Ty.den T26) : Option (HL [T26]) :=
 (pelorusref03_Neg k x1).bind fun r1 =>
 (pelorusref03_Two k x0 r1.1).bind fun r2 =>
 some (r2.1, ())
theorem pelorusref03_Sub.ok (k : Nat) : SpecOK Tryd.prog G0 29 ⟨[T26, T26], [T26], fun x => pelorusref03_Sub k x.1 x.2.1⟩ :=
 evF_sound (E := (e57 k)) (fn := Tryd.f29) (e57.ok k) (by kernel_rfl) (by kernel_rfl) (by kernel_rfl) 8 .n trivial (fun xs => by kernel_rfl)
def e58 (k : Nat) : Env := (e57 k).add 29 ⟨[T26, T26], [T26], fun x => pelorusref03_Sub k x.1 x.2.1⟩
theorem e58.ok (k : Nat) : (e58 k).OK Tryd.prog := (e57.ok k).add (pelorusref03_Sub.ok k)
abbrev nat_Mul_l1_i : Mask := ⟨[(0, 1, (.v T22)), (0, 5, (.k (.arr 17 0))), (0, 6, (.v (.int .i64))), (0, 7, (.v (.int .u32))), (0, 8, (.v (.int .u64))), (0, 18, (.v T22)), (0, 19, (.v (.int .i64))), (0, 20, (.v (.int .i64))), (0, 25, (.v T22)), (0, 26, (.v (.int .i64))), (0, 27, (.v (.int .i64)))], [(17, .arr 51 (.int .u32))], [], 0⟩
abbrev nat_Mul_l1_o : List Out := [⟨.exit 2, ⟨[(0, 1, (.v T22)), (0, 5, (.k (.arr 17 0))), (0, 6, (.v (.int .i64))), (0, 8, (.v (.int .u64))), (0, 18, (.v T22)), (0, 19, (.v (.int .i64))), (0, 20, (.v (.int .i64)))], [(17, .arr 51 (.int .u32))], [], 0⟩⟩]
def nat_Mul_l1 (k : Nat) : Nat → Mask.den nat_Mul_l1_i → Option (denS nat_Mul_l1_o)
 | 0, _ => none
 | m + 1, x =>
  bif (decide (x.1.2.2.2.2.2.2.2.2.2.2.1 < x.1.2.2.2.2.2.2.2.2.2.1)) then
   if 0 ≤ x.1.2.2.2.2.2.2.2.2.2.2.1 then (x.1.2.2.2.2.2.2.2.2.1[Int.toNat x.1.2.2.2.2.2.2.2.2.2.2.1]?).bind fun y2 =>
    if 0 ≤ (IntKind.i64.wrap (x.1.2.2.1 + x.1.2.2.2.2.2.2.2.2.2.2.1)) then (x.2.1[Int.toNat (IntKind.i64.wrap (x.1.2.2.1 + x.1.2.2.2.2.2.2.2.2.2.2.1))]?).bind fun _ =>
     (x.2.1[(Int.toNat (IntKind.i64.wrap (x.1.2.2.1 + x.1.2.2.2.2.2.2.2.2.2.2.1)))]?).bind fun y4 =>
     if 0 ≤ (IntKind.i64.wrap (x.1.2.2.1 + x.1.2.2.2.2.2.2.2.2.2.2.1)) then (x.2.1[Int.toNat (IntKind.i64.wrap (x.1.2.2.1 + x.1.2.2.2.2.2.2.2.2.2.2.1))]?).bind fun _ =>
      (x.2.1[(Int.toNat (IntKind.i64.wrap (x.1.2.2.1 + x.1.2.2.2.2.2.2.2.2.2.2.1)))]?).bind fun y6 =>
      nat_Mul_l1 k m ((x.1.1, (), x.1.2.2.1, x.1.2.2.2.1, (Int.fdiv (IntKind.u64.wrap ((IntKind.u64.wrap ((IntKind.u64.wrap ((IntKind.u64.wrap x.1.2.2.2.1) * (IntKind.u64.wrap y2))) + (IntKind.u64.wrap y4))) + x.1.2.2.2.2.1)) (2 ^ min (Int.toNat 32) IntKind.u64.bits)), x.1.2.2.2.2.2.1, x.1.2.2.2.2.2.2.1, x.1.2.2.2.2.2.2.2.1, x.1.2.2.2.2.2.2.2.2.1, x.1.2.2.2.2.2.2.2.2.2.1, (IntKind.i64.wrap (x.1.2.2.2.2.2.2.2.2.2.2.1 + 1)), ()), ((x.2.1.set (Int.toNat (IntKind.i64.wrap (x.1.2.2.1 + x.1.2.2.2.2.2.2.2.2.2.2.1))) (IntKind.u32.wrap (IntKind.u64.wrap ((IntKind.u64.wrap ((IntKind.u64.wrap ((IntKind.u64.wrap x.1.2.2.2.1) * (IntKind.u64.wrap y2))) + (IntKind.u64.wrap y4))) + x.1.2.2.2.2.1)))), ()))
     else none
    else none
   else none
  else
   some (Sum.inl ((x.1.1, (), x.1.2.2.1, x.1.2.2.2.2.1, x.1.2.2.2.2.2.1, x.1.2.2.2.2.2.2.1, x.1.2.2.2.2.2.2.2.1, ()), (x.2.1, ())))
abbrev nat_Mul_l1_seg (k : Nat) : Seg := ⟨⟨0, 68, false, [], []⟩, 75, [.b, .s2, .s1, .s2, .s2, .b, .s1, .s2, .s2, .l, .b, .s2, .s1, .s2, .s2], nat_Mul_l1_i, nat_Mul_l1_o, nat_Mul_l1 k k⟩
theorem nat_Mul_l1_seg.ok (k : Nat) : SegOK Tryd.prog (e58 k) (nat_Mul_l1_seg k) :=
 SegOK.loop (e58.ok k) (by kernel_rfl) (S := nat_Mul_l1_seg k) (c := atR (codeOf (e58 k) 75) [.l, .b, .s2, .s1, .s2, .s2, .b, .s1, .s2, .s2, .l, .b, .s2, .s1, .s2, .s2]) (by kernel_rfl) (nat_Mul_l1 k) k rfl (fun _ => rfl) 8 .n trivial (fun k' x => by kernel_rfl)
abbrev nat_Mul_l0_i : Mask := ⟨[(0, 1, (.v T22)), (0, 5, (.k (.arr 17 0))), (0, 18, (.v T22)), (0, 19, (.v (.int .i64))), (0, 20, (.v (.int .i64)))], [(17, .arr 51 (.int .u32))], [], 0⟩
abbrev nat_Mul_l0_o : List Out := [⟨.exit 0, ⟨[(0, 5, (.k (.arr 17 0)))], [(17, .arr 51 (.int .u32))], [], 0⟩⟩]
def nat_Mul_l0 (k : Nat) : Nat → Mask.den nat_Mul_l0_i → Option (denS nat_Mul_l0_o)
 | 0, _ => none
 | m + 1, x =>
  bif (decide (x.1.2.2.2.2.1 < x.1.2.2.2.1)) then
   if 0 ≤ x.1.2.2.2.2.1 then (x.1.2.2.1[Int.toNat x.1.2.2.2.2.1]?).bind fun y1 =>
    (nat_Mul_l1 k k ((x.1.1, (), x.1.2.2.2.2.1, y1, 0, x.1.2.2.1, x.1.2.2.2.1, x.1.2.2.2.2.1, x.1.1, (x.1.1.length : Int), 0, ()), (x.2.1, ()))).bind fun q7 =>
    Sum.elim (fun z11 =>
      if 0 ≤ (IntKind.i64.wrap (z11.1.2.2.1 + (z11.1.1.length : Int))) then (z11.2.1[Int.toNat (IntKind.i64.wrap (z11.1.2.2.1 + (z11.1.1.length : Int)))]?).bind fun _ =>
       (z11.2.1[(Int.toNat (IntKind.i64.wrap (z11.1.2.2.1 + (z11.1.1.length : Int))))]?).bind fun y13 =>
       nat_Mul_l0 k m ((z11.1.1, (), z11.1.2.2.2.2.1, z11.1.2.2.2.2.2.1, (IntKind.i64.wrap (z11.1.2.2.2.2.2.2.1 + 1)), ()), ((z11.2.1.set (Int.toNat (IntKind.i64.wrap (z11.1.2.2.1 + (z11.1.1.length : Int)))) (IntKind.u32.wrap z11.1.2.2.2.1)), ()))
      else none)
     (fun q7' =>
      none) q7
   else none
  else
   some (Sum.inl (((), ()), (x.2.1, ())))
abbrev nat_Mul_l0_seg (k : Nat) : Seg := ⟨⟨0, 68, false, [], []⟩, 75, [.b, .s2, .s1, .s2, .s2], nat_Mul_l0_i, nat_Mul_l0_o, nat_Mul_l0 k k⟩
theorem nat_Mul_l0_seg.ok (k : Nat) : SegOK Tryd.prog (e58 k) (nat_Mul_l0_seg k) :=
 SegOK.loop (e58.ok k) (by kernel_rfl) (S := nat_Mul_l0_seg k) (c := atR (codeOf (e58 k) 75) [.l, .b, .s2, .s1, .s2, .s2]) (by kernel_rfl) (nat_Mul_l0 k) k rfl (fun _ => rfl) 8 (.two .n (.two .n (.two (.two (.two .n (.two .n (.two (.two .n (.two (.use (nat_Mul_l1_seg k)) .n)) .n))) .n) .n))) ⟨trivial, ⟨trivial, ⟨⟨⟨trivial, ⟨trivial, ⟨⟨trivial, ⟨(nat_Mul_l1_seg.ok k), trivial⟩⟩, trivial⟩⟩⟩, trivial⟩, trivial⟩⟩⟩ (fun k' x => by kernel_rfl)
def nat_Mul (k : Nat) (x0 : Ty.den T22) (x1 : Ty.den T22) : Option (HL [T22]) :=
 if (IntKind.i64.wrap ((x0.length : Int) + (x1.length : Int))) = (IntKind.i64.wrap ((x0.length : Int) + (x1.length : Int))) ∧ 0 ≤ (IntKind.i64.wrap ((x0.length : Int) + (x1.length : Int))) ∧ Int.toNat (IntKind.i64.wrap ((x0.length : Int) + (x1.length : Int))) * 4 ≤ 140737488355328 then
  (nat_Mul_l0 k k ((x1, (), x0, (x0.length : Int), 0, ()), ((List.replicate (Int.toNat (IntKind.i64.wrap ((x0.length : Int) + (x1.length : Int)))) (0 : Int)), ()))).bind fun q8 =>
  Sum.elim (fun z9 =>
    (nat_cut k z9.2.1).bind fun r10 =>
    some (r10.1, ()))
   (fun q8' =>
    none) q8
 else none
theorem nat_Mul.ok (k : Nat) : SpecOK Tryd.prog G0 75 ⟨[T22, T22], [T22], fun x => nat_Mul k x.1 x.2.1⟩ :=
 evF_sound (E := (e58 k)) (fn := Tryd.f75) (e58.ok k) (by kernel_rfl) (by kernel_rfl) (by kernel_rfl) 8 (.two .n (.two .n (.two (.two .n (.two (.use (nat_Mul_l0_seg k)) .n)) (.two (.own 1 .n) .n)))) ⟨trivial, ⟨trivial, ⟨⟨trivial, ⟨(nat_Mul_l0_seg.ok k), trivial⟩⟩, ⟨trivial, trivial⟩⟩⟩⟩ (fun xs => by kernel_rfl)
def e59 (k : Nat) : Env := (e58 k).add 75 ⟨[T22, T22], [T22], fun x => nat_Mul k x.1 x.2.1⟩
theorem e59.ok (k : Nat) : (e59 k).OK Tryd.prog := (e58.ok k).add (nat_Mul.ok k)
abbrev whole_Mul_l0_i : Mask := ⟨[(0, 2, (.k (.ptr 2 0 0))), (0, 3, (.v .bool)), (0, 4, (.v T22)), (0, 8, (.v T76)), (0, 9, (.v (.int .i64))), (0, 10, (.v (.int .i64)))], [(2, .cells (.pr (.v .bool) (.v T22)))], [], 0⟩
abbrev whole_Mul_l0_o : List Out := [⟨.exit 0, ⟨[(0, 2, (.k (.ptr 2 0 0))), (0, 3, (.v .bool)), (0, 4, (.v T22))], [(2, .cells (.pr (.v .bool) (.v T22)))], [], 0⟩⟩]
def whole_Mul_l0 (k : Nat) : Nat → Mask.den whole_Mul_l0_i → Option (denS whole_Mul_l0_o)
 | 0, _ => none
 | m + 1, x =>
  bif (decide (x.1.2.2.2.2.2.1 < x.1.2.2.2.2.1)) then
   if 0 ≤ x.1.2.2.2.2.2.1 then (x.1.2.2.2.1[Int.toNat x.1.2.2.2.2.2.1]?).bind fun y1 =>
    (nat_Mul k x.1.2.2.1 y1.2).bind fun r2 =>
    whole_Mul_l0 k m (((), (!(x.1.2.1 == y1.1)), r2.1, x.1.2.2.2.1, x.1.2.2.2.2.1, (IntKind.i64.wrap (x.1.2.2.2.2.2.1 + 1)), ()), ((x.2.1.1, x.2.1.2), ()))
   else none
  else
   some (Sum.inl (((), x.1.2.1, x.1.2.2.1, ()), ((x.2.1.1, x.2.1.2), ())))
abbrev whole_Mul_l0_seg (k : Nat) : Seg := ⟨⟨0, 26, false, [], []⟩, 57, [.b, .s2, .s1, .s2, .s2], whole_Mul_l0_i, whole_Mul_l0_o, whole_Mul_l0 k k⟩
theorem whole_Mul_l0_seg.ok (k : Nat) : SegOK Tryd.prog (e59 k) (whole_Mul_l0_seg k) :=
 SegOK.loop (e59.ok k) (by kernel_rfl) (S := whole_Mul_l0_seg k) (c := atR (codeOf (e59 k) 57) [.l, .b, .s2, .s1, .s2, .s2]) (by kernel_rfl) (whole_Mul_l0 k) k rfl (fun _ => rfl) 8 .n trivial (fun k' x => by kernel_rfl)
def whole_Mul (k : Nat) (x0 : Ty.den T76) : Option (HL [T23]) :=
 (whole_Mul_l0 k k (((), false, [1], x0, (x0.length : Int), 0, ()), ((false, []), ()))).bind fun q3 =>
 Sum.elim (fun z4 =>
   (whole_Make k z4.1.2.1 z4.1.2.2.1).bind fun r5 =>
   some (r5.1, ()))
  (fun q3' =>
   none) q3
theorem whole_Mul.ok (k : Nat) : SpecOK Tryd.prog G0 57 ⟨[T76], [T23], fun x => whole_Mul k x.1⟩ :=
 evF_sound (E := (e59 k)) (fn := Tryd.f57) (e59.ok k) (by kernel_rfl) (by kernel_rfl) (by kernel_rfl) 8 (.two .n (.two .n (.two (.two .n (.two (.use (whole_Mul_l0_seg k)) .n)) .n))) ⟨trivial, ⟨trivial, ⟨⟨trivial, ⟨(whole_Mul_l0_seg.ok k), trivial⟩⟩, trivial⟩⟩⟩ (fun xs => by kernel_rfl)
def e60 (k : Nat) : Env := (e59 k).add 57 ⟨[T76], [T23], fun x => whole_Mul k x.1⟩
theorem e60.ok (k : Nat) : (e60 k).OK Tryd.prog := (e59.ok k).add (whole_Mul.ok k)
def dy_Mul (k : Nat) (x0 : Ty.den T26) (x1 : Ty.den T26) : Option (HL [T26]) :=
 (dy_fair k x0).bind fun r1 =>
 (dy_fair k x1).bind fun r2 =>
 (whole_Mul k [r1.1.1, r2.1.1]).bind fun r3 =>
 (dy_Make k r3.1 (IntKind.i64.wrap (r1.1.2 + r2.1.2))).bind fun r4 =>
 some (r4.1, ())
theorem dy_Mul.ok (k : Nat) : SpecOK Tryd.prog G0 30 ⟨[T26, T26], [T26], fun x => dy_Mul k x.1 x.2.1⟩ :=
 evF_sound (E := (e60 k)) (fn := Tryd.f30) (e60.ok k) (by kernel_rfl) (by kernel_rfl) (by kernel_rfl) 8 .n trivial (fun xs => by kernel_rfl)
def e61 (k : Nat) : Env := (e60 k).add 30 ⟨[T26, T26], [T26], fun x => dy_Mul k x.1 x.2.1⟩
theorem e61.ok (k : Nat) : (e61 k).OK Tryd.prog := (e60.ok k).add (dy_Mul.ok k)
def pelorusref02_Two (k : Nat) (x0 : Ty.den T23) (x1 : Ty.den T23) : Option (HL [T23]) :=
 (pelorusref01_Mul k x0.2 x1.2).bind fun r1 =>
 (pelorusref02_Make k (!(x0.1 == x1.1)) r1.1).bind fun r2 =>
 some (r2.1, ())
theorem pelorusref02_Two.ok (k : Nat) : SpecOK Tryd.prog G0 58 ⟨[T23, T23], [T23], fun x => pelorusref02_Two k x.1 x.2.1⟩ :=
 evF_sound (E := (e61 k)) (fn := Tryd.f58) (e61.ok k) (by kernel_rfl) (by kernel_rfl) (by kernel_rfl) 8 .n trivial (fun xs => by kernel_rfl)
def e62 (k : Nat) : Env := (e61 k).add 58 ⟨[T23, T23], [T23], fun x => pelorusref02_Two k x.1 x.2.1⟩
theorem e62.ok (k : Nat) : (e62 k).OK Tryd.prog := (e61.ok k).add (pelorusref02_Two.ok k)
def pelorusref03_Mul (k : Nat) (x0 : Ty.den T26) (x1 : Ty.den T26) : Option (HL [T26]) :=
 (pelorusref03_Make k x0.1 x0.2).bind fun r1 =>
 (pelorusref03_Make k x1.1 x1.2).bind fun r2 =>
 (pelorusref02_Two k r1.1.1 r2.1.1).bind fun r3 =>
 (pelorusref03_Make k r3.1 (IntKind.i64.wrap (r1.1.2 + r2.1.2))).bind fun r4 =>
 some (r4.1, ())
theorem pelorusref03_Mul.ok (k : Nat) : SpecOK Tryd.prog G0 31 ⟨[T26, T26], [T26], fun x => pelorusref03_Mul k x.1 x.2.1⟩ :=
 evF_sound (E := (e62 k)) (fn := Tryd.f31) (e62.ok k) (by kernel_rfl) (by kernel_rfl) (by kernel_rfl) 8 .n trivial (fun xs => by kernel_rfl)
def e63 (k : Nat) : Env := (e62 k).add 31 ⟨[T26, T26], [T26], fun x => pelorusref03_Mul k x.1 x.2.1⟩
theorem e63.ok (k : Nat) : (e63 k).OK Tryd.prog := (e62.ok k).add (pelorusref03_Mul.ok k)
def pelorusref02_Sign (k : Nat) (x0 : Ty.den T23) : Option (HL [(.int .i64)]) :=
 (pelorusref02_Make k x0.1 x0.2).bind fun r1 =>
 bif ((r1.1.2.length : Int) == 0) then
  some (0, ())
 else
  bif r1.1.1 then
   some ((-1), ())
  else
   some (1, ())
theorem pelorusref02_Sign.ok (k : Nat) : SpecOK Tryd.prog G0 49 ⟨[T23], [(.int .i64)], fun x => pelorusref02_Sign k x.1⟩ :=
 evF_sound (E := (e63 k)) (fn := Tryd.f49) (e63.ok k) (by kernel_rfl) (by kernel_rfl) (by kernel_rfl) 8 .n trivial (fun xs => by kernel_rfl)
def e64 (k : Nat) : Env := (e63 k).add 49 ⟨[T23], [(.int .i64)], fun x => pelorusref02_Sign k x.1⟩
theorem e64.ok (k : Nat) : (e64 k).OK Tryd.prog := (e63.ok k).add (pelorusref02_Sign.ok k)
def pelorusref02_From (k : Nat) (x0 : Ty.den (.int .i64)) : Option (HL [T23]) :=
 bif (decide (x0 < 0)) then
  (pelorusref02_Make k (decide (x0 < 0)) [(IntKind.u32.wrap (Int.tmod (IntKind.u64.wrap ((IntKind.u64.wrap (IntKind.i64.wrap (0 - (IntKind.i64.wrap (x0 + 1))))) + 1)) 4294967296)), (IntKind.u32.wrap (IntKind.u64.wrap (Int.tdiv (IntKind.u64.wrap ((IntKind.u64.wrap (IntKind.i64.wrap (0 - (IntKind.i64.wrap (x0 + 1))))) + 1)) 4294967296)))]).bind fun r1 =>
  some (r1.1, ())
 else
  (pelorusref02_Make k (decide (x0 < 0)) [(IntKind.u32.wrap (Int.tmod (IntKind.u64.wrap x0) 4294967296)), (IntKind.u32.wrap (IntKind.u64.wrap (Int.tdiv (IntKind.u64.wrap x0) 4294967296)))]).bind fun r2 =>
  some (r2.1, ())
theorem pelorusref02_From.ok (k : Nat) : SpecOK Tryd.prog G0 77 ⟨[(.int .i64)], [T23], fun x => pelorusref02_From k x.1⟩ :=
 evF_sound (E := (e64 k)) (fn := Tryd.f77) (e64.ok k) (by kernel_rfl) (by kernel_rfl) (by kernel_rfl) 8 .n trivial (fun xs => by kernel_rfl)
def e65 (k : Nat) : Env := (e64 k).add 77 ⟨[(.int .i64)], [T23], fun x => pelorusref02_From k x.1⟩
theorem e65.ok (k : Nat) : (e65 k).OK Tryd.prog := (e64.ok k).add (pelorusref02_From.ok k)
def pelorusref02_Div (k : Nat) (x0 : Ty.den T23) (x1 : Ty.den T23) : Option (HL [T23, T23, .bool]) :=
 (pelorusref02_Sign k x1).bind fun r1 =>
 bif (r1.1 == 0) then
  some ((false, []), (false, []), false, ())
 else
  (pelorusref01_Div k x0.2 x1.2).bind fun r2 =>
  (pelorusref02_Make k (!(x0.1 == x1.1)) r2.1).bind fun r3 =>
  (pelorusref02_Make k x0.1 r2.2.1).bind fun r4 =>
  (pelorusref02_Sign k r4.1).bind fun r5 =>
  bif (r5.1 == (IntKind.i64.wrap (0 - r1.1))) then
   (pelorusref02_From k (-1)).bind fun r6 =>
   (pelorusref02_Add k r3.1 r6.1).bind fun r7 =>
   (pelorusref02_Add k r4.1 x1).bind fun r8 =>
   some (r7.1, r8.1, true, ())
  else
   some (r3.1, r4.1, true, ())
theorem pelorusref02_Div.ok (k : Nat) : SpecOK Tryd.prog G0 63 ⟨[T23, T23], [T23, T23, .bool], fun x => pelorusref02_Div k x.1 x.2.1⟩ :=
 evF_sound (E := (e65 k)) (fn := Tryd.f63) (e65.ok k) (by kernel_rfl) (by kernel_rfl) (by kernel_rfl) 8 .n trivial (fun xs => by kernel_rfl)
def e66 (k : Nat) : Env := (e65 k).add 63 ⟨[T23, T23], [T23, T23, .bool], fun x => pelorusref02_Div k x.1 x.2.1⟩
theorem e66.ok (k : Nat) : (e66 k).OK Tryd.prog := (e65.ok k).add (pelorusref02_Div.ok k)
def pelorusref03_Floor (k : Nat) (x0 : Ty.den T26) : Option (HL [T23]) :=
 (pelorusref03_Make k x0.1 x0.2).bind fun r1 =>
 bif (decide (r1.1.2 ≥ 0)) then
  (pelorusref01_Shl k r1.1.1.2 r1.1.2).bind fun r2 =>
  (pelorusref02_Make k r1.1.1.1 r2.1).bind fun r3 =>
  some (r3.1, ())
 else
  (pelorusref01_Shl k [1] (IntKind.i64.wrap (0 - r1.1.2))).bind fun r4 =>
  (pelorusref02_Make k false r4.1).bind fun r5 =>
  (pelorusref02_Div k r1.1.1 r5.1).bind fun r6 =>
  some (r6.1, ())
theorem pelorusref03_Floor.ok (k : Nat) : SpecOK Tryd.prog G0 35 ⟨[T26], [T23], fun x => pelorusref03_Floor k x.1⟩ :=
 evF_sound (E := (e66 k)) (fn := Tryd.f35) (e66.ok k) (by kernel_rfl) (by kernel_rfl) (by kernel_rfl) 8 .n trivial (fun xs => by kernel_rfl)
def e67 (k : Nat) : Env := (e66 k).add 35 ⟨[T26], [T23], fun x => pelorusref03_Floor k x.1⟩
theorem e67.ok (k : Nat) : (e67 k).OK Tryd.prog := (e66.ok k).add (pelorusref03_Floor.ok k)
def pelorusref03_Cmp (k : Nat) (x0 : Ty.den T26) (x1 : Ty.den T26) : Option (HL [(.int .i64)]) :=
 (pelorusref03_Sub k x0 x1).bind fun r1 =>
 (pelorusref02_Sign k r1.1.1).bind fun r2 =>
 some (r2.1, ())
theorem pelorusref03_Cmp.ok (k : Nat) : SpecOK Tryd.prog G0 36 ⟨[T26, T26], [(.int .i64)], fun x => pelorusref03_Cmp k x.1 x.2.1⟩ :=
 evF_sound (E := (e67 k)) (fn := Tryd.f36) (e67.ok k) (by kernel_rfl) (by kernel_rfl) (by kernel_rfl) 8 .n trivial (fun xs => by kernel_rfl)
def e68 (k : Nat) : Env := (e67 k).add 36 ⟨[T26, T26], [(.int .i64)], fun x => pelorusref03_Cmp k x.1 x.2.1⟩
theorem e68.ok (k : Nat) : (e68 k).OK Tryd.prog := (e67.ok k).add (pelorusref03_Cmp.ok k)
abbrev peloruslaw03_DySums_l0_i : Mask := ⟨[(0, 2, (.v T43)), (0, 3, (.k (.ptr 3 0 0))), (0, 4, (.k (.ptr 4 0 0))), (0, 10, (.v (.int .i64)))], [(3, .cells (.v T26)), (4, .cells (.v T26))], [], 0⟩
abbrev peloruslaw03_DySums_l0_o : List Out := [⟨.ret, ⟨[(0, 6, (.v .bool))], [], [], 0⟩⟩, ⟨.exit 0, ⟨[(0, 2, (.v T43)), (0, 3, (.k (.ptr 3 0 0))), (0, 4, (.k (.ptr 4 0 0)))], [(3, .cells (.v T26)), (4, .cells (.v T26))], [], 0⟩⟩]
def peloruslaw03_DySums_l0 (k : Nat) : Nat → Mask.den peloruslaw03_DySums_l0_i → Option (denS peloruslaw03_DySums_l0_o)
 | 0, _ => none
 | m + 1, x =>
  bif (decide (x.1.2.2.2.1 < (x.1.1.length : Int))) then
   if 0 ≤ x.1.2.2.2.1 then (x.1.1[Int.toNat x.1.2.2.2.1]?).bind fun y4 =>
    (peloruslaw03_Few k y4).bind fun r5 =>
    bif (!r5.1) then
     some (Sum.inl ((true, ()), ()))
    else
     peloruslaw03_DySums_l0 k m ((x.1.1, (), (), (IntKind.i64.wrap (x.1.2.2.2.1 + 1)), ()), (x.2.1, x.2.2.1, ()))
   else none
  else
   some (Sum.inr (Sum.inl ((x.1.1, (), (), ()), (x.2.1, x.2.2.1, ()))))
abbrev peloruslaw03_DySums_l0_seg (k : Nat) : Seg := ⟨⟨0, 102, false, [], []⟩, 6, [.b, .s2, .s1, .s2, .s2, .s2, .s2, .s2], peloruslaw03_DySums_l0_i, peloruslaw03_DySums_l0_o, peloruslaw03_DySums_l0 k k⟩
theorem peloruslaw03_DySums_l0_seg.ok (k : Nat) : SegOK Tryd.prog (e68 k) (peloruslaw03_DySums_l0_seg k) :=
 SegOK.loop (e68.ok k) (by kernel_rfl) (S := peloruslaw03_DySums_l0_seg k) (c := atR (codeOf (e68 k) 6) [.l, .b, .s2, .s1, .s2, .s2, .s2, .s2, .s2]) (by kernel_rfl) (peloruslaw03_DySums_l0 k) k rfl (fun _ => rfl) 8 .n trivial (fun k' x => by kernel_rfl)
def peloruslaw03_DySums (k : Nat) (x0 : Ty.den T26) (x1 : Ty.den T26) (x2 : Ty.den T43) : Option (HL [.bool]) :=
 (peloruslaw03_awake k).bind fun r1 =>
 (peloruslaw03_Few k x0).bind fun r2 =>
 (peloruslaw03_Few k x1).bind fun r3 =>
 bif (!r1.1) then
  some (r1.1, ())
 else
  bif (!r2.1) then
   some (r1.1, ())
  else
   bif (!r3.1) then
    some (r1.1, ())
   else
    bif (decide ((x2.length : Int) > 6)) then
     some (r1.1, ())
    else
     (peloruslaw03_DySums_l0 k k ((x2, (), (), 0, ()), (x0, x1, ()))).bind fun q6 =>
     Sum.elim (fun z7 =>
       some (z7.1.1, ()))
      (fun q6' =>
       Sum.elim (fun z8 =>
         (dy_Add k z8.1.1).bind fun r9 =>
         (pelorusref03_Add k z8.1.1).bind fun r10 =>
         (pelorusref03_Alike k r9.1 r10.1).bind fun r11 =>
         (dy_Sub k z8.2.1 z8.2.2.1).bind fun r12 =>
         (pelorusref03_Sub k z8.2.1 z8.2.2.1).bind fun r13 =>
         (pelorusref03_Alike k r12.1 r13.1).bind fun r14 =>
         (dy_Mul k z8.2.1 z8.2.2.1).bind fun r15 =>
         (pelorusref03_Mul k z8.2.1 z8.2.2.1).bind fun r16 =>
         (pelorusref03_Alike k r15.1 r16.1).bind fun r17 =>
         (dy_Neg k z8.2.1).bind fun r18 =>
         (pelorusref03_Neg k z8.2.1).bind fun r19 =>
         (pelorusref03_Alike k r18.1 r19.1).bind fun r20 =>
         (dy_Floor k z8.2.1).bind fun r21 =>
         (pelorusref03_Floor k z8.2.1).bind fun r22 =>
         (pelorusref02_Alike k r21.1 r22.1).bind fun r23 =>
         bif r11.1 then
          bif r14.1 then
           bif r17.1 then
            bif r20.1 then
             bif r23.1 then
              (dy_Cmp k z8.2.1 z8.2.2.1).bind fun r24 =>
              (pelorusref03_Cmp k z8.2.1 z8.2.2.1).bind fun r25 =>
              some ((r24.1 == r25.1), ())
             else
              some (false, ())
            else
             some (false, ())
           else
            some (false, ())
          else
           some (false, ())
         else
          some (false, ()))
        (fun q6'' =>
         none) q6') q6
theorem peloruslaw03_DySums.ok (k : Nat) : SpecOK Tryd.prog G0 6 ⟨[T26, T26, T43], [.bool], fun x => peloruslaw03_DySums k x.1 x.2.1 x.2.2.1⟩ :=
 evF_sound (E := (e68 k)) (fn := Tryd.f6) (e68.ok k) (by kernel_rfl) (by kernel_rfl) (by kernel_rfl) 8 (.two .n (.two .n (.two .n (.two .n (.two .n (.two (.two .n (.two (.use (peloruslaw03_DySums_l0_seg k)) .n)) .n)))))) ⟨trivial, ⟨trivial, ⟨trivial, ⟨trivial, ⟨trivial, ⟨⟨trivial, ⟨(peloruslaw03_DySums_l0_seg.ok k), trivial⟩⟩, trivial⟩⟩⟩⟩⟩⟩ (fun xs => by kernel_rfl)
def e69 (k : Nat) : Env := (e68 k).add 6 ⟨[T26, T26, T43], [.bool], fun x => peloruslaw03_DySums k x.1 x.2.1 x.2.2.1⟩
theorem e69.ok (k : Nat) : (e69 k).OK Tryd.prog := (e68.ok k).add (peloruslaw03_DySums.ok k)
end
end Go.Proofs.YtaookeneeemfbaaDoor.Rf
