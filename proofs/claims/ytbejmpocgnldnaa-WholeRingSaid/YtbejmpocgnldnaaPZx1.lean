-- Laid by this work's own program; Lean checks it.
import Derived.Test.YtbejmpocgnldnaaPZx0
namespace Go.Proofs.Ytbejmpocgnldnaa.PZ
open Go.RowKit Go.Proofs.YtbejmpocgnldnaaW.PrintWords Go.Proofs.YtbejmpocgnldnaaW.PrintLast Go.Proofs.YtbejmpocgnldnaaW.PrintMore
attribute [local go_sem] max2_int min2_int max_two min_two max_three min_three max_four min_four   -- for this text's walks alone
set_option linter.unusedVariables false
set_option linter.unusedSimpArgs false

attribute [local go_sem ↓ high] isSome_set_
/-! ### nat_cut: function 48 -/
def nat_cut.l0 : Nat → List Int → Option (List Int)
  | 0, _ => none
  | k + 1, x0 => if (x0.length : Int) > 0 then (if 0 ≤ (wrap64 ((x0.length : Int) - 1)) then (if (wrap64 ((x0.length : Int) - 1)) < (x0.length : Int) then (if (rd x0 (wrap64 ((x0.length : Int) - 1))) = 0 then (if (wrap64 ((x0.length : Int) - 1)) ≤ (x0.length : Int) then (nat_cut.l0 k (x0.take ((wrap64 ((x0.length : Int) - 1)) : Int).toNat)) else (none)) else (some x0)) else (none)) else (none)) else (some x0)
def nat_cut.f (k : Nat) (l0 : List Int) : Option (List Int) := nat_cut.l0 k l0

/-! ### nat_cut_own: function 48 -/
def nat_cut_own.l0 : Nat → List Int → Option (List Int)
  | 0, _ => none
  | k + 1, x0 => if (x0.length : Int) > 0 then (if 0 ≤ (wrap64 ((x0.length : Int) - 1)) then (if (wrap64 ((x0.length : Int) - 1)) < (x0.length : Int) then (if (rd x0 (wrap64 ((x0.length : Int) - 1))) = 0 then (if (wrap64 ((x0.length : Int) - 1)) ≤ (x0.length : Int) then (nat_cut_own.l0 k (x0.take ((wrap64 ((x0.length : Int) - 1)) : Int).toNat)) else (none)) else (some x0)) else (none)) else (none)) else (some x0)
def nat_cut_own.f (k : Nat) (l0 : List Int) : Option (List Int) := nat_cut_own.l0 k l0


/-! ### slices_Clone_uint32_uint32: function 49 (a text of our own) -/
def slices_Clone_uint32_uint32.f (l0 : List Int) : Option (List Int) := if l0.length < 35184372088832 then some l0 else none

/-! ### nat_Trim: function 40 -/
def nat_Trim.f (k : Nat) (l0 : List Int) : Option (List Int) := (nat_cut.f k l0).bind fun t111 => ((slices_Clone_uint32_uint32.f t111).bind fun t114 => (some t114))

/-! ### whole_Make: function 16 -/
def whole_Make.f (k : Nat) (a0 : Bool) (l1 : List Int) : Option (Bool × List Int) := (nat_Trim.f k l1).bind fun t118 => (if a0 = true then (some (decide ((t118.length : Int) > 0), t118)) else (some (false, t118)))

/-! ### whole_From: function 19 -/
def whole_From.f (k : Nat) (a0 : Int) : Option (Bool × List Int) := if a0 < 0 then ((whole_Make.f k (decide (a0 < 0)) (([(IntKind.u64.wrap (-(IntKind.u64.wrap (a0)))) % 4294967296, ((IntKind.u64.wrap (-(IntKind.u64.wrap (a0)))) / 4294967296) % 4294967296] : List Int))).bind fun bt125 => (some (bt125.1, bt125.2))) else ((whole_Make.f k (decide (a0 < 0)) (([(IntKind.u64.wrap (a0)) % 4294967296, ((IntKind.u64.wrap (a0)) / 4294967296) % 4294967296] : List Int))).bind fun bt132 => (some (bt132.1, bt132.2)))

/-! ### bits_Len32: function 61 -/
def bits_Len32.f (a0 : Int) : Option (Int) := if a0 ≥ 65536 then (if (a0 / 65536) ≥ 256 then (if 0 ≤ (((a0 / 65536) / 256) % 256) then (if (((a0 / 65536) / 256) % 256) < 256 then (some (wrap64 ((16 + 8) + (wrap64 (bt (⟨#[0, 1, 2, 2, 3, 3, 3, 3, 4, 4, 4, 4, 4, 4, 4, 4, 5, 5, 5, 5, 5, 5, 5, 5, 5, 5, 5, 5, 5, 5, 5, 5, 6, 6, 6, 6, 6, 6, 6, 6, 6, 6, 6, 6, 6, 6, 6, 6, 6, 6, 6, 6, 6, 6, 6, 6, 6, 6, 6, 6, 6, 6, 6, 6, 7, 7, 7, 7, 7, 7, 7, 7, 7, 7, 7, 7, 7, 7, 7, 7, 7, 7, 7, 7, 7, 7, 7, 7, 7, 7, 7, 7, 7, 7, 7, 7, 7, 7, 7, 7, 7, 7, 7, 7, 7, 7, 7, 7, 7, 7, 7, 7, 7, 7, 7, 7, 7, 7, 7, 7, 7, 7, 7, 7, 7, 7, 7, 7, 8, 8, 8, 8, 8, 8, 8, 8, 8, 8, 8, 8, 8, 8, 8, 8, 8, 8, 8, 8, 8, 8, 8, 8, 8, 8, 8, 8, 8, 8, 8, 8, 8, 8, 8, 8, 8, 8, 8, 8, 8, 8, 8, 8, 8, 8, 8, 8, 8, 8, 8, 8, 8, 8, 8, 8, 8, 8, 8, 8, 8, 8, 8, 8, 8, 8, 8, 8, 8, 8, 8, 8, 8, 8, 8, 8, 8, 8, 8, 8, 8, 8, 8, 8, 8, 8, 8, 8, 8, 8, 8, 8, 8, 8, 8, 8, 8, 8, 8, 8, 8, 8, 8, 8, 8, 8, 8, 8, 8, 8, 8, 8, 8, 8, 8, 8, 8, 8, 8, 8, 8, 8, 8, 8, 8, 8, 8, 8]⟩ : ByteArray) (((a0 / 65536) / 256) % 256)))))) else (none)) else (none)) else (if 0 ≤ ((a0 / 65536) % 256) then (if ((a0 / 65536) % 256) < 256 then (some (wrap64 (16 + (wrap64 (bt (⟨#[0, 1, 2, 2, 3, 3, 3, 3, 4, 4, 4, 4, 4, 4, 4, 4, 5, 5, 5, 5, 5, 5, 5, 5, 5, 5, 5, 5, 5, 5, 5, 5, 6, 6, 6, 6, 6, 6, 6, 6, 6, 6, 6, 6, 6, 6, 6, 6, 6, 6, 6, 6, 6, 6, 6, 6, 6, 6, 6, 6, 6, 6, 6, 6, 7, 7, 7, 7, 7, 7, 7, 7, 7, 7, 7, 7, 7, 7, 7, 7, 7, 7, 7, 7, 7, 7, 7, 7, 7, 7, 7, 7, 7, 7, 7, 7, 7, 7, 7, 7, 7, 7, 7, 7, 7, 7, 7, 7, 7, 7, 7, 7, 7, 7, 7, 7, 7, 7, 7, 7, 7, 7, 7, 7, 7, 7, 7, 7, 8, 8, 8, 8, 8, 8, 8, 8, 8, 8, 8, 8, 8, 8, 8, 8, 8, 8, 8, 8, 8, 8, 8, 8, 8, 8, 8, 8, 8, 8, 8, 8, 8, 8, 8, 8, 8, 8, 8, 8, 8, 8, 8, 8, 8, 8, 8, 8, 8, 8, 8, 8, 8, 8, 8, 8, 8, 8, 8, 8, 8, 8, 8, 8, 8, 8, 8, 8, 8, 8, 8, 8, 8, 8, 8, 8, 8, 8, 8, 8, 8, 8, 8, 8, 8, 8, 8, 8, 8, 8, 8, 8, 8, 8, 8, 8, 8, 8, 8, 8, 8, 8, 8, 8, 8, 8, 8, 8, 8, 8, 8, 8, 8, 8, 8, 8, 8, 8, 8, 8, 8, 8, 8, 8, 8, 8, 8, 8]⟩ : ByteArray) ((a0 / 65536) % 256)))))) else (none)) else (none))) else (if a0 ≥ 256 then (if 0 ≤ ((a0 / 256) % 256) then (if ((a0 / 256) % 256) < 256 then (some (wrap64 ((0 + 8) + (wrap64 (bt (⟨#[0, 1, 2, 2, 3, 3, 3, 3, 4, 4, 4, 4, 4, 4, 4, 4, 5, 5, 5, 5, 5, 5, 5, 5, 5, 5, 5, 5, 5, 5, 5, 5, 6, 6, 6, 6, 6, 6, 6, 6, 6, 6, 6, 6, 6, 6, 6, 6, 6, 6, 6, 6, 6, 6, 6, 6, 6, 6, 6, 6, 6, 6, 6, 6, 7, 7, 7, 7, 7, 7, 7, 7, 7, 7, 7, 7, 7, 7, 7, 7, 7, 7, 7, 7, 7, 7, 7, 7, 7, 7, 7, 7, 7, 7, 7, 7, 7, 7, 7, 7, 7, 7, 7, 7, 7, 7, 7, 7, 7, 7, 7, 7, 7, 7, 7, 7, 7, 7, 7, 7, 7, 7, 7, 7, 7, 7, 7, 7, 8, 8, 8, 8, 8, 8, 8, 8, 8, 8, 8, 8, 8, 8, 8, 8, 8, 8, 8, 8, 8, 8, 8, 8, 8, 8, 8, 8, 8, 8, 8, 8, 8, 8, 8, 8, 8, 8, 8, 8, 8, 8, 8, 8, 8, 8, 8, 8, 8, 8, 8, 8, 8, 8, 8, 8, 8, 8, 8, 8, 8, 8, 8, 8, 8, 8, 8, 8, 8, 8, 8, 8, 8, 8, 8, 8, 8, 8, 8, 8, 8, 8, 8, 8, 8, 8, 8, 8, 8, 8, 8, 8, 8, 8, 8, 8, 8, 8, 8, 8, 8, 8, 8, 8, 8, 8, 8, 8, 8, 8, 8, 8, 8, 8, 8, 8, 8, 8, 8, 8, 8, 8, 8, 8, 8, 8, 8, 8]⟩ : ByteArray) ((a0 / 256) % 256)))))) else (none)) else (none)) else (if 0 ≤ ((a0) % 256) then (if ((a0) % 256) < 256 then (some (wrap64 (0 + (wrap64 (bt (⟨#[0, 1, 2, 2, 3, 3, 3, 3, 4, 4, 4, 4, 4, 4, 4, 4, 5, 5, 5, 5, 5, 5, 5, 5, 5, 5, 5, 5, 5, 5, 5, 5, 6, 6, 6, 6, 6, 6, 6, 6, 6, 6, 6, 6, 6, 6, 6, 6, 6, 6, 6, 6, 6, 6, 6, 6, 6, 6, 6, 6, 6, 6, 6, 6, 7, 7, 7, 7, 7, 7, 7, 7, 7, 7, 7, 7, 7, 7, 7, 7, 7, 7, 7, 7, 7, 7, 7, 7, 7, 7, 7, 7, 7, 7, 7, 7, 7, 7, 7, 7, 7, 7, 7, 7, 7, 7, 7, 7, 7, 7, 7, 7, 7, 7, 7, 7, 7, 7, 7, 7, 7, 7, 7, 7, 7, 7, 7, 7, 8, 8, 8, 8, 8, 8, 8, 8, 8, 8, 8, 8, 8, 8, 8, 8, 8, 8, 8, 8, 8, 8, 8, 8, 8, 8, 8, 8, 8, 8, 8, 8, 8, 8, 8, 8, 8, 8, 8, 8, 8, 8, 8, 8, 8, 8, 8, 8, 8, 8, 8, 8, 8, 8, 8, 8, 8, 8, 8, 8, 8, 8, 8, 8, 8, 8, 8, 8, 8, 8, 8, 8, 8, 8, 8, 8, 8, 8, 8, 8, 8, 8, 8, 8, 8, 8, 8, 8, 8, 8, 8, 8, 8, 8, 8, 8, 8, 8, 8, 8, 8, 8, 8, 8, 8, 8, 8, 8, 8, 8, 8, 8, 8, 8, 8, 8, 8, 8, 8, 8, 8, 8, 8, 8, 8, 8, 8, 8]⟩ : ByteArray) ((a0) % 256)))))) else (none)) else (none)))

/-! ### nat_Len: function 42 -/
def nat_Len.f (k : Nat) (l0 : List Int) : Option (Int) := (nat_cut.f k l0).bind fun t136 => (if (t136.length : Int) = 0 then (some 0) else (if 0 ≤ (wrap64 ((t136.length : Int) - 1)) then (if (wrap64 ((t136.length : Int) - 1)) < (t136.length : Int) then ((bits_Len32.f (rd t136 (wrap64 ((t136.length : Int) - 1)))).bind fun t140 => (some (wrap64 ((wrap64 (32 * (wrap64 ((t136.length : Int) - 1)))) + t140)))) else (none)) else (none)))

/-! ### whole_Sign: function 24 -/
def whole_Sign.f (k : Nat) (a0_0 : Bool) (l0_1 : List Int) : Option (Int) := (nat_Len.f k l0_1).bind fun t142 => (if t142 = 0 then (some 0) else (if a0_0 = true then (some (-1)) else (some 1)))

/-! ### bits_Add32: function 62 -/
def bits_Add32.f (a0 : Int) (a1 : Int) (a2 : Int) : Option (Int × Int) := some ((IntKind.u64.wrap ((IntKind.u64.wrap ((IntKind.u64.wrap (a0)) + (IntKind.u64.wrap (a1)))) + (IntKind.u64.wrap (a2)))) % 4294967296, ((IntKind.u64.wrap ((IntKind.u64.wrap ((IntKind.u64.wrap (a0)) + (IntKind.u64.wrap (a1)))) + (IntKind.u64.wrap (a2)))) / 4294967296) % 4294967296)

/-! ### nat_Add: function 44 -/
mutual
def nat_Add.l0 : Nat → List Int → List Int → List Int → Int → Int → Int → Option (List Int)
  | 0, _, _, _, _, _, _ => none
  | k + 1, x0, x1, x5, x6, x21, x22 => if x22 < x21 then (if x22 < (x1.length : Int) then (if 0 ≤ x22 then (if x22 < (x0.length : Int) then ((bits_Add32.f (rd x0 x22) (rd x1 x22) x6).bind fun bt148 => (if x22 < (x5.length : Int) then (nat_Add.l0 k x0 x1 (x5.set (x22 : Int).toNat bt148.1) bt148.2 x21 (wrap64 (x22 + 1))) else (none))) else (none)) else (none)) else (if 0 ≤ x22 then (if x22 < (x0.length : Int) then ((bits_Add32.f (rd x0 x22) 0 x6).bind fun bt152 => (if x22 < (x5.length : Int) then (nat_Add.l0 k x0 x1 (x5.set (x22 : Int).toNat bt152.1) bt152.2 x21 (wrap64 (x22 + 1))) else (none))) else (none)) else (none))) else (if 0 ≤ (x0.length : Int) then (if (x0.length : Int) < (x5.length : Int) then ((nat_cut_own.f k (x5.set ((x0.length : Int) : Int).toNat x6)).bind fun t156 => (some t156)) else (none)) else (none))
def nat_Add.l1 : Nat → List Int → List Int → List Int → Int → Int → Int → Option (List Int)
  | 0, _, _, _, _, _, _ => none
  | k + 1, x0, x1, x5, x6, x21, x22 => if x22 < x21 then (if x22 < (x1.length : Int) then (if 0 ≤ x22 then (if x22 < (x0.length : Int) then ((bits_Add32.f (rd x0 x22) (rd x1 x22) x6).bind fun bt164 => (if x22 < (x5.length : Int) then (nat_Add.l1 k x0 x1 (x5.set (x22 : Int).toNat bt164.1) bt164.2 x21 (wrap64 (x22 + 1))) else (none))) else (none)) else (none)) else (if 0 ≤ x22 then (if x22 < (x0.length : Int) then ((bits_Add32.f (rd x0 x22) 0 x6).bind fun bt168 => (if x22 < (x5.length : Int) then (nat_Add.l1 k x0 x1 (x5.set (x22 : Int).toNat bt168.1) bt168.2 x21 (wrap64 (x22 + 1))) else (none))) else (none)) else (none))) else (if 0 ≤ (x0.length : Int) then (if (x0.length : Int) < (x5.length : Int) then ((nat_cut_own.f k (x5.set ((x0.length : Int) : Int).toNat x6)).bind fun t172 => (some t172)) else (none)) else (none))
end
def nat_Add.f (k : Nat) (l0 : List Int) (l1 : List Int) : Option (List Int) := if (l0.length : Int) < (l1.length : Int) then (if 0 ≤ (wrap64 ((l1.length : Int) + 1)) then (if (wrap64 ((l1.length : Int) + 1) : Int).toNat ≤ 70368744177664 then (nat_Add.l0 k l1 l0 (List.replicate (wrap64 ((l1.length : Int) + 1) : Int).toNat 0) 0 (l1.length : Int) 0) else (none)) else (none)) else (if 0 ≤ (wrap64 ((l0.length : Int) + 1)) then (if (wrap64 ((l0.length : Int) + 1) : Int).toNat ≤ 70368744177664 then (nat_Add.l1 k l0 l1 (List.replicate (wrap64 ((l0.length : Int) + 1) : Int).toNat 0) 0 (l0.length : Int) 0) else (none)) else (none))

/-! ### nat_Cmp: function 43 -/
def nat_Cmp.l0 : Nat → List Int → List Int → Int → Int → Option (Int)
  | 0, _, _, _, _ => none
  | k + 1, x0, x1, x24, x25 => if x25 < x24 then (if 0 ≤ (wrap64 ((wrap64 ((x0.length : Int) - 1)) - x25)) then (if (wrap64 ((wrap64 ((x0.length : Int) - 1)) - x25)) < (x0.length : Int) then (if (wrap64 ((wrap64 ((x0.length : Int) - 1)) - x25)) < (x1.length : Int) then (if (rd x0 (wrap64 ((wrap64 ((x0.length : Int) - 1)) - x25))) < (rd x1 (wrap64 ((wrap64 ((x0.length : Int) - 1)) - x25))) then (some (-1)) else (if (rd x0 (wrap64 ((wrap64 ((x0.length : Int) - 1)) - x25))) > (rd x1 (wrap64 ((wrap64 ((x0.length : Int) - 1)) - x25))) then (some 1) else (nat_Cmp.l0 k x0 x1 x24 (wrap64 (x25 + 1))))) else (none)) else (none)) else (none)) else (some 0)
def nat_Cmp.f (k : Nat) (l0 : List Int) (l1 : List Int) : Option (Int) := (nat_cut.f k l0).bind fun t175 => ((nat_cut.f k l1).bind fun t178 => (if (t175.length : Int) < (t178.length : Int) then (some (-1)) else (if (t175.length : Int) > (t178.length : Int) then (some 1) else (nat_Cmp.l0 k t175 t178 (t175.length : Int) 0))))

/-! ### bits_Sub32: function 63 -/
def bits_Sub32.f (a0 : Int) (a1 : Int) (a2 : Int) : Option (Int × Int) := some ((((a0 - a1) % 4294967296) - a2) % 4294967296, (Go.bits .or .u32 (Go.bits .and .u32 (Go.bits .xor .u32 4294967295 a0) a1) (Go.bits .and .u32 (Go.bits .xor .u32 4294967295 (Go.bits .xor .u32 a0 a1)) ((((a0 - a1) % 4294967296) - a2) % 4294967296))) / 2147483648)

/-! ### nat_Sub: function 45 -/
def nat_Sub.l0 : Nat → List Int → List Int → List Int → Int → Int → Int → Option (List Int × Bool)
  | 0, _, _, _, _, _, _ => none
  | k + 1, x0, x1, x6, x7, x22, x23 => if x23 < x22 then (if x23 < (x1.length : Int) then (if 0 ≤ x23 then (if x23 < (x0.length : Int) then ((bits_Sub32.f (rd x0 x23) (rd x1 x23) x7).bind fun bt197 => (if x23 < (x6.length : Int) then (nat_Sub.l0 k x0 x1 (x6.set (x23 : Int).toNat bt197.1) bt197.2 x22 (wrap64 (x23 + 1))) else (none))) else (none)) else (none)) else (if 0 ≤ x23 then (if x23 < (x0.length : Int) then ((bits_Sub32.f (rd x0 x23) 0 x7).bind fun bt201 => (if x23 < (x6.length : Int) then (nat_Sub.l0 k x0 x1 (x6.set (x23 : Int).toNat bt201.1) bt201.2 x22 (wrap64 (x23 + 1))) else (none))) else (none)) else (none))) else ((nat_cut_own.f k x6).bind fun t204 => (some (t204, true)))
def nat_Sub.f (k : Nat) (l0 : List Int) (l1 : List Int) : Option (List Int × Bool) := (nat_cut.f k l0).bind fun t185 => ((nat_cut.f k l1).bind fun t188 => ((nat_Cmp.f k t185 t188).bind fun t191 => (if t191 < 0 then (some (([] : List Int), false)) else (if 0 ≤ (t185.length : Int) then (if ((t185.length : Int) : Int).toNat ≤ 70368744177664 then (nat_Sub.l0 k t185 t188 (List.replicate ((t185.length : Int) : Int).toNat 0) 0 (t185.length : Int) 0) else (none)) else (none)))))

/-! ### whole_Add: function 27 -/
def whole_Add.f (k : Nat) (a0_0 : Bool) (l0_1 : List Int) (a1_0 : Bool) (l1_1 : List Int) : Option (Bool × List Int) := if (a0_0 == a1_0) = true then ((nat_Add.f k l0_1 l1_1).bind fun t210 => ((whole_Make.f k a0_0 t210).bind fun bt213 => (some (bt213.1, bt213.2)))) else ((nat_Sub.f k l0_1 l1_1).bind fun bt217 => (if bt217.2 = true then ((whole_Make.f k a0_0 bt217.1).bind fun bt221 => (some (bt221.1, bt221.2))) else ((nat_Sub.f k l1_1 l0_1).bind fun bt225 => ((whole_Make.f k a1_0 bt225.1).bind fun bt229 => (some (bt229.1, bt229.2))))))
def whole_Add.T2 : Bool × List (List Nat × List Nat) := (true, [([], []), ([0], [0]), ([], []), ([2], [2]), ([], []), ([4], [4]), ([3, 5], [3, 5]), ([1, 6, 6], [1, 6]), ([7, 7, 0, 1, 2, 3, 4, 5, 6, 7], [7])])
def whole_Add.B2 : List Nat := [0, 1, 0, 4, 0, 16, 60, 127, 255]

/-! ### bits_Div32: function 66 -/
def bits_Div32.f (a0 : Int) (a1 : Int) (a2 : Int) : Option (Int × Int) := if a2 = 0 then (if (IntKind.u64.wrap (a2)) = 0 then (none) else (some ((IntKind.u64.wrap (Int.tdiv (Go.bits .or .u64 (IntKind.u64.wrap ((IntKind.u64.wrap (a0)) * 4294967296)) (IntKind.u64.wrap (a1))) (IntKind.u64.wrap (a2)))) % 4294967296, (Int.tmod (Go.bits .or .u64 (IntKind.u64.wrap ((IntKind.u64.wrap (a0)) * 4294967296)) (IntKind.u64.wrap (a1))) (IntKind.u64.wrap (a2))) % 4294967296))) else (if a2 ≤ a0 then (none) else (if (IntKind.u64.wrap (a2)) = 0 then (none) else (some ((IntKind.u64.wrap (Int.tdiv (Go.bits .or .u64 (IntKind.u64.wrap ((IntKind.u64.wrap (a0)) * 4294967296)) (IntKind.u64.wrap (a1))) (IntKind.u64.wrap (a2)))) % 4294967296, (Int.tmod (Go.bits .or .u64 (IntKind.u64.wrap ((IntKind.u64.wrap (a0)) * 4294967296)) (IntKind.u64.wrap (a1))) (IntKind.u64.wrap (a2))) % 4294967296))))

/-! ### nat_short: function 50 -/
def nat_short.l0 : Nat → List Int → Int → List Int → Int → Int → Int → Option (List Int × List Int)
  | 0, _, _, _, _, _, _ => none
  | k + 1, x0, x1, x4, x6, x13, x14 => if x14 < x13 then (if 0 ≤ (wrap64 ((wrap64 ((x0.length : Int) - 1)) - x14)) then (if (wrap64 ((wrap64 ((x0.length : Int) - 1)) - x14)) < (x0.length : Int) then ((bits_Div32.f x6 (rd x0 (wrap64 ((wrap64 ((x0.length : Int) - 1)) - x14))) x1).bind fun bt237 => (if (wrap64 ((wrap64 ((x0.length : Int) - 1)) - x14)) < (x4.length : Int) then (nat_short.l0 k x0 x1 (x4.set ((wrap64 ((wrap64 ((x0.length : Int) - 1)) - x14)) : Int).toNat bt237.1) bt237.2 x13 (wrap64 (x14 + 1))) else (none))) else (none)) else (none)) else ((nat_cut_own.f k x4).bind fun t240 => ((nat_cut_own.f k (([x6] : List Int))).bind fun t246 => (some (t240, t246))))
def nat_short.f (k : Nat) (l0 : List Int) (a1 : Int) : Option (List Int × List Int) := if 0 ≤ (l0.length : Int) then (if ((l0.length : Int) : Int).toNat ≤ 70368744177664 then (nat_short.l0 k l0 a1 (List.replicate ((l0.length : Int) : Int).toNat 0) 0 (l0.length : Int) 0) else (none)) else (none)

/-! ### bits_LeadingZeros32: function 51 -/
def bits_LeadingZeros32.f (a0 : Int) : Option (Int) := (bits_Len32.f a0).bind fun t249 => (some (wrap64 (32 - t249)))

/-! ### nat_Shl: function 52 -/
def nat_Shl.l0 : Nat → Int → Int → List Int → List Int → Int → Int → Option (List Int)
  | 0, _, _, _, _, _, _ => none
  | k + 1, x5, x6, x7, x36, x37, x38 => if x38 < x37 then (if 0 ≤ x38 then (if x38 < (x36.length : Int) then (if 0 ≤ x6 then (if 0 ≤ (wrap64 (x38 + x5)) then (if (wrap64 (x38 + x5)) < (x7.length : Int) then ((some (x7.set ((wrap64 (x38 + x5)) : Int).toNat (Go.bits .or .u32 (rd x7 (wrap64 (x38 + x5))) ((shl .u64 (IntKind.u64.wrap (rd x36 x38)) x6) % 4294967296)) : List Int)).bind fun y261 => (if 0 ≤ (wrap64 ((wrap64 (x38 + x5)) + 1)) then (if (wrap64 ((wrap64 (x38 + x5)) + 1)) < (x7.length : Int) then (nat_Shl.l0 k x5 x6 (y261.set ((wrap64 ((wrap64 (x38 + x5)) + 1)) : Int).toNat (Go.bits .or .u32 (rd y261 (wrap64 ((wrap64 (x38 + x5)) + 1))) (((shl .u64 (IntKind.u64.wrap (rd x36 x38)) x6) / 4294967296) % 4294967296))) x36 x37 (wrap64 (x38 + 1))) else (none)) else (none))) else (none)) else (none)) else (none)) else (none)) else (none)) else ((nat_cut_own.f k x7).bind fun t264 => (some t264))
def nat_Shl.f (k : Nat) (l0 : List Int) (a1 : Int) : Option (List Int) := (nat_cut.f k l0).bind fun t250 => (if a1 < 1 then ((slices_Clone_uint32_uint32.f t250).bind fun t253 => (some t253)) else (if a1 > 16777216 then (some ([] : List Int)) else (if (t250.length : Int) = 0 then (some ([] : List Int)) else (if 0 ≤ (wrap64 ((wrap64 ((t250.length : Int) + (wrap64 (Int.tdiv a1 32)))) + 1)) then (if (wrap64 ((wrap64 ((t250.length : Int) + (wrap64 (Int.tdiv a1 32)))) + 1) : Int).toNat ≤ 70368744177664 then (nat_Shl.l0 k (wrap64 (Int.tdiv a1 32)) (Int.tmod a1 32) (List.replicate (wrap64 ((wrap64 ((t250.length : Int) + (wrap64 (Int.tdiv a1 32)))) + 1) : Int).toNat 0) t250 (t250.length : Int) 0) else (none)) else (none)))))

/-! ### nat_guess: function 53 -/
mutual
def nat_guess.l0 : Nat → Int → Int → Int → Int → Int → Option (Int)
  | 0, _, _, _, _, _ => none
  | k + 1, x2, x3, x4, x12, x13 => if x12 > 4294967295 then (nat_guess.j1 k x2 x3 x4 x12 x13 true) else (nat_guess.j1 k x2 x3 x4 x12 x13 (decide ((IntKind.u64.wrap (x12 * (IntKind.u64.wrap (x4)))) > (Go.bits .or .u64 (IntKind.u64.wrap (x13 * 4294967296)) (IntKind.u64.wrap (x2))))))
def nat_guess.j1 : Nat → Int → Int → Int → Int → Int → Bool → Option (Int)
  | 0, _, _, _, _, _, _ => none
  | k + 1, x2, x3, x4, x12, x13, x41 => if x41 = true then (if (IntKind.u64.wrap (x13 + (IntKind.u64.wrap (x3)))) > 4294967295 then (some ((IntKind.u64.wrap (x12 - 1)) % 4294967296)) else (nat_guess.l0 k x2 x3 x4 (IntKind.u64.wrap (x12 - 1)) (IntKind.u64.wrap (x13 + (IntKind.u64.wrap (x3)))))) else (some ((x12) % 4294967296))
end
def nat_guess.f (k : Nat) (a0 : Int) (a1 : Int) (a2 : Int) (a3 : Int) (a4 : Int) : Option (Int) := if (IntKind.u64.wrap (a3)) = 0 then (none) else (nat_guess.l0 k a2 a3 a4 (IntKind.u64.wrap (Int.tdiv (Go.bits .or .u64 (IntKind.u64.wrap ((IntKind.u64.wrap (a0)) * 4294967296)) (IntKind.u64.wrap (a1))) (IntKind.u64.wrap (a3)))) (Int.tmod (Go.bits .or .u64 (IntKind.u64.wrap ((IntKind.u64.wrap (a0)) * 4294967296)) (IntKind.u64.wrap (a1))) (IntKind.u64.wrap (a3))))

/-! ### nat_less: function 54 -/
def nat_less.l0 : Nat → List Int → List Int → Int → Int → Int → Int → List Int → Int → Int → Option (Bool × List Int)
  | 0, _, _, _, _, _, _, _, _, _ => none
  | k + 1, x0, x1, x2, x3, x9, x10, x14, x15, x16 => if x16 < x15 then (if 0 ≤ x16 then (if x16 < (x14.length : Int) then (if 0 ≤ (wrap64 (x3 + x16)) then (if (wrap64 (x3 + x16)) < (x0.length : Int) then ((bits_Sub32.f (rd x0 (wrap64 (x3 + x16))) ((IntKind.u64.wrap ((IntKind.u64.wrap ((IntKind.u64.wrap (rd x14 x16)) * (IntKind.u64.wrap (x2)))) + x10)) % 4294967296) x9).bind fun bt269 => (nat_less.l0 k (x0.set ((wrap64 (x3 + x16)) : Int).toNat bt269.1) x1 x2 x3 bt269.2 ((IntKind.u64.wrap ((IntKind.u64.wrap ((IntKind.u64.wrap (rd x14 x16)) * (IntKind.u64.wrap (x2)))) + x10)) / 4294967296) x14 x15 (wrap64 (x16 + 1)))) else (none)) else (none)) else (none)) else (none)) else (if 0 ≤ (wrap64 (x3 + (x1.length : Int))) then (if (wrap64 (x3 + (x1.length : Int))) < (x0.length : Int) then ((bits_Sub32.f (rd x0 (wrap64 (x3 + (x1.length : Int)))) ((x10) % 4294967296) x9).bind fun bt273 => (some ((bt273.2 != 0), (x0.set ((wrap64 (x3 + (x1.length : Int))) : Int).toNat bt273.1)))) else (none)) else (none))
def nat_less.f (k : Nat) (l0 : List Int) (l1 : List Int) (a2 : Int) (a3 : Int) : Option (Bool × List Int) := nat_less.l0 k l0 l1 a2 a3 0 0 l1 (l1.length : Int) 0

/-! ### nat_more: function 55 -/
def nat_more.l0 : Nat → List Int → List Int → Int → Int → List Int → Int → Int → Option (List Int)
  | 0, _, _, _, _, _, _, _ => none
  | k + 1, x0, x1, x2, x6, x9, x10, x11 => if x11 < x10 then (if 0 ≤ x11 then (if x11 < (x9.length : Int) then (if 0 ≤ (wrap64 (x2 + x11)) then (if (wrap64 (x2 + x11)) < (x0.length : Int) then ((bits_Add32.f (rd x0 (wrap64 (x2 + x11))) (rd x9 x11) x6).bind fun bt278 => (nat_more.l0 k (x0.set ((wrap64 (x2 + x11)) : Int).toNat bt278.1) x1 x2 bt278.2 x9 x10 (wrap64 (x11 + 1)))) else (none)) else (none)) else (none)) else (none)) else (if 0 ≤ (wrap64 (x2 + (x1.length : Int))) then (if (wrap64 (x2 + (x1.length : Int))) < (x0.length : Int) then (some (x0.set ((wrap64 (x2 + (x1.length : Int))) : Int).toNat (((rd x0 (wrap64 (x2 + (x1.length : Int)))) + x6) % 4294967296))) else (none)) else (none))
def nat_more.f (k : Nat) (l0 : List Int) (l1 : List Int) (a2 : Int) : Option (List Int) := nat_more.l0 k l0 l1 a2 0 l1 (l1.length : Int) 0

/-! ### nat_Shr: function 56 -/
def nat_Shr.l0 : Nat → List Int → Int → Int → List Int → Int → Int → Option (List Int)
  | 0, _, _, _, _, _, _ => none
  | k + 1, x0, x5, x6, x7, x33, x34 => if x34 < x33 then (if 0 ≤ (wrap64 (x34 + x5)) then (if (wrap64 (x34 + x5)) < (x0.length : Int) then (if (wrap64 ((wrap64 (x34 + x5)) + 1)) < (x0.length : Int) then (if 0 ≤ (wrap64 ((wrap64 (x34 + x5)) + 1)) then (if 0 ≤ x6 then (if 0 ≤ x34 then (if x34 < (x7.length : Int) then (nat_Shr.l0 k x0 x5 x6 (x7.set (x34 : Int).toNat ((shr .u64 (Go.bits .or .u64 (IntKind.u64.wrap (rd x0 (wrap64 (x34 + x5)))) (IntKind.u64.wrap ((IntKind.u64.wrap (rd x0 (wrap64 ((wrap64 (x34 + x5)) + 1)))) * 4294967296))) x6) % 4294967296)) x33 (wrap64 (x34 + 1))) else (none)) else (none)) else (none)) else (none)) else (if 0 ≤ x6 then (if 0 ≤ x34 then (if x34 < (x7.length : Int) then (nat_Shr.l0 k x0 x5 x6 (x7.set (x34 : Int).toNat ((shr .u64 (IntKind.u64.wrap (rd x0 (wrap64 (x34 + x5)))) x6) % 4294967296)) x33 (wrap64 (x34 + 1))) else (none)) else (none)) else (none))) else (none)) else (none)) else ((nat_cut_own.f k x7).bind fun t296 => (some t296))
def nat_Shr.f (k : Nat) (l0 : List Int) (a1 : Int) : Option (List Int) := (nat_cut.f k l0).bind fun t283 => (if a1 < 1 then ((slices_Clone_uint32_uint32.f t283).bind fun t286 => (some t286)) else (if a1 ≥ (wrap64 (32 * (t283.length : Int))) then (some ([] : List Int)) else (if 0 ≤ (wrap64 ((t283.length : Int) - (wrap64 (Int.tdiv a1 32)))) then (if (wrap64 ((t283.length : Int) - (wrap64 (Int.tdiv a1 32))) : Int).toNat ≤ 70368744177664 then ((some (List.replicate (wrap64 ((t283.length : Int) - (wrap64 (Int.tdiv a1 32))) : Int).toNat 0 : List Int)).bind fun y289 => (nat_Shr.l0 k t283 (wrap64 (Int.tdiv a1 32)) (Int.tmod a1 32) y289 (y289.length : Int) 0)) else (none)) else (none))))

/-! ### nat_Div: function 35 -/
def nat_Div.l0 : Nat → Int → List Int → List Int → List Int → Int → Int → Option (List Int × List Int × Bool)
  | 0, _, _, _, _, _, _ => none
  | k + 1, x9, x10, x11, x12, x73, x74 => if x74 < x73 then (if 0 ≤ (wrap64 ((wrap64 ((wrap64 ((x12.length : Int) - 1)) - x74)) + (x10.length : Int))) then (if (wrap64 ((wrap64 ((wrap64 ((x12.length : Int) - 1)) - x74)) + (x10.length : Int))) < (x11.length : Int) then (if 0 ≤ (wrap64 ((wrap64 ((wrap64 ((wrap64 ((x12.length : Int) - 1)) - x74)) + (x10.length : Int))) - 1)) then (if (wrap64 ((wrap64 ((wrap64 ((wrap64 ((x12.length : Int) - 1)) - x74)) + (x10.length : Int))) - 1)) < (x11.length : Int) then (if 0 ≤ (wrap64 ((wrap64 ((wrap64 ((wrap64 ((x12.length : Int) - 1)) - x74)) + (x10.length : Int))) - 2)) then (if (wrap64 ((wrap64 ((wrap64 ((wrap64 ((x12.length : Int) - 1)) - x74)) + (x10.length : Int))) - 2)) < (x11.length : Int) then (if 0 ≤ (wrap64 ((x10.length : Int) - 1)) then (if (wrap64 ((x10.length : Int) - 1)) < (x10.length : Int) then (if 0 ≤ (wrap64 ((x10.length : Int) - 2)) then (if (wrap64 ((x10.length : Int) - 2)) < (x10.length : Int) then ((nat_guess.f k (rd x11 (wrap64 ((wrap64 ((wrap64 ((x12.length : Int) - 1)) - x74)) + (x10.length : Int)))) (rd x11 (wrap64 ((wrap64 ((wrap64 ((wrap64 ((x12.length : Int) - 1)) - x74)) + (x10.length : Int))) - 1))) (rd x11 (wrap64 ((wrap64 ((wrap64 ((wrap64 ((x12.length : Int) - 1)) - x74)) + (x10.length : Int))) - 2))) (rd x10 (wrap64 ((x10.length : Int) - 1))) (rd x10 (wrap64 ((x10.length : Int) - 2)))).bind fun t347 => ((nat_less.f k x11 x10 t347 (wrap64 ((wrap64 ((x12.length : Int) - 1)) - x74))).bind fun bt348 => (if bt348.1 = true then ((nat_more.f k bt348.2 x10 (wrap64 ((wrap64 ((x12.length : Int) - 1)) - x74))).bind fun t350 => (if 0 ≤ (wrap64 ((wrap64 ((x12.length : Int) - 1)) - x74)) then (if (wrap64 ((wrap64 ((x12.length : Int) - 1)) - x74)) < (x12.length : Int) then (nat_Div.l0 k x9 x10 t350 (x12.set ((wrap64 ((wrap64 ((x12.length : Int) - 1)) - x74)) : Int).toNat ((t347 - 1) % 4294967296)) x73 (wrap64 (x74 + 1))) else (none)) else (none))) else (if 0 ≤ (wrap64 ((wrap64 ((x12.length : Int) - 1)) - x74)) then (if (wrap64 ((wrap64 ((x12.length : Int) - 1)) - x74)) < (x12.length : Int) then (nat_Div.l0 k x9 x10 bt348.2 (x12.set ((wrap64 ((wrap64 ((x12.length : Int) - 1)) - x74)) : Int).toNat t347) x73 (wrap64 (x74 + 1))) else (none)) else (none))))) else (none)) else (none)) else (none)) else (none)) else (none)) else (none)) else (none)) else (none)) else (none)) else (none)) else ((nat_cut_own.f k x12).bind fun t336 => ((nat_Shr.f k x11 x9).bind fun t339 => (some (t336, t339, true))))
def nat_Div.f (k : Nat) (l0 : List Int) (l1 : List Int) : Option (List Int × List Int × Bool) := (nat_cut.f k l0).bind fun t299 => ((nat_cut.f k l1).bind fun t302 => (if (t302.length : Int) = 0 then (some (([] : List Int), ([] : List Int), false)) else ((nat_Cmp.f k t299 t302).bind fun t305 => (if t305 < 0 then ((slices_Clone_uint32_uint32.f t299).bind fun t306 => (some (([] : List Int), t306, true))) else (if (t302.length : Int) = 1 then (if 0 < (t302.length : Int) then ((nat_short.f k t299 (rd t302 0)).bind fun bt310 => (some (bt310.1, bt310.2, true))) else (none)) else (if 0 ≤ (wrap64 ((t302.length : Int) - 1)) then (if (wrap64 ((t302.length : Int) - 1)) < (t302.length : Int) then ((bits_LeadingZeros32.f (rd t302 (wrap64 ((t302.length : Int) - 1)))).bind fun t317 => ((nat_Shl.f k t302 t317).bind fun t318 => ((nat_Shl.f k t299 t317).bind fun t321 => ((some (([0, 0] : List Int) : List Int)).bind fun y324 => (if t321.length + y324.length < 35184372088832 then ((some (t321 ++ y324 : List Int)).bind fun y327 => (if 0 ≤ (wrap64 ((t299.length : Int) + 1)) then (if (wrap64 ((t299.length : Int) + 1)) ≤ (y327.length : Int) then (if 0 ≤ (wrap64 ((wrap64 ((t299.length : Int) - (t302.length : Int))) + 1)) then (if (wrap64 ((wrap64 ((t299.length : Int) - (t302.length : Int))) + 1) : Int).toNat ≤ 70368744177664 then ((some (List.replicate (wrap64 ((wrap64 ((t299.length : Int) - (t302.length : Int))) + 1) : Int).toNat 0 : List Int)).bind fun y333 => (nat_Div.l0 k t317 t318 (y327.take ((wrap64 ((t299.length : Int) + 1)) : Int).toNat) y333 (y333.length : Int) 0)) else (none)) else (none)) else (none)) else (none))) else (none)))))) else (none)) else (none)))))))

/-! ### whole_Div: function 11 -/
def whole_Div.f (k : Nat) (a0_0 : Bool) (l0_1 : List Int) (a1_0 : Bool) (l1_1 : List Int) : Option (Bool × List Int × Bool × List Int × Bool) := (nat_Div.f k l0_1 l1_1).bind fun bt357 => (if bt357.2.2 = true then ((whole_Make.f k (a0_0 != a1_0) bt357.1).bind fun bt364 => ((whole_Make.f k a0_0 bt357.2.1).bind fun bt368 => ((whole_Sign.f k bt368.1 bt368.2).bind fun t374 => ((whole_Sign.f k a1_0 l1_1).bind fun t375 => (if (wrap64 (t374 * t375)) < 0 then ((whole_From.f k (-1)).bind fun bt376 => ((whole_Add.f k bt364.1 bt364.2 bt376.1 bt376.2).bind fun bt380 => ((whole_Add.f k bt368.1 bt368.2 a1_0 l1_1).bind fun bt384 => (some (bt380.1, bt380.2, bt384.1, bt384.2, true))))) else (some (bt364.1, bt364.2, bt368.1, bt368.2, true))))))) else (some (false, ([] : List Int), false, ([] : List Int), false)))
def whole_Div.T4 : Bool × List (List Nat × List Nat) := (true, [([], []), ([0], [0]), ([], []), ([2], [2]), ([1, 3], [1, 3]), ([], []), ([4, 5], [4, 5]), ([], []), ([7], [7]), ([], []), ([8, 9, 6], [8, 9]), ([], []), ([], []), ([11, 6, 10, 0, 1, 2, 3, 4, 5, 6, 11, 12], [6, 11]), ([12, 10, 13, 0, 1, 2, 3, 4, 5, 6, 7, 8, 9, 10, 11, 12, 13], [10, 12])])
def whole_Div.B4 : List Nat := [0, 1, 0, 4, 15, 0, 63, 0, 128, 0, 1023, 0, 0, 8191, 16383]

/-! ### nat_Mul: function 38 -/
mutual
def nat_Mul.l0 : Nat → List Int → List Int → List Int → Int → Int → Option (List Int)
  | 0, _, _, _, _, _ => none
  | k + 1, x1, x5, x18, x19, x20 => if x20 < x19 then (if 0 ≤ x20 then (if x20 < (x18.length : Int) then (nat_Mul.l1 k x1 x5 x20 (rd x18 x20) 0 x18 x19 x20 x1 (x1.length : Int) 0) else (none)) else (none)) else ((nat_cut_own.f k x5).bind fun t391 => (some t391))
def nat_Mul.l1 : Nat → List Int → List Int → Int → Int → Int → List Int → Int → Int → List Int → Int → Int → Option (List Int)
  | 0, _, _, _, _, _, _, _, _, _, _, _ => none
  | k + 1, x1, x5, x6, x7, x8, x18, x19, x20, x25, x26, x27 => if x27 < x26 then (if 0 ≤ x27 then (if x27 < (x25.length : Int) then (if 0 ≤ (wrap64 (x6 + x27)) then (if (wrap64 (x6 + x27)) < (x5.length : Int) then (nat_Mul.l1 k x1 (x5.set ((wrap64 (x6 + x27)) : Int).toNat ((IntKind.u64.wrap ((IntKind.u64.wrap ((IntKind.u64.wrap ((IntKind.u64.wrap (x7)) * (IntKind.u64.wrap (rd x25 x27)))) + (IntKind.u64.wrap (rd x5 (wrap64 (x6 + x27)))))) + x8)) % 4294967296)) x6 x7 ((IntKind.u64.wrap ((IntKind.u64.wrap ((IntKind.u64.wrap ((IntKind.u64.wrap (x7)) * (IntKind.u64.wrap (rd x25 x27)))) + (IntKind.u64.wrap (rd x5 (wrap64 (x6 + x27)))))) + x8)) / 4294967296) x18 x19 x20 x25 x26 (wrap64 (x27 + 1))) else (none)) else (none)) else (none)) else (none)) else (if 0 ≤ (wrap64 (x6 + (x1.length : Int))) then (if (wrap64 (x6 + (x1.length : Int))) < (x5.length : Int) then (nat_Mul.l0 k x1 (x5.set ((wrap64 (x6 + (x1.length : Int))) : Int).toNat ((x8) % 4294967296)) x18 x19 (wrap64 (x20 + 1))) else (none)) else (none))
end
def nat_Mul.f (k : Nat) (l0 : List Int) (l1 : List Int) : Option (List Int) := if 0 ≤ (wrap64 ((l0.length : Int) + (l1.length : Int))) then (if (wrap64 ((l0.length : Int) + (l1.length : Int)) : Int).toNat ≤ 70368744177664 then (nat_Mul.l0 k l1 (List.replicate (wrap64 ((l0.length : Int) + (l1.length : Int)) : Int).toNat 0) l0 (l0.length : Int) 0) else (none)) else (none)

/-! ### whole_Mul: function 14 -/
def whole_Mul.l0 : Nat → Bool → List Int → List (S24) → Int → Int → Option (Bool × List Int)
  | 0, _, _, _, _, _ => none
  | k + 1, x3, x4, x8, x9, x10 => if x10 < x9 then (if 0 ≤ x10 then (if x10 < (x8.length : Int) then ((nat_Mul.f k x4 ((rd_T24 x8 x10).f1)).bind fun t405 => (whole_Mul.l0 k (x3 != ((rd_T24 x8 x10).f0)) t405 x8 x9 (wrap64 (x10 + 1)))) else (none)) else (none)) else ((whole_Make.f k x3 x4).bind fun bt408 => (some (bt408.1, bt408.2)))
def whole_Mul.f (k : Nat) (l0 : List (S24)) : Option (Bool × List Int) := whole_Mul.l0 k false (([1] : List Int)) l0 (l0.length : Int) 0
def whole_Mul.T5 : Bool × List (List Nat × List Nat) := (true, [([], []), ([], []), ([1], [1]), ([0, 2], [0, 2]), ([], []), ([], []), ([5], [5]), ([4, 6], [4, 6]), ([3, 7, 0, 1, 2, 3], [0, 3]), ([7, 8, 0, 1, 2, 3, 4, 5, 6, 7, 8], [4, 7])])
def whole_Mul.B5 : List Nat := [0, 0, 2, 7, 0, 0, 32, 112, 255, 511]

/-! ### whole_Int: function 17 -/
def whole_Int.l0 : Nat → Int → List Int → Int → Int → Bool → List Int → Option (Int × Bool)
  | 0, _, _, _, _, _, _ => none
  | k + 1, x5, x16, x17, x18, x413000, x413001 => if x18 < x17 then (if 0 ≤ x18 then (if x18 < (x16.length : Int) then (if 0 ≤ (wrap64 (32 * x18)) then (whole_Int.l0 k (Go.bits .or .u64 x5 (shl .u64 (IntKind.u64.wrap (rd x16 x18)) (wrap64 (32 * x18)))) x16 x17 (wrap64 (x18 + 1)) x413000 x413001) else (none)) else (none)) else (none)) else (if x413000 = true then (if (wrap64 (-(wrap64 (x5)))) = 0 then (if x5 = 0 then (some (wrap64 (-(wrap64 (x5))), true)) else (some (0, false))) else (if x5 = 0 then (some (0, false)) else (if (((decide ((wrap64 (-(wrap64 (x5)))) < 0)) == x413000) = true) then (some (wrap64 (-(wrap64 (x5))), true)) else (some (0, false))))) else (if (wrap64 (x5)) = 0 then (if x5 = 0 then (some (wrap64 (x5), true)) else (some (0, false))) else (if x5 = 0 then (some (0, false)) else (if (((decide ((wrap64 (x5)) < 0)) == x413000) = true) then (some (wrap64 (x5), true)) else (some (0, false))))))
def whole_Int.f (k : Nat) (a0_0 : Bool) (l0_1 : List Int) : Option (Int × Bool) := (nat_Trim.f k l0_1).bind fun t413 => (if (t413.length : Int) > 2 then (some (0, false)) else (whole_Int.l0 k 0 t413 (t413.length : Int) 0 a0_0 l0_1))

/-! ### peloruslaw02_awake: function 9 -/
def peloruslaw02_awake.f (k : Nat)  : Option (Bool) := (whole_From.f k (-7)).bind fun bt417 => ((whole_From.f k 2).bind fun bt421 => ((whole_Div.f k bt417.1 bt417.2 bt421.1 bt421.2).bind fun bt425 => ((whole_Int.f k bt425.1 bt425.2.1).bind fun bt436 => ((whole_Int.f k bt425.2.2.1 bt425.2.2.2.1).bind fun bt438 => ((whole_From.f k 2).bind fun bt440 => ((whole_From.f k (-3)).bind fun bt444 => ((whole_From.f k 4).bind fun bt448 => ((whole_Mul.f k (([(⟨bt440.1, bt440.2⟩ : S24), (⟨bt444.1, bt444.2⟩ : S24), (⟨bt448.1, bt448.2⟩ : S24)] : List (S24)))).bind fun bt455 => ((whole_Int.f k bt455.1 bt455.2).bind fun bt459 => (if bt425.2.2.2.2 = true then (if bt436.1 = (-4) then (if bt436.2 = true then (if bt438.1 = 1 then (if bt438.2 = true then (if bt459.1 = (-24) then (some bt459.2) else (some false)) else (some false)) else (some false)) else (some false)) else (some false)) else (some false)))))))))))

/-! ### pelorusref01_Same: function 37 -/
def pelorusref01_Same.l0 : Nat → List Int → List Int → Int → Option (Bool)
  | 0, _, _, _ => none
  | k + 1, x0, x1, x5 => if x5 < (x0.length : Int) then (if 0 ≤ x5 then (if x5 < (x1.length : Int) then (if (rd x0 x5) = (rd x1 x5) then (pelorusref01_Same.l0 k x0 x1 (wrap64 (x5 + 1))) else (some false)) else (none)) else (none)) else (some true)
def pelorusref01_Same.f (k : Nat) (l0 : List Int) (l1 : List Int) : Option (Bool) := if (l0.length : Int) = (l1.length : Int) then (pelorusref01_Same.l0 k l0 l1 0) else (some false)

/-! ### pelorusref02_Alike: function 13 -/
def pelorusref02_Alike.f (k : Nat) (a0_0 : Bool) (l0_1 : List Int) (a1_0 : Bool) (l1_1 : List Int) : Option (Bool) := (pelorusref01_Same.f k l0_1 l1_1).bind fun t465 => (if t465 = true then (some (a0_0 == a1_0)) else (some false))

/-! ### pelorusref01_Trim: function 41 -/
def pelorusref01_Trim.l0 : Nat → List Int → Int → Option (List Int)
  | 0, _, _ => none
  | k + 1, x0, x3 => if x3 > 0 then (if 0 ≤ (wrap64 (x3 - 1)) then (if (wrap64 (x3 - 1)) < (x0.length : Int) then (if (rd x0 (wrap64 (x3 - 1))) = 0 then (pelorusref01_Trim.l0 k x0 (wrap64 (x3 - 1))) else (if 0 ≤ x3 then (if x3 ≤ (x0.length : Int) then (if ([] : List Int).length + (x0.take (x3 : Int).toNat).length < 35184372088832 then (some (([] : List Int) ++ (x0.take (x3 : Int).toNat))) else (none)) else (none)) else (none))) else (none)) else (none)) else (if 0 ≤ x3 then (if x3 ≤ (x0.length : Int) then (if ([] : List Int).length + (x0.take (x3 : Int).toNat).length < 35184372088832 then (some (([] : List Int) ++ (x0.take (x3 : Int).toNat))) else (none)) else (none)) else (none))
def pelorusref01_Trim.f (k : Nat) (l0 : List Int) : Option (List Int) := pelorusref01_Trim.l0 k l0 (l0.length : Int)

/-! ### pelorusref02_Make: function 20 -/
def pelorusref02_Make.f (k : Nat) (a0 : Bool) (l1 : List Int) : Option (Bool × List Int) := (pelorusref01_Trim.f k l1).bind fun t476 => (if a0 = true then (some (decide ((t476.length : Int) > 0), t476)) else (some (false, t476)))

/-! ### pelorusref02_Int: function 18 -/
mutual
def pelorusref02_Int.l0 : Nat → Int → Int → Bool → List Int → Option (Int × Bool)
  | 0, _, _, _, _ => none
  | k + 1, x5, x6, x485000, x485001 => if x6 ≥ 0 then (if 0 ≤ x6 then (if x6 < (x485001.length : Int) then (pelorusref02_Int.l0 k (IntKind.u64.wrap ((IntKind.u64.wrap (x5 * 4294967296)) + (IntKind.u64.wrap (rd x485001 x6)))) (wrap64 (x6 - 1)) x485000 x485001) else (none)) else (none)) else (if x485000 = true then (pelorusref02_Int.j1 k x5 (decide (x5 ≤ 9223372036854775808)) x485000 x485001) else (pelorusref02_Int.j1 k x5 false x485000 x485001))
def pelorusref02_Int.j1 : Nat → Int → Bool → Bool → List Int → Option (Int × Bool)
  | 0, _, _, _, _ => none
  | k + 1, x5, x38, x485000, x485001 => if x38 = true then (if x5 = 0 then (some (0, true)) else (some (wrap64 ((wrap64 (-(wrap64 (IntKind.u64.wrap (x5 - 1))))) - 1), true))) else (if x485000 = true then (some (0, false)) else (if x5 ≥ 9223372036854775808 then (some (0, false)) else (some (wrap64 (x5), true))))
end
def pelorusref02_Int.f (k : Nat) (a0_0 : Bool) (l0_1 : List Int) : Option (Int × Bool) := (pelorusref02_Make.f k a0_0 l0_1).bind fun bt480 => (if (bt480.2.length : Int) > 2 then (some (0, false)) else (pelorusref02_Int.l0 k 0 (wrap64 ((bt480.2.length : Int) - 1)) bt480.1 bt480.2))

/-! ### pelorusref02_From: function 21 -/
def pelorusref02_From.f (k : Nat) (a0 : Int) : Option (Bool × List Int) := if a0 < 0 then ((pelorusref02_Make.f k (decide (a0 < 0)) (([(Int.tmod (IntKind.u64.wrap ((IntKind.u64.wrap (wrap64 (-(wrap64 (a0 + 1))))) + 1)) 4294967296) % 4294967296, (IntKind.u64.wrap (Int.tdiv (IntKind.u64.wrap ((IntKind.u64.wrap (wrap64 (-(wrap64 (a0 + 1))))) + 1)) 4294967296)) % 4294967296] : List Int))).bind fun bt490 => (some (bt490.1, bt490.2))) else ((pelorusref02_Make.f k (decide (a0 < 0)) (([(Int.tmod (IntKind.u64.wrap (a0)) 4294967296) % 4294967296, (IntKind.u64.wrap (Int.tdiv (IntKind.u64.wrap (a0)) 4294967296)) % 4294967296] : List Int))).bind fun bt497 => (some (bt497.1, bt497.2)))

/-! ### whole_May: function 22 -/
def whole_May.f (a0_0 : Bool) (l0_1 : List Int) : Option (Bool) := if (l0_1.length : Int) = 0 then (some (!a0_0)) else (if 0 ≤ (wrap64 ((l0_1.length : Int) - 1)) then (if (wrap64 ((l0_1.length : Int) - 1)) < (l0_1.length : Int) then (some ((rd l0_1 (wrap64 ((l0_1.length : Int) - 1))) != 0)) else (none)) else (none))

/-! ### pelorusref02_May: function 23 -/
def pelorusref02_May.f (a0_0 : Bool) (l0_1 : List Int) : Option (Bool) := if (l0_1.length : Int) = 0 then (if (l0_1.length : Int) > 0 then (some true) else (some (!a0_0))) else (if 0 ≤ (wrap64 ((l0_1.length : Int) - 1)) then (if (wrap64 ((l0_1.length : Int) - 1)) < (l0_1.length : Int) then (if (rd l0_1 (wrap64 ((l0_1.length : Int) - 1))) = 0 then (some false) else (if (l0_1.length : Int) > 0 then (some true) else (some (!a0_0)))) else (none)) else (none))

/-! ### peloruslaw02_WholeMakes: function 4 -/
def peloruslaw02_WholeMakes.j0 : Nat → Bool → List Int → Int → Bool → Bool → Option (Bool)
  | 0, _, _, _, _, _ => none
  | k + 1, x0, x1, x2, x7, x25 => if x25 = true then (some x7) else ((whole_Make.f k x0 x1).bind fun bt506 => ((whole_Int.f k x0 x1).bind fun bt512 => ((pelorusref02_Int.f k x0 x1).bind fun bt514 => ((whole_From.f k x2).bind fun bt516 => ((whole_Int.f k bt516.1 bt516.2).bind fun bt520 => ((pelorusref02_Make.f k x0 x1).bind fun bt522 => ((pelorusref02_Alike.f k bt506.1 bt506.2 bt522.1 bt522.2).bind fun t526 => ((whole_From.f k x2).bind fun bt527 => ((pelorusref02_From.f k x2).bind fun bt531 => ((pelorusref02_Alike.f k bt527.1 bt527.2 bt531.1 bt531.2).bind fun t535 => (if t526 = true then (if t535 = true then (if bt512.1 = bt514.1 then (if (bt512.2 == bt514.2) = true then (if bt520.2 = true then (if bt520.1 = x2 then ((whole_May.f bt506.1 bt506.2).bind fun t536 => (if t536 = true then ((whole_May.f x0 x1).bind fun t537 => ((pelorusref02_May.f x0 x1).bind fun t538 => (some (t537 == t538)))) else (some false))) else (some false)) else (some false)) else (some false)) else (some false)) else (some false)) else (some false))))))))))))
def peloruslaw02_WholeMakes.f (k : Nat) (a0 : Bool) (l1 : List Int) (a2 : Int) : Option (Bool) := (peloruslaw02_awake.f k).bind fun t505 => (if t505 = true then (peloruslaw02_WholeMakes.j0 k a0 l1 a2 t505 (decide ((l1.length : Int) > 40))) else (peloruslaw02_WholeMakes.j0 k a0 l1 a2 t505 true))
def peloruslaw02_WholeMakes.T11 : Bool × List (List Nat × List Nat) := (true, [([], []), ([0], [0]), ([1], [1]), ([1, 2], [1, 2]), ([3, 1], [3]), ([4], [4]), ([4], [4]), ([5, 6, 4], [4, 5, 6]), ([4, 7], [4, 7]), ([8, 4], [8]), ([9], [9]), ([9], [9]), ([10, 11, 9], [9, 10, 11]), ([9, 12], [9, 12]), ([13, 9], [13]), ([14], [14]), ([14, 15], [14, 15]), ([16, 14], [16]), ([17], [17]), ([17], [17]), ([18, 19, 17], [17, 18, 19]), ([17, 20], [17, 20]), ([21, 17], [21]), ([22], [22]), ([23, 22, 22], [22, 23]), ([22, 24], [22, 24]), ([25, 24], [25]), ([26], [26]), ([27, 26, 26], [26, 27]), ([26], [26]), ([29, 28, 26], [26, 29]), ([28, 30, 26], [26, 28, 30]), ([26, 31], [26, 31]), ([32, 30, 0, 1, 2, 3, 4, 5, 6, 7, 8, 9, 10, 11, 12, 13, 14, 15, 16, 17, 18, 19, 20, 21, 22, 23, 24, 25, 26, 27, 28, 29, 30, 31, 32], [32])])
def peloruslaw02_WholeMakes.B11 : List Nat := [0, 1, 3, 7, 15, 31, 31, 127, 255, 511, 1023, 1023, 4095, 8191, 16383, 32767, 65535, 131071, 262143, 262143, 1048575, 2097151, 4194303, 8388607, 16777215, 33554431, 67108863, 134217727, 268435455, 134217727, 1073741823, 2147483647, 4294967295, 8589934591]
def peloruslaw02_WholeMakes.Pure : Prop := ∀ (a0 : Bool) (l1 : List Int) (a2 : Int), (l1.length * 4 ≤ 140737488351232 ∧ l1.length ≤ maxLen ∧ ∀ x ∈ l1, (Lit.int .u32 x).wf = true) → (Lit.int .i64 a2).wf = true → ∃ k, peloruslaw02_WholeMakes.f k a0 l1 a2 = some true ∧ ∀ r, peloruslaw02_awake.f k = some r → r = true

/-! ### peloruslaw02_Few: function 10 -/
def peloruslaw02_Few.f (a0_0 : Bool) (l0_1 : List Int) : Option (Bool) := some (decide ((l0_1.length : Int) ≤ 40))

/-! ### whole_Cmp: function 25 -/
def whole_Cmp.f (k : Nat) (a0_0 : Bool) (l0_1 : List Int) (a1_0 : Bool) (l1_1 : List Int) : Option (Int) := (whole_Sign.f k a0_0 l0_1).bind fun t542 => ((whole_Sign.f k a1_0 l1_1).bind fun t543 => (if t542 < t543 then (some (-1)) else (if t542 > t543 then (some 1) else ((nat_Cmp.f k l0_1 l1_1).bind fun t544 => (some (wrap64 (t542 * t544)))))))

/-! ### whole_Same: function 26 -/
def whole_Same.f (k : Nat) (a0_0 : Bool) (l0_1 : List Int) (a1_0 : Bool) (l1_1 : List Int) : Option (Bool) := (whole_Cmp.f k a0_0 l0_1 a1_0 l1_1).bind fun t547 => (some (t547 == 0))

/-! ### whole_Neg: function 31 -/
def whole_Neg.f (k : Nat) (a0_0 : Bool) (l0_1 : List Int) : Option (Bool × List Int) := (whole_Make.f k (!a0_0) l0_1).bind fun bt550 => (some (bt550.1, bt550.2))

/-! ### whole_Sub: function 28 -/
def whole_Sub.f (k : Nat) (a0_0 : Bool) (l0_1 : List Int) (a1_0 : Bool) (l1_1 : List Int) : Option (Bool × List Int) := (whole_Neg.f k a1_0 l1_1).bind fun bt557 => ((whole_Add.f k a0_0 l0_1 bt557.1 bt557.2).bind fun bt561 => (some (bt561.1, bt561.2)))

/-! ### pelorusref01_at: function 64 -/
def pelorusref01_at.f (l0 : List Int) (a1 : Int) : Option (Int) := if a1 ≥ (l0.length : Int) then (some 0) else (if 0 ≤ a1 then (if a1 < (l0.length : Int) then (some (IntKind.u64.wrap (rd l0 a1))) else (none)) else (none))

/-! ### pelorusref01_Add: function 46 -/
mutual
def pelorusref01_Add.l0 : Nat → List Int → List Int → List Int → Int → Int → Option (List Int)
  | 0, _, _, _, _, _ => none
  | k + 1, x0, x1, x5, x6, x7 => if x7 < (x0.length : Int) then (pelorusref01_Add.j1 k x0 x1 x5 x6 x7 true) else (if x7 < (x1.length : Int) then (pelorusref01_Add.j1 k x0 x1 x5 x6 x7 true) else (pelorusref01_Add.j1 k x0 x1 x5 x6 x7 (decide (x6 > 0))))
def pelorusref01_Add.j1 : Nat → List Int → List Int → List Int → Int → Int → Bool → Option (List Int)
  | 0, _, _, _, _, _, _ => none
  | k + 1, x0, x1, x5, x6, x7, x22 => if x22 = true then ((pelorusref01_at.f x0 x7).bind fun t566 => ((pelorusref01_at.f x1 x7).bind fun t567 => (if x5.length < 35184372088832 then (pelorusref01_Add.l0 k x0 x1 (x5 ++ [(Int.tmod (IntKind.u64.wrap ((IntKind.u64.wrap (t566 + t567)) + x6)) 4294967296) % 4294967296]) (IntKind.u64.wrap (Int.tdiv (IntKind.u64.wrap ((IntKind.u64.wrap (t566 + t567)) + x6)) 4294967296)) (wrap64 (x7 + 1))) else (none)))) else ((pelorusref01_Trim.f k x5).bind fun t571 => (some t571))
end
def pelorusref01_Add.f (k : Nat) (l0 : List Int) (l1 : List Int) : Option (List Int) := pelorusref01_Add.l0 k l0 l1 ([] : List Int) 0 0

/-! ### pelorusref01_Cmp: function 65 -/
def pelorusref01_Cmp.l0 : Nat → List Int → List Int → Int → Option (Int)
  | 0, _, _, _ => none
  | k + 1, x5, x6, x7 => if x7 ≥ 0 then (if 0 ≤ x7 then (if x7 < (x5.length : Int) then (if x7 < (x6.length : Int) then (if (rd x5 x7) < (rd x6 x7) then (some (-1)) else (if (rd x5 x7) > (rd x6 x7) then (some 1) else (pelorusref01_Cmp.l0 k x5 x6 (wrap64 (x7 - 1))))) else (none)) else (none)) else (none)) else (some 0)
def pelorusref01_Cmp.f (k : Nat) (l0 : List Int) (l1 : List Int) : Option (Int) := (pelorusref01_Trim.f k l0).bind fun t574 => ((pelorusref01_Trim.f k l1).bind fun t577 => (if (t574.length : Int) = (t577.length : Int) then (pelorusref01_Cmp.l0 k t574 t577 (wrap64 ((t574.length : Int) - 1))) else (if (t574.length : Int) < (t577.length : Int) then (some (-1)) else (some 1))))

/-! ### pelorusref01_Sub: function 47 -/
def pelorusref01_Sub.l0 : Nat → List Int → List Int → List Int → Int → Int → Option (List Int × Bool)
  | 0, _, _, _, _, _ => none
  | k + 1, x0, x1, x6, x7, x8 => if x8 < (x0.length : Int) then ((pelorusref01_at.f x0 x8).bind fun t585 => ((pelorusref01_at.f x1 x8).bind fun t586 => (if x6.length < 35184372088832 then (pelorusref01_Sub.l0 k x0 x1 (x6 ++ [(Int.tmod (IntKind.u64.wrap ((IntKind.u64.wrap ((IntKind.u64.wrap (4294967296 + t585)) - t586)) - x7)) 4294967296) % 4294967296]) (IntKind.u64.wrap (1 - (IntKind.u64.wrap (Int.tdiv (IntKind.u64.wrap ((IntKind.u64.wrap ((IntKind.u64.wrap (4294967296 + t585)) - t586)) - x7)) 4294967296)))) (wrap64 (x8 + 1))) else (none)))) else ((pelorusref01_Trim.f k x6).bind fun t590 => (some (t590, true)))
def pelorusref01_Sub.f (k : Nat) (l0 : List Int) (l1 : List Int) : Option (List Int × Bool) := (pelorusref01_Cmp.f k l0 l1).bind fun t584 => (if t584 < 0 then (some (([] : List Int), false)) else (pelorusref01_Sub.l0 k l0 l1 ([] : List Int) 0 0))

/-! ### pelorusref02_Add: function 29 -/
def pelorusref02_Add.f (k : Nat) (a0_0 : Bool) (l0_1 : List Int) (a1_0 : Bool) (l1_1 : List Int) : Option (Bool × List Int) := if (a0_0 == a1_0) = true then ((pelorusref01_Add.f k l0_1 l1_1).bind fun t596 => ((pelorusref02_Make.f k a0_0 t596).bind fun bt599 => (some (bt599.1, bt599.2)))) else ((pelorusref01_Sub.f k l0_1 l1_1).bind fun bt603 => (if bt603.2 = true then ((pelorusref02_Make.f k a0_0 bt603.1).bind fun bt607 => (some (bt607.1, bt607.2))) else ((pelorusref01_Sub.f k l1_1 l0_1).bind fun bt611 => ((pelorusref02_Make.f k a1_0 bt611.1).bind fun bt615 => (some (bt615.1, bt615.2))))))
def pelorusref02_Add.T2 : Bool × List (List Nat × List Nat) := (true, [([], []), ([0], [0]), ([], []), ([2], [2]), ([], []), ([4], [4]), ([3, 5], [3, 5]), ([1, 6, 6], [1, 6]), ([7, 7, 0, 1, 2, 3, 4, 5, 6, 7], [7])])
def pelorusref02_Add.B2 : List Nat := [0, 1, 0, 4, 0, 16, 60, 127, 255]

/-! ### pelorusref02_Neg: function 32 -/
def pelorusref02_Neg.f (k : Nat) (a0_0 : Bool) (l0_1 : List Int) : Option (Bool × List Int) := (pelorusref02_Make.f k (!a0_0) l0_1).bind fun bt621 => (some (bt621.1, bt621.2))

/-! ### pelorusref02_Sub: function 30 -/
def pelorusref02_Sub.f (k : Nat) (a0_0 : Bool) (l0_1 : List Int) (a1_0 : Bool) (l1_1 : List Int) : Option (Bool × List Int) := (pelorusref02_Neg.f k a1_0 l1_1).bind fun bt628 => ((pelorusref02_Add.f k a0_0 l0_1 bt628.1 bt628.2).bind fun bt632 => (some (bt632.1, bt632.2)))

/-! ### pelorusref02_Sign: function 34 -/
def pelorusref02_Sign.f (k : Nat) (a0_0 : Bool) (l0_1 : List Int) : Option (Int) := (pelorusref02_Make.f k a0_0 l0_1).bind fun bt637 => (if (bt637.2.length : Int) = 0 then (some 0) else (if bt637.1 = true then (some (-1)) else (some 1)))

/-! ### pelorusref02_Cmp: function 33 -/
def pelorusref02_Cmp.f (k : Nat) (a0_0 : Bool) (l0_1 : List Int) (a1_0 : Bool) (l1_1 : List Int) : Option (Int) := (pelorusref02_Sub.f k a0_0 l0_1 a1_0 l1_1).bind fun bt644 => ((pelorusref02_Sign.f k bt644.1 bt644.2).bind fun t648 => (some t648))

/-! ### peloruslaw02_WholeSums: function 7 -/
def peloruslaw02_WholeSums.j0 : Nat → Bool → Bool → Bool → List Int → Bool → List Int → Option (Bool)
  | 0, _, _, _, _, _, _ => none
  | k + 1, x5, x26, x650000, x650001, x651000, x651001 => if x26 = true then (some x5) else ((whole_Add.f k x650000 x650001 x651000 x651001).bind fun bt654 => ((pelorusref02_Add.f k x650000 x650001 x651000 x651001).bind fun bt658 => ((pelorusref02_Alike.f k bt654.1 bt654.2 bt658.1 bt658.2).bind fun t662 => ((whole_Sub.f k x650000 x650001 x651000 x651001).bind fun bt663 => ((pelorusref02_Sub.f k x650000 x650001 x651000 x651001).bind fun bt667 => ((pelorusref02_Alike.f k bt663.1 bt663.2 bt667.1 bt667.2).bind fun t671 => ((whole_Neg.f k x650000 x650001).bind fun bt672 => ((pelorusref02_Neg.f k x650000 x650001).bind fun bt676 => ((pelorusref02_Alike.f k bt672.1 bt672.2 bt676.1 bt676.2).bind fun t680 => ((pelorusref02_Cmp.f k x650000 x650001 x651000 x651001).bind fun t681 => (if t662 = true then (if t671 = true then (if t680 = true then ((whole_Cmp.f k x650000 x650001 x651000 x651001).bind fun t682 => (if t682 = t681 then ((whole_Same.f k x650000 x650001 x651000 x651001).bind fun t683 => (if (t683 == (t681 == 0)) = true then ((whole_Sign.f k x650000 x650001).bind fun t684 => ((pelorusref02_Sign.f k x650000 x650001).bind fun t685 => (some (t684 == t685)))) else (some false))) else (some false))) else (some false)) else (some false)) else (some false))))))))))))
def peloruslaw02_WholeSums.f (k : Nat) (a0_0 : Bool) (l0_1 : List Int) (a1_0 : Bool) (l1_1 : List Int) : Option (Bool) := (peloruslaw02_awake.f k).bind fun t651 => ((peloruslaw02_Few.f a0_0 l0_1).bind fun t652 => ((peloruslaw02_Few.f a1_0 l1_1).bind fun t653 => (if t651 = true then (if t652 = true then (peloruslaw02_WholeSums.j0 k t651 (!t653) a0_0 l0_1 a1_0 l1_1) else (peloruslaw02_WholeSums.j0 k t651 true a0_0 l0_1 a1_0 l1_1)) else (peloruslaw02_WholeSums.j0 k t651 true a0_0 l0_1 a1_0 l1_1))))
def peloruslaw02_WholeSums.T6 : Bool × List (List Nat × List Nat) := (true, [([], []), ([], []), ([0, 1], [0, 1]), ([], []), ([], []), ([3, 4, 2], [3, 4]), ([2, 5, 5], [2, 5]), ([6, 6, 0, 1, 2, 3, 4, 5, 6], [6])])
def peloruslaw02_WholeSums.B6 : List Nat := [0, 0, 3, 0, 0, 31, 63, 127]
def peloruslaw02_WholeSums.Pure : Prop := ∀ (x0 : S24) (x1 : S24), ok24 x0 → ok24 x1 → ∃ k, peloruslaw02_WholeSums.f k x0.f0 x0.f1 x1.f0 x1.f1 = some true ∧ ∀ r, peloruslaw02_awake.f k = some r → r = true

/-! ### pelorusref01_Len: function 57 -/
def pelorusref01_Len.l0 : Nat → Int → Int → Option (Int)
  | 0, _, _ => none
  | k + 1, x4, x5 => if x5 > 0 then (pelorusref01_Len.l0 k (wrap64 (x4 + 1)) ((Int.tdiv x5 2) % 4294967296)) else (some x4)
def pelorusref01_Len.f (k : Nat) (l0 : List Int) : Option (Int) := (pelorusref01_Trim.f k l0).bind fun t686 => (if (t686.length : Int) = 0 then (some 0) else (if 0 ≤ (wrap64 ((t686.length : Int) - 1)) then (if (wrap64 ((t686.length : Int) - 1)) < (t686.length : Int) then (pelorusref01_Len.l0 k (wrap64 (32 * (wrap64 ((t686.length : Int) - 1)))) (rd t686 (wrap64 ((t686.length : Int) - 1)))) else (none)) else (none)))

/-! ### pelorusref01_bit: function 58 -/
def pelorusref01_bit.f (l0 : List Int) (a1 : Int) : Option (Bool) := (pelorusref01_at.f l0 (wrap64 (Int.tdiv a1 32))).bind fun t690 => (if 0 ≤ (IntKind.u64.wrap (Int.tmod a1 32)) then (some ((Int.tmod (shr .u64 t690 (IntKind.u64.wrap (Int.tmod a1 32))) 2) == 1)) else (none))

/-! ### pelorusref01_set: function 59 -/
def pelorusref01_set.l0 : Nat → Int → List Int → Option (List Int)
  | 0, _, _ => none
  | k + 1, x1, x5 => if (x5.length : Int) ≤ (wrap64 (Int.tdiv x1 32)) then (if x5.length < 35184372088832 then (pelorusref01_set.l0 k x1 (x5 ++ [0])) else (none)) else (if 0 ≤ (wrap64 (Int.tdiv x1 32)) then (if (wrap64 (Int.tdiv x1 32)) < (x5.length : Int) then (if 0 ≤ (IntKind.u64.wrap (Int.tmod x1 32)) then (some (x5.set ((wrap64 (Int.tdiv x1 32)) : Int).toNat (((rd x5 (wrap64 (Int.tdiv x1 32))) + (shl .u32 1 (IntKind.u64.wrap (Int.tmod x1 32)))) % 4294967296))) else (none)) else (none)) else (none))
def pelorusref01_set.f (k : Nat) (l0 : List Int) (a1 : Int) : Option (List Int) := if ([] : List Int).length + l0.length < 35184372088832 then (pelorusref01_set.l0 k a1 (([] : List Int) ++ l0)) else (none)

/-! ### pelorusref01_Div: function 36 -/
mutual
def pelorusref01_Div.l0 : Nat → List Int → List Int → List Int → List Int → Int → Option (List Int × List Int × Bool)
  | 0, _, _, _, _, _ => none
  | k + 1, x0, x7, x8, x9, x10 => if x10 ≥ 0 then ((pelorusref01_Add.f k x9 x9).bind fun t709 => ((pelorusref01_bit.f x0 x10).bind fun t712 => (if t712 = true then ((pelorusref01_Add.f k t709 (([1] : List Int))).bind fun t716 => (pelorusref01_Div.j1 k x0 x7 x8 t716 x10)) else (pelorusref01_Div.j1 k x0 x7 x8 t709 x10)))) else ((pelorusref01_Trim.f k x8).bind fun t703 => ((pelorusref01_Trim.f k x9).bind fun t706 => (some (t703, t706, true))))
def pelorusref01_Div.j1 : Nat → List Int → List Int → List Int → List Int → Int → Option (List Int × List Int × Bool)
  | 0, _, _, _, _, _ => none
  | k + 1, x0, x7, x8, x9, x10 => (pelorusref01_Sub.f k x9 x7).bind fun bt719 => (if bt719.2 = true then ((pelorusref01_set.f k x8 x10).bind fun t723 => (pelorusref01_Div.l0 k x0 x7 t723 bt719.1 (wrap64 (x10 - 1)))) else (pelorusref01_Div.l0 k x0 x7 x8 x9 (wrap64 (x10 - 1))))
end
def pelorusref01_Div.f (k : Nat) (l0 : List Int) (l1 : List Int) : Option (List Int × List Int × Bool) := (pelorusref01_Trim.f k l1).bind fun t699 => (if (t699.length : Int) = 0 then (some (([] : List Int), ([] : List Int), false)) else ((pelorusref01_Len.f k l0).bind fun t702 => (pelorusref01_Div.l0 k l0 t699 ([] : List Int) ([] : List Int) (wrap64 (t702 - 1)))))

/-! ### pelorusref02_Div: function 12 -/
def pelorusref02_Div.f (k : Nat) (a0_0 : Bool) (l0_1 : List Int) (a1_0 : Bool) (l1_1 : List Int) : Option (Bool × List Int × Bool × List Int × Bool) := (pelorusref02_Sign.f k a1_0 l1_1).bind fun t731 => (if t731 = 0 then (some (false, ([] : List Int), false, ([] : List Int), false)) else ((pelorusref01_Div.f k l0_1 l1_1).bind fun bt732 => ((pelorusref02_Make.f k (a0_0 != a1_0) bt732.1).bind fun bt739 => ((pelorusref02_Make.f k a0_0 bt732.2.1).bind fun bt744 => ((pelorusref02_Sign.f k bt744.1 bt744.2).bind fun t749 => (if t749 = (wrap64 (-t731)) then ((pelorusref02_From.f k (-1)).bind fun bt750 => ((pelorusref02_Add.f k bt739.1 bt739.2 bt750.1 bt750.2).bind fun bt754 => ((pelorusref02_Add.f k bt744.1 bt744.2 a1_0 l1_1).bind fun bt758 => (some (bt754.1, bt754.2, bt758.1, bt758.2, true))))) else (some (bt739.1, bt739.2, bt744.1, bt744.2, true))))))))

/-! ### pelorusref01_Mul: function 60 -/
mutual
def pelorusref01_Mul.l0 : Nat → List Int → List Int → List Int → Int → Option (List Int)
  | 0, _, _, _, _ => none
  | k + 1, x0, x1, x5, x6 => if x6 ≥ 0 then ((some (([0] : List Int) : List Int)).bind fun y765 => (if y765.length + x5.length < 35184372088832 then (pelorusref01_Mul.l1 k x0 x1 (y765 ++ x5) x6 ([] : List Int) 0 0) else (none))) else ((pelorusref01_Trim.f k x5).bind fun t762 => (some t762))
def pelorusref01_Mul.l1 : Nat → List Int → List Int → List Int → Int → List Int → Int → Int → Option (List Int)
  | 0, _, _, _, _, _, _, _ => none
  | k + 1, x0, x1, x5, x6, x8, x9, x10 => if x10 < (x0.length : Int) then (if 0 ≤ x10 then (if 0 ≤ x6 then (if x6 < (x1.length : Int) then (if x8.length < 35184372088832 then (pelorusref01_Mul.l1 k x0 x1 x5 x6 (x8 ++ [(Int.tmod (IntKind.u64.wrap ((IntKind.u64.wrap ((IntKind.u64.wrap (rd x0 x10)) * (IntKind.u64.wrap (rd x1 x6)))) + x9)) 4294967296) % 4294967296]) (IntKind.u64.wrap (Int.tdiv (IntKind.u64.wrap ((IntKind.u64.wrap ((IntKind.u64.wrap (rd x0 x10)) * (IntKind.u64.wrap (rd x1 x6)))) + x9)) 4294967296)) (wrap64 (x10 + 1))) else (none)) else (none)) else (none)) else (none)) else (if x8.length < 35184372088832 then ((pelorusref01_Add.f k x5 (x8 ++ [(x9) % 4294967296])).bind fun t779 => (pelorusref01_Mul.l0 k x0 x1 t779 (wrap64 (x6 - 1)))) else (none))
end
def pelorusref01_Mul.f (k : Nat) (l0 : List Int) (l1 : List Int) : Option (List Int) := pelorusref01_Mul.l0 k l0 l1 ([] : List Int) (wrap64 ((l1.length : Int) - 1))

/-! ### pelorusref02_Two: function 39 -/
def pelorusref02_Two.f (k : Nat) (a0_0 : Bool) (l0_1 : List Int) (a1_0 : Bool) (l1_1 : List Int) : Option (Bool × List Int) := (pelorusref01_Mul.f k l0_1 l1_1).bind fun t785 => ((pelorusref02_Make.f k (a0_0 != a1_0) t785).bind fun bt788 => (some (bt788.1, bt788.2)))
def pelorusref02_Two.T1 : Bool × List (List Nat × List Nat) := (true, [([], []), ([0], [0]), ([], []), ([2], [2]), ([1, 3], [1, 3]), ([], []), ([5], [5]), ([], []), ([7], [7]), ([6, 8], [6, 8]), ([4, 9, 9], [4, 9]), ([10, 10, 0, 1, 2, 3, 4, 5, 6, 7, 8, 9, 10], [10])])
def pelorusref02_Two.B1 : List Nat := [0, 1, 0, 4, 15, 0, 32, 0, 128, 480, 1023, 2047]

/-! ### pelorusref02_Mul: function 15 -/
def pelorusref02_Mul.l0 : Nat → List (S24) → Int → Bool → List Int → Option (Bool × List Int)
  | 0, _, _, _, _ => none
  | k + 1, x0, x4, x798000, x798001 => if x4 < (x0.length : Int) then (if 0 ≤ x4 then ((pelorusref02_Two.f k x798000 x798001 ((rd_T24 x0 x4).f0) ((rd_T24 x0 x4).f1)).bind fun bt799 => (pelorusref02_Mul.l0 k x0 (wrap64 (x4 + 1)) bt799.1 bt799.2)) else (none)) else (some (x798000, x798001))
def pelorusref02_Mul.f (k : Nat) (l0 : List (S24)) : Option (Bool × List Int) := (pelorusref02_From.f k 1).bind fun bt793 => (pelorusref02_Mul.l0 k l0 0 bt793.1 bt793.2)

/-! ### peloruslaw02_WholeProducts: function 3 -/
mutual
def peloruslaw02_WholeProducts.j0 : Nat → List (S24) → Bool → Bool → Bool → List Int → Bool → List Int → Option (Bool)
  | 0, _, _, _, _, _, _, _ => none
  | k + 1, x2, x7, x39, x804000, x804001, x805000, x805001 => if x39 = true then (some x7) else (peloruslaw02_WholeProducts.l0 k x2 0 x804000 x804001 x805000 x805001)
def peloruslaw02_WholeProducts.l0 : Nat → List (S24) → Int → Bool → List Int → Bool → List Int → Option (Bool)
  | 0, _, _, _, _, _, _ => none
  | k + 1, x2, x10, x804000, x804001, x805000, x805001 => if x10 < (x2.length : Int) then (if 0 ≤ x10 then (if (((rd_T24 x2 x10).f1).length : Int) > 10 then (some true) else (peloruslaw02_WholeProducts.l0 k x2 (wrap64 (x10 + 1)) x804000 x804001 x805000 x805001)) else (none)) else ((whole_Div.f k x804000 x804001 x805000 x805001).bind fun bt809 => ((pelorusref02_Div.f k x804000 x804001 x805000 x805001).bind fun bt820 => ((pelorusref02_Alike.f k bt809.1 bt809.2.1 bt820.1 bt820.2.1).bind fun t831 => ((pelorusref02_Alike.f k bt809.2.2.1 bt809.2.2.2.1 bt820.2.2.1 bt820.2.2.2.1).bind fun t832 => ((whole_Mul.f k x2).bind fun bt833 => ((pelorusref02_Mul.f k x2).bind fun bt837 => ((pelorusref02_Alike.f k bt833.1 bt833.2 bt837.1 bt837.2).bind fun t841 => (if t831 = true then (if t832 = true then (if t841 = true then (some (bt809.2.2.2.2 == bt820.2.2.2.2)) else (some false)) else (some false)) else (some false)))))))))
end
def peloruslaw02_WholeProducts.f (k : Nat) (a0_0 : Bool) (l0_1 : List Int) (a1_0 : Bool) (l1_1 : List Int) (l2 : List (S24)) : Option (Bool) := (peloruslaw02_awake.f k).bind fun t805 => ((peloruslaw02_Few.f a0_0 l0_1).bind fun t806 => ((peloruslaw02_Few.f a1_0 l1_1).bind fun t807 => (if t805 = true then (if t806 = true then (if t807 = true then (peloruslaw02_WholeProducts.j0 k l2 t805 (decide ((l2.length : Int) > 6)) a0_0 l0_1 a1_0 l1_1) else (peloruslaw02_WholeProducts.j0 k l2 t805 true a0_0 l0_1 a1_0 l1_1)) else (peloruslaw02_WholeProducts.j0 k l2 t805 true a0_0 l0_1 a1_0 l1_1)) else (peloruslaw02_WholeProducts.j0 k l2 t805 true a0_0 l0_1 a1_0 l1_1))))
def peloruslaw02_WholeProducts.Pure : Prop := ∀ (x0 : S24) (x1 : S24) (l2 : List (S24)), ok24 x0 → ok24 x1 → (l2.length * 32 ≤ 140737488351232 ∧ l2.length ≤ maxLen ∧ ∀ x ∈ l2, ok24 x) → ∃ k, peloruslaw02_WholeProducts.f k x0.f0 x0.f1 x1.f0 x1.f1 l2 = some true ∧ ∀ r, peloruslaw02_awake.f k = some r → r = true

/-! ### peloruslaw02_WholeOrder: function 6 -/
def peloruslaw02_WholeOrder.j0 : Nat → Bool → Bool → Bool → List Int → Bool → List Int → Bool → List Int → Option (Bool)
  | 0, _, _, _, _, _, _, _, _ => none
  | k + 1, x7, x30, x843000, x843001, x844000, x844001, x845000, x845001 => if x30 = true then (some x7) else ((whole_Cmp.f k x843000 x843001 x844000 x844001).bind fun t846 => ((whole_Sign.f k x845000 x845001).bind fun t847 => ((whole_Sub.f k x843000 x843001 x844000 x844001).bind fun bt848 => ((whole_Sign.f k bt848.1 bt848.2).bind fun t852 => (if t852 = t846 then ((whole_Add.f k x843000 x843001 x845000 x845001).bind fun bt853 => ((whole_Add.f k x844000 x844001 x845000 x845001).bind fun bt857 => ((whole_Cmp.f k bt853.1 bt853.2 bt857.1 bt857.2).bind fun t861 => (if t861 = t846 then ((whole_Mul.f k (([(⟨x843000, x843001⟩ : S24), (⟨x845000, x845001⟩ : S24)] : List (S24)))).bind fun bt865 => ((whole_Mul.f k (([(⟨x844000, x844001⟩ : S24), (⟨x845000, x845001⟩ : S24)] : List (S24)))).bind fun bt872 => ((whole_Cmp.f k bt865.1 bt865.2 bt872.1 bt872.2).bind fun t876 => (if t876 = (wrap64 (t846 * t847)) then ((whole_Cmp.f k x844000 x844001 x843000 x843001).bind fun t877 => (some (t877 == (wrap64 (-t846))))) else (some false))))) else (some false))))) else (some false))))))
def peloruslaw02_WholeOrder.f (k : Nat) (a0_0 : Bool) (l0_1 : List Int) (a1_0 : Bool) (l1_1 : List Int) (a2_0 : Bool) (l2_1 : List Int) : Option (Bool) := (peloruslaw02_awake.f k).bind fun t845 => (if t845 = true then (if (l0_1.length : Int) > 15 then (peloruslaw02_WholeOrder.j0 k t845 true a0_0 l0_1 a1_0 l1_1 a2_0 l2_1) else (if (l1_1.length : Int) > 15 then (peloruslaw02_WholeOrder.j0 k t845 true a0_0 l0_1 a1_0 l1_1 a2_0 l2_1) else (peloruslaw02_WholeOrder.j0 k t845 (decide ((l2_1.length : Int) > 15)) a0_0 l0_1 a1_0 l1_1 a2_0 l2_1))) else (peloruslaw02_WholeOrder.j0 k t845 true a0_0 l0_1 a1_0 l1_1 a2_0 l2_1))
def peloruslaw02_WholeOrder.T6 : Bool × List (List Nat × List Nat) := (true, [([], []), ([], []), ([0, 1], [0, 1]), ([2, 2], [2]), ([], []), ([3, 4], [3, 4]), ([5, 3], [5]), ([6], [6]), ([6], [6]), ([7, 8, 6, 6], [6, 7, 8]), ([6], [6]), ([6], [6]), ([10, 11, 9, 6], [6, 10, 11]), ([9, 12, 12, 6], [6, 9, 12]), ([6], [6]), ([13, 14, 6], [6, 13, 14]), ([6, 15], [6, 15]), ([16, 13], [16]), ([17], [17]), ([17], [17]), ([18, 19, 17], [17, 18, 19]), ([20, 17, 17], [17, 20]), ([17], [17]), ([17], [17]), ([22, 23, 17], [17, 22, 23]), ([24, 21, 17], [17, 24]), ([21, 25, 25, 17], [17, 21, 25]), ([17], [17]), ([17], [17]), ([27, 28, 17], [17, 27, 28]), ([26, 29, 17], [17, 26, 29]), ([17, 30], [17, 30]), ([31, 26], [31]), ([32], [32]), ([32], [32]), ([33, 34, 32, 32], [32, 33, 34]), ([32], [32]), ([36, 32], [32, 36]), ([35, 37, 32], [32, 35, 37]), ([32, 38], [32, 38]), ([39, 35, 0, 1, 2, 3, 4, 5, 6, 7, 8, 9, 10, 11, 12, 13, 14, 15, 16, 17, 18, 19, 20, 21, 22, 23, 24, 25, 26, 27, 28, 29, 30, 31, 32, 33, 34, 35, 36, 37, 38, 39], [39])])
def peloruslaw02_WholeOrder.B6 : List Nat := [0, 0, 3, 7, 0, 31, 63, 127, 127, 511, 127, 127, 4095, 8191, 127, 32767, 65535, 131071, 262143, 262143, 1048575, 2097151, 262143, 262143, 12845055, 33554431, 67108863, 262143, 262143, 402915327, 1073741823, 2147483647, 4294967295, 8589934591, 8589934591, 34359738367, 8589934591, 77309411327, 274877906943, 549755813887, 1099511627775]
def peloruslaw02_WholeOrder.Pure : Prop := ∀ (x0 : S24) (x1 : S24) (x2 : S24), ok24 x0 → ok24 x1 → ok24 x2 → ∃ k, peloruslaw02_WholeOrder.f k x0.f0 x0.f1 x1.f0 x1.f1 x2.f0 x2.f1 = some true ∧ ∀ r, peloruslaw02_awake.f k = some r → r = true

/-! ### peloruslaw02_WholeBack: function 5 -/
def peloruslaw02_WholeBack.j0 : Nat → Bool → Bool → Bool → List Int → Bool → List Int → Option (Bool)
  | 0, _, _, _, _, _, _ => none
  | k + 1, x5, x27, x879000, x879001, x880000, x880001 => if x27 = true then (some x5) else ((whole_Div.f k x879000 x879001 x880000 x880001).bind fun bt883 => (if bt883.2.2.2.2 = true then ((whole_Sign.f k bt883.2.2.1 bt883.2.2.2.1).bind fun t897 => ((whole_Cmp.f k bt883.2.2.1 bt883.2.2.2.1 x880000 x880001).bind fun t898 => ((whole_Mul.f k (([(⟨bt883.1, bt883.2.1⟩ : S24), (⟨x880000, x880001⟩ : S24)] : List (S24)))).bind fun bt902 => ((whole_Add.f k bt902.1 bt902.2 bt883.2.2.1 bt883.2.2.2.1).bind fun bt906 => ((whole_Same.f k bt906.1 bt906.2 x879000 x879001).bind fun t910 => (if t910 = true then (if t897 = 0 then (some true) else ((whole_Sign.f k x880000 x880001).bind fun t911 => (if t897 = t911 then (some (t898 == (wrap64 (-t897)))) else (some false)))) else (some false))))))) else ((whole_Sign.f k x880000 x880001).bind fun t894 => (if t894 = 0 then ((whole_Sign.f k bt883.1 bt883.2.1).bind fun t895 => (if t895 = 0 then ((whole_Sign.f k bt883.2.2.1 bt883.2.2.2.1).bind fun t896 => (some (t896 == 0))) else (some false))) else (some false)))))
def peloruslaw02_WholeBack.f (k : Nat) (a0_0 : Bool) (l0_1 : List Int) (a1_0 : Bool) (l1_1 : List Int) : Option (Bool) := (peloruslaw02_awake.f k).bind fun t880 => ((peloruslaw02_Few.f a0_0 l0_1).bind fun t881 => ((peloruslaw02_Few.f a1_0 l1_1).bind fun t882 => (if t880 = true then (if t881 = true then (peloruslaw02_WholeBack.j0 k t880 (!t882) a0_0 l0_1 a1_0 l1_1) else (peloruslaw02_WholeBack.j0 k t880 true a0_0 l0_1 a1_0 l1_1)) else (peloruslaw02_WholeBack.j0 k t880 true a0_0 l0_1 a1_0 l1_1))))
def peloruslaw02_WholeBack.T11 : Bool × List (List Nat × List Nat) := (true, [([], []), ([], []), ([0, 1], [0, 1]), ([2], [2]), ([], []), ([3, 4, 3], [3, 4]), ([], []), ([5, 6, 5], [5, 6]), ([7, 7], [7]), ([8], [8]), ([9, 8], [8, 9]), ([10, 8, 8], [8, 10]), ([11], [11]), ([11], [11]), ([13, 11, 11], [11, 13]), ([12, 14, 11], [11, 12, 14]), ([11, 15, 8], [8, 11, 15]), ([8, 16], [8, 16]), ([17, 14], [17]), ([18], [18]), ([19, 18], [18, 19]), ([20, 18, 18], [18, 20]), ([21], [21]), ([21], [21]), ([23, 21], [21, 23]), ([22, 24, 21], [21, 22, 24]), ([21, 25, 18], [18, 21, 25]), ([18, 26], [18, 26]), ([27, 21, 0, 1, 2, 3, 4, 5, 6, 7, 8, 9, 10, 11, 12, 13, 14, 15, 16, 17, 18, 19, 20, 21, 22, 23, 24, 25, 26, 27], [27])])
def peloruslaw02_WholeBack.B11 : List Nat := [0, 0, 3, 7, 0, 31, 0, 127, 255, 511, 1023, 2047, 4095, 4095, 12287, 32767, 65535, 131071, 262143, 524287, 1048575, 2097151, 4194303, 4194303, 12582911, 33554431, 67108863, 134217727, 268435455]
def peloruslaw02_WholeBack.Pure : Prop := ∀ (x0 : S24) (x1 : S24), ok24 x0 → ok24 x1 → ∃ k, peloruslaw02_WholeBack.f k x0.f0 x0.f1 x1.f0 x1.f1 = some true ∧ ∀ r, peloruslaw02_awake.f k = some r → r = true

-- NOT PRINTED: function 8 (peloruslaw02_WholeRing)

end Go.Proofs.Ytbejmpocgnldnaa.PZ
