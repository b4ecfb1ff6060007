-- Laid by this work's own program; Lean checks it.
import Derived.Test.YtdaoijgnolhnoaaPNx0
namespace Go.Proofs.Ytdaoijgnolhnoaa.PN
open Go.RowKit Go.Proofs.YtdaoijgnolhnoaaW.PrintWords Go.Proofs.YtdaoijgnolhnoaaW.PrintLast Go.Proofs.YtdaoijgnolhnoaaW.PrintMore
attribute [local go_sem] max2_int min2_int max_two min_two max_three min_three max_four min_four   -- for this text's walks alone
set_option linter.unusedVariables false
set_option linter.unusedSimpArgs false

/-! ### nat_cut: function 35 -/
def nat_cut.l0 : Nat → List Int → Option (List Int)
  | 0, _ => none
  | k + 1, x0 => if (x0.length : Int) > 0 then (if 0 ≤ (wrap64 ((x0.length : Int) - 1)) then (if (wrap64 ((x0.length : Int) - 1)) < (x0.length : Int) then (if (rd x0 (wrap64 ((x0.length : Int) - 1))) = 0 then (if (wrap64 ((x0.length : Int) - 1)) ≤ (x0.length : Int) then (nat_cut.l0 k (x0.take ((wrap64 ((x0.length : Int) - 1)) : Int).toNat)) else (none)) else (some x0)) else (none)) else (none)) else (some x0)
def nat_cut.f (k : Nat) (l0 : List Int) : Option (List Int) := nat_cut.l0 k l0

/-! ### nat_cut_own: function 35 -/
def nat_cut_own.l0 : Nat → List Int → Option (List Int)
  | 0, _ => none
  | k + 1, x0 => if (x0.length : Int) > 0 then (if 0 ≤ (wrap64 ((x0.length : Int) - 1)) then (if (wrap64 ((x0.length : Int) - 1)) < (x0.length : Int) then (if (rd x0 (wrap64 ((x0.length : Int) - 1))) = 0 then (if (wrap64 ((x0.length : Int) - 1)) ≤ (x0.length : Int) then (nat_cut_own.l0 k (x0.take ((wrap64 ((x0.length : Int) - 1)) : Int).toNat)) else (none)) else (some x0)) else (none)) else (none)) else (some x0)
def nat_cut_own.f (k : Nat) (l0 : List Int) : Option (List Int) := nat_cut_own.l0 k l0


/-! ### slices_Clone_uint32_uint32: function 36 (a text of our own) -/
def slices_Clone_uint32_uint32.f (l0 : List Int) : Option (List Int) := if l0.length < 35184372088832 then some l0 else none

/-! ### nat_Shl: function 17 -/
def nat_Shl.l0 : Nat → Int → Int → List Int → List Int → Int → Int → Option (List Int)
  | 0, _, _, _, _, _, _ => none
  | k + 1, x5, x6, x7, x36, x37, x38 => if x38 < x37 then (if 0 ≤ x38 then (if x38 < (x36.length : Int) then (if 0 ≤ x6 then (if 0 ≤ (wrap64 (x38 + x5)) then (if (wrap64 (x38 + x5)) < (x7.length : Int) then ((some (x7.set ((wrap64 (x38 + x5)) : Int).toNat (Go.bits .or .u32 (rd x7 (wrap64 (x38 + x5))) ((shl .u64 (IntKind.u64.wrap (rd x36 x38)) x6) % 4294967296)) : List Int)).bind fun y122 => (if 0 ≤ (wrap64 ((wrap64 (x38 + x5)) + 1)) then (if (wrap64 ((wrap64 (x38 + x5)) + 1)) < (x7.length : Int) then (nat_Shl.l0 k x5 x6 (y122.set ((wrap64 ((wrap64 (x38 + x5)) + 1)) : Int).toNat (Go.bits .or .u32 (rd y122 (wrap64 ((wrap64 (x38 + x5)) + 1))) (((shl .u64 (IntKind.u64.wrap (rd x36 x38)) x6) / 4294967296) % 4294967296))) x36 x37 (wrap64 (x38 + 1))) else (none)) else (none))) else (none)) else (none)) else (none)) else (none)) else (none)) else ((nat_cut_own.f k x7).bind fun t125 => (some t125))
def nat_Shl.f (k : Nat) (l0 : List Int) (a1 : Int) : Option (List Int) := (nat_cut.f k l0).bind fun t111 => (if a1 < 1 then ((slices_Clone_uint32_uint32.f t111).bind fun t114 => (some t114)) else (if a1 > 16777216 then (some ([] : List Int)) else (if (t111.length : Int) = 0 then (some ([] : List Int)) else (if 0 ≤ (wrap64 ((wrap64 ((t111.length : Int) + (wrap64 (Int.tdiv a1 32)))) + 1)) then (if (wrap64 ((wrap64 ((t111.length : Int) + (wrap64 (Int.tdiv a1 32)))) + 1) : Int).toNat ≤ 70368744177664 then (nat_Shl.l0 k (wrap64 (Int.tdiv a1 32)) (Int.tmod a1 32) (List.replicate (wrap64 ((wrap64 ((t111.length : Int) + (wrap64 (Int.tdiv a1 32)))) + 1) : Int).toNat 0) t111 (t111.length : Int) 0) else (none)) else (none)))))

/-! ### nat_Shr: function 19 -/
def nat_Shr.l0 : Nat → List Int → Int → Int → List Int → Int → Int → Option (List Int)
  | 0, _, _, _, _, _, _ => none
  | k + 1, x0, x5, x6, x7, x33, x34 => if x34 < x33 then (if 0 ≤ (wrap64 (x34 + x5)) then (if (wrap64 (x34 + x5)) < (x0.length : Int) then (if (wrap64 ((wrap64 (x34 + x5)) + 1)) < (x0.length : Int) then (if 0 ≤ (wrap64 ((wrap64 (x34 + x5)) + 1)) then (if 0 ≤ x6 then (if 0 ≤ x34 then (if x34 < (x7.length : Int) then (nat_Shr.l0 k x0 x5 x6 (x7.set (x34 : Int).toNat ((shr .u64 (Go.bits .or .u64 (IntKind.u64.wrap (rd x0 (wrap64 (x34 + x5)))) (IntKind.u64.wrap ((IntKind.u64.wrap (rd x0 (wrap64 ((wrap64 (x34 + x5)) + 1)))) * 4294967296))) x6) % 4294967296)) x33 (wrap64 (x34 + 1))) else (none)) else (none)) else (none)) else (none)) else (if 0 ≤ x6 then (if 0 ≤ x34 then (if x34 < (x7.length : Int) then (nat_Shr.l0 k x0 x5 x6 (x7.set (x34 : Int).toNat ((shr .u64 (IntKind.u64.wrap (rd x0 (wrap64 (x34 + x5)))) x6) % 4294967296)) x33 (wrap64 (x34 + 1))) else (none)) else (none)) else (none))) else (none)) else (none)) else ((nat_cut_own.f k x7).bind fun t141 => (some t141))
def nat_Shr.f (k : Nat) (l0 : List Int) (a1 : Int) : Option (List Int) := (nat_cut.f k l0).bind fun t128 => (if a1 < 1 then ((slices_Clone_uint32_uint32.f t128).bind fun t131 => (some t131)) else (if a1 ≥ (wrap64 (32 * (t128.length : Int))) then (some ([] : List Int)) else (if 0 ≤ (wrap64 ((t128.length : Int) - (wrap64 (Int.tdiv a1 32)))) then (if (wrap64 ((t128.length : Int) - (wrap64 (Int.tdiv a1 32))) : Int).toNat ≤ 70368744177664 then ((some (List.replicate (wrap64 ((t128.length : Int) - (wrap64 (Int.tdiv a1 32))) : Int).toNat 0 : List Int)).bind fun y134 => (nat_Shr.l0 k t128 (wrap64 (Int.tdiv a1 32)) (Int.tmod a1 32) y134 (y134.length : Int) 0)) else (none)) else (none))))

/-! ### nat_Cmp: function 24 -/
def nat_Cmp.l0 : Nat → List Int → List Int → Int → Int → Option (Int)
  | 0, _, _, _, _ => none
  | k + 1, x0, x1, x24, x25 => if x25 < x24 then (if 0 ≤ (wrap64 ((wrap64 ((x0.length : Int) - 1)) - x25)) then (if (wrap64 ((wrap64 ((x0.length : Int) - 1)) - x25)) < (x0.length : Int) then (if (wrap64 ((wrap64 ((x0.length : Int) - 1)) - x25)) < (x1.length : Int) then (if (rd x0 (wrap64 ((wrap64 ((x0.length : Int) - 1)) - x25))) < (rd x1 (wrap64 ((wrap64 ((x0.length : Int) - 1)) - x25))) then (some (-1)) else (if (rd x0 (wrap64 ((wrap64 ((x0.length : Int) - 1)) - x25))) > (rd x1 (wrap64 ((wrap64 ((x0.length : Int) - 1)) - x25))) then (some 1) else (nat_Cmp.l0 k x0 x1 x24 (wrap64 (x25 + 1))))) else (none)) else (none)) else (none)) else (some 0)
def nat_Cmp.f (k : Nat) (l0 : List Int) (l1 : List Int) : Option (Int) := (nat_cut.f k l0).bind fun t144 => ((nat_cut.f k l1).bind fun t147 => (if (t144.length : Int) < (t147.length : Int) then (some (-1)) else (if (t144.length : Int) > (t147.length : Int) then (some 1) else (nat_Cmp.l0 k t144 t147 (t144.length : Int) 0))))

/-! ### bits_Div32: function 48 -/
def bits_Div32.f (a0 : Int) (a1 : Int) (a2 : Int) : Option (Int × Int) := if a2 = 0 then (if (IntKind.u64.wrap (a2)) = 0 then (none) else (some ((IntKind.u64.wrap (Int.tdiv (Go.bits .or .u64 (IntKind.u64.wrap ((IntKind.u64.wrap (a0)) * 4294967296)) (IntKind.u64.wrap (a1))) (IntKind.u64.wrap (a2)))) % 4294967296, (Int.tmod (Go.bits .or .u64 (IntKind.u64.wrap ((IntKind.u64.wrap (a0)) * 4294967296)) (IntKind.u64.wrap (a1))) (IntKind.u64.wrap (a2))) % 4294967296))) else (if a2 ≤ a0 then (none) else (if (IntKind.u64.wrap (a2)) = 0 then (none) else (some ((IntKind.u64.wrap (Int.tdiv (Go.bits .or .u64 (IntKind.u64.wrap ((IntKind.u64.wrap (a0)) * 4294967296)) (IntKind.u64.wrap (a1))) (IntKind.u64.wrap (a2)))) % 4294967296, (Int.tmod (Go.bits .or .u64 (IntKind.u64.wrap ((IntKind.u64.wrap (a0)) * 4294967296)) (IntKind.u64.wrap (a1))) (IntKind.u64.wrap (a2))) % 4294967296))))

/-! ### nat_short: function 37 -/
def nat_short.l0 : Nat → List Int → Int → List Int → Int → Int → Int → Option (List Int × List Int)
  | 0, _, _, _, _, _, _ => none
  | k + 1, x0, x1, x4, x6, x13, x14 => if x14 < x13 then (if 0 ≤ (wrap64 ((wrap64 ((x0.length : Int) - 1)) - x14)) then (if (wrap64 ((wrap64 ((x0.length : Int) - 1)) - x14)) < (x0.length : Int) then ((bits_Div32.f x6 (rd x0 (wrap64 ((wrap64 ((x0.length : Int) - 1)) - x14))) x1).bind fun bt158 => (if (wrap64 ((wrap64 ((x0.length : Int) - 1)) - x14)) < (x4.length : Int) then (nat_short.l0 k x0 x1 (x4.set ((wrap64 ((wrap64 ((x0.length : Int) - 1)) - x14)) : Int).toNat bt158.1) bt158.2 x13 (wrap64 (x14 + 1))) else (none))) else (none)) else (none)) else ((nat_cut_own.f k x4).bind fun t161 => ((nat_cut_own.f k (([x6] : List Int))).bind fun t167 => (some (t161, t167))))
def nat_short.f (k : Nat) (l0 : List Int) (a1 : Int) : Option (List Int × List Int) := if 0 ≤ (l0.length : Int) then (if ((l0.length : Int) : Int).toNat ≤ 70368744177664 then (nat_short.l0 k l0 a1 (List.replicate ((l0.length : Int) : Int).toNat 0) 0 (l0.length : Int) 0) else (none)) else (none)

/-! ### bits_Len32: function 44 -/
def bits_Len32.f (a0 : Int) : Option (Int) := if a0 ≥ 65536 then (if (a0 / 65536) ≥ 256 then (if 0 ≤ (((a0 / 65536) / 256) % 256) then (if (((a0 / 65536) / 256) % 256) < 256 then (some (wrap64 ((16 + 8) + (wrap64 (bt (⟨#[0, 1, 2, 2, 3, 3, 3, 3, 4, 4, 4, 4, 4, 4, 4, 4, 5, 5, 5, 5, 5, 5, 5, 5, 5, 5, 5, 5, 5, 5, 5, 5, 6, 6, 6, 6, 6, 6, 6, 6, 6, 6, 6, 6, 6, 6, 6, 6, 6, 6, 6, 6, 6, 6, 6, 6, 6, 6, 6, 6, 6, 6, 6, 6, 7, 7, 7, 7, 7, 7, 7, 7, 7, 7, 7, 7, 7, 7, 7, 7, 7, 7, 7, 7, 7, 7, 7, 7, 7, 7, 7, 7, 7, 7, 7, 7, 7, 7, 7, 7, 7, 7, 7, 7, 7, 7, 7, 7, 7, 7, 7, 7, 7, 7, 7, 7, 7, 7, 7, 7, 7, 7, 7, 7, 7, 7, 7, 7, 8, 8, 8, 8, 8, 8, 8, 8, 8, 8, 8, 8, 8, 8, 8, 8, 8, 8, 8, 8, 8, 8, 8, 8, 8, 8, 8, 8, 8, 8, 8, 8, 8, 8, 8, 8, 8, 8, 8, 8, 8, 8, 8, 8, 8, 8, 8, 8, 8, 8, 8, 8, 8, 8, 8, 8, 8, 8, 8, 8, 8, 8, 8, 8, 8, 8, 8, 8, 8, 8, 8, 8, 8, 8, 8, 8, 8, 8, 8, 8, 8, 8, 8, 8, 8, 8, 8, 8, 8, 8, 8, 8, 8, 8, 8, 8, 8, 8, 8, 8, 8, 8, 8, 8, 8, 8, 8, 8, 8, 8, 8, 8, 8, 8, 8, 8, 8, 8, 8, 8, 8, 8, 8, 8, 8, 8, 8, 8]⟩ : ByteArray) (((a0 / 65536) / 256) % 256)))))) else (none)) else (none)) else (if 0 ≤ ((a0 / 65536) % 256) then (if ((a0 / 65536) % 256) < 256 then (some (wrap64 (16 + (wrap64 (bt (⟨#[0, 1, 2, 2, 3, 3, 3, 3, 4, 4, 4, 4, 4, 4, 4, 4, 5, 5, 5, 5, 5, 5, 5, 5, 5, 5, 5, 5, 5, 5, 5, 5, 6, 6, 6, 6, 6, 6, 6, 6, 6, 6, 6, 6, 6, 6, 6, 6, 6, 6, 6, 6, 6, 6, 6, 6, 6, 6, 6, 6, 6, 6, 6, 6, 7, 7, 7, 7, 7, 7, 7, 7, 7, 7, 7, 7, 7, 7, 7, 7, 7, 7, 7, 7, 7, 7, 7, 7, 7, 7, 7, 7, 7, 7, 7, 7, 7, 7, 7, 7, 7, 7, 7, 7, 7, 7, 7, 7, 7, 7, 7, 7, 7, 7, 7, 7, 7, 7, 7, 7, 7, 7, 7, 7, 7, 7, 7, 7, 8, 8, 8, 8, 8, 8, 8, 8, 8, 8, 8, 8, 8, 8, 8, 8, 8, 8, 8, 8, 8, 8, 8, 8, 8, 8, 8, 8, 8, 8, 8, 8, 8, 8, 8, 8, 8, 8, 8, 8, 8, 8, 8, 8, 8, 8, 8, 8, 8, 8, 8, 8, 8, 8, 8, 8, 8, 8, 8, 8, 8, 8, 8, 8, 8, 8, 8, 8, 8, 8, 8, 8, 8, 8, 8, 8, 8, 8, 8, 8, 8, 8, 8, 8, 8, 8, 8, 8, 8, 8, 8, 8, 8, 8, 8, 8, 8, 8, 8, 8, 8, 8, 8, 8, 8, 8, 8, 8, 8, 8, 8, 8, 8, 8, 8, 8, 8, 8, 8, 8, 8, 8, 8, 8, 8, 8, 8, 8]⟩ : ByteArray) ((a0 / 65536) % 256)))))) else (none)) else (none))) else (if a0 ≥ 256 then (if 0 ≤ ((a0 / 256) % 256) then (if ((a0 / 256) % 256) < 256 then (some (wrap64 ((0 + 8) + (wrap64 (bt (⟨#[0, 1, 2, 2, 3, 3, 3, 3, 4, 4, 4, 4, 4, 4, 4, 4, 5, 5, 5, 5, 5, 5, 5, 5, 5, 5, 5, 5, 5, 5, 5, 5, 6, 6, 6, 6, 6, 6, 6, 6, 6, 6, 6, 6, 6, 6, 6, 6, 6, 6, 6, 6, 6, 6, 6, 6, 6, 6, 6, 6, 6, 6, 6, 6, 7, 7, 7, 7, 7, 7, 7, 7, 7, 7, 7, 7, 7, 7, 7, 7, 7, 7, 7, 7, 7, 7, 7, 7, 7, 7, 7, 7, 7, 7, 7, 7, 7, 7, 7, 7, 7, 7, 7, 7, 7, 7, 7, 7, 7, 7, 7, 7, 7, 7, 7, 7, 7, 7, 7, 7, 7, 7, 7, 7, 7, 7, 7, 7, 8, 8, 8, 8, 8, 8, 8, 8, 8, 8, 8, 8, 8, 8, 8, 8, 8, 8, 8, 8, 8, 8, 8, 8, 8, 8, 8, 8, 8, 8, 8, 8, 8, 8, 8, 8, 8, 8, 8, 8, 8, 8, 8, 8, 8, 8, 8, 8, 8, 8, 8, 8, 8, 8, 8, 8, 8, 8, 8, 8, 8, 8, 8, 8, 8, 8, 8, 8, 8, 8, 8, 8, 8, 8, 8, 8, 8, 8, 8, 8, 8, 8, 8, 8, 8, 8, 8, 8, 8, 8, 8, 8, 8, 8, 8, 8, 8, 8, 8, 8, 8, 8, 8, 8, 8, 8, 8, 8, 8, 8, 8, 8, 8, 8, 8, 8, 8, 8, 8, 8, 8, 8, 8, 8, 8, 8, 8, 8]⟩ : ByteArray) ((a0 / 256) % 256)))))) else (none)) else (none)) else (if 0 ≤ ((a0) % 256) then (if ((a0) % 256) < 256 then (some (wrap64 (0 + (wrap64 (bt (⟨#[0, 1, 2, 2, 3, 3, 3, 3, 4, 4, 4, 4, 4, 4, 4, 4, 5, 5, 5, 5, 5, 5, 5, 5, 5, 5, 5, 5, 5, 5, 5, 5, 6, 6, 6, 6, 6, 6, 6, 6, 6, 6, 6, 6, 6, 6, 6, 6, 6, 6, 6, 6, 6, 6, 6, 6, 6, 6, 6, 6, 6, 6, 6, 6, 7, 7, 7, 7, 7, 7, 7, 7, 7, 7, 7, 7, 7, 7, 7, 7, 7, 7, 7, 7, 7, 7, 7, 7, 7, 7, 7, 7, 7, 7, 7, 7, 7, 7, 7, 7, 7, 7, 7, 7, 7, 7, 7, 7, 7, 7, 7, 7, 7, 7, 7, 7, 7, 7, 7, 7, 7, 7, 7, 7, 7, 7, 7, 7, 8, 8, 8, 8, 8, 8, 8, 8, 8, 8, 8, 8, 8, 8, 8, 8, 8, 8, 8, 8, 8, 8, 8, 8, 8, 8, 8, 8, 8, 8, 8, 8, 8, 8, 8, 8, 8, 8, 8, 8, 8, 8, 8, 8, 8, 8, 8, 8, 8, 8, 8, 8, 8, 8, 8, 8, 8, 8, 8, 8, 8, 8, 8, 8, 8, 8, 8, 8, 8, 8, 8, 8, 8, 8, 8, 8, 8, 8, 8, 8, 8, 8, 8, 8, 8, 8, 8, 8, 8, 8, 8, 8, 8, 8, 8, 8, 8, 8, 8, 8, 8, 8, 8, 8, 8, 8, 8, 8, 8, 8, 8, 8, 8, 8, 8, 8, 8, 8, 8, 8, 8, 8, 8, 8, 8, 8, 8, 8]⟩ : ByteArray) ((a0) % 256)))))) else (none)) else (none)))

/-! ### bits_LeadingZeros32: function 38 -/
def bits_LeadingZeros32.f (a0 : Int) : Option (Int) := (bits_Len32.f a0).bind fun t170 => (some (wrap64 (32 - t170)))

/-! ### nat_guess: function 39 -/
mutual
def nat_guess.l0 : Nat → Int → Int → Int → Int → Int → Option (Int)
  | 0, _, _, _, _, _ => none
  | k + 1, x2, x3, x4, x12, x13 => if x12 > 4294967295 then (nat_guess.j1 k x2 x3 x4 x12 x13 true) else (nat_guess.j1 k x2 x3 x4 x12 x13 (decide ((IntKind.u64.wrap (x12 * (IntKind.u64.wrap (x4)))) > (Go.bits .or .u64 (IntKind.u64.wrap (x13 * 4294967296)) (IntKind.u64.wrap (x2))))))
def nat_guess.j1 : Nat → Int → Int → Int → Int → Int → Bool → Option (Int)
  | 0, _, _, _, _, _, _ => none
  | k + 1, x2, x3, x4, x12, x13, x41 => if x41 = true then (if (IntKind.u64.wrap (x13 + (IntKind.u64.wrap (x3)))) > 4294967295 then (some ((IntKind.u64.wrap (x12 - 1)) % 4294967296)) else (nat_guess.l0 k x2 x3 x4 (IntKind.u64.wrap (x12 - 1)) (IntKind.u64.wrap (x13 + (IntKind.u64.wrap (x3)))))) else (some ((x12) % 4294967296))
end
def nat_guess.f (k : Nat) (a0 : Int) (a1 : Int) (a2 : Int) (a3 : Int) (a4 : Int) : Option (Int) := if (IntKind.u64.wrap (a3)) = 0 then (none) else (nat_guess.l0 k a2 a3 a4 (IntKind.u64.wrap (Int.tdiv (Go.bits .or .u64 (IntKind.u64.wrap ((IntKind.u64.wrap (a0)) * 4294967296)) (IntKind.u64.wrap (a1))) (IntKind.u64.wrap (a3)))) (Int.tmod (Go.bits .or .u64 (IntKind.u64.wrap ((IntKind.u64.wrap (a0)) * 4294967296)) (IntKind.u64.wrap (a1))) (IntKind.u64.wrap (a3))))

/-! ### bits_Sub32: function 46 -/
def bits_Sub32.f (a0 : Int) (a1 : Int) (a2 : Int) : Option (Int × Int) := some ((((a0 - a1) % 4294967296) - a2) % 4294967296, (Go.bits .or .u32 (Go.bits .and .u32 (Go.bits .xor .u32 4294967295 a0) a1) (Go.bits .and .u32 (Go.bits .xor .u32 4294967295 (Go.bits .xor .u32 a0 a1)) ((((a0 - a1) % 4294967296) - a2) % 4294967296))) / 2147483648)

/-! ### nat_less: function 40 -/
def nat_less.l0 : Nat → List Int → List Int → Int → Int → Int → Int → List Int → Int → Int → Option (Bool × List Int)
  | 0, _, _, _, _, _, _, _, _, _ => none
  | k + 1, x0, x1, x2, x3, x9, x10, x14, x15, x16 => if x16 < x15 then (if 0 ≤ x16 then (if x16 < (x14.length : Int) then (if 0 ≤ (wrap64 (x3 + x16)) then (if (wrap64 (x3 + x16)) < (x0.length : Int) then ((bits_Sub32.f (rd x0 (wrap64 (x3 + x16))) ((IntKind.u64.wrap ((IntKind.u64.wrap ((IntKind.u64.wrap (rd x14 x16)) * (IntKind.u64.wrap (x2)))) + x10)) % 4294967296) x9).bind fun bt173 => (nat_less.l0 k (x0.set ((wrap64 (x3 + x16)) : Int).toNat bt173.1) x1 x2 x3 bt173.2 ((IntKind.u64.wrap ((IntKind.u64.wrap ((IntKind.u64.wrap (rd x14 x16)) * (IntKind.u64.wrap (x2)))) + x10)) / 4294967296) x14 x15 (wrap64 (x16 + 1)))) else (none)) else (none)) else (none)) else (none)) else (if 0 ≤ (wrap64 (x3 + (x1.length : Int))) then (if (wrap64 (x3 + (x1.length : Int))) < (x0.length : Int) then ((bits_Sub32.f (rd x0 (wrap64 (x3 + (x1.length : Int)))) ((x10) % 4294967296) x9).bind fun bt177 => (some ((bt177.2 != 0), (x0.set ((wrap64 (x3 + (x1.length : Int))) : Int).toNat bt177.1)))) else (none)) else (none))
def nat_less.f (k : Nat) (l0 : List Int) (l1 : List Int) (a2 : Int) (a3 : Int) : Option (Bool × List Int) := nat_less.l0 k l0 l1 a2 a3 0 0 l1 (l1.length : Int) 0

/-! ### bits_Add32: function 45 -/
def bits_Add32.f (a0 : Int) (a1 : Int) (a2 : Int) : Option (Int × Int) := some ((IntKind.u64.wrap ((IntKind.u64.wrap ((IntKind.u64.wrap (a0)) + (IntKind.u64.wrap (a1)))) + (IntKind.u64.wrap (a2)))) % 4294967296, ((IntKind.u64.wrap ((IntKind.u64.wrap ((IntKind.u64.wrap (a0)) + (IntKind.u64.wrap (a1)))) + (IntKind.u64.wrap (a2)))) / 4294967296) % 4294967296)

/-! ### nat_more: function 41 -/
def nat_more.l0 : Nat → List Int → List Int → Int → Int → List Int → Int → Int → Option (List Int)
  | 0, _, _, _, _, _, _, _ => none
  | k + 1, x0, x1, x2, x6, x9, x10, x11 => if x11 < x10 then (if 0 ≤ x11 then (if x11 < (x9.length : Int) then (if 0 ≤ (wrap64 (x2 + x11)) then (if (wrap64 (x2 + x11)) < (x0.length : Int) then ((bits_Add32.f (rd x0 (wrap64 (x2 + x11))) (rd x9 x11) x6).bind fun bt182 => (nat_more.l0 k (x0.set ((wrap64 (x2 + x11)) : Int).toNat bt182.1) x1 x2 bt182.2 x9 x10 (wrap64 (x11 + 1)))) else (none)) else (none)) else (none)) else (none)) else (if 0 ≤ (wrap64 (x2 + (x1.length : Int))) then (if (wrap64 (x2 + (x1.length : Int))) < (x0.length : Int) then (some (x0.set ((wrap64 (x2 + (x1.length : Int))) : Int).toNat (((rd x0 (wrap64 (x2 + (x1.length : Int)))) + x6) % 4294967296))) else (none)) else (none))
def nat_more.f (k : Nat) (l0 : List Int) (l1 : List Int) (a2 : Int) : Option (List Int) := nat_more.l0 k l0 l1 a2 0 l1 (l1.length : Int) 0

/-! ### nat_Div: function 14 -/
def nat_Div.l0 : Nat → Int → List Int → List Int → List Int → Int → Int → Option (List Int × List Int × Bool)
  | 0, _, _, _, _, _, _ => none
  | k + 1, x9, x10, x11, x12, x73, x74 => if x74 < x73 then (if 0 ≤ (wrap64 ((wrap64 ((wrap64 ((x12.length : Int) - 1)) - x74)) + (x10.length : Int))) then (if (wrap64 ((wrap64 ((wrap64 ((x12.length : Int) - 1)) - x74)) + (x10.length : Int))) < (x11.length : Int) then (if 0 ≤ (wrap64 ((wrap64 ((wrap64 ((wrap64 ((x12.length : Int) - 1)) - x74)) + (x10.length : Int))) - 1)) then (if (wrap64 ((wrap64 ((wrap64 ((wrap64 ((x12.length : Int) - 1)) - x74)) + (x10.length : Int))) - 1)) < (x11.length : Int) then (if 0 ≤ (wrap64 ((wrap64 ((wrap64 ((wrap64 ((x12.length : Int) - 1)) - x74)) + (x10.length : Int))) - 2)) then (if (wrap64 ((wrap64 ((wrap64 ((wrap64 ((x12.length : Int) - 1)) - x74)) + (x10.length : Int))) - 2)) < (x11.length : Int) then (if 0 ≤ (wrap64 ((x10.length : Int) - 1)) then (if (wrap64 ((x10.length : Int) - 1)) < (x10.length : Int) then (if 0 ≤ (wrap64 ((x10.length : Int) - 2)) then (if (wrap64 ((x10.length : Int) - 2)) < (x10.length : Int) then ((nat_guess.f k (rd x11 (wrap64 ((wrap64 ((wrap64 ((x12.length : Int) - 1)) - x74)) + (x10.length : Int)))) (rd x11 (wrap64 ((wrap64 ((wrap64 ((wrap64 ((x12.length : Int) - 1)) - x74)) + (x10.length : Int))) - 1))) (rd x11 (wrap64 ((wrap64 ((wrap64 ((wrap64 ((x12.length : Int) - 1)) - x74)) + (x10.length : Int))) - 2))) (rd x10 (wrap64 ((x10.length : Int) - 1))) (rd x10 (wrap64 ((x10.length : Int) - 2)))).bind fun t235 => ((nat_less.f k x11 x10 t235 (wrap64 ((wrap64 ((x12.length : Int) - 1)) - x74))).bind fun bt236 => (if bt236.1 = true then ((nat_more.f k bt236.2 x10 (wrap64 ((wrap64 ((x12.length : Int) - 1)) - x74))).bind fun t238 => (if 0 ≤ (wrap64 ((wrap64 ((x12.length : Int) - 1)) - x74)) then (if (wrap64 ((wrap64 ((x12.length : Int) - 1)) - x74)) < (x12.length : Int) then (nat_Div.l0 k x9 x10 t238 (x12.set ((wrap64 ((wrap64 ((x12.length : Int) - 1)) - x74)) : Int).toNat ((t235 - 1) % 4294967296)) x73 (wrap64 (x74 + 1))) else (none)) else (none))) else (if 0 ≤ (wrap64 ((wrap64 ((x12.length : Int) - 1)) - x74)) then (if (wrap64 ((wrap64 ((x12.length : Int) - 1)) - x74)) < (x12.length : Int) then (nat_Div.l0 k x9 x10 bt236.2 (x12.set ((wrap64 ((wrap64 ((x12.length : Int) - 1)) - x74)) : Int).toNat t235) x73 (wrap64 (x74 + 1))) else (none)) else (none))))) else (none)) else (none)) else (none)) else (none)) else (none)) else (none)) else (none)) else (none)) else (none)) else (none)) else ((nat_cut_own.f k x12).bind fun t224 => ((nat_Shr.f k x11 x9).bind fun t227 => (some (t224, t227, true))))
def nat_Div.f (k : Nat) (l0 : List Int) (l1 : List Int) : Option (List Int × List Int × Bool) := (nat_cut.f k l0).bind fun t187 => ((nat_cut.f k l1).bind fun t190 => (if (t190.length : Int) = 0 then (some (([] : List Int), ([] : List Int), false)) else ((nat_Cmp.f k t187 t190).bind fun t193 => (if t193 < 0 then ((slices_Clone_uint32_uint32.f t187).bind fun t194 => (some (([] : List Int), t194, true))) else (if (t190.length : Int) = 1 then (if 0 < (t190.length : Int) then ((nat_short.f k t187 (rd t190 0)).bind fun bt198 => (some (bt198.1, bt198.2, true))) else (none)) else (if 0 ≤ (wrap64 ((t190.length : Int) - 1)) then (if (wrap64 ((t190.length : Int) - 1)) < (t190.length : Int) then ((bits_LeadingZeros32.f (rd t190 (wrap64 ((t190.length : Int) - 1)))).bind fun t205 => ((nat_Shl.f k t190 t205).bind fun t206 => ((nat_Shl.f k t187 t205).bind fun t209 => ((some (([0, 0] : List Int) : List Int)).bind fun y212 => (if t209.length + y212.length < 35184372088832 then ((some (t209 ++ y212 : List Int)).bind fun y215 => (if 0 ≤ (wrap64 ((t187.length : Int) + 1)) then (if (wrap64 ((t187.length : Int) + 1)) ≤ (y215.length : Int) then (if 0 ≤ (wrap64 ((wrap64 ((t187.length : Int) - (t190.length : Int))) + 1)) then (if (wrap64 ((wrap64 ((t187.length : Int) - (t190.length : Int))) + 1) : Int).toNat ≤ 70368744177664 then ((some (List.replicate (wrap64 ((wrap64 ((t187.length : Int) - (t190.length : Int))) + 1) : Int).toNat 0 : List Int)).bind fun y221 => (nat_Div.l0 k t205 t206 (y215.take ((wrap64 ((t187.length : Int) + 1)) : Int).toNat) y221 (y221.length : Int) 0)) else (none)) else (none)) else (none)) else (none))) else (none)))))) else (none)) else (none)))))))

/-! ### nat_Len: function 23 -/
def nat_Len.f (k : Nat) (l0 : List Int) : Option (Int) := (nat_cut.f k l0).bind fun t241 => (if (t241.length : Int) = 0 then (some 0) else (if 0 ≤ (wrap64 ((t241.length : Int) - 1)) then (if (wrap64 ((t241.length : Int) - 1)) < (t241.length : Int) then ((bits_Len32.f (rd t241 (wrap64 ((t241.length : Int) - 1)))).bind fun t245 => (some (wrap64 ((wrap64 (32 * (wrap64 ((t241.length : Int) - 1)))) + t245)))) else (none)) else (none)))

/-! ### nat_Add: function 25 -/
mutual
def nat_Add.l0 : Nat → List Int → List Int → List Int → Int → Int → Int → Option (List Int)
  | 0, _, _, _, _, _, _ => none
  | k + 1, x0, x1, x5, x6, x21, x22 => if x22 < x21 then (if x22 < (x1.length : Int) then (if 0 ≤ x22 then (if x22 < (x0.length : Int) then ((bits_Add32.f (rd x0 x22) (rd x1 x22) x6).bind fun bt251 => (if x22 < (x5.length : Int) then (nat_Add.l0 k x0 x1 (x5.set (x22 : Int).toNat bt251.1) bt251.2 x21 (wrap64 (x22 + 1))) else (none))) else (none)) else (none)) else (if 0 ≤ x22 then (if x22 < (x0.length : Int) then ((bits_Add32.f (rd x0 x22) 0 x6).bind fun bt255 => (if x22 < (x5.length : Int) then (nat_Add.l0 k x0 x1 (x5.set (x22 : Int).toNat bt255.1) bt255.2 x21 (wrap64 (x22 + 1))) else (none))) else (none)) else (none))) else (if 0 ≤ (x0.length : Int) then (if (x0.length : Int) < (x5.length : Int) then ((nat_cut_own.f k (x5.set ((x0.length : Int) : Int).toNat x6)).bind fun t259 => (some t259)) else (none)) else (none))
def nat_Add.l1 : Nat → List Int → List Int → List Int → Int → Int → Int → Option (List Int)
  | 0, _, _, _, _, _, _ => none
  | k + 1, x0, x1, x5, x6, x21, x22 => if x22 < x21 then (if x22 < (x1.length : Int) then (if 0 ≤ x22 then (if x22 < (x0.length : Int) then ((bits_Add32.f (rd x0 x22) (rd x1 x22) x6).bind fun bt267 => (if x22 < (x5.length : Int) then (nat_Add.l1 k x0 x1 (x5.set (x22 : Int).toNat bt267.1) bt267.2 x21 (wrap64 (x22 + 1))) else (none))) else (none)) else (none)) else (if 0 ≤ x22 then (if x22 < (x0.length : Int) then ((bits_Add32.f (rd x0 x22) 0 x6).bind fun bt271 => (if x22 < (x5.length : Int) then (nat_Add.l1 k x0 x1 (x5.set (x22 : Int).toNat bt271.1) bt271.2 x21 (wrap64 (x22 + 1))) else (none))) else (none)) else (none))) else (if 0 ≤ (x0.length : Int) then (if (x0.length : Int) < (x5.length : Int) then ((nat_cut_own.f k (x5.set ((x0.length : Int) : Int).toNat x6)).bind fun t275 => (some t275)) else (none)) else (none))
end
def nat_Add.f (k : Nat) (l0 : List Int) (l1 : List Int) : Option (List Int) := if (l0.length : Int) < (l1.length : Int) then (if 0 ≤ (wrap64 ((l1.length : Int) + 1)) then (if (wrap64 ((l1.length : Int) + 1) : Int).toNat ≤ 70368744177664 then (nat_Add.l0 k l1 l0 (List.replicate (wrap64 ((l1.length : Int) + 1) : Int).toNat 0) 0 (l1.length : Int) 0) else (none)) else (none)) else (if 0 ≤ (wrap64 ((l0.length : Int) + 1)) then (if (wrap64 ((l0.length : Int) + 1) : Int).toNat ≤ 70368744177664 then (nat_Add.l1 k l0 l1 (List.replicate (wrap64 ((l0.length : Int) + 1) : Int).toNat 0) 0 (l0.length : Int) 0) else (none)) else (none))

/-! ### nat_Mul: function 26 -/
mutual
def nat_Mul.l0 : Nat → List Int → List Int → List Int → Int → Int → Option (List Int)
  | 0, _, _, _, _, _ => none
  | k + 1, x1, x5, x18, x19, x20 => if x20 < x19 then (if 0 ≤ x20 then (if x20 < (x18.length : Int) then (nat_Mul.l1 k x1 x5 x20 (rd x18 x20) 0 x18 x19 x20 x1 (x1.length : Int) 0) else (none)) else (none)) else ((nat_cut_own.f k x5).bind fun t281 => (some t281))
def nat_Mul.l1 : Nat → List Int → List Int → Int → Int → Int → List Int → Int → Int → List Int → Int → Int → Option (List Int)
  | 0, _, _, _, _, _, _, _, _, _, _, _ => none
  | k + 1, x1, x5, x6, x7, x8, x18, x19, x20, x25, x26, x27 => if x27 < x26 then (if 0 ≤ x27 then (if x27 < (x25.length : Int) then (if 0 ≤ (wrap64 (x6 + x27)) then (if (wrap64 (x6 + x27)) < (x5.length : Int) then (nat_Mul.l1 k x1 (x5.set ((wrap64 (x6 + x27)) : Int).toNat ((IntKind.u64.wrap ((IntKind.u64.wrap ((IntKind.u64.wrap ((IntKind.u64.wrap (x7)) * (IntKind.u64.wrap (rd x25 x27)))) + (IntKind.u64.wrap (rd x5 (wrap64 (x6 + x27)))))) + x8)) % 4294967296)) x6 x7 ((IntKind.u64.wrap ((IntKind.u64.wrap ((IntKind.u64.wrap ((IntKind.u64.wrap (x7)) * (IntKind.u64.wrap (rd x25 x27)))) + (IntKind.u64.wrap (rd x5 (wrap64 (x6 + x27)))))) + x8)) / 4294967296) x18 x19 x20 x25 x26 (wrap64 (x27 + 1))) else (none)) else (none)) else (none)) else (none)) else (if 0 ≤ (wrap64 (x6 + (x1.length : Int))) then (if (wrap64 (x6 + (x1.length : Int))) < (x5.length : Int) then (nat_Mul.l0 k x1 (x5.set ((wrap64 (x6 + (x1.length : Int))) : Int).toNat ((x8) % 4294967296)) x18 x19 (wrap64 (x20 + 1))) else (none)) else (none))
end
def nat_Mul.f (k : Nat) (l0 : List Int) (l1 : List Int) : Option (List Int) := if 0 ≤ (wrap64 ((l0.length : Int) + (l1.length : Int))) then (if (wrap64 ((l0.length : Int) + (l1.length : Int)) : Int).toNat ≤ 70368744177664 then (nat_Mul.l0 k l1 (List.replicate (wrap64 ((l0.length : Int) + (l1.length : Int)) : Int).toNat 0) l0 (l0.length : Int) 0) else (none)) else (none)

/-! ### nat_Root: function 21 -/
def nat_Root.l0 : Nat → List Int → List Int → Option (List Int × Bool)
  | 0, _, _ => none
  | k + 1, x0, x5 => (nat_Div.f k x0 x5).bind fun bt299 => ((nat_Add.f k x5 bt299.1).bind fun t306 => ((nat_Shr.f k t306 1).bind fun t309 => ((nat_Cmp.f k t309 x5).bind fun t312 => (if t312 < 0 then (nat_Root.l0 k x0 t309) else ((nat_Mul.f k x5 x5).bind fun t313 => ((nat_Cmp.f k t313 x0).bind fun t316 => (some (x5, (t316 == 0)))))))))
def nat_Root.f (k : Nat) (l0 : List Int) : Option (List Int × Bool) := (nat_cut.f k l0).bind fun t289 => (if (t289.length : Int) = 0 then (some (([] : List Int), true)) else ((nat_Len.f k t289).bind fun t295 => ((nat_Shl.f k (([1] : List Int)) (wrap64 (Int.tdiv (wrap64 (t295 + 1)) 2))).bind fun t296 => (nat_Root.l0 k t289 t296))))
theorem wp_scope_ghost {P : Program} {a : Act} {w : World} {Q : Exit → Act → World → Prop} {c rest : Code} (l : Nat) (J : Nat → Act → World → Prop) (hf : findLabel c l = some (Code.skip.seq rest))
    (pass : ∀ n a w, J n a w → rest.wp P (Exit.jump l (fun a' w' => ∃ m, m < n ∧ J m a' w') Q) a w)
    (first : Aside0 (∀ a w, (∃ n, J n a w) → rest.wp P (Exit.jump l (fun a' w' => ∃ m, J m a' w') Q) a w) → c.wp P (Exit.jump l (fun a' w' => ∃ m, J m a' w') Q) a w) : (Code.scope c).wp P Q a w := by
  classical
  have up : ∀ (J1 J2 : Act → World → Prop), (∀ a w, J1 a w → J2 a w) → ∀ e a w, Exit.jump l J1 Q e a w → Exit.jump l J2 Q e a w := by
    intro J1 J2 h12 e a w h
    cases e with
    | goto l' => exact ⟨h.1, h12 _ _ h.2⟩
    | normal => exact h
    | exit id => exact h
    | ret => exact h
    | panic ch => exact h
    | outgrown => exact h
  have least : ∀ (p : Nat → Prop), (∃ n, p n) → ∃ n, p n ∧ ∀ m, p m → n ≤ m := by
    intro p ⟨n, hn⟩
    induction n using Nat.strongRecOn with
    | _ n ih =>
      by_cases hs : ∃ m, m < n ∧ p m
      · obtain ⟨m, hm, hp⟩ := hs
        exact ih m hm hp
      · exact ⟨n, hn, fun m hm => by
          by_cases hlt : m < n
          · exact absurd ⟨m, hlt, hm⟩ hs
          · omega⟩
  let μ : Act → World → Nat := fun a w => if h : ∃ n, J n a w then Classical.choose (least _ h) else 0
  have hμ : ∀ a w (h : ∃ n, J n a w), J (μ a w) a w ∧ ∀ m, J m a w → μ a w ≤ m := by
    intro a w h
    have e : μ a w = Classical.choose (least _ h) := dif_pos h
    rw [e]
    exact Classical.choose_spec (least _ h)
  refine wp_scope_jumps l (fun a w => ∃ n, J n a w) μ hf (first ⟨fun a w h => ?_⟩) (fun a w h => ?_)
  · obtain ⟨n, hn⟩ := h
    exact wp_mono (pass n a w hn) (up _ _ (fun a w h => by obtain ⟨m, _, h⟩ := h; exact ⟨m, h⟩))
  · refine wp_seq (wp_skip ?_)
    refine wp_mono (pass (μ a w) a w (hμ a w h).1) (up _ _ (fun a' w' h' => ?_))
    obtain ⟨m, hm, hj⟩ := h'
    exact ⟨⟨m, hj⟩, Nat.lt_of_le_of_lt ((hμ a' w' ⟨m, hj⟩).2 m hj) hm⟩

/-! ### peloruslaw01_awake: function 12 -/
def peloruslaw01_awake.f (k : Nat)  : Option (Bool) := (nat_Add.f k (([4294967295] : List Int)) (([1] : List Int))).bind fun t323 => ((nat_Div.f k (([0, 1] : List Int)) (([3] : List Int))).bind fun bt332 => ((nat_Root.f k (([10] : List Int))).bind fun bt342 => (if (t323.length : Int) = 2 then (if 0 < (t323.length : Int) then (if (rd t323 0) = 0 then (if 1 < (t323.length : Int) then (if (rd t323 1) = 1 then (if bt332.2.2 = true then (if (bt332.1.length : Int) = 1 then (if 0 < (bt332.1.length : Int) then (if (rd bt332.1 0) = 1431655765 then (if (bt332.2.1.length : Int) = 1 then (if 0 < (bt332.2.1.length : Int) then (if (rd bt332.2.1 0) = 1 then (if (bt342.1.length : Int) = 1 then (if 0 < (bt342.1.length : Int) then (if (rd bt342.1 0) = 3 then (some (!bt342.2)) else (some false)) else (none)) else (some false)) else (some false)) else (none)) else (some false)) else (some false)) else (none)) else (some false)) else (some false)) else (some false)) else (none)) else (some false)) else (none)) else (some false))))

/-! ### peloruslaw01_few: function 13 -/
def peloruslaw01_few.f (l0 : List Int) (l1 : List Int) : Option (Bool) := if (l0.length : Int) ≤ 40 then (some (decide ((l1.length : Int) ≤ 40))) else (some false)

/-! ### pelorusref01_Trim: function 32 -/
def pelorusref01_Trim.l0 : Nat → List Int → Int → Option (List Int)
  | 0, _, _ => none
  | k + 1, x0, x3 => if x3 > 0 then (if 0 ≤ (wrap64 (x3 - 1)) then (if (wrap64 (x3 - 1)) < (x0.length : Int) then (if (rd x0 (wrap64 (x3 - 1))) = 0 then (pelorusref01_Trim.l0 k x0 (wrap64 (x3 - 1))) else (if 0 ≤ x3 then (if x3 ≤ (x0.length : Int) then (if ([] : List Int).length + (x0.take (x3 : Int).toNat).length < 35184372088832 then (some (([] : List Int) ++ (x0.take (x3 : Int).toNat))) else (none)) else (none)) else (none))) else (none)) else (none)) else (if 0 ≤ x3 then (if x3 ≤ (x0.length : Int) then (if ([] : List Int).length + (x0.take (x3 : Int).toNat).length < 35184372088832 then (some (([] : List Int) ++ (x0.take (x3 : Int).toNat))) else (none)) else (none)) else (none))
def pelorusref01_Trim.f (k : Nat) (l0 : List Int) : Option (List Int) := pelorusref01_Trim.l0 k l0 (l0.length : Int)

/-! ### pelorusref01_Cmp: function 33 -/
def pelorusref01_Cmp.l0 : Nat → List Int → List Int → Int → Option (Int)
  | 0, _, _, _ => none
  | k + 1, x5, x6, x7 => if x7 ≥ 0 then (if 0 ≤ x7 then (if x7 < (x5.length : Int) then (if x7 < (x6.length : Int) then (if (rd x5 x7) < (rd x6 x7) then (some (-1)) else (if (rd x5 x7) > (rd x6 x7) then (some 1) else (pelorusref01_Cmp.l0 k x5 x6 (wrap64 (x7 - 1))))) else (none)) else (none)) else (none)) else (some 0)
def pelorusref01_Cmp.f (k : Nat) (l0 : List Int) (l1 : List Int) : Option (Int) := (pelorusref01_Trim.f k l0).bind fun t360 => ((pelorusref01_Trim.f k l1).bind fun t363 => (if (t360.length : Int) = (t363.length : Int) then (pelorusref01_Cmp.l0 k t360 t363 (wrap64 ((t360.length : Int) - 1))) else (if (t360.length : Int) < (t363.length : Int) then (some (-1)) else (some 1))))

/-! ### pelorusref01_at: function 47 -/
def pelorusref01_at.f (l0 : List Int) (a1 : Int) : Option (Int) := if a1 ≥ (l0.length : Int) then (some 0) else (if 0 ≤ a1 then (if a1 < (l0.length : Int) then (some (IntKind.u64.wrap (rd l0 a1))) else (none)) else (none))

/-! ### pelorusref01_Sub: function 29 -/
def pelorusref01_Sub.l0 : Nat → List Int → List Int → List Int → Int → Int → Option (List Int × Bool)
  | 0, _, _, _, _, _ => none
  | k + 1, x0, x1, x6, x7, x8 => if x8 < (x0.length : Int) then ((pelorusref01_at.f x0 x8).bind fun t372 => ((pelorusref01_at.f x1 x8).bind fun t373 => (if x6.length < 35184372088832 then (pelorusref01_Sub.l0 k x0 x1 (x6 ++ [(Int.tmod (IntKind.u64.wrap ((IntKind.u64.wrap ((IntKind.u64.wrap (4294967296 + t372)) - t373)) - x7)) 4294967296) % 4294967296]) (IntKind.u64.wrap (1 - (IntKind.u64.wrap (Int.tdiv (IntKind.u64.wrap ((IntKind.u64.wrap ((IntKind.u64.wrap (4294967296 + t372)) - t373)) - x7)) 4294967296)))) (wrap64 (x8 + 1))) else (none)))) else ((pelorusref01_Trim.f k x6).bind fun t377 => (some (t377, true)))
def pelorusref01_Sub.f (k : Nat) (l0 : List Int) (l1 : List Int) : Option (List Int × Bool) := (pelorusref01_Cmp.f k l0 l1).bind fun t371 => (if t371 < 0 then (some (([] : List Int), false)) else (pelorusref01_Sub.l0 k l0 l1 ([] : List Int) 0 0))

/-! ### pelorusref01_Add: function 30 -/
mutual
def pelorusref01_Add.l0 : Nat → List Int → List Int → List Int → Int → Int → Option (List Int)
  | 0, _, _, _, _, _ => none
  | k + 1, x0, x1, x5, x6, x7 => if x7 < (x0.length : Int) then (pelorusref01_Add.j1 k x0 x1 x5 x6 x7 true) else (if x7 < (x1.length : Int) then (pelorusref01_Add.j1 k x0 x1 x5 x6 x7 true) else (pelorusref01_Add.j1 k x0 x1 x5 x6 x7 (decide (x6 > 0))))
def pelorusref01_Add.j1 : Nat → List Int → List Int → List Int → Int → Int → Bool → Option (List Int)
  | 0, _, _, _, _, _, _ => none
  | k + 1, x0, x1, x5, x6, x7, x22 => if x22 = true then ((pelorusref01_at.f x0 x7).bind fun t380 => ((pelorusref01_at.f x1 x7).bind fun t381 => (if x5.length < 35184372088832 then (pelorusref01_Add.l0 k x0 x1 (x5 ++ [(Int.tmod (IntKind.u64.wrap ((IntKind.u64.wrap (t380 + t381)) + x6)) 4294967296) % 4294967296]) (IntKind.u64.wrap (Int.tdiv (IntKind.u64.wrap ((IntKind.u64.wrap (t380 + t381)) + x6)) 4294967296)) (wrap64 (x7 + 1))) else (none)))) else ((pelorusref01_Trim.f k x5).bind fun t385 => (some t385))
end
def pelorusref01_Add.f (k : Nat) (l0 : List Int) (l1 : List Int) : Option (List Int) := pelorusref01_Add.l0 k l0 l1 ([] : List Int) 0 0

/-! ### pelorusref01_Len: function 34 -/
def pelorusref01_Len.l0 : Nat → Int → Int → Option (Int)
  | 0, _, _ => none
  | k + 1, x4, x5 => if x5 > 0 then (pelorusref01_Len.l0 k (wrap64 (x4 + 1)) ((Int.tdiv x5 2) % 4294967296)) else (some x4)
def pelorusref01_Len.f (k : Nat) (l0 : List Int) : Option (Int) := (pelorusref01_Trim.f k l0).bind fun t388 => (if (t388.length : Int) = 0 then (some 0) else (if 0 ≤ (wrap64 ((t388.length : Int) - 1)) then (if (wrap64 ((t388.length : Int) - 1)) < (t388.length : Int) then (pelorusref01_Len.l0 k (wrap64 (32 * (wrap64 ((t388.length : Int) - 1)))) (rd t388 (wrap64 ((t388.length : Int) - 1)))) else (none)) else (none)))

/-! ### pelorusref01_bit: function 42 -/
def pelorusref01_bit.f (l0 : List Int) (a1 : Int) : Option (Bool) := (pelorusref01_at.f l0 (wrap64 (Int.tdiv a1 32))).bind fun t392 => (if 0 ≤ (IntKind.u64.wrap (Int.tmod a1 32)) then (some ((Int.tmod (shr .u64 t392 (IntKind.u64.wrap (Int.tmod a1 32))) 2) == 1)) else (none))

/-! ### pelorusref01_set: function 43 -/
def pelorusref01_set.l0 : Nat → Int → List Int → Option (List Int)
  | 0, _, _ => none
  | k + 1, x1, x5 => if (x5.length : Int) ≤ (wrap64 (Int.tdiv x1 32)) then (if x5.length < 35184372088832 then (pelorusref01_set.l0 k x1 (x5 ++ [0])) else (none)) else (if 0 ≤ (wrap64 (Int.tdiv x1 32)) then (if (wrap64 (Int.tdiv x1 32)) < (x5.length : Int) then (if 0 ≤ (IntKind.u64.wrap (Int.tmod x1 32)) then (some (x5.set ((wrap64 (Int.tdiv x1 32)) : Int).toNat (((rd x5 (wrap64 (Int.tdiv x1 32))) + (shl .u32 1 (IntKind.u64.wrap (Int.tmod x1 32)))) % 4294967296))) else (none)) else (none)) else (none))
def pelorusref01_set.f (k : Nat) (l0 : List Int) (a1 : Int) : Option (List Int) := if ([] : List Int).length + l0.length < 35184372088832 then (pelorusref01_set.l0 k a1 (([] : List Int) ++ l0)) else (none)

/-! ### pelorusref01_Div: function 15 -/
mutual
def pelorusref01_Div.l0 : Nat → List Int → List Int → List Int → List Int → Int → Option (List Int × List Int × Bool)
  | 0, _, _, _, _, _ => none
  | k + 1, x0, x7, x8, x9, x10 => if x10 ≥ 0 then ((pelorusref01_Add.f k x9 x9).bind fun t411 => ((pelorusref01_bit.f x0 x10).bind fun t414 => (if t414 = true then ((pelorusref01_Add.f k t411 (([1] : List Int))).bind fun t418 => (pelorusref01_Div.j1 k x0 x7 x8 t418 x10)) else (pelorusref01_Div.j1 k x0 x7 x8 t411 x10)))) else ((pelorusref01_Trim.f k x8).bind fun t405 => ((pelorusref01_Trim.f k x9).bind fun t408 => (some (t405, t408, true))))
def pelorusref01_Div.j1 : Nat → List Int → List Int → List Int → List Int → Int → Option (List Int × List Int × Bool)
  | 0, _, _, _, _, _ => none
  | k + 1, x0, x7, x8, x9, x10 => (pelorusref01_Sub.f k x9 x7).bind fun bt421 => (if bt421.2 = true then ((pelorusref01_set.f k x8 x10).bind fun t425 => (pelorusref01_Div.l0 k x0 x7 t425 bt421.1 (wrap64 (x10 - 1)))) else (pelorusref01_Div.l0 k x0 x7 x8 x9 (wrap64 (x10 - 1))))
end
def pelorusref01_Div.f (k : Nat) (l0 : List Int) (l1 : List Int) : Option (List Int × List Int × Bool) := (pelorusref01_Trim.f k l1).bind fun t401 => (if (t401.length : Int) = 0 then (some (([] : List Int), ([] : List Int), false)) else ((pelorusref01_Len.f k l0).bind fun t404 => (pelorusref01_Div.l0 k l0 t401 ([] : List Int) ([] : List Int) (wrap64 (t404 - 1)))))

/-! ### pelorusref01_Same: function 16 -/
def pelorusref01_Same.l0 : Nat → List Int → List Int → Int → Option (Bool)
  | 0, _, _, _ => none
  | k + 1, x0, x1, x5 => if x5 < (x0.length : Int) then (if 0 ≤ x5 then (if x5 < (x1.length : Int) then (if (rd x0 x5) = (rd x1 x5) then (pelorusref01_Same.l0 k x0 x1 (wrap64 (x5 + 1))) else (some false)) else (none)) else (none)) else (some true)
def pelorusref01_Same.f (k : Nat) (l0 : List Int) (l1 : List Int) : Option (Bool) := if (l0.length : Int) = (l1.length : Int) then (pelorusref01_Same.l0 k l0 l1 0) else (some false)

/-! ### peloruslaw01_NatDivs: function 3 -/
def peloruslaw01_NatDivs.j0 : Nat → List Int → List Int → Bool → Bool → Option (Bool)
  | 0, _, _, _, _ => none
  | k + 1, x0, x1, x5, x24 => if x24 = true then (some x5) else ((nat_Div.f k x0 x1).bind fun bt432 => ((pelorusref01_Div.f k x0 x1).bind fun bt439 => ((pelorusref01_Same.f k bt432.1 bt439.1).bind fun t446 => ((pelorusref01_Same.f k bt432.2.1 bt439.2.1).bind fun t447 => (if t446 = true then (if t447 = true then (some (bt432.2.2 == bt439.2.2)) else (some false)) else (some false))))))
def peloruslaw01_NatDivs.f (k : Nat) (l0 : List Int) (l1 : List Int) : Option (Bool) := (peloruslaw01_awake.f k).bind fun t430 => ((peloruslaw01_few.f l0 l1).bind fun t431 => (if t430 = true then (peloruslaw01_NatDivs.j0 k l0 l1 t430 (!t431)) else (peloruslaw01_NatDivs.j0 k l0 l1 t430 true)))
def peloruslaw01_NatDivs.Pure : Prop := ∀ (l0 : List Int) (l1 : List Int), l0.length ≤ maxLen → l0.length * 4 ≤ 140737488351232 → (∀ x ∈ l0, (Lit.int .u32 x).wf = true) → l1.length ≤ maxLen → l1.length * 4 ≤ 140737488351232 → (∀ x ∈ l1, (Lit.int .u32 x).wf = true) → ∃ k, peloruslaw01_NatDivs.f k l0 l1 = some true ∧ ∀ r, peloruslaw01_awake.f k = some r → r = true

/-! ### pelorusref01_Mul: function 31 -/
mutual
def pelorusref01_Mul.l0 : Nat → List Int → List Int → List Int → Int → Option (List Int)
  | 0, _, _, _, _ => none
  | k + 1, x0, x1, x5, x6 => if x6 ≥ 0 then ((some (([0] : List Int) : List Int)).bind fun y451 => (if y451.length + x5.length < 35184372088832 then (pelorusref01_Mul.l1 k x0 x1 (y451 ++ x5) x6 ([] : List Int) 0 0) else (none))) else ((pelorusref01_Trim.f k x5).bind fun t448 => (some t448))
def pelorusref01_Mul.l1 : Nat → List Int → List Int → List Int → Int → List Int → Int → Int → Option (List Int)
  | 0, _, _, _, _, _, _, _ => none
  | k + 1, x0, x1, x5, x6, x8, x9, x10 => if x10 < (x0.length : Int) then (if 0 ≤ x10 then (if 0 ≤ x6 then (if x6 < (x1.length : Int) then (if x8.length < 35184372088832 then (pelorusref01_Mul.l1 k x0 x1 x5 x6 (x8 ++ [(Int.tmod (IntKind.u64.wrap ((IntKind.u64.wrap ((IntKind.u64.wrap (rd x0 x10)) * (IntKind.u64.wrap (rd x1 x6)))) + x9)) 4294967296) % 4294967296]) (IntKind.u64.wrap (Int.tdiv (IntKind.u64.wrap ((IntKind.u64.wrap ((IntKind.u64.wrap (rd x0 x10)) * (IntKind.u64.wrap (rd x1 x6)))) + x9)) 4294967296)) (wrap64 (x10 + 1))) else (none)) else (none)) else (none)) else (none)) else (if x8.length < 35184372088832 then ((pelorusref01_Add.f k x5 (x8 ++ [(x9) % 4294967296])).bind fun t465 => (pelorusref01_Mul.l0 k x0 x1 t465 (wrap64 (x6 - 1)))) else (none))
end
def pelorusref01_Mul.f (k : Nat) (l0 : List Int) (l1 : List Int) : Option (List Int) := pelorusref01_Mul.l0 k l0 l1 ([] : List Int) (wrap64 ((l1.length : Int) - 1))

/-! ### pelorusref01_Shl: function 18 -/
def pelorusref01_Shl.f (k : Nat) (l0 : List Int) (a1 : Int) : Option (List Int) := if a1 < 1 then ((pelorusref01_Trim.f k l0).bind fun t468 => (some t468)) else (if a1 > 16777216 then (some ([] : List Int)) else (if 0 ≤ (wrap64 (Int.tdiv a1 32)) then (if (wrap64 (Int.tdiv a1 32) : Int).toNat ≤ 70368744177664 then ((some (List.replicate (wrap64 (Int.tdiv a1 32) : Int).toNat 0 : List Int)).bind fun y471 => (if y471.length + l0.length < 35184372088832 then (if 0 ≤ (IntKind.u64.wrap (Int.tmod a1 32)) then ((pelorusref01_Mul.f k (y471 ++ l0) (([shl .u32 1 (IntKind.u64.wrap (Int.tmod a1 32))] : List Int))).bind fun t480 => (some t480)) else (none)) else (none))) else (none)) else (none)))

/-! ### pelorusref01_Shr: function 20 -/
def pelorusref01_Shr.f (k : Nat) (l0 : List Int) (a1 : Int) : Option (List Int) := if a1 < 1 then ((pelorusref01_Trim.f k l0).bind fun t483 => (some t483)) else (if a1 ≥ (wrap64 (32 * (l0.length : Int))) then (some ([] : List Int)) else (if 0 ≤ (wrap64 (Int.tdiv a1 32)) then (if (wrap64 (Int.tdiv a1 32)) ≤ (l0.length : Int) then ((pelorusref01_Trim.f k (l0.drop ((wrap64 (Int.tdiv a1 32)) : Int).toNat)).bind fun t487 => (if 0 ≤ (IntKind.u64.wrap (Int.tmod a1 32)) then ((pelorusref01_Div.f k t487 (([shl .u32 1 (IntKind.u64.wrap (Int.tmod a1 32))] : List Int))).bind fun bt493 => (some bt493.1)) else (none))) else (none)) else (none)))

/-! ### pelorusref01_Root: function 22 -/
def pelorusref01_Root.l0 : Nat → List Int → List Int → Int → Option (List Int × Bool)
  | 0, _, _, _ => none
  | k + 1, x0, x4, x5 => if x5 ≥ 0 then ((pelorusref01_set.f k x4 x5).bind fun t508 => ((pelorusref01_Mul.f k t508 t508).bind fun t511 => ((pelorusref01_Cmp.f k t511 x0).bind fun t514 => (if t514 ≤ 0 then (pelorusref01_Root.l0 k x0 t508 (wrap64 (x5 - 1))) else (pelorusref01_Root.l0 k x0 x4 (wrap64 (x5 - 1))))))) else ((pelorusref01_Trim.f k x4).bind fun t501 => ((pelorusref01_Mul.f k x4 x4).bind fun t504 => ((pelorusref01_Cmp.f k t504 x0).bind fun t507 => (some (t501, (t507 == 0))))))
def pelorusref01_Root.f (k : Nat) (l0 : List Int) : Option (List Int × Bool) := (pelorusref01_Len.f k l0).bind fun t500 => (pelorusref01_Root.l0 k l0 ([] : List Int) (wrap64 (Int.tdiv t500 2)))

/-! ### peloruslaw01_NatShifts: function 4 -/
def peloruslaw01_NatShifts.j0 : Nat → List Int → Int → Bool → Bool → Option (Bool)
  | 0, _, _, _, _ => none
  | k + 1, x0, x1, x5, x30 => if x30 = true then (some x5) else ((nat_Shl.f k x0 x1).bind fun t517 => ((pelorusref01_Shl.f k x0 x1).bind fun t520 => ((pelorusref01_Same.f k t517 t520).bind fun t523 => ((nat_Shr.f k x0 x1).bind fun t524 => ((pelorusref01_Shr.f k x0 x1).bind fun t527 => ((pelorusref01_Same.f k t524 t527).bind fun t530 => ((nat_Root.f k x0).bind fun bt531 => ((pelorusref01_Root.f k x0).bind fun bt535 => ((pelorusref01_Same.f k bt531.1 bt535.1).bind fun t539 => (if t523 = true then (if t530 = true then (if t539 = true then (some (bt531.2 == bt535.2)) else (some false)) else (some false)) else (some false)))))))))))
def peloruslaw01_NatShifts.f (k : Nat) (l0 : List Int) (a1 : Int) : Option (Bool) := (peloruslaw01_awake.f k).bind fun t515 => ((peloruslaw01_few.f l0 ([] : List Int)).bind fun t516 => (if t515 = true then (if t516 = true then (if a1 > 3000 then (peloruslaw01_NatShifts.j0 k l0 a1 t515 (decide (a1 ≤ 16777216))) else (peloruslaw01_NatShifts.j0 k l0 a1 t515 false)) else (peloruslaw01_NatShifts.j0 k l0 a1 t515 true)) else (peloruslaw01_NatShifts.j0 k l0 a1 t515 true)))
def peloruslaw01_NatShifts.Pure : Prop := ∀ (l0 : List Int) (a1 : Int), l0.length ≤ maxLen → l0.length * 4 ≤ 140737488351232 → (∀ x ∈ l0, (Lit.int .u32 x).wf = true) → (Lit.int .i64 a1).wf = true → ∃ k, peloruslaw01_NatShifts.f k l0 a1 = some true ∧ ∀ r, peloruslaw01_awake.f k = some r → r = true

/-! ### peloruslaw01_NatBack: function 5 -/
def peloruslaw01_NatBack.j0 : Nat → List Int → List Int → Bool → Bool → Option (Bool)
  | 0, _, _, _, _ => none
  | k + 1, x0, x1, x5, x19 => if x19 = true then (some x5) else ((nat_Div.f k x0 x1).bind fun bt542 => (if bt542.2.2 = true then ((nat_Mul.f k bt542.1 x1).bind fun t550 => ((nat_Add.f k t550 bt542.2.1).bind fun t553 => ((nat_Cmp.f k t553 x0).bind fun t556 => (if t556 = 0 then ((nat_Cmp.f k bt542.2.1 x1).bind fun t557 => (some (decide (t557 < 0)))) else (some false))))) else ((nat_Len.f k x1).bind fun t549 => (if t549 = 0 then (if (bt542.1.length : Int) = 0 then (some ((bt542.2.1.length : Int) == 0)) else (some false)) else (some false)))))
def peloruslaw01_NatBack.f (k : Nat) (l0 : List Int) (l1 : List Int) : Option (Bool) := (peloruslaw01_awake.f k).bind fun t540 => ((peloruslaw01_few.f l0 l1).bind fun t541 => (if t540 = true then (peloruslaw01_NatBack.j0 k l0 l1 t540 (!t541)) else (peloruslaw01_NatBack.j0 k l0 l1 t540 true)))
def peloruslaw01_NatBack.Pure : Prop := ∀ (l0 : List Int) (l1 : List Int), l0.length ≤ maxLen → l0.length * 4 ≤ 140737488351232 → (∀ x ∈ l0, (Lit.int .u32 x).wf = true) → l1.length ≤ maxLen → l1.length * 4 ≤ 140737488351232 → (∀ x ∈ l1, (Lit.int .u32 x).wf = true) → ∃ k, peloruslaw01_NatBack.f k l0 l1 = some true ∧ ∀ r, peloruslaw01_awake.f k = some r → r = true

/-! ### peloruslaw01_NatRoots: function 6 -/
def peloruslaw01_NatRoots.j0 : Nat → List Int → Bool → Bool → Option (Bool)
  | 0, _, _, _ => none
  | k + 1, x0, x3, x17 => if x17 = true then (some x3) else ((nat_Root.f k x0).bind fun bt559 => ((nat_Add.f k bt559.1 (([1] : List Int))).bind fun t566 => ((nat_Mul.f k bt559.1 bt559.1).bind fun t569 => ((nat_Cmp.f k t569 x0).bind fun t572 => ((nat_Mul.f k x0 x0).bind fun t573 => ((nat_Root.f k t573).bind fun bt576 => (if t572 ≤ 0 then ((nat_Mul.f k t566 t566).bind fun t580 => ((nat_Cmp.f k t580 x0).bind fun t583 => (if t583 > 0 then (if (bt559.2 == (t572 == 0)) = true then (if bt576.2 = true then ((nat_Cmp.f k bt576.1 x0).bind fun t584 => (some (t584 == 0))) else (some false)) else (some false)) else (some false)))) else (some false))))))))
def peloruslaw01_NatRoots.f (k : Nat) (l0 : List Int) : Option (Bool) := (peloruslaw01_awake.f k).bind fun t558 => (if t558 = true then (peloruslaw01_NatRoots.j0 k l0 t558 (decide ((l0.length : Int) > 20))) else (peloruslaw01_NatRoots.j0 k l0 t558 true))
def peloruslaw01_NatRoots.Pure : Prop := ∀ (l0 : List Int), l0.length ≤ maxLen → l0.length * 4 ≤ 140737488351232 → (∀ x ∈ l0, (Lit.int .u32 x).wf = true) → ∃ k, peloruslaw01_NatRoots.f k l0 = some true ∧ ∀ r, peloruslaw01_awake.f k = some r → r = true

/-! ### peloruslaw01_NatSpreads: function 7 -/
mutual
def peloruslaw01_NatSpreads.j0 : Nat → List Int → List Int → List Int → Int → Bool → Bool → Option (Bool)
  | 0, _, _, _, _, _, _ => none
  | k + 1, x0, x1, x2, x3, x9, x39 => if x39 = true then (some x9) else ((nat_Add.f k x1 x2).bind fun t586 => ((nat_Mul.f k x0 t586).bind fun t589 => ((nat_Mul.f k x0 x1).bind fun t592 => ((nat_Mul.f k x0 x2).bind fun t595 => ((nat_Add.f k t592 t595).bind fun t598 => ((nat_Shl.f k x0 x3).bind fun t601 => ((nat_Len.f k x0).bind fun t604 => (if t604 > 0 then (peloruslaw01_NatSpreads.j1 k x0 x3 t589 t598 t601 (wrap64 (t604 + x3))) else (peloruslaw01_NatSpreads.j1 k x0 x3 t589 t598 t601 t604)))))))))
def peloruslaw01_NatSpreads.j1 : Nat → List Int → Int → List Int → List Int → List Int → Int → Option (Bool)
  | 0, _, _, _, _, _, _ => none
  | k + 1, x0, x3, x10, x11, x12, x13 => (nat_Cmp.f k x10 x11).bind fun t605 => (if t605 = 0 then ((nat_Shr.f k x12 x3).bind fun t606 => ((nat_Cmp.f k t606 x0).bind fun t609 => (if t609 = 0 then ((nat_Len.f k x12).bind fun t610 => (some (t610 == x13))) else (some false)))) else (some false))
end
def peloruslaw01_NatSpreads.f (k : Nat) (l0 : List Int) (l1 : List Int) (l2 : List Int) (a3 : Int) : Option (Bool) := (peloruslaw01_awake.f k).bind fun t585 => (if t585 = true then (if (l0.length : Int) > 20 then (peloruslaw01_NatSpreads.j0 k l0 l1 l2 a3 t585 true) else (if (l1.length : Int) > 20 then (peloruslaw01_NatSpreads.j0 k l0 l1 l2 a3 t585 true) else (if (l2.length : Int) > 20 then (peloruslaw01_NatSpreads.j0 k l0 l1 l2 a3 t585 true) else (if a3 < 0 then (peloruslaw01_NatSpreads.j0 k l0 l1 l2 a3 t585 true) else (peloruslaw01_NatSpreads.j0 k l0 l1 l2 a3 t585 (decide (a3 > 1000))))))) else (peloruslaw01_NatSpreads.j0 k l0 l1 l2 a3 t585 true))
def peloruslaw01_NatSpreads.Pure : Prop := ∀ (l0 : List Int) (l1 : List Int) (l2 : List Int) (a3 : Int), l0.length ≤ maxLen → l0.length * 4 ≤ 140737488351232 → (∀ x ∈ l0, (Lit.int .u32 x).wf = true) → l1.length ≤ maxLen → l1.length * 4 ≤ 140737488351232 → (∀ x ∈ l1, (Lit.int .u32 x).wf = true) → l2.length ≤ maxLen → l2.length * 4 ≤ 140737488351232 → (∀ x ∈ l2, (Lit.int .u32 x).wf = true) → (Lit.int .i64 a3).wf = true → ∃ k, peloruslaw01_NatSpreads.f k l0 l1 l2 a3 = some true ∧ ∀ r, peloruslaw01_awake.f k = some r → r = true

/-! ### peloruslaw01_NatBits: function 8 -/
def peloruslaw01_NatBits.j0 : Nat → List Int → Int → Bool → Bool → Option (Bool)
  | 0, _, _, _, _ => none
  | k + 1, x0, x1, x5, x25 => if x25 = true then (some x5) else ((nat_Shl.f k (([1] : List Int)) x1).bind fun t615 => ((nat_Div.f k x0 t615).bind fun bt618 => (if bt618.2.2 = true then ((nat_Shl.f k x0 x1).bind fun t625 => ((nat_Mul.f k x0 t615).bind fun t628 => ((nat_Cmp.f k t625 t628).bind fun t631 => (if t631 = 0 then ((nat_Shr.f k x0 x1).bind fun t632 => ((nat_Cmp.f k t632 bt618.1).bind fun t635 => (if t635 = 0 then ((nat_Len.f k t615).bind fun t636 => (some (t636 == (wrap64 (x1 + 1))))) else (some false)))) else (some false))))) else (some false))))
def peloruslaw01_NatBits.f (k : Nat) (l0 : List Int) (a1 : Int) : Option (Bool) := (peloruslaw01_awake.f k).bind fun t611 => (if t611 = true then (if (l0.length : Int) > 20 then (peloruslaw01_NatBits.j0 k l0 a1 t611 true) else (if a1 < 0 then (peloruslaw01_NatBits.j0 k l0 a1 t611 true) else (peloruslaw01_NatBits.j0 k l0 a1 t611 (decide (a1 > 500))))) else (peloruslaw01_NatBits.j0 k l0 a1 t611 true))
def peloruslaw01_NatBits.Pure : Prop := ∀ (l0 : List Int) (a1 : Int), l0.length ≤ maxLen → l0.length * 4 ≤ 140737488351232 → (∀ x ∈ l0, (Lit.int .u32 x).wf = true) → (Lit.int .i64 a1).wf = true → ∃ k, peloruslaw01_NatBits.f k l0 a1 = some true ∧ ∀ r, peloruslaw01_awake.f k = some r → r = true

/-! ### nat_Trim: function 27 -/
def nat_Trim.f (k : Nat) (l0 : List Int) : Option (List Int) := (nat_cut.f k l0).bind fun t637 => ((slices_Clone_uint32_uint32.f t637).bind fun t640 => (some t640))

/-! ### peloruslaw01_NatTrims: function 9 -/
mutual
def peloruslaw01_NatTrims.j0 : Nat → List Int → List Int → Int → Bool → Bool → Option (Bool)
  | 0, _, _, _, _, _ => none
  | k + 1, x0, x1, x2, x7, x36 => if x36 = true then (some x7) else (if ([] : List Int).length + x0.length < 35184372088832 then (peloruslaw01_NatTrims.l0 k x0 x1 x2 (([] : List Int) ++ x0) 0) else (none))
def peloruslaw01_NatTrims.l0 : Nat → List Int → List Int → Int → List Int → Int → Option (Bool)
  | 0, _, _, _, _, _ => none
  | k + 1, x0, x1, x2, x8, x9 => if x9 < x2 then (if x8.length < 35184372088832 then (peloruslaw01_NatTrims.l0 k x0 x1 x2 (x8 ++ [0]) (wrap64 (x9 + 1))) else (none)) else ((nat_Div.f k x8 x1).bind fun bt650 => ((nat_Div.f k x0 x1).bind fun bt657 => ((nat_Cmp.f k x0 x8).bind fun t664 => (if t664 = 0 then ((nat_Len.f k x8).bind fun t665 => ((nat_Len.f k x0).bind fun t666 => (if t665 = t666 then ((nat_Add.f k x8 x1).bind fun t667 => ((nat_Add.f k x0 x1).bind fun t670 => ((nat_Cmp.f k t667 t670).bind fun t673 => (if t673 = 0 then ((nat_Mul.f k x8 x1).bind fun t674 => ((nat_Mul.f k x0 x1).bind fun t677 => ((nat_Cmp.f k t674 t677).bind fun t680 => (if t680 = 0 then (if (bt650.2.2 == bt657.2.2) = true then ((nat_Cmp.f k bt650.1 bt657.1).bind fun t681 => (if t681 = 0 then ((nat_Cmp.f k bt650.2.1 bt657.2.1).bind fun t682 => (if t682 = 0 then ((nat_Trim.f k x8).bind fun t683 => ((nat_Trim.f k x0).bind fun t686 => (some ((t683.length : Int) == (t686.length : Int))))) else (some false))) else (some false))) else (some false)) else (some false))))) else (some false))))) else (some false)))) else (some false)))))
end
def peloruslaw01_NatTrims.f (k : Nat) (l0 : List Int) (l1 : List Int) (a2 : Int) : Option (Bool) := (peloruslaw01_awake.f k).bind fun t643 => (if t643 = true then (if (l0.length : Int) > 20 then (peloruslaw01_NatTrims.j0 k l0 l1 a2 t643 true) else (if (l1.length : Int) > 20 then (peloruslaw01_NatTrims.j0 k l0 l1 a2 t643 true) else (if a2 < 0 then (peloruslaw01_NatTrims.j0 k l0 l1 a2 t643 true) else (peloruslaw01_NatTrims.j0 k l0 l1 a2 t643 (decide (a2 > 10)))))) else (peloruslaw01_NatTrims.j0 k l0 l1 a2 t643 true))
def peloruslaw01_NatTrims.Pure : Prop := ∀ (l0 : List Int) (l1 : List Int) (a2 : Int), l0.length ≤ maxLen → l0.length * 4 ≤ 140737488351232 → (∀ x ∈ l0, (Lit.int .u32 x).wf = true) → l1.length ≤ maxLen → l1.length * 4 ≤ 140737488351232 → (∀ x ∈ l1, (Lit.int .u32 x).wf = true) → (Lit.int .i64 a2).wf = true → ∃ k, peloruslaw01_NatTrims.f k l0 l1 a2 = some true ∧ ∀ r, peloruslaw01_awake.f k = some r → r = true

/-! ### nat_Sub: function 28 -/
def nat_Sub.l0 : Nat → List Int → List Int → List Int → Int → Int → Int → Option (List Int × Bool)
  | 0, _, _, _, _, _, _ => none
  | k + 1, x0, x1, x6, x7, x22, x23 => if x23 < x22 then (if x23 < (x1.length : Int) then (if 0 ≤ x23 then (if x23 < (x0.length : Int) then ((bits_Sub32.f (rd x0 x23) (rd x1 x23) x7).bind fun bt701 => (if x23 < (x6.length : Int) then (nat_Sub.l0 k x0 x1 (x6.set (x23 : Int).toNat bt701.1) bt701.2 x22 (wrap64 (x23 + 1))) else (none))) else (none)) else (none)) else (if 0 ≤ x23 then (if x23 < (x0.length : Int) then ((bits_Sub32.f (rd x0 x23) 0 x7).bind fun bt705 => (if x23 < (x6.length : Int) then (nat_Sub.l0 k x0 x1 (x6.set (x23 : Int).toNat bt705.1) bt705.2 x22 (wrap64 (x23 + 1))) else (none))) else (none)) else (none))) else ((nat_cut_own.f k x6).bind fun t708 => (some (t708, true)))
def nat_Sub.f (k : Nat) (l0 : List Int) (l1 : List Int) : Option (List Int × Bool) := (nat_cut.f k l0).bind fun t689 => ((nat_cut.f k l1).bind fun t692 => ((nat_Cmp.f k t689 t692).bind fun t695 => (if t695 < 0 then (some (([] : List Int), false)) else (if 0 ≤ (t689.length : Int) then (if ((t689.length : Int) : Int).toNat ≤ 70368744177664 then (nat_Sub.l0 k t689 t692 (List.replicate ((t689.length : Int) : Int).toNat 0) 0 (t689.length : Int) 0) else (none)) else (none)))))

/-! ### peloruslaw01_NatLess: function 10 -/
def peloruslaw01_NatLess.j0 : Nat → List Int → List Int → Bool → Bool → Option (Bool)
  | 0, _, _, _, _ => none
  | k + 1, x0, x1, x5, x21 => if x21 = true then (some x5) else ((nat_Add.f k x0 x1).bind fun t713 => ((nat_Sub.f k t713 x1).bind fun bt716 => ((nat_Sub.f k x0 t713).bind fun bt720 => (if bt716.2 = true then ((nat_Cmp.f k bt716.1 x0).bind fun t724 => (if t724 = 0 then ((nat_Add.f k x1 x0).bind fun t725 => ((nat_Cmp.f k t713 t725).bind fun t728 => (if t728 = 0 then ((nat_Len.f k x1).bind fun t729 => (if (bt720.2 == (t729 == 0)) = true then ((nat_Cmp.f k x0 x1).bind fun t730 => ((nat_Cmp.f k x1 x0).bind fun t731 => (some (t730 == (wrap64 (-t731)))))) else (some false))) else (some false)))) else (some false))) else (some false)))))
def peloruslaw01_NatLess.f (k : Nat) (l0 : List Int) (l1 : List Int) : Option (Bool) := (peloruslaw01_awake.f k).bind fun t711 => ((peloruslaw01_few.f l0 l1).bind fun t712 => (if t711 = true then (peloruslaw01_NatLess.j0 k l0 l1 t711 (!t712)) else (peloruslaw01_NatLess.j0 k l0 l1 t711 true)))
def peloruslaw01_NatLess.Pure : Prop := ∀ (l0 : List Int) (l1 : List Int), l0.length ≤ maxLen → l0.length * 4 ≤ 140737488351232 → (∀ x ∈ l0, (Lit.int .u32 x).wf = true) → l1.length ≤ maxLen → l1.length * 4 ≤ 140737488351232 → (∀ x ∈ l1, (Lit.int .u32 x).wf = true) → ∃ k, peloruslaw01_NatLess.f k l0 l1 = some true ∧ ∀ r, peloruslaw01_awake.f k = some r → r = true

/-! ### peloruslaw01_NatSums: function 11 -/
def peloruslaw01_NatSums.j0 : Nat → List Int → List Int → Bool → Bool → Option (Bool)
  | 0, _, _, _, _ => none
  | k + 1, x0, x1, x5, x24 => if x24 = true then (some x5) else ((nat_Sub.f k x0 x1).bind fun bt734 => ((pelorusref01_Sub.f k x0 x1).bind fun bt738 => ((nat_Add.f k x0 x1).bind fun t742 => ((pelorusref01_Add.f k x0 x1).bind fun t745 => ((pelorusref01_Same.f k t742 t745).bind fun t748 => ((nat_Mul.f k x0 x1).bind fun t749 => ((pelorusref01_Mul.f k x0 x1).bind fun t752 => ((pelorusref01_Same.f k t749 t752).bind fun t755 => ((pelorusref01_Same.f k bt734.1 bt738.1).bind fun t756 => ((nat_Trim.f k x0).bind fun t757 => ((pelorusref01_Trim.f k x0).bind fun t760 => ((pelorusref01_Same.f k t757 t760).bind fun t763 => (if t748 = true then (if t755 = true then (if t756 = true then (if t763 = true then (if (bt734.2 == bt738.2) = true then ((nat_Cmp.f k x0 x1).bind fun t764 => ((pelorusref01_Cmp.f k x0 x1).bind fun t765 => (if t764 = t765 then ((nat_Len.f k x0).bind fun t766 => ((pelorusref01_Len.f k x0).bind fun t767 => (some (t766 == t767)))) else (some false)))) else (some false)) else (some false)) else (some false)) else (some false)) else (some false))))))))))))))
def peloruslaw01_NatSums.f (k : Nat) (l0 : List Int) (l1 : List Int) : Option (Bool) := (peloruslaw01_awake.f k).bind fun t732 => ((peloruslaw01_few.f l0 l1).bind fun t733 => (if t732 = true then (peloruslaw01_NatSums.j0 k l0 l1 t732 (!t733)) else (peloruslaw01_NatSums.j0 k l0 l1 t732 true)))
def peloruslaw01_NatSums.Pure : Prop := ∀ (l0 : List Int) (l1 : List Int), l0.length ≤ maxLen → l0.length * 4 ≤ 140737488351232 → (∀ x ∈ l0, (Lit.int .u32 x).wf = true) → l1.length ≤ maxLen → l1.length * 4 ≤ 140737488351232 → (∀ x ∈ l1, (Lit.int .u32 x).wf = true) → ∃ k, peloruslaw01_NatSums.f k l0 l1 = some true ∧ ∀ r, peloruslaw01_awake.f k = some r → r = true

end Go.Proofs.Ytdaoijgnolhnoaa.PN
