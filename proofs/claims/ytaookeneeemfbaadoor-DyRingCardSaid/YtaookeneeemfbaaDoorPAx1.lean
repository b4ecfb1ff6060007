-- Laid by this work's own program; Lean checks it.
import Derived.Test.YtaookeneeemfbaaDoorPAx0
namespace Go.Proofs.YtaookeneeemfbaaDoor.PA
open Go.RowKit Go.Proofs.YtaookeneeemfbaaDoorW.PrintWords Go.Proofs.YtaookeneeemfbaaDoorW.PrintLast Go.Proofs.YtaookeneeemfbaaDoorW.PrintMore
attribute [local go_sem] max2_int min2_int max_two min_two max_three min_three max_four min_four   -- for this text's walks alone
set_option linter.unusedVariables false
set_option linter.unusedSimpArgs false

attribute [local go_sem ↓ high] isSome_set_
/-! ### nat_cut: function 67 -/
def nat_cut.l0 : Nat → List Int → Option (List Int)
  | 0, _ => none
  | k + 1, x0 => if (x0.length : Int) > 0 then (if 0 ≤ (wrap64 ((x0.length : Int) - 1)) then (if (wrap64 ((x0.length : Int) - 1)) < (x0.length : Int) then (if (rd x0 (wrap64 ((x0.length : Int) - 1))) = 0 then (if (wrap64 ((x0.length : Int) - 1)) ≤ (x0.length : Int) then (nat_cut.l0 k (x0.take ((wrap64 ((x0.length : Int) - 1)) : Int).toNat)) else (none)) else (some x0)) else (none)) else (none)) else (some x0)
def nat_cut.f (k : Nat) (l0 : List Int) : Option (List Int) := nat_cut.l0 k l0

/-! ### nat_cut_own: function 67 -/
def nat_cut_own.l0 : Nat → List Int → Option (List Int)
  | 0, _ => none
  | k + 1, x0 => if (x0.length : Int) > 0 then (if 0 ≤ (wrap64 ((x0.length : Int) - 1)) then (if (wrap64 ((x0.length : Int) - 1)) < (x0.length : Int) then (if (rd x0 (wrap64 ((x0.length : Int) - 1))) = 0 then (if (wrap64 ((x0.length : Int) - 1)) ≤ (x0.length : Int) then (nat_cut_own.l0 k (x0.take ((wrap64 ((x0.length : Int) - 1)) : Int).toNat)) else (none)) else (some x0)) else (none)) else (none)) else (some x0)
def nat_cut_own.f (k : Nat) (l0 : List Int) : Option (List Int) := nat_cut_own.l0 k l0

/-! ### bits_Len32: function 78 -/
def bits_Len32.f (a0 : Int) : Option (Int) := if a0 ≥ 65536 then (if (a0 / 65536) ≥ 256 then (if 0 ≤ (((a0 / 65536) / 256) % 256) then (if (((a0 / 65536) / 256) % 256) < 256 then (some (wrap64 ((16 + 8) + (wrap64 (bt (⟨#[0, 1, 2, 2, 3, 3, 3, 3, 4, 4, 4, 4, 4, 4, 4, 4, 5, 5, 5, 5, 5, 5, 5, 5, 5, 5, 5, 5, 5, 5, 5, 5, 6, 6, 6, 6, 6, 6, 6, 6, 6, 6, 6, 6, 6, 6, 6, 6, 6, 6, 6, 6, 6, 6, 6, 6, 6, 6, 6, 6, 6, 6, 6, 6, 7, 7, 7, 7, 7, 7, 7, 7, 7, 7, 7, 7, 7, 7, 7, 7, 7, 7, 7, 7, 7, 7, 7, 7, 7, 7, 7, 7, 7, 7, 7, 7, 7, 7, 7, 7, 7, 7, 7, 7, 7, 7, 7, 7, 7, 7, 7, 7, 7, 7, 7, 7, 7, 7, 7, 7, 7, 7, 7, 7, 7, 7, 7, 7, 8, 8, 8, 8, 8, 8, 8, 8, 8, 8, 8, 8, 8, 8, 8, 8, 8, 8, 8, 8, 8, 8, 8, 8, 8, 8, 8, 8, 8, 8, 8, 8, 8, 8, 8, 8, 8, 8, 8, 8, 8, 8, 8, 8, 8, 8, 8, 8, 8, 8, 8, 8, 8, 8, 8, 8, 8, 8, 8, 8, 8, 8, 8, 8, 8, 8, 8, 8, 8, 8, 8, 8, 8, 8, 8, 8, 8, 8, 8, 8, 8, 8, 8, 8, 8, 8, 8, 8, 8, 8, 8, 8, 8, 8, 8, 8, 8, 8, 8, 8, 8, 8, 8, 8, 8, 8, 8, 8, 8, 8, 8, 8, 8, 8, 8, 8, 8, 8, 8, 8, 8, 8, 8, 8, 8, 8, 8, 8]⟩ : ByteArray) (((a0 / 65536) / 256) % 256)))))) else (none)) else (none)) else (if 0 ≤ ((a0 / 65536) % 256) then (if ((a0 / 65536) % 256) < 256 then (some (wrap64 (16 + (wrap64 (bt (⟨#[0, 1, 2, 2, 3, 3, 3, 3, 4, 4, 4, 4, 4, 4, 4, 4, 5, 5, 5, 5, 5, 5, 5, 5, 5, 5, 5, 5, 5, 5, 5, 5, 6, 6, 6, 6, 6, 6, 6, 6, 6, 6, 6, 6, 6, 6, 6, 6, 6, 6, 6, 6, 6, 6, 6, 6, 6, 6, 6, 6, 6, 6, 6, 6, 7, 7, 7, 7, 7, 7, 7, 7, 7, 7, 7, 7, 7, 7, 7, 7, 7, 7, 7, 7, 7, 7, 7, 7, 7, 7, 7, 7, 7, 7, 7, 7, 7, 7, 7, 7, 7, 7, 7, 7, 7, 7, 7, 7, 7, 7, 7, 7, 7, 7, 7, 7, 7, 7, 7, 7, 7, 7, 7, 7, 7, 7, 7, 7, 8, 8, 8, 8, 8, 8, 8, 8, 8, 8, 8, 8, 8, 8, 8, 8, 8, 8, 8, 8, 8, 8, 8, 8, 8, 8, 8, 8, 8, 8, 8, 8, 8, 8, 8, 8, 8, 8, 8, 8, 8, 8, 8, 8, 8, 8, 8, 8, 8, 8, 8, 8, 8, 8, 8, 8, 8, 8, 8, 8, 8, 8, 8, 8, 8, 8, 8, 8, 8, 8, 8, 8, 8, 8, 8, 8, 8, 8, 8, 8, 8, 8, 8, 8, 8, 8, 8, 8, 8, 8, 8, 8, 8, 8, 8, 8, 8, 8, 8, 8, 8, 8, 8, 8, 8, 8, 8, 8, 8, 8, 8, 8, 8, 8, 8, 8, 8, 8, 8, 8, 8, 8, 8, 8, 8, 8, 8, 8]⟩ : ByteArray) ((a0 / 65536) % 256)))))) else (none)) else (none))) else (if a0 ≥ 256 then (if 0 ≤ ((a0 / 256) % 256) then (if ((a0 / 256) % 256) < 256 then (some (wrap64 ((0 + 8) + (wrap64 (bt (⟨#[0, 1, 2, 2, 3, 3, 3, 3, 4, 4, 4, 4, 4, 4, 4, 4, 5, 5, 5, 5, 5, 5, 5, 5, 5, 5, 5, 5, 5, 5, 5, 5, 6, 6, 6, 6, 6, 6, 6, 6, 6, 6, 6, 6, 6, 6, 6, 6, 6, 6, 6, 6, 6, 6, 6, 6, 6, 6, 6, 6, 6, 6, 6, 6, 7, 7, 7, 7, 7, 7, 7, 7, 7, 7, 7, 7, 7, 7, 7, 7, 7, 7, 7, 7, 7, 7, 7, 7, 7, 7, 7, 7, 7, 7, 7, 7, 7, 7, 7, 7, 7, 7, 7, 7, 7, 7, 7, 7, 7, 7, 7, 7, 7, 7, 7, 7, 7, 7, 7, 7, 7, 7, 7, 7, 7, 7, 7, 7, 8, 8, 8, 8, 8, 8, 8, 8, 8, 8, 8, 8, 8, 8, 8, 8, 8, 8, 8, 8, 8, 8, 8, 8, 8, 8, 8, 8, 8, 8, 8, 8, 8, 8, 8, 8, 8, 8, 8, 8, 8, 8, 8, 8, 8, 8, 8, 8, 8, 8, 8, 8, 8, 8, 8, 8, 8, 8, 8, 8, 8, 8, 8, 8, 8, 8, 8, 8, 8, 8, 8, 8, 8, 8, 8, 8, 8, 8, 8, 8, 8, 8, 8, 8, 8, 8, 8, 8, 8, 8, 8, 8, 8, 8, 8, 8, 8, 8, 8, 8, 8, 8, 8, 8, 8, 8, 8, 8, 8, 8, 8, 8, 8, 8, 8, 8, 8, 8, 8, 8, 8, 8, 8, 8, 8, 8, 8, 8]⟩ : ByteArray) ((a0 / 256) % 256)))))) else (none)) else (none)) else (if 0 ≤ ((a0) % 256) then (if ((a0) % 256) < 256 then (some (wrap64 (0 + (wrap64 (bt (⟨#[0, 1, 2, 2, 3, 3, 3, 3, 4, 4, 4, 4, 4, 4, 4, 4, 5, 5, 5, 5, 5, 5, 5, 5, 5, 5, 5, 5, 5, 5, 5, 5, 6, 6, 6, 6, 6, 6, 6, 6, 6, 6, 6, 6, 6, 6, 6, 6, 6, 6, 6, 6, 6, 6, 6, 6, 6, 6, 6, 6, 6, 6, 6, 6, 7, 7, 7, 7, 7, 7, 7, 7, 7, 7, 7, 7, 7, 7, 7, 7, 7, 7, 7, 7, 7, 7, 7, 7, 7, 7, 7, 7, 7, 7, 7, 7, 7, 7, 7, 7, 7, 7, 7, 7, 7, 7, 7, 7, 7, 7, 7, 7, 7, 7, 7, 7, 7, 7, 7, 7, 7, 7, 7, 7, 7, 7, 7, 7, 8, 8, 8, 8, 8, 8, 8, 8, 8, 8, 8, 8, 8, 8, 8, 8, 8, 8, 8, 8, 8, 8, 8, 8, 8, 8, 8, 8, 8, 8, 8, 8, 8, 8, 8, 8, 8, 8, 8, 8, 8, 8, 8, 8, 8, 8, 8, 8, 8, 8, 8, 8, 8, 8, 8, 8, 8, 8, 8, 8, 8, 8, 8, 8, 8, 8, 8, 8, 8, 8, 8, 8, 8, 8, 8, 8, 8, 8, 8, 8, 8, 8, 8, 8, 8, 8, 8, 8, 8, 8, 8, 8, 8, 8, 8, 8, 8, 8, 8, 8, 8, 8, 8, 8, 8, 8, 8, 8, 8, 8, 8, 8, 8, 8, 8, 8, 8, 8, 8, 8, 8, 8, 8, 8, 8, 8, 8, 8]⟩ : ByteArray) ((a0) % 256)))))) else (none)) else (none)))

/-! ### nat_Len: function 65 -/
def nat_Len.f (k : Nat) (l0 : List Int) : Option (Int) := (nat_cut.f k l0).bind fun t111 => (if (t111.length : Int) = 0 then (some 0) else (if 0 ≤ (wrap64 ((t111.length : Int) - 1)) then (if (wrap64 ((t111.length : Int) - 1)) < (t111.length : Int) then ((bits_Len32.f (rd t111 (wrap64 ((t111.length : Int) - 1)))).bind fun t115 => (some (wrap64 ((wrap64 (32 * (wrap64 ((t111.length : Int) - 1)))) + t115)))) else (none)) else (none)))

/-! ### whole_Sign: function 38 -/
def whole_Sign.f (k : Nat) (a0_0 : Bool) (l0_1 : List Int) : Option (Int) := (nat_Len.f k l0_1).bind fun t117 => (if t117 = 0 then (some 0) else (if a0_0 = true then (some (-1)) else (some 1)))

/-! ### dy_within: function 39 -/
def dy_within.f (a0 : Int) : Option (Bool) := if a0 ≥ (-4194304) then (some (decide (a0 ≤ 4194304))) else (some false)


/-! ### bits_TrailingZeros32: function 66 (a text of our own) -/
/-- What the library's table holds (the row lists it). -/
def tz32tab : List Int := [0, 1, 28, 2, 29, 14, 24, 3, 30, 22, 20, 15, 25, 17, 4, 8, 31, 27, 13, 23, 21, 19, 16, 7, 26, 12, 18, 6, 11, 5, 10, 9]
def tz32ix (a0 : Int) : Int := Go.bits .and .u32 a0 (-a0 % 4294967296) * 125613361 % 4294967296 / 134217728
def bits_TrailingZeros32.f (a0 : Int) : Option Int := if a0 = 0 then some 32 else if 0 ≤ tz32ix a0 ∧ tz32ix a0 < 32 then some (wrap64 (tz32tab.getD (tz32ix a0).toNat 0)) else none
theorem tz32_at {w : World} (h : Kd.C (Kd.int .u8) w (some ⟨0, 0, none⟩) 32 tz32tab) (i : Nat) (hi : i < 32) : w.cell? ⟨0, i, none⟩ = some (.int .u8 (tz32tab.getD i 0)) := by
  obtain ⟨ad, he, hc⟩ := h.2.2 (by decide)
  obtain rfl := Option.some.inj he
  have hl : tz32tab[i]? = some (tz32tab.getD i 0) := by
    rw [List.getD_eq_getElem?_getD, List.getElem?_eq_getElem (show i < tz32tab.length from hi)]; rfl
  obtain ⟨c, hs, hr, hcell⟩ := hc i _ hl
  have hc1 : c = [.int .u8 (tz32tab.getD i 0)] := hr
  subst hc1
  have := hcell 0 _ rfl
  by_cases hz : i = 0
  · subst hz; simpa [Addr.add, Kd.int, Kd.scalar] using this
  · simpa [Addr.add, Kd.int, Kd.scalar, hz] using this
theorem bits_TrailingZeros32.calls (a0 : Int) (r : Int) (w : World) (h : bits_TrailingZeros32.f a0 = some r) (htab_ : Kd.C (Kd.int .u8) w (some ⟨0, 0, none⟩) 32 tz32tab) :
    Calls Tryd.prog 66 #[.int .u32 a0] w fun e w' => e = .returned (.int .i64 r) ∧ Drawn0 w w' := by
  by_cases c0 : a0 = 0
  · have e0 : (some 32 : Option Int) = some r := by simpa [bits_TrailingZeros32.f, c0] using h
    obtain rfl := Option.some.inj e0
    subst c0
    clear h htab_
    go_enter Tryd.func66, Tryd.ntmps66
    go_wp2
    go_ret
    exact ⟨rfl, by repeat (first | exact Drawn0.refl _ | apply Drawn0.step)⟩
  · unfold bits_TrailingZeros32.f at h
    rw [if_neg c0] at h
    by_cases hq : 0 ≤ tz32ix a0 ∧ tz32ix a0 < 32
    · rw [if_pos hq] at h
      obtain rfl := Option.some.inj h
      have hc := tz32_at htab_ (tz32ix a0).toNat (by omega)
      have hcb : (a0 == 0) = false := beq_eq_false_iff_ne.mpr c0
      obtain ⟨h0, h1⟩ := hq
      clear h htab_ c0
      generalize hr : tz32tab.getD (tz32ix a0).toNat 0 = r at hc ⊢
      clear hr
      unfold tz32ix at hc h0 h1
      replace h0 := eq_true h0
      replace h1 := eq_true h1
      go_enter Tryd.func66, Tryd.ntmps66
      go_wp2
      go_ret
      exact ⟨rfl, by repeat (first | exact Drawn0.refl _ | apply Drawn0.step)⟩
    · rw [if_neg hq] at h; exact absurd h (by simp)

/-! ### dy_trailing: function 40 -/
def dy_trailing.l0 : Nat → Int → List Int → Int → Int → Option (Int)
  | 0, _, _, _, _ => none
  | k + 1, x3, x6, x7, x8 => if x8 < x7 then (if 0 ≤ x8 then (if x8 < (x6.length : Int) then (if (rd x6 x8) = 0 then (dy_trailing.l0 k (wrap64 (x3 + 32)) x6 x7 (wrap64 (x8 + 1))) else ((bits_TrailingZeros32.f (rd x6 x8)).bind fun t119 => (some (wrap64 (x3 + t119))))) else (none)) else (none)) else (some x3)
def dy_trailing.f (k : Nat) (l0 : List Int) : Option (Int) := dy_trailing.l0 k 0 l0 (l0.length : Int) 0


/-! ### slices_Clone_uint32_uint32: function 68 (a text of our own) -/
def slices_Clone_uint32_uint32.f (l0 : List Int) : Option (List Int) := if l0.length < 35184372088832 then some l0 else none

/-! ### nat_Trim: function 64 -/
def nat_Trim.f (k : Nat) (l0 : List Int) : Option (List Int) := (nat_cut.f k l0).bind fun t120 => ((slices_Clone_uint32_uint32.f t120).bind fun t123 => (some t123))

/-! ### whole_Make: function 41 -/
def whole_Make.f (k : Nat) (a0 : Bool) (l1 : List Int) : Option (Bool × List Int) := (nat_Trim.f k l1).bind fun t127 => (if a0 = true then (some (decide ((t127.length : Int) > 0), t127)) else (some (false, t127)))

/-! ### nat_Shr: function 42 -/
def nat_Shr.l0 : Nat → List Int → Int → Int → List Int → Int → Int → Option (List Int)
  | 0, _, _, _, _, _, _ => none
  | k + 1, x0, x5, x6, x7, x33, x34 => if x34 < x33 then (if 0 ≤ (wrap64 (x34 + x5)) then (if (wrap64 (x34 + x5)) < (x0.length : Int) then (if (wrap64 ((wrap64 (x34 + x5)) + 1)) < (x0.length : Int) then (if 0 ≤ (wrap64 ((wrap64 (x34 + x5)) + 1)) then (if 0 ≤ x6 then (if 0 ≤ x34 then (if x34 < (x7.length : Int) then (nat_Shr.l0 k x0 x5 x6 (x7.set (x34 : Int).toNat ((shr .u64 (Go.bits .or .u64 (IntKind.u64.wrap (rd x0 (wrap64 (x34 + x5)))) (IntKind.u64.wrap ((IntKind.u64.wrap (rd x0 (wrap64 ((wrap64 (x34 + x5)) + 1)))) * 4294967296))) x6) % 4294967296)) x33 (wrap64 (x34 + 1))) else (none)) else (none)) else (none)) else (none)) else (if 0 ≤ x6 then (if 0 ≤ x34 then (if x34 < (x7.length : Int) then (nat_Shr.l0 k x0 x5 x6 (x7.set (x34 : Int).toNat ((shr .u64 (IntKind.u64.wrap (rd x0 (wrap64 (x34 + x5)))) x6) % 4294967296)) x33 (wrap64 (x34 + 1))) else (none)) else (none)) else (none))) else (none)) else (none)) else ((nat_cut_own.f k x7).bind fun t143 => (some t143))
def nat_Shr.f (k : Nat) (l0 : List Int) (a1 : Int) : Option (List Int) := (nat_cut.f k l0).bind fun t130 => (if a1 < 1 then ((slices_Clone_uint32_uint32.f t130).bind fun t133 => (some t133)) else (if a1 ≥ (wrap64 (32 * (t130.length : Int))) then (some ([] : List Int)) else (if 0 ≤ (wrap64 ((t130.length : Int) - (wrap64 (Int.tdiv a1 32)))) then (if (wrap64 ((t130.length : Int) - (wrap64 (Int.tdiv a1 32))) : Int).toNat ≤ 70368744177664 then ((some (List.replicate (wrap64 ((t130.length : Int) - (wrap64 (Int.tdiv a1 32))) : Int).toNat 0 : List Int)).bind fun y136 => (nat_Shr.l0 k t130 (wrap64 (Int.tdiv a1 32)) (Int.tmod a1 32) y136 (y136.length : Int) 0)) else (none)) else (none))))

/-! ### dy_Make: function 10 -/
def dy_Make.j0 : Nat → Int → Bool → Bool → List Int → Option (Bool × List Int × Int)
  | 0, _, _, _, _ => none
  | k + 1, x1, x13, x147000, x147001 => if x13 = true then (some (false, ([] : List Int), 0)) else ((dy_trailing.f k x147001).bind fun t150 => ((dy_within.f (wrap64 (x1 + t150))).bind fun t151 => (if t151 = true then ((nat_Shr.f k x147001 t150).bind fun t152 => ((whole_Make.f k x147000 t152).bind fun bt155 => (some (bt155.1, bt155.2, wrap64 (x1 + t150))))) else (some (false, ([] : List Int), 0)))))
def dy_Make.f (k : Nat) (a0_0 : Bool) (l0_1 : List Int) (a1 : Int) : Option (Bool × List Int × Int) := (whole_Sign.f k a0_0 l0_1).bind fun t148 => (if t148 = 0 then (dy_Make.j0 k a1 true a0_0 l0_1) else ((dy_within.f a1).bind fun t149 => (dy_Make.j0 k a1 (!t149) a0_0 l0_1)))
def dy_Make.T6 : Bool × List (List Nat × List Nat) := (true, [([], []), ([0], [0]), ([], []), ([2], [2]), ([], []), ([3, 4], [3, 4]), ([1, 5, 5], [1, 5]), ([], []), ([], []), ([7, 8], [7, 8]), ([6, 9], [6, 9]), ([10, 6, 0, 1, 2, 3, 4, 5, 6, 7, 8, 9, 10], [10])])
def dy_Make.B6 : List Nat := [0, 1, 0, 4, 0, 28, 63, 0, 0, 384, 1023, 2047]

/-! ### whole_May: function 47 -/
def whole_May.f (a0_0 : Bool) (l0_1 : List Int) : Option (Bool) := if (l0_1.length : Int) = 0 then (some (!a0_0)) else (if 0 ≤ (wrap64 ((l0_1.length : Int) - 1)) then (if (wrap64 ((l0_1.length : Int) - 1)) < (l0_1.length : Int) then (some ((rd l0_1 (wrap64 ((l0_1.length : Int) - 1))) != 0)) else (none)) else (none))

/-! ### dy_May: function 15 -/
def dy_May.f (a0_0 : Bool) (l0_1 : List Int) (a0_2 : Int) : Option (Bool) := if (l0_1.length : Int) = 0 then (if a0_0 = true then (some false) else (some (a0_2 == 0))) else ((whole_May.f a0_0 l0_1).bind fun t162 => (if t162 = true then (if 0 < (l0_1.length : Int) then (if (Go.bits .and .u32 (rd l0_1 0) 1) = 1 then ((dy_within.f a0_2).bind fun t164 => (some t164)) else (some false)) else (none)) else (some false)))

/-! ### dy_fair: function 46 -/
def dy_fair.f (k : Nat) (a0_0 : Bool) (l0_1 : List Int) (a0_2 : Int) : Option (Bool × List Int × Int) := (dy_May.f a0_0 l0_1 a0_2).bind fun t167 => (if t167 = true then (some (a0_0, l0_1, a0_2)) else ((dy_Make.f k a0_0 l0_1 a0_2).bind fun bt168 => (some (bt168.1, bt168.2.1, bt168.2.2))))

/-! ### bits_Add32: function 71 -/
def bits_Add32.f (a0 : Int) (a1 : Int) (a2 : Int) : Option (Int × Int) := some ((IntKind.u64.wrap ((IntKind.u64.wrap ((IntKind.u64.wrap (a0)) + (IntKind.u64.wrap (a1)))) + (IntKind.u64.wrap (a2)))) % 4294967296, ((IntKind.u64.wrap ((IntKind.u64.wrap ((IntKind.u64.wrap (a0)) + (IntKind.u64.wrap (a1)))) + (IntKind.u64.wrap (a2)))) / 4294967296) % 4294967296)

/-! ### nat_Add: function 53 -/
mutual
def nat_Add.l0 : Nat → List Int → List Int → List Int → Int → Int → Int → Option (List Int)
  | 0, _, _, _, _, _, _ => none
  | k + 1, x0, x1, x5, x6, x21, x22 => if x22 < x21 then (if x22 < (x1.length : Int) then (if 0 ≤ x22 then (if x22 < (x0.length : Int) then ((bits_Add32.f (rd x0 x22) (rd x1 x22) x6).bind fun bt178 => (if x22 < (x5.length : Int) then (nat_Add.l0 k x0 x1 (x5.set (x22 : Int).toNat bt178.1) bt178.2 x21 (wrap64 (x22 + 1))) else (none))) else (none)) else (none)) else (if 0 ≤ x22 then (if x22 < (x0.length : Int) then ((bits_Add32.f (rd x0 x22) 0 x6).bind fun bt182 => (if x22 < (x5.length : Int) then (nat_Add.l0 k x0 x1 (x5.set (x22 : Int).toNat bt182.1) bt182.2 x21 (wrap64 (x22 + 1))) else (none))) else (none)) else (none))) else (if 0 ≤ (x0.length : Int) then (if (x0.length : Int) < (x5.length : Int) then ((nat_cut_own.f k (x5.set ((x0.length : Int) : Int).toNat x6)).bind fun t186 => (some t186)) else (none)) else (none))
def nat_Add.l1 : Nat → List Int → List Int → List Int → Int → Int → Int → Option (List Int)
  | 0, _, _, _, _, _, _ => none
  | k + 1, x0, x1, x5, x6, x21, x22 => if x22 < x21 then (if x22 < (x1.length : Int) then (if 0 ≤ x22 then (if x22 < (x0.length : Int) then ((bits_Add32.f (rd x0 x22) (rd x1 x22) x6).bind fun bt194 => (if x22 < (x5.length : Int) then (nat_Add.l1 k x0 x1 (x5.set (x22 : Int).toNat bt194.1) bt194.2 x21 (wrap64 (x22 + 1))) else (none))) else (none)) else (none)) else (if 0 ≤ x22 then (if x22 < (x0.length : Int) then ((bits_Add32.f (rd x0 x22) 0 x6).bind fun bt198 => (if x22 < (x5.length : Int) then (nat_Add.l1 k x0 x1 (x5.set (x22 : Int).toNat bt198.1) bt198.2 x21 (wrap64 (x22 + 1))) else (none))) else (none)) else (none))) else (if 0 ≤ (x0.length : Int) then (if (x0.length : Int) < (x5.length : Int) then ((nat_cut_own.f k (x5.set ((x0.length : Int) : Int).toNat x6)).bind fun t202 => (some t202)) else (none)) else (none))
end
def nat_Add.f (k : Nat) (l0 : List Int) (l1 : List Int) : Option (List Int) := if (l0.length : Int) < (l1.length : Int) then (if 0 ≤ (wrap64 ((l1.length : Int) + 1)) then (if (wrap64 ((l1.length : Int) + 1) : Int).toNat ≤ 70368744177664 then (nat_Add.l0 k l1 l0 (List.replicate (wrap64 ((l1.length : Int) + 1) : Int).toNat 0) 0 (l1.length : Int) 0) else (none)) else (none)) else (if 0 ≤ (wrap64 ((l0.length : Int) + 1)) then (if (wrap64 ((l0.length : Int) + 1) : Int).toNat ≤ 70368744177664 then (nat_Add.l1 k l0 l1 (List.replicate (wrap64 ((l0.length : Int) + 1) : Int).toNat 0) 0 (l0.length : Int) 0) else (none)) else (none))

/-! ### nat_Cmp: function 72 -/
def nat_Cmp.l0 : Nat → List Int → List Int → Int → Int → Option (Int)
  | 0, _, _, _, _ => none
  | k + 1, x0, x1, x24, x25 => if x25 < x24 then (if 0 ≤ (wrap64 ((wrap64 ((x0.length : Int) - 1)) - x25)) then (if (wrap64 ((wrap64 ((x0.length : Int) - 1)) - x25)) < (x0.length : Int) then (if (wrap64 ((wrap64 ((x0.length : Int) - 1)) - x25)) < (x1.length : Int) then (if (rd x0 (wrap64 ((wrap64 ((x0.length : Int) - 1)) - x25))) < (rd x1 (wrap64 ((wrap64 ((x0.length : Int) - 1)) - x25))) then (some (-1)) else (if (rd x0 (wrap64 ((wrap64 ((x0.length : Int) - 1)) - x25))) > (rd x1 (wrap64 ((wrap64 ((x0.length : Int) - 1)) - x25))) then (some 1) else (nat_Cmp.l0 k x0 x1 x24 (wrap64 (x25 + 1))))) else (none)) else (none)) else (none)) else (some 0)
def nat_Cmp.f (k : Nat) (l0 : List Int) (l1 : List Int) : Option (Int) := (nat_cut.f k l0).bind fun t205 => ((nat_cut.f k l1).bind fun t208 => (if (t205.length : Int) < (t208.length : Int) then (some (-1)) else (if (t205.length : Int) > (t208.length : Int) then (some 1) else (nat_Cmp.l0 k t205 t208 (t205.length : Int) 0))))

/-! ### bits_Sub32: function 73 -/
def bits_Sub32.f (a0 : Int) (a1 : Int) (a2 : Int) : Option (Int × Int) := some ((((a0 - a1) % 4294967296) - a2) % 4294967296, (Go.bits .or .u32 (Go.bits .and .u32 (Go.bits .xor .u32 4294967295 a0) a1) (Go.bits .and .u32 (Go.bits .xor .u32 4294967295 (Go.bits .xor .u32 a0 a1)) ((((a0 - a1) % 4294967296) - a2) % 4294967296))) / 2147483648)

/-! ### nat_Sub: function 54 -/
def nat_Sub.l0 : Nat → List Int → List Int → List Int → Int → Int → Int → Option (List Int × Bool)
  | 0, _, _, _, _, _, _ => none
  | k + 1, x0, x1, x6, x7, x22, x23 => if x23 < x22 then (if x23 < (x1.length : Int) then (if 0 ≤ x23 then (if x23 < (x0.length : Int) then ((bits_Sub32.f (rd x0 x23) (rd x1 x23) x7).bind fun bt227 => (if x23 < (x6.length : Int) then (nat_Sub.l0 k x0 x1 (x6.set (x23 : Int).toNat bt227.1) bt227.2 x22 (wrap64 (x23 + 1))) else (none))) else (none)) else (none)) else (if 0 ≤ x23 then (if x23 < (x0.length : Int) then ((bits_Sub32.f (rd x0 x23) 0 x7).bind fun bt231 => (if x23 < (x6.length : Int) then (nat_Sub.l0 k x0 x1 (x6.set (x23 : Int).toNat bt231.1) bt231.2 x22 (wrap64 (x23 + 1))) else (none))) else (none)) else (none))) else ((nat_cut_own.f k x6).bind fun t234 => (some (t234, true)))
def nat_Sub.f (k : Nat) (l0 : List Int) (l1 : List Int) : Option (List Int × Bool) := (nat_cut.f k l0).bind fun t215 => ((nat_cut.f k l1).bind fun t218 => ((nat_Cmp.f k t215 t218).bind fun t221 => (if t221 < 0 then (some (([] : List Int), false)) else (if 0 ≤ (t215.length : Int) then (if ((t215.length : Int) : Int).toNat ≤ 70368744177664 then (nat_Sub.l0 k t215 t218 (List.replicate ((t215.length : Int) : Int).toNat 0) 0 (t215.length : Int) 0) else (none)) else (none)))))

/-! ### whole_Add: function 24 -/
def whole_Add.f (k : Nat) (a0_0 : Bool) (l0_1 : List Int) (a1_0 : Bool) (l1_1 : List Int) : Option (Bool × List Int) := if (a0_0 == a1_0) = true then ((nat_Add.f k l0_1 l1_1).bind fun t240 => ((whole_Make.f k a0_0 t240).bind fun bt243 => (some (bt243.1, bt243.2)))) else ((nat_Sub.f k l0_1 l1_1).bind fun bt247 => (if bt247.2 = true then ((whole_Make.f k a0_0 bt247.1).bind fun bt251 => (some (bt251.1, bt251.2))) else ((nat_Sub.f k l1_1 l0_1).bind fun bt255 => ((whole_Make.f k a1_0 bt255.1).bind fun bt259 => (some (bt259.1, bt259.2))))))
def whole_Add.T2 : Bool × List (List Nat × List Nat) := (true, [([], []), ([0], [0]), ([], []), ([2], [2]), ([], []), ([4], [4]), ([3, 5], [3, 5]), ([1, 6, 6], [1, 6]), ([7, 7, 0, 1, 2, 3, 4, 5, 6, 7], [7])])
def whole_Add.B2 : List Nat := [0, 1, 0, 4, 0, 16, 60, 127, 255]

/-! ### nat_Shl: function 52 -/
def nat_Shl.l0 : Nat → Int → Int → List Int → List Int → Int → Int → Option (List Int)
  | 0, _, _, _, _, _, _ => none
  | k + 1, x5, x6, x7, x36, x37, x38 => if x38 < x37 then (if 0 ≤ x38 then (if x38 < (x36.length : Int) then (if 0 ≤ x6 then (if 0 ≤ (wrap64 (x38 + x5)) then (if (wrap64 (x38 + x5)) < (x7.length : Int) then ((some (x7.set ((wrap64 (x38 + x5)) : Int).toNat (Go.bits .or .u32 (rd x7 (wrap64 (x38 + x5))) ((shl .u64 (IntKind.u64.wrap (rd x36 x38)) x6) % 4294967296)) : List Int)).bind fun y274 => (if 0 ≤ (wrap64 ((wrap64 (x38 + x5)) + 1)) then (if (wrap64 ((wrap64 (x38 + x5)) + 1)) < (x7.length : Int) then (nat_Shl.l0 k x5 x6 (y274.set ((wrap64 ((wrap64 (x38 + x5)) + 1)) : Int).toNat (Go.bits .or .u32 (rd y274 (wrap64 ((wrap64 (x38 + x5)) + 1))) (((shl .u64 (IntKind.u64.wrap (rd x36 x38)) x6) / 4294967296) % 4294967296))) x36 x37 (wrap64 (x38 + 1))) else (none)) else (none))) else (none)) else (none)) else (none)) else (none)) else (none)) else ((nat_cut_own.f k x7).bind fun t277 => (some t277))
def nat_Shl.f (k : Nat) (l0 : List Int) (a1 : Int) : Option (List Int) := (nat_cut.f k l0).bind fun t263 => (if a1 < 1 then ((slices_Clone_uint32_uint32.f t263).bind fun t266 => (some t266)) else (if a1 > 16777216 then (some ([] : List Int)) else (if (t263.length : Int) = 0 then (some ([] : List Int)) else (if 0 ≤ (wrap64 ((wrap64 ((t263.length : Int) + (wrap64 (Int.tdiv a1 32)))) + 1)) then (if (wrap64 ((wrap64 ((t263.length : Int) + (wrap64 (Int.tdiv a1 32)))) + 1) : Int).toNat ≤ 70368744177664 then (nat_Shl.l0 k (wrap64 (Int.tdiv a1 32)) (Int.tmod a1 32) (List.replicate (wrap64 ((wrap64 ((t263.length : Int) + (wrap64 (Int.tdiv a1 32)))) + 1) : Int).toNat 0) t263 (t263.length : Int) 0) else (none)) else (none)))))

/-! ### dy_add: function 50 -/
def dy_add.f (k : Nat) (a0_0 : Bool) (l0_1 : List Int) (a0_2 : Int) (a1_0 : Bool) (l1_1 : List Int) (a1_2 : Int) : Option (Bool × List Int × Int) := if (l0_1.length : Int) = 0 then (some (a1_0, l1_1, a1_2)) else (if (l1_1.length : Int) = 0 then (some (a0_0, l0_1, a0_2)) else (if a0_2 > a1_2 then ((nat_Shl.f k l0_1 (wrap64 (a0_2 - a1_2))).bind fun t283 => ((whole_Add.f k a1_0 l1_1 a0_0 t283).bind fun bt287 => ((dy_Make.f k bt287.1 bt287.2 a1_2).bind fun bt291 => (some (bt291.1, bt291.2.1, bt291.2.2))))) else ((nat_Shl.f k l1_1 (wrap64 (a1_2 - a0_2))).bind fun t296 => ((whole_Add.f k a0_0 l0_1 a1_0 t296).bind fun bt300 => ((dy_Make.f k bt300.1 bt300.2 a0_2).bind fun bt304 => (some (bt304.1, bt304.2.1, bt304.2.2)))))))
def dy_add.T7 : Bool × List (List Nat × List Nat) := (true, [([], []), ([0], [0]), ([1], [1]), ([], []), ([3], [3]), ([4], [4]), ([], []), ([6], [6]), ([], []), ([8], [8]), ([7, 9], [7, 9]), ([5, 10], [5, 10]), ([2, 11], [2, 11]), ([], []), ([13, 12, 11, 0, 1, 2, 3, 4, 5, 6, 7, 8, 9, 10, 11, 12, 13], [12, 13])])
def dy_add.B7 : List Nat := [0, 1, 3, 0, 8, 24, 0, 64, 0, 256, 960, 2040, 4095, 0, 16383]

/-! ### dy_own: function 51 -/
def dy_own.f (k : Nat) (a0_0 : Bool) (l0_1 : List Int) (a0_2 : Int) : Option (Bool × List Int × Int) := (dy_Make.f k a0_0 l0_1 a0_2).bind fun bt311 => (some (bt311.1, bt311.2.1, bt311.2.2))

/-! ### dy_Add: function 21 -/
def dy_Add.l0 : Nat → List (S27) → Int → Int → Bool → List Int → Int → Option (Bool × List Int × Int)
  | 0, _, _, _, _, _, _ => none
  | k + 1, x6, x7, x8, x318000, x318001, x318002 => if x8 < x7 then (if 0 ≤ x8 then (if x8 < (x6.length : Int) then ((dy_fair.f k ((rd_T27 x6 x8).f0.f0) ((rd_T27 x6 x8).f0.f1) ((rd_T27 x6 x8).f1)).bind fun bt320 => ((dy_add.f k x318000 x318001 x318002 bt320.1 bt320.2.1 bt320.2.2).bind fun bt325 => (dy_Add.l0 k x6 x7 (wrap64 (x8 + 1)) bt325.1 bt325.2.1 bt325.2.2))) else (none)) else (none)) else ((dy_own.f k x318000 x318001 x318002).bind fun bt330 => (some (bt330.1, bt330.2.1, bt330.2.2)))
def dy_Add.f (k : Nat) (l0 : List (S27)) : Option (Bool × List Int × Int) := dy_Add.l0 k l0 (l0.length : Int) 0 false ([] : List Int) 0

/-! ### dy_Floor: function 23 -/
def dy_Floor.f (k : Nat) (a0_0 : Bool) (l0_1 : List Int) (a0_2 : Int) : Option (Bool × List Int) := (dy_fair.f k a0_0 l0_1 a0_2).bind fun bt337 => (if bt337.2.2 ≥ 0 then ((nat_Shl.f k bt337.2.1 bt337.2.2).bind fun t342 => ((whole_Make.f k bt337.1 t342).bind fun bt345 => (some (bt345.1, bt345.2)))) else ((nat_Shr.f k bt337.2.1 (wrap64 (-bt337.2.2))).bind fun t349 => (if bt337.1 = true then ((nat_Add.f k t349 (([1] : List Int))).bind fun t355 => ((whole_Make.f k bt337.1 t355).bind fun bt358 => (some (bt358.1, bt358.2)))) else ((whole_Make.f k bt337.1 t349).bind fun bt362 => (some (bt362.1, bt362.2))))))
def dy_Floor.T3 : Bool × List (List Nat × List Nat) := (true, [([], []), ([0], [0]), ([1], [1]), ([], []), ([3], [3]), ([4], [4]), ([], []), ([6], [6]), ([5, 7], [5, 7]), ([2, 8, 8], [2, 8]), ([9, 9, 0, 1, 2, 3, 4, 5, 6, 7, 8, 9], [9])])
def dy_Floor.B3 : List Nat := [0, 1, 3, 0, 8, 24, 0, 64, 248, 511, 1023]

/-! ### whole_From: function 25 -/
def whole_From.f (k : Nat) (a0 : Int) : Option (Bool × List Int) := if a0 < 0 then ((whole_Make.f k (decide (a0 < 0)) (([(IntKind.u64.wrap (-(IntKind.u64.wrap (a0)))) % 4294967296, ((IntKind.u64.wrap (-(IntKind.u64.wrap (a0)))) / 4294967296) % 4294967296] : List Int))).bind fun bt370 => (some (bt370.1, bt370.2))) else ((whole_Make.f k (decide (a0 < 0)) (([(IntKind.u64.wrap (a0)) % 4294967296, ((IntKind.u64.wrap (a0)) / 4294967296) % 4294967296] : List Int))).bind fun bt377 => (some (bt377.1, bt377.2)))

/-! ### whole_Int: function 37 -/
def whole_Int.l0 : Nat → Int → List Int → Int → Int → Bool → List Int → Option (Int × Bool)
  | 0, _, _, _, _, _, _ => none
  | k + 1, x5, x16, x17, x18, x382000, x382001 => if x18 < x17 then (if 0 ≤ x18 then (if x18 < (x16.length : Int) then (if 0 ≤ (wrap64 (32 * x18)) then (whole_Int.l0 k (Go.bits .or .u64 x5 (shl .u64 (IntKind.u64.wrap (rd x16 x18)) (wrap64 (32 * x18)))) x16 x17 (wrap64 (x18 + 1)) x382000 x382001) else (none)) else (none)) else (none)) else (if x382000 = true then (if (wrap64 (-(wrap64 (x5)))) = 0 then (if x5 = 0 then (some (wrap64 (-(wrap64 (x5))), true)) else (some (0, false))) else (if x5 = 0 then (some (0, false)) else (if (((decide ((wrap64 (-(wrap64 (x5)))) < 0)) == x382000) = true) then (some (wrap64 (-(wrap64 (x5))), true)) else (some (0, false))))) else (if (wrap64 (x5)) = 0 then (if x5 = 0 then (some (wrap64 (x5), true)) else (some (0, false))) else (if x5 = 0 then (some (0, false)) else (if (((decide ((wrap64 (x5)) < 0)) == x382000) = true) then (some (wrap64 (x5), true)) else (some (0, false))))))
def whole_Int.f (k : Nat) (a0_0 : Bool) (l0_1 : List Int) : Option (Int × Bool) := (nat_Trim.f k l0_1).bind fun t382 => (if (t382.length : Int) > 2 then (some (0, false)) else (whole_Int.l0 k 0 t382 (t382.length : Int) 0 a0_0 l0_1))

/-! ### peloruslaw03_awake: function 9 -/
def peloruslaw03_awake.f (k : Nat)  : Option (Bool) := (whole_From.f k 12).bind fun bt386 => ((dy_Make.f k bt386.1 bt386.2 (-3)).bind fun bt390 => ((whole_From.f k 1).bind fun bt396 => ((dy_Make.f k bt396.1 bt396.2 (-1)).bind fun bt400 => ((whole_From.f k 1).bind fun bt405 => ((dy_Make.f k bt405.1 bt405.2 (-2)).bind fun bt409 => ((dy_Add.f k (([(⟨(⟨bt400.1, bt400.2.1⟩ : S24), bt400.2.2⟩ : S27), (⟨(⟨bt409.1, bt409.2.1⟩ : S24), bt409.2.2⟩ : S27)] : List (S27)))).bind fun bt417 => ((whole_From.f k (-1)).bind fun bt423 => ((dy_Make.f k bt423.1 bt423.2 (-1)).bind fun bt427 => ((dy_Floor.f k bt427.1 bt427.2.1 bt427.2.2).bind fun bt432 => ((whole_Int.f k bt432.1 bt432.2).bind fun bt436 => (if bt390.2.2 = (-1) then (if bt417.2.2 = (-2) then (if (bt417.2.1.length : Int) = 1 then (if 0 < (bt417.2.1.length : Int) then (if (rd bt417.2.1 0) = 3 then (if bt436.1 = (-1) then (some bt436.2) else (some false)) else (some false)) else (none)) else (some false)) else (some false)) else (some false))))))))))))

/-! ### pelorusref01_Same: function 61 -/
def pelorusref01_Same.l0 : Nat → List Int → List Int → Int → Option (Bool)
  | 0, _, _, _ => none
  | k + 1, x0, x1, x5 => if x5 < (x0.length : Int) then (if 0 ≤ x5 then (if x5 < (x1.length : Int) then (if (rd x0 x5) = (rd x1 x5) then (pelorusref01_Same.l0 k x0 x1 (wrap64 (x5 + 1))) else (some false)) else (none)) else (none)) else (some true)
def pelorusref01_Same.f (k : Nat) (l0 : List Int) (l1 : List Int) : Option (Bool) := if (l0.length : Int) = (l1.length : Int) then (pelorusref01_Same.l0 k l0 l1 0) else (some false)

/-! ### pelorusref02_Alike: function 34 -/
def pelorusref02_Alike.f (k : Nat) (a0_0 : Bool) (l0_1 : List Int) (a1_0 : Bool) (l1_1 : List Int) : Option (Bool) := (pelorusref01_Same.f k l0_1 l1_1).bind fun t443 => (if t443 = true then (some (a0_0 == a1_0)) else (some false))

/-! ### pelorusref03_Alike: function 11 -/
def pelorusref03_Alike.f (k : Nat) (a0_0 : Bool) (l0_1 : List Int) (a0_2 : Int) (a1_0 : Bool) (l1_1 : List Int) (a1_2 : Int) : Option (Bool) := (pelorusref02_Alike.f k a0_0 l0_1 a1_0 l1_1).bind fun t446 => (if t446 = true then (some (a0_2 == a1_2)) else (some false))

/-! ### pelorusref01_Trim: function 69 -/
def pelorusref01_Trim.l0 : Nat → List Int → Int → Option (List Int)
  | 0, _, _ => none
  | k + 1, x0, x3 => if x3 > 0 then (if 0 ≤ (wrap64 (x3 - 1)) then (if (wrap64 (x3 - 1)) < (x0.length : Int) then (if (rd x0 (wrap64 (x3 - 1))) = 0 then (pelorusref01_Trim.l0 k x0 (wrap64 (x3 - 1))) else (if 0 ≤ x3 then (if x3 ≤ (x0.length : Int) then (if ([] : List Int).length + (x0.take (x3 : Int).toNat).length < 35184372088832 then (some (([] : List Int) ++ (x0.take (x3 : Int).toNat))) else (none)) else (none)) else (none))) else (none)) else (none)) else (if 0 ≤ x3 then (if x3 ≤ (x0.length : Int) then (if ([] : List Int).length + (x0.take (x3 : Int).toNat).length < 35184372088832 then (some (([] : List Int) ++ (x0.take (x3 : Int).toNat))) else (none)) else (none)) else (none))
def pelorusref01_Trim.f (k : Nat) (l0 : List Int) : Option (List Int) := pelorusref01_Trim.l0 k l0 (l0.length : Int)

/-! ### pelorusref02_Make: function 43 -/
def pelorusref02_Make.f (k : Nat) (a0 : Bool) (l1 : List Int) : Option (Bool × List Int) := (pelorusref01_Trim.f k l1).bind fun t457 => (if a0 = true then (some (decide ((t457.length : Int) > 0), t457)) else (some (false, t457)))

/-! ### pelorusref03_even: function 44 -/
def pelorusref03_even.f (l0 : List Int) : Option (Bool) := if (l0.length : Int) > 0 then (if 0 < (l0.length : Int) then (some ((Int.tmod (rd l0 0) 2) == 0)) else (none)) else (some false)

/-! ### pelorusref01_Len: function 79 -/
def pelorusref01_Len.l0 : Nat → Int → Int → Option (Int)
  | 0, _, _ => none
  | k + 1, x4, x5 => if x5 > 0 then (pelorusref01_Len.l0 k (wrap64 (x4 + 1)) ((Int.tdiv x5 2) % 4294967296)) else (some x4)
def pelorusref01_Len.f (k : Nat) (l0 : List Int) : Option (Int) := (pelorusref01_Trim.f k l0).bind fun t461 => (if (t461.length : Int) = 0 then (some 0) else (if 0 ≤ (wrap64 ((t461.length : Int) - 1)) then (if (wrap64 ((t461.length : Int) - 1)) < (t461.length : Int) then (pelorusref01_Len.l0 k (wrap64 (32 * (wrap64 ((t461.length : Int) - 1)))) (rd t461 (wrap64 ((t461.length : Int) - 1)))) else (none)) else (none)))

/-! ### pelorusref01_at: function 84 -/
def pelorusref01_at.f (l0 : List Int) (a1 : Int) : Option (Int) := if a1 ≥ (l0.length : Int) then (some 0) else (if 0 ≤ a1 then (if a1 < (l0.length : Int) then (some (IntKind.u64.wrap (rd l0 a1))) else (none)) else (none))

/-! ### pelorusref01_Add: function 80 -/
mutual
def pelorusref01_Add.l0 : Nat → List Int → List Int → List Int → Int → Int → Option (List Int)
  | 0, _, _, _, _, _ => none
  | k + 1, x0, x1, x5, x6, x7 => if x7 < (x0.length : Int) then (pelorusref01_Add.j1 k x0 x1 x5 x6 x7 true) else (if x7 < (x1.length : Int) then (pelorusref01_Add.j1 k x0 x1 x5 x6 x7 true) else (pelorusref01_Add.j1 k x0 x1 x5 x6 x7 (decide (x6 > 0))))
def pelorusref01_Add.j1 : Nat → List Int → List Int → List Int → Int → Int → Bool → Option (List Int)
  | 0, _, _, _, _, _, _ => none
  | k + 1, x0, x1, x5, x6, x7, x22 => if x22 = true then ((pelorusref01_at.f x0 x7).bind fun t466 => ((pelorusref01_at.f x1 x7).bind fun t467 => (if x5.length < 35184372088832 then (pelorusref01_Add.l0 k x0 x1 (x5 ++ [(Int.tmod (IntKind.u64.wrap ((IntKind.u64.wrap (t466 + t467)) + x6)) 4294967296) % 4294967296]) (IntKind.u64.wrap (Int.tdiv (IntKind.u64.wrap ((IntKind.u64.wrap (t466 + t467)) + x6)) 4294967296)) (wrap64 (x7 + 1))) else (none)))) else ((pelorusref01_Trim.f k x5).bind fun t471 => (some t471))
end
def pelorusref01_Add.f (k : Nat) (l0 : List Int) (l1 : List Int) : Option (List Int) := pelorusref01_Add.l0 k l0 l1 ([] : List Int) 0 0

/-! ### pelorusref01_bit: function 81 -/
def pelorusref01_bit.f (l0 : List Int) (a1 : Int) : Option (Bool) := (pelorusref01_at.f l0 (wrap64 (Int.tdiv a1 32))).bind fun t474 => (if 0 ≤ (IntKind.u64.wrap (Int.tmod a1 32)) then (some ((Int.tmod (shr .u64 t474 (IntKind.u64.wrap (Int.tmod a1 32))) 2) == 1)) else (none))

/-! ### pelorusref01_Cmp: function 85 -/
def pelorusref01_Cmp.l0 : Nat → List Int → List Int → Int → Option (Int)
  | 0, _, _, _ => none
  | k + 1, x5, x6, x7 => if x7 ≥ 0 then (if 0 ≤ x7 then (if x7 < (x5.length : Int) then (if x7 < (x6.length : Int) then (if (rd x5 x7) < (rd x6 x7) then (some (-1)) else (if (rd x5 x7) > (rd x6 x7) then (some 1) else (pelorusref01_Cmp.l0 k x5 x6 (wrap64 (x7 - 1))))) else (none)) else (none)) else (none)) else (some 0)
def pelorusref01_Cmp.f (k : Nat) (l0 : List Int) (l1 : List Int) : Option (Int) := (pelorusref01_Trim.f k l0).bind fun t475 => ((pelorusref01_Trim.f k l1).bind fun t478 => (if (t475.length : Int) = (t478.length : Int) then (pelorusref01_Cmp.l0 k t475 t478 (wrap64 ((t475.length : Int) - 1))) else (if (t475.length : Int) < (t478.length : Int) then (some (-1)) else (some 1))))

/-! ### pelorusref01_Sub: function 82 -/
def pelorusref01_Sub.l0 : Nat → List Int → List Int → List Int → Int → Int → Option (List Int × Bool)
  | 0, _, _, _, _, _ => none
  | k + 1, x0, x1, x6, x7, x8 => if x8 < (x0.length : Int) then ((pelorusref01_at.f x0 x8).bind fun t486 => ((pelorusref01_at.f x1 x8).bind fun t487 => (if x6.length < 35184372088832 then (pelorusref01_Sub.l0 k x0 x1 (x6 ++ [(Int.tmod (IntKind.u64.wrap ((IntKind.u64.wrap ((IntKind.u64.wrap (4294967296 + t486)) - t487)) - x7)) 4294967296) % 4294967296]) (IntKind.u64.wrap (1 - (IntKind.u64.wrap (Int.tdiv (IntKind.u64.wrap ((IntKind.u64.wrap ((IntKind.u64.wrap (4294967296 + t486)) - t487)) - x7)) 4294967296)))) (wrap64 (x8 + 1))) else (none)))) else ((pelorusref01_Trim.f k x6).bind fun t491 => (some (t491, true)))
def pelorusref01_Sub.f (k : Nat) (l0 : List Int) (l1 : List Int) : Option (List Int × Bool) := (pelorusref01_Cmp.f k l0 l1).bind fun t485 => (if t485 < 0 then (some (([] : List Int), false)) else (pelorusref01_Sub.l0 k l0 l1 ([] : List Int) 0 0))

/-! ### pelorusref01_set: function 83 -/
def pelorusref01_set.l0 : Nat → Int → List Int → Option (List Int)
  | 0, _, _ => none
  | k + 1, x1, x5 => if (x5.length : Int) ≤ (wrap64 (Int.tdiv x1 32)) then (if x5.length < 35184372088832 then (pelorusref01_set.l0 k x1 (x5 ++ [0])) else (none)) else (if 0 ≤ (wrap64 (Int.tdiv x1 32)) then (if (wrap64 (Int.tdiv x1 32)) < (x5.length : Int) then (if 0 ≤ (IntKind.u64.wrap (Int.tmod x1 32)) then (some (x5.set ((wrap64 (Int.tdiv x1 32)) : Int).toNat (((rd x5 (wrap64 (Int.tdiv x1 32))) + (shl .u32 1 (IntKind.u64.wrap (Int.tmod x1 32)))) % 4294967296))) else (none)) else (none)) else (none))
def pelorusref01_set.f (k : Nat) (l0 : List Int) (a1 : Int) : Option (List Int) := if ([] : List Int).length + l0.length < 35184372088832 then (pelorusref01_set.l0 k a1 (([] : List Int) ++ l0)) else (none)

/-! ### pelorusref01_Div: function 70 -/
mutual
def pelorusref01_Div.l0 : Nat → List Int → List Int → List Int → List Int → Int → Option (List Int × List Int × Bool)
  | 0, _, _, _, _, _ => none
  | k + 1, x0, x7, x8, x9, x10 => if x10 ≥ 0 then ((pelorusref01_Add.f k x9 x9).bind fun t512 => ((pelorusref01_bit.f x0 x10).bind fun t515 => (if t515 = true then ((pelorusref01_Add.f k t512 (([1] : List Int))).bind fun t519 => (pelorusref01_Div.j1 k x0 x7 x8 t519 x10)) else (pelorusref01_Div.j1 k x0 x7 x8 t512 x10)))) else ((pelorusref01_Trim.f k x8).bind fun t506 => ((pelorusref01_Trim.f k x9).bind fun t509 => (some (t506, t509, true))))
def pelorusref01_Div.j1 : Nat → List Int → List Int → List Int → List Int → Int → Option (List Int × List Int × Bool)
  | 0, _, _, _, _, _ => none
  | k + 1, x0, x7, x8, x9, x10 => (pelorusref01_Sub.f k x9 x7).bind fun bt522 => (if bt522.2 = true then ((pelorusref01_set.f k x8 x10).bind fun t526 => (pelorusref01_Div.l0 k x0 x7 t526 bt522.1 (wrap64 (x10 - 1)))) else (pelorusref01_Div.l0 k x0 x7 x8 x9 (wrap64 (x10 - 1))))
end
def pelorusref01_Div.f (k : Nat) (l0 : List Int) (l1 : List Int) : Option (List Int × List Int × Bool) := (pelorusref01_Trim.f k l1).bind fun t502 => (if (t502.length : Int) = 0 then (some (([] : List Int), ([] : List Int), false)) else ((pelorusref01_Len.f k l0).bind fun t505 => (pelorusref01_Div.l0 k l0 t502 ([] : List Int) ([] : List Int) (wrap64 (t505 - 1)))))

/-! ### pelorusref01_Shr: function 45 -/
def pelorusref01_Shr.f (k : Nat) (l0 : List Int) (a1 : Int) : Option (List Int) := if a1 < 1 then ((pelorusref01_Trim.f k l0).bind fun t529 => (some t529)) else (if a1 ≥ (wrap64 (32 * (l0.length : Int))) then (some ([] : List Int)) else (if 0 ≤ (wrap64 (Int.tdiv a1 32)) then (if (wrap64 (Int.tdiv a1 32)) ≤ (l0.length : Int) then ((pelorusref01_Trim.f k (l0.drop ((wrap64 (Int.tdiv a1 32)) : Int).toNat)).bind fun t533 => (if 0 ≤ (IntKind.u64.wrap (Int.tmod a1 32)) then ((pelorusref01_Div.f k t533 (([shl .u32 1 (IntKind.u64.wrap (Int.tmod a1 32))] : List Int))).bind fun bt539 => (some bt539.1)) else (none))) else (none)) else (none)))

/-! ### pelorusref03_Make: function 12 -/
mutual
def pelorusref03_Make.j0 : Nat → Int → Bool → Bool → List Int → Option (Bool × List Int × Int)
  | 0, _, _, _, _ => none
  | k + 1, x1, x24, x553000, x553001 => if x24 = true then (some (false, ([] : List Int), 0)) else (pelorusref03_Make.l0 k x1 0 x553000 x553001)
def pelorusref03_Make.l0 : Nat → Int → Int → Bool → List Int → Option (Bool × List Int × Int)
  | 0, _, _, _, _ => none
  | k + 1, x1, x6, x553000, x553001 => if x6 < 4000000 then ((pelorusref03_even.f x553001).bind fun t553 => (if t553 = true then ((pelorusref01_Shr.f k x553001 1).bind fun t554 => (pelorusref03_Make.l0 k (wrap64 (x1 + 1)) (wrap64 (x6 + 1)) x553000 t554)) else (if x1 > 4194304 then (some (false, ([] : List Int), 0)) else (some (x553000, x553001, x1))))) else (if x1 > 4194304 then (some (false, ([] : List Int), 0)) else (some (x553000, x553001, x1)))
end
def pelorusref03_Make.f (k : Nat) (a0_0 : Bool) (l0_1 : List Int) (a1 : Int) : Option (Bool × List Int × Int) := (pelorusref02_Make.f k a0_0 l0_1).bind fun bt548 => (if (bt548.2.length : Int) = 0 then (pelorusref03_Make.j0 k a1 true bt548.1 bt548.2) else (if a1 < (-4194304) then (pelorusref03_Make.j0 k a1 true bt548.1 bt548.2) else (pelorusref03_Make.j0 k a1 (decide (a1 > 4194304)) bt548.1 bt548.2)))

/-! ### dy_Move: function 13 -/
def dy_Move.f (k : Nat) (a0_0 : Bool) (l0_1 : List Int) (a0_2 : Int) (a1 : Int) : Option (Bool × List Int × Int) := (dy_fair.f k a0_0 l0_1 a0_2).bind fun bt559 => (if a1 > 16777216 then (some (false, ([] : List Int), 0)) else (if a1 < (-16777216) then (some (false, ([] : List Int), 0)) else ((dy_Make.f k bt559.1 bt559.2.1 (wrap64 (bt559.2.2 + a1))).bind fun bt564 => (some (bt564.1, bt564.2.1, bt564.2.2)))))

/-! ### pelorusref03_Move: function 14 -/
def pelorusref03_Move.f (k : Nat) (a0_0 : Bool) (l0_1 : List Int) (a0_2 : Int) (a1 : Int) : Option (Bool × List Int × Int) := (pelorusref03_Make.f k a0_0 l0_1 a0_2).bind fun bt571 => (if a1 > 16777216 then (some (false, ([] : List Int), 0)) else (if a1 < (-16777216) then (some (false, ([] : List Int), 0)) else ((pelorusref03_Make.f k bt571.1 bt571.2.1 (wrap64 (bt571.2.2 + a1))).bind fun bt577 => (some (bt577.1, bt577.2.1, bt577.2.2)))))

/-! ### pelorusref02_May: function 48 -/
def pelorusref02_May.f (a0_0 : Bool) (l0_1 : List Int) : Option (Bool) := if (l0_1.length : Int) = 0 then (if (l0_1.length : Int) > 0 then (some true) else (some (!a0_0))) else (if 0 ≤ (wrap64 ((l0_1.length : Int) - 1)) then (if (wrap64 ((l0_1.length : Int) - 1)) < (l0_1.length : Int) then (if (rd l0_1 (wrap64 ((l0_1.length : Int) - 1))) = 0 then (some false) else (if (l0_1.length : Int) > 0 then (some true) else (some (!a0_0)))) else (none)) else (none))

/-! ### pelorusref03_May: function 16 -/
def pelorusref03_May.f (a0_0 : Bool) (l0_1 : List Int) (a0_2 : Int) : Option (Bool) := (pelorusref02_May.f a0_0 l0_1).bind fun t585 => (if (l0_1.length : Int) = 0 then (if t585 = true then (some (a0_2 == 0)) else (some false)) else (if t585 = true then (if 0 < (l0_1.length : Int) then (if (Int.tmod (rd l0_1 0) 2) = 1 then (if a0_2 ≥ (-4194304) then (some (decide (a0_2 ≤ 4194304))) else (some false)) else (some false)) else (none)) else (some false)))

/-! ### dy_Sign: function 17 -/
def dy_Sign.f (k : Nat) (a0_0 : Bool) (l0_1 : List Int) (a0_2 : Int) : Option (Int) := (dy_fair.f k a0_0 l0_1 a0_2).bind fun bt588 => ((whole_Sign.f k bt588.1 bt588.2.1).bind fun t593 => (some t593))

/-! ### pelorusref02_Sign: function 49 -/
def pelorusref02_Sign.f (k : Nat) (a0_0 : Bool) (l0_1 : List Int) : Option (Int) := (pelorusref02_Make.f k a0_0 l0_1).bind fun bt595 => (if (bt595.2.length : Int) = 0 then (some 0) else (if bt595.1 = true then (some (-1)) else (some 1)))

/-! ### pelorusref03_Sign: function 18 -/
def pelorusref03_Sign.f (k : Nat) (a0_0 : Bool) (l0_1 : List Int) (a0_2 : Int) : Option (Int) := (pelorusref03_Make.f k a0_0 l0_1 a0_2).bind fun bt601 => ((pelorusref02_Sign.f k bt601.1 bt601.2.1).bind fun t607 => (some t607))

/-! ### peloruslaw03_DyMakes: function 3 -/
def peloruslaw03_DyMakes.j0 : Nat → Int → Int → Bool → Bool → Bool → List Int → Option (Bool)
  | 0, _, _, _, _, _, _ => none
  | k + 1, x1, x2, x7, x20, x609000, x609001 => if x20 = true then (some x7) else ((dy_Make.f k x609000 x609001 x1).bind fun bt610 => ((pelorusref03_Make.f k x609000 x609001 x1).bind fun bt617 => ((pelorusref03_Alike.f k bt610.1 bt610.2.1 bt610.2.2 bt617.1 bt617.2.1 bt617.2.2).bind fun t622 => ((dy_Move.f k x609000 x609001 x1 x2).bind fun bt623 => ((pelorusref03_Move.f k x609000 x609001 x1 x2).bind fun bt628 => ((pelorusref03_Alike.f k bt623.1 bt623.2.1 bt623.2.2 bt628.1 bt628.2.1 bt628.2.2).bind fun t633 => (if t622 = true then (if t633 = true then ((dy_May.f bt610.1 bt610.2.1 bt610.2.2).bind fun t634 => (if t634 = true then ((dy_May.f x609000 x609001 x1).bind fun t635 => ((pelorusref03_May.f x609000 x609001 x1).bind fun t636 => (if (t635 == t636) = true then ((dy_Sign.f k x609000 x609001 x1).bind fun t637 => ((pelorusref03_Sign.f k x609000 x609001 x1).bind fun t638 => (some (t637 == t638)))) else (some false)))) else (some false))) else (some false)) else (some false))))))))
def peloruslaw03_DyMakes.f (k : Nat) (a0_0 : Bool) (l0_1 : List Int) (a1 : Int) (a2 : Int) : Option (Bool) := (peloruslaw03_awake.f k).bind fun t609 => (if t609 = true then (peloruslaw03_DyMakes.j0 k a1 a2 t609 (decide ((l0_1.length : Int) > 20)) a0_0 l0_1) else (peloruslaw03_DyMakes.j0 k a1 a2 t609 true a0_0 l0_1))
def peloruslaw03_DyMakes.T7 : Bool × List (List Nat × List Nat) := (true, [([], []), ([], []), ([0, 1], [0, 1]), ([], []), ([], []), ([3, 4, 2], [3, 4]), ([2, 5, 5], [2, 5]), ([6, 6, 0, 1, 2, 3, 4, 5, 6], [6])])
def peloruslaw03_DyMakes.B7 : List Nat := [0, 0, 3, 0, 0, 31, 63, 127]
def peloruslaw03_DyMakes.Pure : Prop := ∀ (x0 : S24) (a1 : Int) (a2 : Int), ok24 x0 → (Lit.int .i64 a1).wf = true → (Lit.int .i64 a2).wf = true → ∃ k, peloruslaw03_DyMakes.f k x0.f0 x0.f1 a1 a2 = some true ∧ ∀ r, peloruslaw03_awake.f k = some r → r = true

/-! ### peloruslaw03_Few: function 19 -/
def peloruslaw03_Few.f (a0_0 : Bool) (l0_1 : List Int) (a0_2 : Int) : Option (Bool) := if (l0_1.length : Int) ≤ 20 then (if a0_2 ≥ (-1000) then (some (decide (a0_2 ≤ 1000))) else (some false)) else (some false)

/-! ### whole_Neg: function 59 -/
def whole_Neg.f (k : Nat) (a0_0 : Bool) (l0_1 : List Int) : Option (Bool × List Int) := (whole_Make.f k (!a0_0) l0_1).bind fun bt642 => (some (bt642.1, bt642.2))

/-! ### dy_Neg: function 32 -/
def dy_Neg.f (k : Nat) (a0_0 : Bool) (l0_1 : List Int) (a0_2 : Int) : Option (Bool × List Int × Int) := (whole_Neg.f k a0_0 l0_1).bind fun bt648 => ((dy_Make.f k bt648.1 bt648.2 a0_2).bind fun bt652 => (some (bt652.1, bt652.2.1, bt652.2.2)))

/-! ### dy_Sub: function 28 -/
def dy_Sub.f (k : Nat) (a0_0 : Bool) (l0_1 : List Int) (a0_2 : Int) (a1_0 : Bool) (l1_1 : List Int) (a1_2 : Int) : Option (Bool × List Int × Int) := (dy_Neg.f k a1_0 l1_1 a1_2).bind fun bt660 => ((dy_Add.f k (([(⟨(⟨a0_0, l0_1⟩ : S24), a0_2⟩ : S27), (⟨(⟨bt660.1, bt660.2.1⟩ : S24), bt660.2.2⟩ : S27)] : List (S27)))).bind fun bt668 => (some (bt668.1, bt668.2.1, bt668.2.2)))

/-! ### dy_Cmp: function 20 -/
def dy_Cmp.f (k : Nat) (a0_0 : Bool) (l0_1 : List Int) (a0_2 : Int) (a1_0 : Bool) (l1_1 : List Int) (a1_2 : Int) : Option (Int) := (dy_Sub.f k a0_0 l0_1 a0_2 a1_0 l1_1 a1_2).bind fun bt675 => ((dy_Sign.f k bt675.1 bt675.2.1 bt675.2.2).bind fun t680 => (some t680))

/-! ### peloruslaw03_DyMoves: function 4 -/
def peloruslaw03_DyMoves.j0 : Nat → Int → Int → Bool → Bool → Bool → List Int → Int → Bool → List Int → Int → Option (Bool)
  | 0, _, _, _, _, _, _, _, _, _, _ => none
  | k + 1, x2, x3, x9, x43, x682000, x682001, x682002, x683000, x683001, x683002 => if x43 = true then (some x9) else ((dy_Move.f k x682000 x682001 x682002 x2).bind fun bt686 => ((dy_Move.f k bt686.1 bt686.2.1 bt686.2.2 x3).bind fun bt691 => ((dy_Move.f k x682000 x682001 x682002 (wrap64 (x2 + x3))).bind fun bt697 => ((dy_Cmp.f k bt691.1 bt691.2.1 bt691.2.2 bt697.1 bt697.2.1 bt697.2.2).bind fun t702 => (if t702 = 0 then ((dy_Sign.f k bt691.1 bt691.2.1 bt691.2.2).bind fun t703 => ((dy_Sign.f k x682000 x682001 x682002).bind fun t704 => (if t703 = t704 then ((dy_Move.f k x682000 x682001 x682002 x2).bind fun bt705 => ((dy_Move.f k x683000 x683001 x683002 x2).bind fun bt710 => ((dy_Cmp.f k bt705.1 bt705.2.1 bt705.2.2 bt710.1 bt710.2.1 bt710.2.2).bind fun t715 => ((dy_Cmp.f k x682000 x682001 x682002 x683000 x683001 x683002).bind fun t716 => (if t715 = t716 then ((dy_Add.f k (([(⟨(⟨x682000, x682001⟩ : S24), x682002⟩ : S27), (⟨(⟨x682000, x682001⟩ : S24), x682002⟩ : S27)] : List (S27)))).bind fun bt720 => ((dy_Move.f k x682000 x682001 x682002 1).bind fun bt725 => ((dy_Cmp.f k bt720.1 bt720.2.1 bt720.2.2 bt725.1 bt725.2.1 bt725.2.2).bind fun t730 => (some (t730 == 0))))) else (some false)))))) else (some false)))) else (some false))))))
def peloruslaw03_DyMoves.f (k : Nat) (a0_0 : Bool) (l0_1 : List Int) (a0_2 : Int) (a1_0 : Bool) (l1_1 : List Int) (a1_2 : Int) (a2 : Int) (a3 : Int) : Option (Bool) := (peloruslaw03_awake.f k).bind fun t683 => ((peloruslaw03_Few.f a0_0 l0_1 a0_2).bind fun t684 => ((peloruslaw03_Few.f a1_0 l1_1 a1_2).bind fun t685 => (if t683 = true then (if t684 = true then (if t685 = true then (if a2 > 1000 then (peloruslaw03_DyMoves.j0 k a2 a3 t683 true a0_0 l0_1 a0_2 a1_0 l1_1 a1_2) else (if a2 < (-1000) then (peloruslaw03_DyMoves.j0 k a2 a3 t683 true a0_0 l0_1 a0_2 a1_0 l1_1 a1_2) else (if a3 > 1000 then (peloruslaw03_DyMoves.j0 k a2 a3 t683 true a0_0 l0_1 a0_2 a1_0 l1_1 a1_2) else (peloruslaw03_DyMoves.j0 k a2 a3 t683 (decide (a3 < (-1000))) a0_0 l0_1 a0_2 a1_0 l1_1 a1_2)))) else (peloruslaw03_DyMoves.j0 k a2 a3 t683 true a0_0 l0_1 a0_2 a1_0 l1_1 a1_2)) else (peloruslaw03_DyMoves.j0 k a2 a3 t683 true a0_0 l0_1 a0_2 a1_0 l1_1 a1_2)) else (peloruslaw03_DyMoves.j0 k a2 a3 t683 true a0_0 l0_1 a0_2 a1_0 l1_1 a1_2))))
def peloruslaw03_DyMoves.T7 : Bool × List (List Nat × List Nat) := (true, [([], []), ([], []), ([], []), ([], []), ([2, 3], [2, 3]), ([1, 4], [1, 4]), ([0, 5, 5], [0, 5]), ([6], [6]), ([7, 6], [7]), ([8], [8]), ([9, 8, 8], [8, 9]), ([8], [8]), ([11, 10, 8], [8, 11]), ([10, 12, 8], [8, 10, 12]), ([8, 13], [8, 13]), ([14, 12], [14]), ([15], [15]), ([15], [15]), ([16, 17, 15, 15], [15, 16, 17]), ([15], [15]), ([15], [15]), ([19, 20, 18, 15], [15, 19, 20]), ([18, 21, 21, 15], [15, 18, 21]), ([15], [15]), ([15], [15]), ([23, 24, 22, 15], [15, 23, 24]), ([22, 25, 15], [15, 22, 25]), ([15, 26], [15, 26]), ([27, 25], [27]), ([28], [28]), ([28], [28]), ([29, 30, 28], [28, 29, 30]), ([31, 28, 28], [28, 31]), ([28], [28]), ([33, 32, 28], [28, 33]), ([32, 34, 34, 28], [28, 32, 34]), ([35, 28], [28, 35]), ([28, 36], [28, 36]), ([37, 35, 0, 1, 2, 3, 4, 5, 6, 7, 8, 9, 10, 11, 12, 13, 14, 15, 16, 17, 18, 19, 20, 21, 22, 23, 24, 25, 26, 27, 28, 29, 30, 31, 32, 33, 34, 35, 36, 37], [37])])
def peloruslaw03_DyMoves.B7 : List Nat := [0, 0, 0, 0, 12, 30, 63, 127, 255, 511, 1023, 511, 4095, 8191, 16383, 32767, 65535, 65535, 262143, 65535, 65535, 2097151, 4194303, 65535, 65535, 33554431, 67108863, 134217727, 268435455, 536870911, 536870911, 2147483647, 4294967295, 536870911, 17179869183, 34359738367, 68719476735, 137438953471, 274877906943]
def peloruslaw03_DyMoves.Pure : Prop := ∀ (x0 : S27) (x1 : S27) (a2 : Int) (a3 : Int), ok27 x0 → ok27 x1 → (Lit.int .i64 a2).wf = true → (Lit.int .i64 a3).wf = true → ∃ k, peloruslaw03_DyMoves.f k x0.f0.f0 x0.f0.f1 x0.f1 x1.f0.f0 x1.f0.f1 x1.f1 a2 a3 = some true ∧ ∀ r, peloruslaw03_awake.f k = some r → r = true

/-! ### peloruslaw02_Few: function 22 -/
def peloruslaw02_Few.f (a0_0 : Bool) (l0_1 : List Int) : Option (Bool) := some (decide ((l0_1.length : Int) ≤ 40))

/-! ### whole_Cmp: function 55 -/
def whole_Cmp.f (k : Nat) (a0_0 : Bool) (l0_1 : List Int) (a1_0 : Bool) (l1_1 : List Int) : Option (Int) := (whole_Sign.f k a0_0 l0_1).bind fun t734 => ((whole_Sign.f k a1_0 l1_1).bind fun t735 => (if t734 < t735 then (some (-1)) else (if t734 > t735 then (some 1) else ((nat_Cmp.f k l0_1 l1_1).bind fun t736 => (some (wrap64 (t734 * t736)))))))

/-! ### whole_Same: function 26 -/
def whole_Same.f (k : Nat) (a0_0 : Bool) (l0_1 : List Int) (a1_0 : Bool) (l1_1 : List Int) : Option (Bool) := (whole_Cmp.f k a0_0 l0_1 a1_0 l1_1).bind fun t739 => (some (t739 == 0))

/-! ### peloruslaw03_DyFloors: function 5 -/
def peloruslaw03_DyFloors.j0 : Nat → Bool → Bool → Bool → List Int → Int → Bool → List Int → Option (Bool)
  | 0, _, _, _, _, _, _, _ => none
  | k + 1, x5, x25, x741000, x741001, x741002, x742000, x742001 => if x25 = true then (some x5) else ((dy_Floor.f k x741000 x741001 x741002).bind fun bt745 => ((dy_Make.f k bt745.1 bt745.2 0).bind fun bt750 => ((whole_From.f k 1).bind fun bt756 => ((whole_Add.f k bt745.1 bt745.2 bt756.1 bt756.2).bind fun bt760 => ((dy_Make.f k bt760.1 bt760.2 0).bind fun bt764 => ((dy_Cmp.f k bt750.1 bt750.2.1 bt750.2.2 x741000 x741001 x741002).bind fun t770 => (if t770 ≤ 0 then ((dy_Cmp.f k bt764.1 bt764.2.1 bt764.2.2 x741000 x741001 x741002).bind fun t771 => (if t771 > 0 then ((dy_Make.f k x742000 x742001 0).bind fun bt772 => ((dy_Floor.f k bt772.1 bt772.2.1 bt772.2.2).bind fun bt777 => ((whole_Same.f k bt777.1 bt777.2 x742000 x742001).bind fun t781 => (some t781)))) else (some false))) else (some false))))))))
def peloruslaw03_DyFloors.f (k : Nat) (a0_0 : Bool) (l0_1 : List Int) (a0_2 : Int) (a1_0 : Bool) (l1_1 : List Int) : Option (Bool) := (peloruslaw03_awake.f k).bind fun t742 => ((peloruslaw03_Few.f a0_0 l0_1 a0_2).bind fun t743 => ((peloruslaw02_Few.f a1_0 l1_1).bind fun t744 => (if t742 = true then (if t743 = true then (peloruslaw03_DyFloors.j0 k t742 (!t744) a0_0 l0_1 a0_2 a1_0 l1_1) else (peloruslaw03_DyFloors.j0 k t742 true a0_0 l0_1 a0_2 a1_0 l1_1)) else (peloruslaw03_DyFloors.j0 k t742 true a0_0 l0_1 a0_2 a1_0 l1_1))))
def peloruslaw03_DyFloors.T9 : Bool × List (List Nat × List Nat) := (true, [([], []), ([], []), ([0, 1], [0, 1]), ([2], [2]), ([3, 2], [3]), ([4], [4]), ([4], [4]), ([5, 6, 4, 4], [4, 5, 6]), ([7, 4], [4, 7]), ([4, 8], [4, 8]), ([9, 7], [9]), ([10], [10]), ([11, 10, 10], [10, 11]), ([12, 12, 10], [10, 12]), ([10], [10]), ([13, 14, 13, 10], [10, 13, 14]), ([10, 15], [10, 15]), ([16, 15, 0, 1, 2, 3, 4, 5, 6, 7, 8, 9, 10, 11, 12, 13, 14, 15, 16], [16])])
def peloruslaw03_DyFloors.B9 : List Nat := [0, 0, 3, 7, 15, 31, 31, 127, 255, 511, 1023, 2047, 4095, 8191, 2047, 32767, 65535, 131071]
def peloruslaw03_DyFloors.Pure : Prop := ∀ (x0 : S27) (x1 : S24), ok27 x0 → ok24 x1 → ∃ k, peloruslaw03_DyFloors.f k x0.f0.f0 x0.f0.f1 x0.f1 x1.f0 x1.f1 = some true ∧ ∀ r, peloruslaw03_awake.f k = some r → r = true

/-! ### pelorusref01_Mul: function 76 -/
mutual
def pelorusref01_Mul.l0 : Nat → List Int → List Int → List Int → Int → Option (List Int)
  | 0, _, _, _, _ => none
  | k + 1, x0, x1, x5, x6 => if x6 ≥ 0 then ((some (([0] : List Int) : List Int)).bind fun y785 => (if y785.length + x5.length < 35184372088832 then (pelorusref01_Mul.l1 k x0 x1 (y785 ++ x5) x6 ([] : List Int) 0 0) else (none))) else ((pelorusref01_Trim.f k x5).bind fun t782 => (some t782))
def pelorusref01_Mul.l1 : Nat → List Int → List Int → List Int → Int → List Int → Int → Int → Option (List Int)
  | 0, _, _, _, _, _, _, _ => none
  | k + 1, x0, x1, x5, x6, x8, x9, x10 => if x10 < (x0.length : Int) then (if 0 ≤ x10 then (if 0 ≤ x6 then (if x6 < (x1.length : Int) then (if x8.length < 35184372088832 then (pelorusref01_Mul.l1 k x0 x1 x5 x6 (x8 ++ [(Int.tmod (IntKind.u64.wrap ((IntKind.u64.wrap ((IntKind.u64.wrap (rd x0 x10)) * (IntKind.u64.wrap (rd x1 x6)))) + x9)) 4294967296) % 4294967296]) (IntKind.u64.wrap (Int.tdiv (IntKind.u64.wrap ((IntKind.u64.wrap ((IntKind.u64.wrap (rd x0 x10)) * (IntKind.u64.wrap (rd x1 x6)))) + x9)) 4294967296)) (wrap64 (x10 + 1))) else (none)) else (none)) else (none)) else (none)) else (if x8.length < 35184372088832 then ((pelorusref01_Add.f k x5 (x8 ++ [(x9) % 4294967296])).bind fun t799 => (pelorusref01_Mul.l0 k x0 x1 t799 (wrap64 (x6 - 1)))) else (none))
end
def pelorusref01_Mul.f (k : Nat) (l0 : List Int) (l1 : List Int) : Option (List Int) := pelorusref01_Mul.l0 k l0 l1 ([] : List Int) (wrap64 ((l1.length : Int) - 1))

/-! ### pelorusref01_Shl: function 62 -/
def pelorusref01_Shl.f (k : Nat) (l0 : List Int) (a1 : Int) : Option (List Int) := if a1 < 1 then ((pelorusref01_Trim.f k l0).bind fun t802 => (some t802)) else (if a1 > 16777216 then (some ([] : List Int)) else (if 0 ≤ (wrap64 (Int.tdiv a1 32)) then (if (wrap64 (Int.tdiv a1 32) : Int).toNat ≤ 70368744177664 then ((some (List.replicate (wrap64 (Int.tdiv a1 32) : Int).toNat 0 : List Int)).bind fun y805 => (if y805.length + l0.length < 35184372088832 then (if 0 ≤ (IntKind.u64.wrap (Int.tmod a1 32)) then ((pelorusref01_Mul.f k (y805 ++ l0) (([shl .u32 1 (IntKind.u64.wrap (Int.tmod a1 32))] : List Int))).bind fun t814 => (some t814)) else (none)) else (none))) else (none)) else (none)))

/-! ### pelorusref02_Add: function 74 -/
def pelorusref02_Add.f (k : Nat) (a0_0 : Bool) (l0_1 : List Int) (a1_0 : Bool) (l1_1 : List Int) : Option (Bool × List Int) := if (a0_0 == a1_0) = true then ((pelorusref01_Add.f k l0_1 l1_1).bind fun t820 => ((pelorusref02_Make.f k a0_0 t820).bind fun bt823 => (some (bt823.1, bt823.2)))) else ((pelorusref01_Sub.f k l0_1 l1_1).bind fun bt827 => (if bt827.2 = true then ((pelorusref02_Make.f k a0_0 bt827.1).bind fun bt831 => (some (bt831.1, bt831.2))) else ((pelorusref01_Sub.f k l1_1 l0_1).bind fun bt835 => ((pelorusref02_Make.f k a1_0 bt835.1).bind fun bt839 => (some (bt839.1, bt839.2))))))
def pelorusref02_Add.T2 : Bool × List (List Nat × List Nat) := (true, [([], []), ([0], [0]), ([], []), ([2], [2]), ([], []), ([4], [4]), ([3, 5], [3, 5]), ([1, 6, 6], [1, 6]), ([7, 7, 0, 1, 2, 3, 4, 5, 6, 7], [7])])
def pelorusref02_Add.B2 : List Nat := [0, 1, 0, 4, 0, 16, 60, 127, 255]

/-! ### pelorusref03_Two: function 56 -/
def pelorusref03_Two.j0 : Nat → Bool → List Int → Int → Bool → List Int → Int → Option (Bool × List Int × Int)
  | 0, _, _, _, _, _, _ => none
  | k + 1, x852000, x852001, x852002, x858000, x858001, x858002 => (pelorusref01_Shl.f k x858001 (wrap64 (x858002 - x852002))).bind fun t859 => ((pelorusref02_Make.f k x858000 t859).bind fun bt862 => ((pelorusref02_Add.f k x852000 x852001 bt862.1 bt862.2).bind fun bt867 => ((pelorusref03_Make.f k bt867.1 bt867.2 x852002).bind fun bt871 => (some (bt871.1, bt871.2.1, bt871.2.2)))))
def pelorusref03_Two.f (k : Nat) (a0_0 : Bool) (l0_1 : List Int) (a0_2 : Int) (a1_0 : Bool) (l1_1 : List Int) (a1_2 : Int) : Option (Bool × List Int × Int) := (pelorusref03_Make.f k a0_0 l0_1 a0_2).bind fun bt846 => ((pelorusref03_Make.f k a1_0 l1_1 a1_2).bind fun bt852 => (if (bt846.2.1.length : Int) = 0 then (some (bt852.1, bt852.2.1, bt852.2.2)) else (if (bt852.2.1.length : Int) = 0 then (some (bt846.1, bt846.2.1, bt846.2.2)) else (if bt846.2.2 > bt852.2.2 then (pelorusref03_Two.j0 k bt852.1 bt852.2.1 bt852.2.2 bt846.1 bt846.2.1 bt846.2.2) else (pelorusref03_Two.j0 k bt846.1 bt846.2.1 bt846.2.2 bt852.1 bt852.2.1 bt852.2.2)))))
def pelorusref03_Two.T11 : Bool × List (List Nat × List Nat) := (true, [([], []), ([0], [0]), ([1], [1]), ([], []), ([3], [3]), ([4], [4]), ([], []), ([6], [6]), ([], []), ([8], [8]), ([7, 9], [7, 9]), ([5, 10], [5, 10]), ([2, 11, 11], [2, 11]), ([], []), ([13, 12, 12, 0, 1, 2, 3, 4, 5, 6, 7, 8, 9, 10, 11, 12, 13], [12, 13])])
def pelorusref03_Two.B11 : List Nat := [0, 1, 3, 0, 8, 24, 0, 64, 0, 256, 960, 2040, 4095, 0, 16383]

/-! ### pelorusref03_Add: function 27 -/
def pelorusref03_Add.l0 : Nat → List (S27) → Int → Bool → List Int → Int → Option (Bool × List Int × Int)
  | 0, _, _, _, _, _ => none
  | k + 1, x0, x4, x878000, x878001, x878002 => if x4 < (x0.length : Int) then (if 0 ≤ x4 then ((pelorusref03_Two.f k x878000 x878001 x878002 ((rd_T27 x0 x4).f0.f0) ((rd_T27 x0 x4).f0.f1) ((rd_T27 x0 x4).f1)).bind fun bt879 => (pelorusref03_Add.l0 k x0 (wrap64 (x4 + 1)) bt879.1 bt879.2.1 bt879.2.2)) else (none)) else (some (x878000, x878001, x878002))
def pelorusref03_Add.f (k : Nat) (l0 : List (S27)) : Option (Bool × List Int × Int) := pelorusref03_Add.l0 k l0 0 false ([] : List Int) 0

/-! ### pelorusref02_Neg: function 60 -/
def pelorusref02_Neg.f (k : Nat) (a0_0 : Bool) (l0_1 : List Int) : Option (Bool × List Int) := (pelorusref02_Make.f k (!a0_0) l0_1).bind fun bt886 => (some (bt886.1, bt886.2))

/-! ### pelorusref03_Neg: function 33 -/
def pelorusref03_Neg.f (k : Nat) (a0_0 : Bool) (l0_1 : List Int) (a0_2 : Int) : Option (Bool × List Int × Int) := (pelorusref02_Neg.f k a0_0 l0_1).bind fun bt892 => ((pelorusref03_Make.f k bt892.1 bt892.2 a0_2).bind fun bt896 => (some (bt896.1, bt896.2.1, bt896.2.2)))

/-! ### pelorusref03_Sub: function 29 -/
def pelorusref03_Sub.f (k : Nat) (a0_0 : Bool) (l0_1 : List Int) (a0_2 : Int) (a1_0 : Bool) (l1_1 : List Int) (a1_2 : Int) : Option (Bool × List Int × Int) := (pelorusref03_Neg.f k a1_0 l1_1 a1_2).bind fun bt904 => ((pelorusref03_Two.f k a0_0 l0_1 a0_2 bt904.1 bt904.2.1 bt904.2.2).bind fun bt909 => (some (bt909.1, bt909.2.1, bt909.2.2)))

/-! ### nat_Mul: function 75 -/
mutual
def nat_Mul.l0 : Nat → List Int → List Int → List Int → Int → Int → Option (List Int)
  | 0, _, _, _, _, _ => none
  | k + 1, x1, x5, x18, x19, x20 => if x20 < x19 then (if 0 ≤ x20 then (if x20 < (x18.length : Int) then (nat_Mul.l1 k x1 x5 x20 (rd x18 x20) 0 x18 x19 x20 x1 (x1.length : Int) 0) else (none)) else (none)) else ((nat_cut_own.f k x5).bind fun t917 => (some t917))
def nat_Mul.l1 : Nat → List Int → List Int → Int → Int → Int → List Int → Int → Int → List Int → Int → Int → Option (List Int)
  | 0, _, _, _, _, _, _, _, _, _, _, _ => none
  | k + 1, x1, x5, x6, x7, x8, x18, x19, x20, x25, x26, x27 => if x27 < x26 then (if 0 ≤ x27 then (if x27 < (x25.length : Int) then (if 0 ≤ (wrap64 (x6 + x27)) then (if (wrap64 (x6 + x27)) < (x5.length : Int) then (nat_Mul.l1 k x1 (x5.set ((wrap64 (x6 + x27)) : Int).toNat ((IntKind.u64.wrap ((IntKind.u64.wrap ((IntKind.u64.wrap ((IntKind.u64.wrap (x7)) * (IntKind.u64.wrap (rd x25 x27)))) + (IntKind.u64.wrap (rd x5 (wrap64 (x6 + x27)))))) + x8)) % 4294967296)) x6 x7 ((IntKind.u64.wrap ((IntKind.u64.wrap ((IntKind.u64.wrap ((IntKind.u64.wrap (x7)) * (IntKind.u64.wrap (rd x25 x27)))) + (IntKind.u64.wrap (rd x5 (wrap64 (x6 + x27)))))) + x8)) / 4294967296) x18 x19 x20 x25 x26 (wrap64 (x27 + 1))) else (none)) else (none)) else (none)) else (none)) else (if 0 ≤ (wrap64 (x6 + (x1.length : Int))) then (if (wrap64 (x6 + (x1.length : Int))) < (x5.length : Int) then (nat_Mul.l0 k x1 (x5.set ((wrap64 (x6 + (x1.length : Int))) : Int).toNat ((x8) % 4294967296)) x18 x19 (wrap64 (x20 + 1))) else (none)) else (none))
end
def nat_Mul.f (k : Nat) (l0 : List Int) (l1 : List Int) : Option (List Int) := if 0 ≤ (wrap64 ((l0.length : Int) + (l1.length : Int))) then (if (wrap64 ((l0.length : Int) + (l1.length : Int)) : Int).toNat ≤ 70368744177664 then (nat_Mul.l0 k l1 (List.replicate (wrap64 ((l0.length : Int) + (l1.length : Int)) : Int).toNat 0) l0 (l0.length : Int) 0) else (none)) else (none)

/-! ### whole_Mul: function 57 -/
def whole_Mul.l0 : Nat → Bool → List Int → List (S24) → Int → Int → Option (Bool × List Int)
  | 0, _, _, _, _, _ => none
  | k + 1, x3, x4, x8, x9, x10 => if x10 < x9 then (if 0 ≤ x10 then (if x10 < (x8.length : Int) then ((nat_Mul.f k x4 ((rd_T24 x8 x10).f1)).bind fun t931 => (whole_Mul.l0 k (x3 != ((rd_T24 x8 x10).f0)) t931 x8 x9 (wrap64 (x10 + 1)))) else (none)) else (none)) else ((whole_Make.f k x3 x4).bind fun bt934 => (some (bt934.1, bt934.2)))
def whole_Mul.f (k : Nat) (l0 : List (S24)) : Option (Bool × List Int) := whole_Mul.l0 k false (([1] : List Int)) l0 (l0.length : Int) 0
def whole_Mul.T5 : Bool × List (List Nat × List Nat) := (true, [([], []), ([], []), ([1], [1]), ([0, 2], [0, 2]), ([], []), ([], []), ([5], [5]), ([4, 6], [4, 6]), ([3, 7, 0, 1, 2, 3], [0, 3]), ([7, 8, 0, 1, 2, 3, 4, 5, 6, 7, 8], [4, 7])])
def whole_Mul.B5 : List Nat := [0, 0, 2, 7, 0, 0, 32, 112, 255, 511]

/-! ### dy_Mul: function 30 -/
def dy_Mul.f (k : Nat) (a0_0 : Bool) (l0_1 : List Int) (a0_2 : Int) (a1_0 : Bool) (l1_1 : List Int) (a1_2 : Int) : Option (Bool × List Int × Int) := (dy_fair.f k a0_0 l0_1 a0_2).bind fun bt941 => ((dy_fair.f k a1_0 l1_1 a1_2).bind fun bt946 => ((whole_Mul.f k (([(⟨bt941.1, bt941.2.1⟩ : S24), (⟨bt946.1, bt946.2.1⟩ : S24)] : List (S24)))).bind fun bt954 => ((dy_Make.f k bt954.1 bt954.2 (wrap64 (bt941.2.2 + bt946.2.2))).bind fun bt958 => (some (bt958.1, bt958.2.1, bt958.2.2)))))
def dy_Mul.T2 : Bool × List (List Nat × List Nat) := (true, [([], []), ([0], [0]), ([], []), ([2], [2]), ([1, 3], [1, 3]), ([4], [4]), ([], []), ([6], [6]), ([], []), ([8], [8]), ([7, 9], [7, 9]), ([5, 10, 5], [5, 10]), ([11, 11, 0, 1, 2, 3, 4, 5, 6, 7, 8, 9, 10, 11], [11])])
def dy_Mul.B2 : List Nat := [0, 1, 0, 4, 15, 31, 0, 64, 0, 256, 960, 2047, 4095]

/-! ### pelorusref02_Two: function 58 -/
def pelorusref02_Two.f (k : Nat) (a0_0 : Bool) (l0_1 : List Int) (a1_0 : Bool) (l1_1 : List Int) : Option (Bool × List Int) := (pelorusref01_Mul.f k l0_1 l1_1).bind fun t966 => ((pelorusref02_Make.f k (a0_0 != a1_0) t966).bind fun bt969 => (some (bt969.1, bt969.2)))
def pelorusref02_Two.T1 : Bool × List (List Nat × List Nat) := (true, [([], []), ([0], [0]), ([], []), ([2], [2]), ([1, 3], [1, 3]), ([], []), ([5], [5]), ([], []), ([7], [7]), ([6, 8], [6, 8]), ([4, 9, 9], [4, 9]), ([10, 10, 0, 1, 2, 3, 4, 5, 6, 7, 8, 9, 10], [10])])
def pelorusref02_Two.B1 : List Nat := [0, 1, 0, 4, 15, 0, 32, 0, 128, 480, 1023, 2047]

/-! ### pelorusref03_Mul: function 31 -/
def pelorusref03_Mul.f (k : Nat) (a0_0 : Bool) (l0_1 : List Int) (a0_2 : Int) (a1_0 : Bool) (l1_1 : List Int) (a1_2 : Int) : Option (Bool × List Int × Int) := (pelorusref03_Make.f k a0_0 l0_1 a0_2).bind fun bt976 => ((pelorusref03_Make.f k a1_0 l1_1 a1_2).bind fun bt982 => ((pelorusref02_Two.f k bt976.1 bt976.2.1 bt982.1 bt982.2.1).bind fun bt988 => ((pelorusref03_Make.f k bt988.1 bt988.2 (wrap64 (bt976.2.2 + bt982.2.2))).bind fun bt992 => (some (bt992.1, bt992.2.1, bt992.2.2)))))
def pelorusref03_Mul.T3 : Bool × List (List Nat × List Nat) := (true, [([], []), ([0], [0]), ([], []), ([2], [2]), ([1, 3], [1, 3]), ([], []), ([5], [5]), ([], []), ([7], [7]), ([6, 8], [6, 8]), ([4, 9, 4], [4, 9]), ([10, 10, 0, 1, 2, 3, 4, 5, 6, 7, 8, 9, 10], [10])])
def pelorusref03_Mul.B3 : List Nat := [0, 1, 0, 4, 15, 0, 32, 0, 128, 480, 1023, 2047]

/-! ### pelorusref02_From: function 77 -/
def pelorusref02_From.f (k : Nat) (a0 : Int) : Option (Bool × List Int) := if a0 < 0 then ((pelorusref02_Make.f k (decide (a0 < 0)) (([(Int.tmod (IntKind.u64.wrap ((IntKind.u64.wrap (wrap64 (-(wrap64 (a0 + 1))))) + 1)) 4294967296) % 4294967296, (IntKind.u64.wrap (Int.tdiv (IntKind.u64.wrap ((IntKind.u64.wrap (wrap64 (-(wrap64 (a0 + 1))))) + 1)) 4294967296)) % 4294967296] : List Int))).bind fun bt1001 => (some (bt1001.1, bt1001.2))) else ((pelorusref02_Make.f k (decide (a0 < 0)) (([(Int.tmod (IntKind.u64.wrap (a0)) 4294967296) % 4294967296, (IntKind.u64.wrap (Int.tdiv (IntKind.u64.wrap (a0)) 4294967296)) % 4294967296] : List Int))).bind fun bt1008 => (some (bt1008.1, bt1008.2)))

/-! ### pelorusref02_Div: function 63 -/
def pelorusref02_Div.f (k : Nat) (a0_0 : Bool) (l0_1 : List Int) (a1_0 : Bool) (l1_1 : List Int) : Option (Bool × List Int × Bool × List Int × Bool) := (pelorusref02_Sign.f k a1_0 l1_1).bind fun t1017 => (if t1017 = 0 then (some (false, ([] : List Int), false, ([] : List Int), false)) else ((pelorusref01_Div.f k l0_1 l1_1).bind fun bt1018 => ((pelorusref02_Make.f k (a0_0 != a1_0) bt1018.1).bind fun bt1025 => ((pelorusref02_Make.f k a0_0 bt1018.2.1).bind fun bt1030 => ((pelorusref02_Sign.f k bt1030.1 bt1030.2).bind fun t1035 => (if t1035 = (wrap64 (-t1017)) then ((pelorusref02_From.f k (-1)).bind fun bt1036 => ((pelorusref02_Add.f k bt1025.1 bt1025.2 bt1036.1 bt1036.2).bind fun bt1040 => ((pelorusref02_Add.f k bt1030.1 bt1030.2 a1_0 l1_1).bind fun bt1044 => (some (bt1040.1, bt1040.2, bt1044.1, bt1044.2, true))))) else (some (bt1025.1, bt1025.2, bt1030.1, bt1030.2, true))))))))

/-! ### pelorusref03_Floor: function 35 -/
def pelorusref03_Floor.f (k : Nat) (a0_0 : Bool) (l0_1 : List Int) (a0_2 : Int) : Option (Bool × List Int) := (pelorusref03_Make.f k a0_0 l0_1 a0_2).bind fun bt1050 => (if bt1050.2.2 ≥ 0 then ((pelorusref01_Shl.f k bt1050.2.1 bt1050.2.2).bind fun t1056 => ((pelorusref02_Make.f k bt1050.1 t1056).bind fun bt1059 => (some (bt1059.1, bt1059.2)))) else ((pelorusref01_Shl.f k (([1] : List Int)) (wrap64 (-bt1050.2.2))).bind fun t1066 => ((pelorusref02_Make.f k false t1066).bind fun bt1069 => ((pelorusref02_Div.f k bt1050.1 bt1050.2.1 bt1069.1 bt1069.2).bind fun bt1074 => (some (bt1074.1, bt1074.2.1))))))
def pelorusref03_Floor.T3 : Bool × List (List Nat × List Nat) := (true, [([], []), ([0], [0]), ([1], [1]), ([], []), ([3], [3]), ([4], [4]), ([], []), ([6], [6]), ([5, 7], [5, 7]), ([2, 8, 8], [2, 8]), ([9, 9, 0, 1, 2, 3, 4, 5, 6, 7, 8, 9], [9])])
def pelorusref03_Floor.B3 : List Nat := [0, 1, 3, 0, 8, 24, 0, 64, 248, 511, 1023]

/-! ### pelorusref03_Cmp: function 36 -/
def pelorusref03_Cmp.f (k : Nat) (a0_0 : Bool) (l0_1 : List Int) (a0_2 : Int) (a1_0 : Bool) (l1_1 : List Int) (a1_2 : Int) : Option (Int) := (pelorusref03_Sub.f k a0_0 l0_1 a0_2 a1_0 l1_1 a1_2).bind fun bt1087 => ((pelorusref02_Sign.f k bt1087.1 bt1087.2.1).bind fun t1093 => (some t1093))

/-! ### peloruslaw03_DySums: function 6 -/
mutual
def peloruslaw03_DySums.j0 : Nat → List (S27) → Bool → Bool → Bool → List Int → Int → Bool → List Int → Int → Option (Bool)
  | 0, _, _, _, _, _, _, _, _, _ => none
  | k + 1, x2, x7, x36, x1095000, x1095001, x1095002, x1096000, x1096001, x1096002 => if x36 = true then (some x7) else (peloruslaw03_DySums.l0 k x2 0 x1095000 x1095001 x1095002 x1096000 x1096001 x1096002)
def peloruslaw03_DySums.l0 : Nat → List (S27) → Int → Bool → List Int → Int → Bool → List Int → Int → Option (Bool)
  | 0, _, _, _, _, _, _, _, _ => none
  | k + 1, x2, x10, x1095000, x1095001, x1095002, x1096000, x1096001, x1096002 => if x10 < (x2.length : Int) then (if 0 ≤ x10 then ((peloruslaw03_Few.f ((rd_T27 x2 x10).f0.f0) ((rd_T27 x2 x10).f0.f1) ((rd_T27 x2 x10).f1)).bind fun t1100 => (if t1100 = true then (peloruslaw03_DySums.l0 k x2 (wrap64 (x10 + 1)) x1095000 x1095001 x1095002 x1096000 x1096001 x1096002) else (some true))) else (none)) else ((dy_Add.f k x2).bind fun bt1101 => ((pelorusref03_Add.f k x2).bind fun bt1106 => ((pelorusref03_Alike.f k bt1101.1 bt1101.2.1 bt1101.2.2 bt1106.1 bt1106.2.1 bt1106.2.2).bind fun t1111 => ((dy_Sub.f k x1095000 x1095001 x1095002 x1096000 x1096001 x1096002).bind fun bt1112 => ((pelorusref03_Sub.f k x1095000 x1095001 x1095002 x1096000 x1096001 x1096002).bind fun bt1117 => ((pelorusref03_Alike.f k bt1112.1 bt1112.2.1 bt1112.2.2 bt1117.1 bt1117.2.1 bt1117.2.2).bind fun t1122 => ((dy_Mul.f k x1095000 x1095001 x1095002 x1096000 x1096001 x1096002).bind fun bt1123 => ((pelorusref03_Mul.f k x1095000 x1095001 x1095002 x1096000 x1096001 x1096002).bind fun bt1128 => ((pelorusref03_Alike.f k bt1123.1 bt1123.2.1 bt1123.2.2 bt1128.1 bt1128.2.1 bt1128.2.2).bind fun t1133 => ((dy_Neg.f k x1095000 x1095001 x1095002).bind fun bt1134 => ((pelorusref03_Neg.f k x1095000 x1095001 x1095002).bind fun bt1139 => ((pelorusref03_Alike.f k bt1134.1 bt1134.2.1 bt1134.2.2 bt1139.1 bt1139.2.1 bt1139.2.2).bind fun t1144 => ((dy_Floor.f k x1095000 x1095001 x1095002).bind fun bt1145 => ((pelorusref03_Floor.f k x1095000 x1095001 x1095002).bind fun bt1149 => ((pelorusref02_Alike.f k bt1145.1 bt1145.2 bt1149.1 bt1149.2).bind fun t1153 => (if t1111 = true then (if t1122 = true then (if t1133 = true then (if t1144 = true then (if t1153 = true then ((dy_Cmp.f k x1095000 x1095001 x1095002 x1096000 x1096001 x1096002).bind fun t1154 => ((pelorusref03_Cmp.f k x1095000 x1095001 x1095002 x1096000 x1096001 x1096002).bind fun t1155 => (some (t1154 == t1155)))) else (some false)) else (some false)) else (some false)) else (some false)) else (some false)))))))))))))))))
end
def peloruslaw03_DySums.f (k : Nat) (a0_0 : Bool) (l0_1 : List Int) (a0_2 : Int) (a1_0 : Bool) (l1_1 : List Int) (a1_2 : Int) (l2 : List (S27)) : Option (Bool) := (peloruslaw03_awake.f k).bind fun t1096 => ((peloruslaw03_Few.f a0_0 l0_1 a0_2).bind fun t1097 => ((peloruslaw03_Few.f a1_0 l1_1 a1_2).bind fun t1098 => (if t1096 = true then (if t1097 = true then (if t1098 = true then (peloruslaw03_DySums.j0 k l2 t1096 (decide ((l2.length : Int) > 6)) a0_0 l0_1 a0_2 a1_0 l1_1 a1_2) else (peloruslaw03_DySums.j0 k l2 t1096 true a0_0 l0_1 a0_2 a1_0 l1_1 a1_2)) else (peloruslaw03_DySums.j0 k l2 t1096 true a0_0 l0_1 a0_2 a1_0 l1_1 a1_2)) else (peloruslaw03_DySums.j0 k l2 t1096 true a0_0 l0_1 a0_2 a1_0 l1_1 a1_2))))
def peloruslaw03_DySums.T13 : Bool × List (List Nat × List Nat) := (true, [([], []), ([], []), ([0, 1], [0, 1]), ([], []), ([], []), ([3, 4, 2], [3, 4]), ([2, 5, 5], [2, 5]), ([6, 6, 0, 1, 2, 3, 4, 5, 6], [6])])
def peloruslaw03_DySums.B13 : List Nat := [0, 0, 3, 0, 0, 31, 63, 127]
def peloruslaw03_DySums.Pure : Prop := ∀ (x0 : S27) (x1 : S27) (l2 : List (S27)), ok27 x0 → ok27 x1 → (l2.length * 40 ≤ 140737488351232 ∧ l2.length ≤ maxLen ∧ ∀ x ∈ l2, ok27 x) → ∃ k, peloruslaw03_DySums.f k x0.f0.f0 x0.f0.f1 x0.f1 x1.f0.f0 x1.f0.f1 x1.f1 l2 = some true ∧ ∀ r, peloruslaw03_awake.f k = some r → r = true

-- NOT PRINTED: function 7 (peloruslaw03_DyRing)

/-! ### peloruslaw03_DyParts: function 8 -/
def peloruslaw03_DyParts.j0 : Nat → Bool → Bool → Bool → List Int → Int → Option (Bool)
  | 0, _, _, _, _, _ => none
  | k + 1, x3, x15, x1254000, x1254001, x1254002 => if x15 = true then (some x3) else ((dy_Floor.f k x1254000 x1254001 x1254002).bind fun bt1256 => ((dy_Make.f k bt1256.1 bt1256.2 0).bind fun bt1260 => ((dy_Sub.f k x1254000 x1254001 x1254002 bt1260.1 bt1260.2.1 bt1260.2.2).bind fun bt1266 => ((dy_Sign.f k bt1266.1 bt1266.2.1 bt1266.2.2).bind fun t1272 => (if t1272 ≥ 0 then ((whole_From.f k 1).bind fun bt1273 => ((dy_Make.f k bt1273.1 bt1273.2 0).bind fun bt1277 => ((dy_Cmp.f k bt1266.1 bt1266.2.1 bt1266.2.2 bt1277.1 bt1277.2.1 bt1277.2.2).bind fun t1282 => (if t1282 < 0 then ((dy_Add.f k (([(⟨(⟨bt1260.1, bt1260.2.1⟩ : S24), bt1260.2.2⟩ : S27), (⟨(⟨bt1266.1, bt1266.2.1⟩ : S24), bt1266.2.2⟩ : S27)] : List (S27)))).bind fun bt1286 => ((dy_Cmp.f k bt1286.1 bt1286.2.1 bt1286.2.2 x1254000 x1254001 x1254002).bind fun t1291 => (if t1291 = 0 then ((dy_Neg.f k bt1266.1 bt1266.2.1 bt1266.2.2).bind fun bt1292 => ((dy_Mul.f k bt1266.1 bt1266.2.1 bt1266.2.2 bt1292.1 bt1292.2.1 bt1292.2.2).bind fun bt1297 => ((dy_Sign.f k bt1297.1 bt1297.2.1 bt1297.2.2).bind fun t1302 => (some (decide (t1302 ≤ 0)))))) else (some false)))) else (some false))))) else (some false))))))
def peloruslaw03_DyParts.f (k : Nat) (a0_0 : Bool) (l0_1 : List Int) (a0_2 : Int) : Option (Bool) := (peloruslaw03_awake.f k).bind fun t1254 => ((peloruslaw03_Few.f a0_0 l0_1 a0_2).bind fun t1255 => (if t1254 = true then (peloruslaw03_DyParts.j0 k t1254 (!t1255) a0_0 l0_1 a0_2) else (peloruslaw03_DyParts.j0 k t1254 true a0_0 l0_1 a0_2)))
def peloruslaw03_DyParts.T7 : Bool × List (List Nat × List Nat) := (true, [([], []), ([0], [0]), ([1], [1]), ([2, 1], [2]), ([3], [3]), ([3, 3], [3]), ([5, 5, 3], [3, 5]), ([4, 6, 6, 3], [3, 4, 6]), ([7, 3], [3, 7]), ([3, 8], [3, 8]), ([9, 7], [9]), ([10], [10]), ([10], [10]), ([11, 12, 10], [10, 11, 12]), ([13, 10, 10], [10, 13]), ([10], [10]), ([14, 15, 14, 10], [10, 14, 15]), ([16, 10], [10, 16]), ([10, 17], [10, 17]), ([18, 16], [18]), ([19], [19]), ([19], [19]), ([21, 19, 19], [19, 21]), ([20, 22, 22, 19], [19, 20, 22]), ([23, 23, 19], [19, 23]), ([24, 19], [19, 24]), ([19, 25], [19, 25]), ([26, 24, 0, 1, 2, 3, 4, 5, 6, 7, 8, 9, 10, 11, 12, 13, 14, 15, 16, 17, 18, 19, 20, 21, 22, 23, 24, 25, 26], [26])])
def peloruslaw03_DyParts.B7 : List Nat := [0, 1, 3, 7, 15, 15, 47, 127, 255, 511, 1023, 2047, 2047, 8191, 16383, 2047, 65535, 131071, 262143, 524287, 1048575, 1048575, 3145727, 8388607, 16777215, 33554431, 67108863, 134217727]
def peloruslaw03_DyParts.Pure : Prop := ∀ (x0 : S27), ok27 x0 → ∃ k, peloruslaw03_DyParts.f k x0.f0.f0 x0.f0.f1 x0.f1 = some true ∧ ∀ r, peloruslaw03_awake.f k = some r → r = true

end Go.Proofs.YtaookeneeemfbaaDoor.PA
