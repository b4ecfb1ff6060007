-- Laid by this work's own program; Lean checks it.
import Derived.Test.YtkemnoejpbknhaaDoorPAx0
import Derived.Test.YtkemnoejpbknhaaDoorPAx1
namespace Go.Proofs.YtkemnoejpbknhaaDoor.PA
open Go.RowKit Go.Proofs.YtkemnoejpbknhaaDoorW.PrintWords Go.Proofs.YtkemnoejpbknhaaDoorW.PrintLast Go.Proofs.YtkemnoejpbknhaaDoorW.PrintMore
attribute [local go_sem] max2_int min2_int max_two min_two max_three min_three max_four min_four   -- for this text's walks alone
set_option linter.unusedVariables false
set_option linter.unusedSimpArgs false

attribute [local go_sem ↓ high] isSome_set_
attribute [local go_sem high] eqA30
/-! ### nat_cut: function 66 -/
def nat_cut.l0 : Nat → List Int → Option (List Int)
  | 0, _ => none
  | k + 1, x0 => if (x0.length : Int) > 0 then (if 0 ≤ (wrap64 ((x0.length : Int) - 1)) then (if (wrap64 ((x0.length : Int) - 1)) < (x0.length : Int) then (if (rd x0 (wrap64 ((x0.length : Int) - 1))) = 0 then (if (wrap64 ((x0.length : Int) - 1)) ≤ (x0.length : Int) then (nat_cut.l0 k (x0.take ((wrap64 ((x0.length : Int) - 1)) : Int).toNat)) else (none)) else (some x0)) else (none)) else (none)) else (some x0)
def nat_cut.f (k : Nat) (l0 : List Int) : Option (List Int) := nat_cut.l0 k l0

/-! ### nat_cut_own: function 66 -/
def nat_cut_own.l0 : Nat → List Int → Option (List Int)
  | 0, _ => none
  | k + 1, x0 => if (x0.length : Int) > 0 then (if 0 ≤ (wrap64 ((x0.length : Int) - 1)) then (if (wrap64 ((x0.length : Int) - 1)) < (x0.length : Int) then (if (rd x0 (wrap64 ((x0.length : Int) - 1))) = 0 then (if (wrap64 ((x0.length : Int) - 1)) ≤ (x0.length : Int) then (nat_cut_own.l0 k (x0.take ((wrap64 ((x0.length : Int) - 1)) : Int).toNat)) else (none)) else (some x0)) else (none)) else (none)) else (some x0)
def nat_cut_own.f (k : Nat) (l0 : List Int) : Option (List Int) := nat_cut_own.l0 k l0


/-! ### slices_Clone_uint32_uint32: function 68 (a text of our own) -/
def slices_Clone_uint32_uint32.f (l0 : List Int) : Option (List Int) := if l0.length < 35184372088832 then some l0 else none

/-! ### nat_Shr: function 43 -/
def nat_Shr.l0 : Nat → List Int → Int → Int → List Int → Int → Int → Option (List Int)
  | 0, _, _, _, _, _, _ => none
  | k + 1, x0, x5, x6, x7, x33, x34 => if x34 < x33 then (if 0 ≤ (wrap64 (x34 + x5)) then (if (wrap64 (x34 + x5)) < (x0.length : Int) then (if (wrap64 ((wrap64 (x34 + x5)) + 1)) < (x0.length : Int) then (if 0 ≤ (wrap64 ((wrap64 (x34 + x5)) + 1)) then (if 0 ≤ x6 then (if 0 ≤ x34 then (if x34 < (x7.length : Int) then (nat_Shr.l0 k x0 x5 x6 (x7.set (x34 : Int).toNat ((shr .u64 (Go.bits .or .u64 (IntKind.u64.wrap (rd x0 (wrap64 (x34 + x5)))) (IntKind.u64.wrap ((IntKind.u64.wrap (rd x0 (wrap64 ((wrap64 (x34 + x5)) + 1)))) * 4294967296))) x6) % 4294967296)) x33 (wrap64 (x34 + 1))) else (none)) else (none)) else (none)) else (none)) else (if 0 ≤ x6 then (if 0 ≤ x34 then (if x34 < (x7.length : Int) then (nat_Shr.l0 k x0 x5 x6 (x7.set (x34 : Int).toNat ((shr .u64 (IntKind.u64.wrap (rd x0 (wrap64 (x34 + x5)))) x6) % 4294967296)) x33 (wrap64 (x34 + 1))) else (none)) else (none)) else (none))) else (none)) else (none)) else ((nat_cut_own.f k x7).bind fun t124 => (some t124))
def nat_Shr.f (k : Nat) (l0 : List Int) (a1 : Int) : Option (List Int) := (nat_cut.f k l0).bind fun t111 => (if a1 < 1 then ((slices_Clone_uint32_uint32.f t111).bind fun t114 => (some t114)) else (if a1 ≥ (wrap64 (32 * (t111.length : Int))) then (some ([] : List Int)) else (if 0 ≤ (wrap64 ((t111.length : Int) - (wrap64 (Int.tdiv a1 32)))) then (if (wrap64 ((t111.length : Int) - (wrap64 (Int.tdiv a1 32))) : Int).toNat ≤ 70368744177664 then ((some (List.replicate (wrap64 ((t111.length : Int) - (wrap64 (Int.tdiv a1 32))) : Int).toNat 0 : List Int)).bind fun y117 => (nat_Shr.l0 k t111 (wrap64 (Int.tdiv a1 32)) (Int.tmod a1 32) y117 (y117.length : Int) 0)) else (none)) else (none))))

/-! ### nat_Trim: function 78 -/
def nat_Trim.f (k : Nat) (l0 : List Int) : Option (List Int) := (nat_cut.f k l0).bind fun t127 => ((slices_Clone_uint32_uint32.f t127).bind fun t130 => (some t130))

/-! ### whole_Make: function 59 -/
def whole_Make.f (k : Nat) (a0 : Bool) (l1 : List Int) : Option (Bool × List Int) := (nat_Trim.f k l1).bind fun t134 => (if a0 = true then (some (decide ((t134.length : Int) > 0), t134)) else (some (false, t134)))

/-! ### bits_Len32: function 67 -/
def bits_Len32.f (a0 : Int) : Option (Int) := if a0 ≥ 65536 then (if (a0 / 65536) ≥ 256 then (if 0 ≤ (((a0 / 65536) / 256) % 256) then (if (((a0 / 65536) / 256) % 256) < 256 then (some (wrap64 ((16 + 8) + (wrap64 (bt (⟨#[0, 1, 2, 2, 3, 3, 3, 3, 4, 4, 4, 4, 4, 4, 4, 4, 5, 5, 5, 5, 5, 5, 5, 5, 5, 5, 5, 5, 5, 5, 5, 5, 6, 6, 6, 6, 6, 6, 6, 6, 6, 6, 6, 6, 6, 6, 6, 6, 6, 6, 6, 6, 6, 6, 6, 6, 6, 6, 6, 6, 6, 6, 6, 6, 7, 7, 7, 7, 7, 7, 7, 7, 7, 7, 7, 7, 7, 7, 7, 7, 7, 7, 7, 7, 7, 7, 7, 7, 7, 7, 7, 7, 7, 7, 7, 7, 7, 7, 7, 7, 7, 7, 7, 7, 7, 7, 7, 7, 7, 7, 7, 7, 7, 7, 7, 7, 7, 7, 7, 7, 7, 7, 7, 7, 7, 7, 7, 7, 8, 8, 8, 8, 8, 8, 8, 8, 8, 8, 8, 8, 8, 8, 8, 8, 8, 8, 8, 8, 8, 8, 8, 8, 8, 8, 8, 8, 8, 8, 8, 8, 8, 8, 8, 8, 8, 8, 8, 8, 8, 8, 8, 8, 8, 8, 8, 8, 8, 8, 8, 8, 8, 8, 8, 8, 8, 8, 8, 8, 8, 8, 8, 8, 8, 8, 8, 8, 8, 8, 8, 8, 8, 8, 8, 8, 8, 8, 8, 8, 8, 8, 8, 8, 8, 8, 8, 8, 8, 8, 8, 8, 8, 8, 8, 8, 8, 8, 8, 8, 8, 8, 8, 8, 8, 8, 8, 8, 8, 8, 8, 8, 8, 8, 8, 8, 8, 8, 8, 8, 8, 8, 8, 8, 8, 8, 8, 8]⟩ : ByteArray) (((a0 / 65536) / 256) % 256)))))) else (none)) else (none)) else (if 0 ≤ ((a0 / 65536) % 256) then (if ((a0 / 65536) % 256) < 256 then (some (wrap64 (16 + (wrap64 (bt (⟨#[0, 1, 2, 2, 3, 3, 3, 3, 4, 4, 4, 4, 4, 4, 4, 4, 5, 5, 5, 5, 5, 5, 5, 5, 5, 5, 5, 5, 5, 5, 5, 5, 6, 6, 6, 6, 6, 6, 6, 6, 6, 6, 6, 6, 6, 6, 6, 6, 6, 6, 6, 6, 6, 6, 6, 6, 6, 6, 6, 6, 6, 6, 6, 6, 7, 7, 7, 7, 7, 7, 7, 7, 7, 7, 7, 7, 7, 7, 7, 7, 7, 7, 7, 7, 7, 7, 7, 7, 7, 7, 7, 7, 7, 7, 7, 7, 7, 7, 7, 7, 7, 7, 7, 7, 7, 7, 7, 7, 7, 7, 7, 7, 7, 7, 7, 7, 7, 7, 7, 7, 7, 7, 7, 7, 7, 7, 7, 7, 8, 8, 8, 8, 8, 8, 8, 8, 8, 8, 8, 8, 8, 8, 8, 8, 8, 8, 8, 8, 8, 8, 8, 8, 8, 8, 8, 8, 8, 8, 8, 8, 8, 8, 8, 8, 8, 8, 8, 8, 8, 8, 8, 8, 8, 8, 8, 8, 8, 8, 8, 8, 8, 8, 8, 8, 8, 8, 8, 8, 8, 8, 8, 8, 8, 8, 8, 8, 8, 8, 8, 8, 8, 8, 8, 8, 8, 8, 8, 8, 8, 8, 8, 8, 8, 8, 8, 8, 8, 8, 8, 8, 8, 8, 8, 8, 8, 8, 8, 8, 8, 8, 8, 8, 8, 8, 8, 8, 8, 8, 8, 8, 8, 8, 8, 8, 8, 8, 8, 8, 8, 8, 8, 8, 8, 8, 8, 8]⟩ : ByteArray) ((a0 / 65536) % 256)))))) else (none)) else (none))) else (if a0 ≥ 256 then (if 0 ≤ ((a0 / 256) % 256) then (if ((a0 / 256) % 256) < 256 then (some (wrap64 ((0 + 8) + (wrap64 (bt (⟨#[0, 1, 2, 2, 3, 3, 3, 3, 4, 4, 4, 4, 4, 4, 4, 4, 5, 5, 5, 5, 5, 5, 5, 5, 5, 5, 5, 5, 5, 5, 5, 5, 6, 6, 6, 6, 6, 6, 6, 6, 6, 6, 6, 6, 6, 6, 6, 6, 6, 6, 6, 6, 6, 6, 6, 6, 6, 6, 6, 6, 6, 6, 6, 6, 7, 7, 7, 7, 7, 7, 7, 7, 7, 7, 7, 7, 7, 7, 7, 7, 7, 7, 7, 7, 7, 7, 7, 7, 7, 7, 7, 7, 7, 7, 7, 7, 7, 7, 7, 7, 7, 7, 7, 7, 7, 7, 7, 7, 7, 7, 7, 7, 7, 7, 7, 7, 7, 7, 7, 7, 7, 7, 7, 7, 7, 7, 7, 7, 8, 8, 8, 8, 8, 8, 8, 8, 8, 8, 8, 8, 8, 8, 8, 8, 8, 8, 8, 8, 8, 8, 8, 8, 8, 8, 8, 8, 8, 8, 8, 8, 8, 8, 8, 8, 8, 8, 8, 8, 8, 8, 8, 8, 8, 8, 8, 8, 8, 8, 8, 8, 8, 8, 8, 8, 8, 8, 8, 8, 8, 8, 8, 8, 8, 8, 8, 8, 8, 8, 8, 8, 8, 8, 8, 8, 8, 8, 8, 8, 8, 8, 8, 8, 8, 8, 8, 8, 8, 8, 8, 8, 8, 8, 8, 8, 8, 8, 8, 8, 8, 8, 8, 8, 8, 8, 8, 8, 8, 8, 8, 8, 8, 8, 8, 8, 8, 8, 8, 8, 8, 8, 8, 8, 8, 8, 8, 8]⟩ : ByteArray) ((a0 / 256) % 256)))))) else (none)) else (none)) else (if 0 ≤ ((a0) % 256) then (if ((a0) % 256) < 256 then (some (wrap64 (0 + (wrap64 (bt (⟨#[0, 1, 2, 2, 3, 3, 3, 3, 4, 4, 4, 4, 4, 4, 4, 4, 5, 5, 5, 5, 5, 5, 5, 5, 5, 5, 5, 5, 5, 5, 5, 5, 6, 6, 6, 6, 6, 6, 6, 6, 6, 6, 6, 6, 6, 6, 6, 6, 6, 6, 6, 6, 6, 6, 6, 6, 6, 6, 6, 6, 6, 6, 6, 6, 7, 7, 7, 7, 7, 7, 7, 7, 7, 7, 7, 7, 7, 7, 7, 7, 7, 7, 7, 7, 7, 7, 7, 7, 7, 7, 7, 7, 7, 7, 7, 7, 7, 7, 7, 7, 7, 7, 7, 7, 7, 7, 7, 7, 7, 7, 7, 7, 7, 7, 7, 7, 7, 7, 7, 7, 7, 7, 7, 7, 7, 7, 7, 7, 8, 8, 8, 8, 8, 8, 8, 8, 8, 8, 8, 8, 8, 8, 8, 8, 8, 8, 8, 8, 8, 8, 8, 8, 8, 8, 8, 8, 8, 8, 8, 8, 8, 8, 8, 8, 8, 8, 8, 8, 8, 8, 8, 8, 8, 8, 8, 8, 8, 8, 8, 8, 8, 8, 8, 8, 8, 8, 8, 8, 8, 8, 8, 8, 8, 8, 8, 8, 8, 8, 8, 8, 8, 8, 8, 8, 8, 8, 8, 8, 8, 8, 8, 8, 8, 8, 8, 8, 8, 8, 8, 8, 8, 8, 8, 8, 8, 8, 8, 8, 8, 8, 8, 8, 8, 8, 8, 8, 8, 8, 8, 8, 8, 8, 8, 8, 8, 8, 8, 8, 8, 8, 8, 8, 8, 8, 8, 8]⟩ : ByteArray) ((a0) % 256)))))) else (none)) else (none)))

/-! ### nat_Len: function 38 -/
def nat_Len.f (k : Nat) (l0 : List Int) : Option (Int) := (nat_cut.f k l0).bind fun t137 => (if (t137.length : Int) = 0 then (some 0) else (if 0 ≤ (wrap64 ((t137.length : Int) - 1)) then (if (wrap64 ((t137.length : Int) - 1)) < (t137.length : Int) then ((bits_Len32.f (rd t137 (wrap64 ((t137.length : Int) - 1)))).bind fun t141 => (some (wrap64 ((wrap64 (32 * (wrap64 ((t137.length : Int) - 1)))) + t141)))) else (none)) else (none)))

/-! ### whole_Sign: function 75 -/
def whole_Sign.f (k : Nat) (a0_0 : Bool) (l0_1 : List Int) : Option (Int) := (nat_Len.f k l0_1).bind fun t143 => (if t143 = 0 then (some 0) else (if a0_0 = true then (some (-1)) else (some 1)))

/-! ### dy_within: function 76 -/
def dy_within.f (a0 : Int) : Option (Bool) := if a0 ≥ (-4194304) then (some (decide (a0 ≤ 4194304))) else (some false)


/-! ### bits_TrailingZeros32: function 86 (a text of our own) -/
/-- What the library's table holds (the row lists it). -/
def tz32tab : List Int := [0, 1, 28, 2, 29, 14, 24, 3, 30, 22, 20, 15, 25, 17, 4, 8, 31, 27, 13, 23, 21, 19, 16, 7, 26, 12, 18, 6, 11, 5, 10, 9]
def tz32ix (a0 : Int) : Int := Go.bits .and .u32 a0 (-a0 % 4294967296) * 125613361 % 4294967296 / 134217728
def bits_TrailingZeros32.f (a0 : Int) : Option Int := if a0 = 0 then some 32 else if 0 ≤ tz32ix a0 ∧ tz32ix a0 < 32 then some (wrap64 (tz32tab.getD (tz32ix a0).toNat 0)) else none
theorem tz32_at {w : World} (h : Kd.C (Kd.int .u8) w (some ⟨0, 0, none⟩) 32 tz32tab) (i : Nat) (hi : i < 32) : w.cell? ⟨0, i, none⟩ = some (.int .u8 (tz32tab.getD i 0)) := by
  obtain ⟨ad, he, hc⟩ := h.2.2 (by decide)
  obtain rfl := Option.some.inj he
  have hl : tz32tab[i]? = some (tz32tab.getD i 0) := by
    rw [List.getD_eq_getElem?_getD, List.getElem?_eq_getElem (show i < tz32tab.length from hi)]; rfl
  obtain ⟨c, hs, hr, hcell⟩ := hc i _ hl
  have hc1 : c = [.int .u8 (tz32tab.getD i 0)] := hr
  subst hc1
  have := hcell 0 _ rfl
  by_cases hz : i = 0
  · subst hz; simpa [Addr.add, Kd.int, Kd.scalar] using this
  · simpa [Addr.add, Kd.int, Kd.scalar, hz] using this
theorem bits_TrailingZeros32.calls (a0 : Int) (r : Int) (w : World) (h : bits_TrailingZeros32.f a0 = some r) (htab_ : Kd.C (Kd.int .u8) w (some ⟨0, 0, none⟩) 32 tz32tab) :
    Calls Tryd.prog 86 #[.int .u32 a0] w fun e w' => e = .returned (.int .i64 r) ∧ Drawn0 w w' := by
  by_cases c0 : a0 = 0
  · have e0 : (some 32 : Option Int) = some r := by simpa [bits_TrailingZeros32.f, c0] using h
    obtain rfl := Option.some.inj e0
    subst c0
    clear h htab_
    go_enter Tryd.func86, Tryd.ntmps86
    go_wp2
    go_ret
    exact ⟨rfl, by repeat (first | exact Drawn0.refl _ | apply Drawn0.step)⟩
  · unfold bits_TrailingZeros32.f at h
    rw [if_neg c0] at h
    by_cases hq : 0 ≤ tz32ix a0 ∧ tz32ix a0 < 32
    · rw [if_pos hq] at h
      obtain rfl := Option.some.inj h
      have hc := tz32_at htab_ (tz32ix a0).toNat (by omega)
      have hcb : (a0 == 0) = false := beq_eq_false_iff_ne.mpr c0
      obtain ⟨h0, h1⟩ := hq
      clear h htab_ c0
      generalize hr : tz32tab.getD (tz32ix a0).toNat 0 = r at hc ⊢
      clear hr
      unfold tz32ix at hc h0 h1
      replace h0 := eq_true h0
      replace h1 := eq_true h1
      go_enter Tryd.func86, Tryd.ntmps86
      go_wp2
      go_ret
      exact ⟨rfl, by repeat (first | exact Drawn0.refl _ | apply Drawn0.step)⟩
    · rw [if_neg hq] at h; exact absurd h (by simp)

/-! ### dy_trailing: function 77 -/
def dy_trailing.l0 : Nat → Int → List Int → Int → Int → Option (Int)
  | 0, _, _, _, _ => none
  | k + 1, x3, x6, x7, x8 => if x8 < x7 then (if 0 ≤ x8 then (if x8 < (x6.length : Int) then (if (rd x6 x8) = 0 then (dy_trailing.l0 k (wrap64 (x3 + 32)) x6 x7 (wrap64 (x8 + 1))) else ((bits_TrailingZeros32.f (rd x6 x8)).bind fun t145 => (some (wrap64 (x3 + t145))))) else (none)) else (none)) else (some x3)
def dy_trailing.f (k : Nat) (l0 : List Int) : Option (Int) := dy_trailing.l0 k 0 l0 (l0.length : Int) 0

/-! ### dy_Make: function 58 -/
def dy_Make.j0 : Nat → Int → Bool → Bool → List Int → Option (Bool × List Int × Int)
  | 0, _, _, _, _ => none
  | k + 1, x1, x13, x147000, x147001 => if x13 = true then (some (false, ([] : List Int), 0)) else ((dy_trailing.f k x147001).bind fun t150 => ((dy_within.f (wrap64 (x1 + t150))).bind fun t151 => (if t151 = true then ((nat_Shr.f k x147001 t150).bind fun t152 => ((whole_Make.f k x147000 t152).bind fun bt155 => (some (bt155.1, bt155.2, wrap64 (x1 + t150))))) else (some (false, ([] : List Int), 0)))))
def dy_Make.f (k : Nat) (a0_0 : Bool) (l0_1 : List Int) (a1 : Int) : Option (Bool × List Int × Int) := (whole_Sign.f k a0_0 l0_1).bind fun t148 => (if t148 = 0 then (dy_Make.j0 k a1 true a0_0 l0_1) else ((dy_within.f a1).bind fun t149 => (dy_Make.j0 k a1 (!t149) a0_0 l0_1)))
def dy_Make.T6 : Bool × List (List Nat × List Nat) := (true, [([], []), ([0], [0]), ([], []), ([2], [2]), ([], []), ([3, 4], [3, 4]), ([1, 5, 5], [1, 5]), ([], []), ([], []), ([7, 8], [7, 8]), ([6, 9], [6, 9]), ([10, 6, 0, 1, 2, 3, 4, 5, 6, 7, 8, 9, 10], [10])])
def dy_Make.B6 : List Nat := [0, 1, 0, 4, 0, 28, 63, 0, 0, 384, 1023, 2047]

/-! ### whole_May: function 90 -/
def whole_May.f (a0_0 : Bool) (l0_1 : List Int) : Option (Bool) := if (l0_1.length : Int) = 0 then (some (!a0_0)) else (if 0 ≤ (wrap64 ((l0_1.length : Int) - 1)) then (if (wrap64 ((l0_1.length : Int) - 1)) < (l0_1.length : Int) then (some ((rd l0_1 (wrap64 ((l0_1.length : Int) - 1))) != 0)) else (none)) else (none))

/-! ### dy_May: function 82 -/
def dy_May.f (a0_0 : Bool) (l0_1 : List Int) (a0_2 : Int) : Option (Bool) := if (l0_1.length : Int) = 0 then (if a0_0 = true then (some false) else (some (a0_2 == 0))) else ((whole_May.f a0_0 l0_1).bind fun t162 => (if t162 = true then (if 0 < (l0_1.length : Int) then (if (Go.bits .and .u32 (rd l0_1 0) 1) = 1 then ((dy_within.f a0_2).bind fun t164 => (some t164)) else (some false)) else (none)) else (some false)))

/-! ### dy_fair: function 65 -/
def dy_fair.f (k : Nat) (a0_0 : Bool) (l0_1 : List Int) (a0_2 : Int) : Option (Bool × List Int × Int) := (dy_May.f a0_0 l0_1 a0_2).bind fun t167 => (if t167 = true then (some (a0_0, l0_1, a0_2)) else ((dy_Make.f k a0_0 l0_1 a0_2).bind fun bt168 => (some (bt168.1, bt168.2.1, bt168.2.2))))

/-! ### dy_Move: function 37 -/
def dy_Move.f (k : Nat) (a0_0 : Bool) (l0_1 : List Int) (a0_2 : Int) (a1 : Int) : Option (Bool × List Int × Int) := (dy_fair.f k a0_0 l0_1 a0_2).bind fun bt175 => (if a1 > 16777216 then (some (false, ([] : List Int), 0)) else (if a1 < (-16777216) then (some (false, ([] : List Int), 0)) else ((dy_Make.f k bt175.1 bt175.2.1 (wrap64 (bt175.2.2 + a1))).bind fun bt180 => (some (bt180.1, bt180.2.1, bt180.2.2)))))

/-! ### num_Infinite: function 33 -/
def num_Infinite.f (a0 : Bool) : Option (Int × Bool × Int × Int) := some (2, a0, 0, 0)

/-! ### num_tiny: function 56 -/
def num_tiny.f (a0 : Bool) : Option (Int × Bool × Int × Int) := some (1, a0, 9223372036854775808, (-1048576))

/-! ### num_huge: function 57 -/
def num_huge.f (a0 : Bool) : Option (Int × Bool × Int × Int) := some (1, a0, 18446744073709551615, 1048576)

/-! ### num_Bound: function 39 -/
mutual
def num_Bound.j0 : Nat → Bool → Int → Int → Bool → Bool → Option (Int × Bool × Int × Int)
  | 0, _, _, _, _, _ => none
  | k + 1, x0, x1, x2, x3, x9 => if x9 = true then ((num_Infinite.f x0).bind fun bt189 => (some (bt189.1, bt189.2.1, bt189.2.2.1, bt189.2.2.2))) else (if x2 > 1048576 then ((num_huge.f x0).bind fun bt193 => (some (bt193.1, bt193.2.1, bt193.2.2.1, bt193.2.2.2))) else (if x2 < (-1048576) then (num_Bound.j1 k x0 x1 x2 x3) else (num_Bound.j1 k x0 x1 x2 false)))
def num_Bound.j1 : Nat → Bool → Int → Int → Bool → Option (Int × Bool × Int × Int)
  | 0, _, _, _, _ => none
  | k + 1, x0, x1, x2, x22 => if x22 = true then ((num_tiny.f x0).bind fun bt197 => (some (bt197.1, bt197.2.1, bt197.2.2.1, bt197.2.2.2))) else (if x2 < (-1048576) then (some (0, false, 0, 0)) else (some (1, x0, x1, x2)))
end
def num_Bound.f (k : Nat) (a0 : Bool) (a1 : Int) (a2 : Int) (a3 : Bool) : Option (Int × Bool × Int × Int) := if a2 > 1048576 then (num_Bound.j0 k a0 a1 a2 a3 a3) else (num_Bound.j0 k a0 a1 a2 a3 false)

/-! ### num_word: function 40 -/
def num_word.l0 : Nat → Int → List Int → Int → Int → Option (Int)
  | 0, _, _, _, _ => none
  | k + 1, x3, x6, x7, x8 => if x8 < x7 then (if 0 ≤ x8 then (if x8 < (x6.length : Int) then (if 0 ≤ (wrap64 (32 * x8)) then (num_word.l0 k (Go.bits .or .u64 x3 (shl .u64 (IntKind.u64.wrap (rd x6 x8)) (wrap64 (32 * x8)))) x6 x7 (wrap64 (x8 + 1))) else (none)) else (none)) else (none)) else (some x3)
def num_word.f (k : Nat) (l0 : List Int) : Option (Int) := num_word.l0 k 0 l0 (l0.length : Int) 0

/-! ### nat_Shl: function 41 -/
def nat_Shl.l0 : Nat → Int → Int → List Int → List Int → Int → Int → Option (List Int)
  | 0, _, _, _, _, _, _ => none
  | k + 1, x5, x6, x7, x36, x37, x38 => if x38 < x37 then (if 0 ≤ x38 then (if x38 < (x36.length : Int) then (if 0 ≤ x6 then (if 0 ≤ (wrap64 (x38 + x5)) then (if (wrap64 (x38 + x5)) < (x7.length : Int) then ((some (x7.set ((wrap64 (x38 + x5)) : Int).toNat (Go.bits .or .u32 (rd x7 (wrap64 (x38 + x5))) ((shl .u64 (IntKind.u64.wrap (rd x36 x38)) x6) % 4294967296)) : List Int)).bind fun y213 => (if 0 ≤ (wrap64 ((wrap64 (x38 + x5)) + 1)) then (if (wrap64 ((wrap64 (x38 + x5)) + 1)) < (x7.length : Int) then (nat_Shl.l0 k x5 x6 (y213.set ((wrap64 ((wrap64 (x38 + x5)) + 1)) : Int).toNat (Go.bits .or .u32 (rd y213 (wrap64 ((wrap64 (x38 + x5)) + 1))) (((shl .u64 (IntKind.u64.wrap (rd x36 x38)) x6) / 4294967296) % 4294967296))) x36 x37 (wrap64 (x38 + 1))) else (none)) else (none))) else (none)) else (none)) else (none)) else (none)) else (none)) else ((nat_cut_own.f k x7).bind fun t216 => (some t216))
def nat_Shl.f (k : Nat) (l0 : List Int) (a1 : Int) : Option (List Int) := (nat_cut.f k l0).bind fun t202 => (if a1 < 1 then ((slices_Clone_uint32_uint32.f t202).bind fun t205 => (some t205)) else (if a1 > 16777216 then (some ([] : List Int)) else (if (t202.length : Int) = 0 then (some ([] : List Int)) else (if 0 ≤ (wrap64 ((wrap64 ((t202.length : Int) + (wrap64 (Int.tdiv a1 32)))) + 1)) then (if (wrap64 ((wrap64 ((t202.length : Int) + (wrap64 (Int.tdiv a1 32)))) + 1) : Int).toNat ≤ 70368744177664 then (nat_Shl.l0 k (wrap64 (Int.tdiv a1 32)) (Int.tmod a1 32) (List.replicate (wrap64 ((wrap64 ((t202.length : Int) + (wrap64 (Int.tdiv a1 32)))) + 1) : Int).toNat 0) t202 (t202.length : Int) 0) else (none)) else (none)))))

/-! ### num_Grow: function 42 -/
def num_Grow.j0 : Nat → Bool → Int → Int → Bool → Bool → Option (Int × Bool × Int × Int)
  | 0, _, _, _, _, _ => none
  | k + 1, x0, x1, x2, x4, x14 => if x14 = true then (if (IntKind.u64.wrap (x1 + 1)) = 0 then ((num_Bound.f k x0 9223372036854775808 (wrap64 (x2 + 1)) x4).bind fun bt220 => (some (bt220.1, bt220.2.1, bt220.2.2.1, bt220.2.2.2))) else ((num_Bound.f k x0 (IntKind.u64.wrap (x1 + 1)) x2 x4).bind fun bt224 => (some (bt224.1, bt224.2.1, bt224.2.2.1, bt224.2.2.2)))) else ((num_Bound.f k x0 x1 x2 x4).bind fun bt228 => (some (bt228.1, bt228.2.1, bt228.2.2.1, bt228.2.2.2)))
def num_Grow.f (k : Nat) (a0 : Bool) (a1 : Int) (a2 : Int) (a3 : Bool) (a4 : Bool) : Option (Int × Bool × Int × Int) := if a3 = true then (num_Grow.j0 k a0 a1 a2 a4 a4) else (num_Grow.j0 k a0 a1 a2 a4 false)

/-! ### num_Round: function 12 -/
def num_Round.f (k : Nat) (a0_0 : Bool) (l0_1 : List Int) (a0_2 : Int) (a1 : Bool) : Option (Int × Bool × Int × Int) := (dy_Move.f k a0_0 l0_1 a0_2 0).bind fun bt234 => ((nat_Len.f k bt234.2.1).bind fun t239 => (if t239 = 0 then (some (0, false, 0, 0)) else (if t239 ≤ 64 then ((nat_Shl.f k bt234.2.1 (wrap64 (64 - t239))).bind fun t240 => ((num_word.f k t240).bind fun t243 => ((num_Bound.f k bt234.1 t243 (wrap64 ((wrap64 (bt234.2.2 + t239)) - 64)) (a1 != bt234.1)).bind fun bt244 => (some (bt244.1, bt244.2.1, bt244.2.2.1, bt244.2.2.2))))) else ((nat_Shr.f k bt234.2.1 (wrap64 (t239 - 64))).bind fun t248 => ((num_word.f k t248).bind fun t251 => ((num_Grow.f k bt234.1 t251 (wrap64 ((wrap64 (bt234.2.2 + t239)) - 64)) true (a1 != bt234.1)).bind fun bt252 => (some (bt252.1, bt252.2.1, bt252.2.2.1, bt252.2.2.2))))))))
def num_Round.T7 : Bool × List (List Nat × List Nat) := (true, [([], []), ([0], [0]), ([1], [1]), ([], []), ([3], [3]), ([4], [4]), ([], []), ([6], [6]), ([5, 7], [5, 7]), ([8, 8], [8]), ([], []), ([10], [10]), ([], []), ([11, 12], [11, 12]), ([13], [13]), ([], []), ([2, 9, 14, 15, 9], [2, 9, 14, 15]), ([16, 16, 0, 1, 2, 3, 4, 5, 6, 7, 8, 9, 10, 11, 12, 13, 14, 15, 16], [16])])
def num_Round.B7 : List Nat := [0, 1, 3, 0, 8, 24, 0, 64, 248, 504, 0, 1024, 0, 7168, 15360, 0, 65535, 131071]

/-! ### bits_Len64: function 74 -/
def bits_Len64.j0 : Nat → Int → Int → Option (Int)
  | 0, _, _ => none
  | k + 1, x0, x2 => if x0 ≥ 65536 then (if (x0 / 65536) ≥ 256 then (if 0 ≤ (((x0 / 65536) / 256) % 256) then (if (((x0 / 65536) / 256) % 256) < 256 then (some (wrap64 ((wrap64 ((wrap64 (x2 + 16)) + 8)) + (wrap64 (bt (⟨#[0, 1, 2, 2, 3, 3, 3, 3, 4, 4, 4, 4, 4, 4, 4, 4, 5, 5, 5, 5, 5, 5, 5, 5, 5, 5, 5, 5, 5, 5, 5, 5, 6, 6, 6, 6, 6, 6, 6, 6, 6, 6, 6, 6, 6, 6, 6, 6, 6, 6, 6, 6, 6, 6, 6, 6, 6, 6, 6, 6, 6, 6, 6, 6, 7, 7, 7, 7, 7, 7, 7, 7, 7, 7, 7, 7, 7, 7, 7, 7, 7, 7, 7, 7, 7, 7, 7, 7, 7, 7, 7, 7, 7, 7, 7, 7, 7, 7, 7, 7, 7, 7, 7, 7, 7, 7, 7, 7, 7, 7, 7, 7, 7, 7, 7, 7, 7, 7, 7, 7, 7, 7, 7, 7, 7, 7, 7, 7, 8, 8, 8, 8, 8, 8, 8, 8, 8, 8, 8, 8, 8, 8, 8, 8, 8, 8, 8, 8, 8, 8, 8, 8, 8, 8, 8, 8, 8, 8, 8, 8, 8, 8, 8, 8, 8, 8, 8, 8, 8, 8, 8, 8, 8, 8, 8, 8, 8, 8, 8, 8, 8, 8, 8, 8, 8, 8, 8, 8, 8, 8, 8, 8, 8, 8, 8, 8, 8, 8, 8, 8, 8, 8, 8, 8, 8, 8, 8, 8, 8, 8, 8, 8, 8, 8, 8, 8, 8, 8, 8, 8, 8, 8, 8, 8, 8, 8, 8, 8, 8, 8, 8, 8, 8, 8, 8, 8, 8, 8, 8, 8, 8, 8, 8, 8, 8, 8, 8, 8, 8, 8, 8, 8, 8, 8, 8, 8]⟩ : ByteArray) (((x0 / 65536) / 256) % 256)))))) else (none)) else (none)) else (if 0 ≤ ((x0 / 65536) % 256) then (if ((x0 / 65536) % 256) < 256 then (some (wrap64 ((wrap64 (x2 + 16)) + (wrap64 (bt (⟨#[0, 1, 2, 2, 3, 3, 3, 3, 4, 4, 4, 4, 4, 4, 4, 4, 5, 5, 5, 5, 5, 5, 5, 5, 5, 5, 5, 5, 5, 5, 5, 5, 6, 6, 6, 6, 6, 6, 6, 6, 6, 6, 6, 6, 6, 6, 6, 6, 6, 6, 6, 6, 6, 6, 6, 6, 6, 6, 6, 6, 6, 6, 6, 6, 7, 7, 7, 7, 7, 7, 7, 7, 7, 7, 7, 7, 7, 7, 7, 7, 7, 7, 7, 7, 7, 7, 7, 7, 7, 7, 7, 7, 7, 7, 7, 7, 7, 7, 7, 7, 7, 7, 7, 7, 7, 7, 7, 7, 7, 7, 7, 7, 7, 7, 7, 7, 7, 7, 7, 7, 7, 7, 7, 7, 7, 7, 7, 7, 8, 8, 8, 8, 8, 8, 8, 8, 8, 8, 8, 8, 8, 8, 8, 8, 8, 8, 8, 8, 8, 8, 8, 8, 8, 8, 8, 8, 8, 8, 8, 8, 8, 8, 8, 8, 8, 8, 8, 8, 8, 8, 8, 8, 8, 8, 8, 8, 8, 8, 8, 8, 8, 8, 8, 8, 8, 8, 8, 8, 8, 8, 8, 8, 8, 8, 8, 8, 8, 8, 8, 8, 8, 8, 8, 8, 8, 8, 8, 8, 8, 8, 8, 8, 8, 8, 8, 8, 8, 8, 8, 8, 8, 8, 8, 8, 8, 8, 8, 8, 8, 8, 8, 8, 8, 8, 8, 8, 8, 8, 8, 8, 8, 8, 8, 8, 8, 8, 8, 8, 8, 8, 8, 8, 8, 8, 8, 8]⟩ : ByteArray) ((x0 / 65536) % 256)))))) else (none)) else (none))) else (if x0 ≥ 256 then (if 0 ≤ ((x0 / 256) % 256) then (if ((x0 / 256) % 256) < 256 then (some (wrap64 ((wrap64 (x2 + 8)) + (wrap64 (bt (⟨#[0, 1, 2, 2, 3, 3, 3, 3, 4, 4, 4, 4, 4, 4, 4, 4, 5, 5, 5, 5, 5, 5, 5, 5, 5, 5, 5, 5, 5, 5, 5, 5, 6, 6, 6, 6, 6, 6, 6, 6, 6, 6, 6, 6, 6, 6, 6, 6, 6, 6, 6, 6, 6, 6, 6, 6, 6, 6, 6, 6, 6, 6, 6, 6, 7, 7, 7, 7, 7, 7, 7, 7, 7, 7, 7, 7, 7, 7, 7, 7, 7, 7, 7, 7, 7, 7, 7, 7, 7, 7, 7, 7, 7, 7, 7, 7, 7, 7, 7, 7, 7, 7, 7, 7, 7, 7, 7, 7, 7, 7, 7, 7, 7, 7, 7, 7, 7, 7, 7, 7, 7, 7, 7, 7, 7, 7, 7, 7, 8, 8, 8, 8, 8, 8, 8, 8, 8, 8, 8, 8, 8, 8, 8, 8, 8, 8, 8, 8, 8, 8, 8, 8, 8, 8, 8, 8, 8, 8, 8, 8, 8, 8, 8, 8, 8, 8, 8, 8, 8, 8, 8, 8, 8, 8, 8, 8, 8, 8, 8, 8, 8, 8, 8, 8, 8, 8, 8, 8, 8, 8, 8, 8, 8, 8, 8, 8, 8, 8, 8, 8, 8, 8, 8, 8, 8, 8, 8, 8, 8, 8, 8, 8, 8, 8, 8, 8, 8, 8, 8, 8, 8, 8, 8, 8, 8, 8, 8, 8, 8, 8, 8, 8, 8, 8, 8, 8, 8, 8, 8, 8, 8, 8, 8, 8, 8, 8, 8, 8, 8, 8, 8, 8, 8, 8, 8, 8]⟩ : ByteArray) ((x0 / 256) % 256)))))) else (none)) else (none)) else (if 0 ≤ ((x0) % 256) then (if ((x0) % 256) < 256 then (some (wrap64 (x2 + (wrap64 (bt (⟨#[0, 1, 2, 2, 3, 3, 3, 3, 4, 4, 4, 4, 4, 4, 4, 4, 5, 5, 5, 5, 5, 5, 5, 5, 5, 5, 5, 5, 5, 5, 5, 5, 6, 6, 6, 6, 6, 6, 6, 6, 6, 6, 6, 6, 6, 6, 6, 6, 6, 6, 6, 6, 6, 6, 6, 6, 6, 6, 6, 6, 6, 6, 6, 6, 7, 7, 7, 7, 7, 7, 7, 7, 7, 7, 7, 7, 7, 7, 7, 7, 7, 7, 7, 7, 7, 7, 7, 7, 7, 7, 7, 7, 7, 7, 7, 7, 7, 7, 7, 7, 7, 7, 7, 7, 7, 7, 7, 7, 7, 7, 7, 7, 7, 7, 7, 7, 7, 7, 7, 7, 7, 7, 7, 7, 7, 7, 7, 7, 8, 8, 8, 8, 8, 8, 8, 8, 8, 8, 8, 8, 8, 8, 8, 8, 8, 8, 8, 8, 8, 8, 8, 8, 8, 8, 8, 8, 8, 8, 8, 8, 8, 8, 8, 8, 8, 8, 8, 8, 8, 8, 8, 8, 8, 8, 8, 8, 8, 8, 8, 8, 8, 8, 8, 8, 8, 8, 8, 8, 8, 8, 8, 8, 8, 8, 8, 8, 8, 8, 8, 8, 8, 8, 8, 8, 8, 8, 8, 8, 8, 8, 8, 8, 8, 8, 8, 8, 8, 8, 8, 8, 8, 8, 8, 8, 8, 8, 8, 8, 8, 8, 8, 8, 8, 8, 8, 8, 8, 8, 8, 8, 8, 8, 8, 8, 8, 8, 8, 8, 8, 8, 8, 8, 8, 8, 8, 8]⟩ : ByteArray) ((x0) % 256)))))) else (none)) else (none)))
def bits_Len64.f (k : Nat) (a0 : Int) : Option (Int) := if a0 ≥ 4294967296 then (bits_Len64.j0 k (a0 / 4294967296) 32) else (bits_Len64.j0 k a0 0)

/-! ### bits_LeadingZeros64: function 51 -/
def bits_LeadingZeros64.f (k : Nat) (a0 : Int) : Option (Int) := (bits_Len64.f k a0).bind fun t256 => (some (wrap64 (64 - t256)))

/-! ### num_Of: function 15 -/
def num_Of.f (k : Nat) (a0 : Int) : Option (Int × Bool × Int × Int) := if a0 < 0 then ((bits_LeadingZeros64.f k (IntKind.u64.wrap (-(IntKind.u64.wrap (a0))))).bind fun t258 => (if (IntKind.u64.wrap (-(IntKind.u64.wrap (a0)))) = 0 then (some (0, false, 0, 0)) else (if 0 ≤ t258 then (some (1, decide (a0 < 0), shl .u64 (IntKind.u64.wrap (-(IntKind.u64.wrap (a0)))) t258, wrap64 (-t258))) else (none)))) else ((bits_LeadingZeros64.f k (IntKind.u64.wrap (a0))).bind fun t259 => (if (IntKind.u64.wrap (a0)) = 0 then (some (0, false, 0, 0)) else (if 0 ≤ t259 then (some (1, decide (a0 < 0), shl .u64 (IntKind.u64.wrap (a0)) t259, wrap64 (-t259))) else (none))))

/-! ### peloruslaw05_awake: function 11 -/
def peloruslaw05_awake.f (k : Nat)  : Option (Bool) := (num_Of.f k 1).bind fun bt260 => ((some (([1, 0, 1] : List Int) : List Int)).bind fun y265 => ((num_Round.f k false y265 0 false).bind fun bt269 => ((num_Round.f k false y265 0 true).bind fun bt274 => (if bt260.2.2.1 = 9223372036854775808 then (if bt260.2.2.2 = (-63) then (if bt260.1 = 1 then (if bt269.2.2.1 = 9223372036854775808 then (if bt269.2.2.2 = 1 then (if bt274.2.2.1 = 9223372036854775809 then (some (bt274.2.2.2 == 1)) else (some false)) else (some false)) else (some false)) else (some false)) else (some false)) else (some false)))))

/-! ### pelorusref01_Trim: function 70 -/
def pelorusref01_Trim.l0 : Nat → List Int → Int → Option (List Int)
  | 0, _, _ => none
  | k + 1, x0, x3 => if x3 > 0 then (if 0 ≤ (wrap64 (x3 - 1)) then (if (wrap64 (x3 - 1)) < (x0.length : Int) then (if (rd x0 (wrap64 (x3 - 1))) = 0 then (pelorusref01_Trim.l0 k x0 (wrap64 (x3 - 1))) else (if 0 ≤ x3 then (if x3 ≤ (x0.length : Int) then (if ([] : List Int).length + (x0.take (x3 : Int).toNat).length < 35184372088832 then (some (([] : List Int) ++ (x0.take (x3 : Int).toNat))) else (none)) else (none)) else (none))) else (none)) else (none)) else (if 0 ≤ x3 then (if x3 ≤ (x0.length : Int) then (if ([] : List Int).length + (x0.take (x3 : Int).toNat).length < 35184372088832 then (some (([] : List Int) ++ (x0.take (x3 : Int).toNat))) else (none)) else (none)) else (none))
def pelorusref01_Trim.f (k : Nat) (l0 : List Int) : Option (List Int) := pelorusref01_Trim.l0 k l0 (l0.length : Int)

/-! ### pelorusref01_Len: function 45 -/
def pelorusref01_Len.l0 : Nat → Int → Int → Option (Int)
  | 0, _, _ => none
  | k + 1, x4, x5 => if x5 > 0 then (pelorusref01_Len.l0 k (wrap64 (x4 + 1)) ((Int.tdiv x5 2) % 4294967296)) else (some x4)
def pelorusref01_Len.f (k : Nat) (l0 : List Int) : Option (Int) := (pelorusref01_Trim.f k l0).bind fun t288 => (if (t288.length : Int) = 0 then (some 0) else (if 0 ≤ (wrap64 ((t288.length : Int) - 1)) then (if (wrap64 ((t288.length : Int) - 1)) < (t288.length : Int) then (pelorusref01_Len.l0 k (wrap64 (32 * (wrap64 ((t288.length : Int) - 1)))) (rd t288 (wrap64 ((t288.length : Int) - 1)))) else (none)) else (none)))

/-! ### pelorusref01_at: function 73 -/
def pelorusref01_at.f (l0 : List Int) (a1 : Int) : Option (Int) := if a1 ≥ (l0.length : Int) then (some 0) else (if 0 ≤ a1 then (if a1 < (l0.length : Int) then (some (IntKind.u64.wrap (rd l0 a1))) else (none)) else (none))

/-! ### pelorusref01_Add: function 50 -/
mutual
def pelorusref01_Add.l0 : Nat → List Int → List Int → List Int → Int → Int → Option (List Int)
  | 0, _, _, _, _, _ => none
  | k + 1, x0, x1, x5, x6, x7 => if x7 < (x0.length : Int) then (pelorusref01_Add.j1 k x0 x1 x5 x6 x7 true) else (if x7 < (x1.length : Int) then (pelorusref01_Add.j1 k x0 x1 x5 x6 x7 true) else (pelorusref01_Add.j1 k x0 x1 x5 x6 x7 (decide (x6 > 0))))
def pelorusref01_Add.j1 : Nat → List Int → List Int → List Int → Int → Int → Bool → Option (List Int)
  | 0, _, _, _, _, _, _ => none
  | k + 1, x0, x1, x5, x6, x7, x22 => if x22 = true then ((pelorusref01_at.f x0 x7).bind fun t293 => ((pelorusref01_at.f x1 x7).bind fun t294 => (if x5.length < 35184372088832 then (pelorusref01_Add.l0 k x0 x1 (x5 ++ [(Int.tmod (IntKind.u64.wrap ((IntKind.u64.wrap (t293 + t294)) + x6)) 4294967296) % 4294967296]) (IntKind.u64.wrap (Int.tdiv (IntKind.u64.wrap ((IntKind.u64.wrap (t293 + t294)) + x6)) 4294967296)) (wrap64 (x7 + 1))) else (none)))) else ((pelorusref01_Trim.f k x5).bind fun t298 => (some t298))
end
def pelorusref01_Add.f (k : Nat) (l0 : List Int) (l1 : List Int) : Option (List Int) := pelorusref01_Add.l0 k l0 l1 ([] : List Int) 0 0

/-! ### pelorusref01_bit: function 83 -/
def pelorusref01_bit.f (l0 : List Int) (a1 : Int) : Option (Bool) := (pelorusref01_at.f l0 (wrap64 (Int.tdiv a1 32))).bind fun t301 => (if 0 ≤ (IntKind.u64.wrap (Int.tmod a1 32)) then (some ((Int.tmod (shr .u64 t301 (IntKind.u64.wrap (Int.tmod a1 32))) 2) == 1)) else (none))

/-! ### pelorusref01_Cmp: function 91 -/
def pelorusref01_Cmp.l0 : Nat → List Int → List Int → Int → Option (Int)
  | 0, _, _, _ => none
  | k + 1, x5, x6, x7 => if x7 ≥ 0 then (if 0 ≤ x7 then (if x7 < (x5.length : Int) then (if x7 < (x6.length : Int) then (if (rd x5 x7) < (rd x6 x7) then (some (-1)) else (if (rd x5 x7) > (rd x6 x7) then (some 1) else (pelorusref01_Cmp.l0 k x5 x6 (wrap64 (x7 - 1))))) else (none)) else (none)) else (none)) else (some 0)
def pelorusref01_Cmp.f (k : Nat) (l0 : List Int) (l1 : List Int) : Option (Int) := (pelorusref01_Trim.f k l0).bind fun t302 => ((pelorusref01_Trim.f k l1).bind fun t305 => (if (t302.length : Int) = (t305.length : Int) then (pelorusref01_Cmp.l0 k t302 t305 (wrap64 ((t302.length : Int) - 1))) else (if (t302.length : Int) < (t305.length : Int) then (some (-1)) else (some 1))))

/-! ### pelorusref01_Sub: function 84 -/
def pelorusref01_Sub.l0 : Nat → List Int → List Int → List Int → Int → Int → Option (List Int × Bool)
  | 0, _, _, _, _, _ => none
  | k + 1, x0, x1, x6, x7, x8 => if x8 < (x0.length : Int) then ((pelorusref01_at.f x0 x8).bind fun t313 => ((pelorusref01_at.f x1 x8).bind fun t314 => (if x6.length < 35184372088832 then (pelorusref01_Sub.l0 k x0 x1 (x6 ++ [(Int.tmod (IntKind.u64.wrap ((IntKind.u64.wrap ((IntKind.u64.wrap (4294967296 + t313)) - t314)) - x7)) 4294967296) % 4294967296]) (IntKind.u64.wrap (1 - (IntKind.u64.wrap (Int.tdiv (IntKind.u64.wrap ((IntKind.u64.wrap ((IntKind.u64.wrap (4294967296 + t313)) - t314)) - x7)) 4294967296)))) (wrap64 (x8 + 1))) else (none)))) else ((pelorusref01_Trim.f k x6).bind fun t318 => (some (t318, true)))
def pelorusref01_Sub.f (k : Nat) (l0 : List Int) (l1 : List Int) : Option (List Int × Bool) := (pelorusref01_Cmp.f k l0 l1).bind fun t312 => (if t312 < 0 then (some (([] : List Int), false)) else (pelorusref01_Sub.l0 k l0 l1 ([] : List Int) 0 0))

/-! ### pelorusref01_set: function 85 -/
def pelorusref01_set.l0 : Nat → Int → List Int → Option (List Int)
  | 0, _, _ => none
  | k + 1, x1, x5 => if (x5.length : Int) ≤ (wrap64 (Int.tdiv x1 32)) then (if x5.length < 35184372088832 then (pelorusref01_set.l0 k x1 (x5 ++ [0])) else (none)) else (if 0 ≤ (wrap64 (Int.tdiv x1 32)) then (if (wrap64 (Int.tdiv x1 32)) < (x5.length : Int) then (if 0 ≤ (IntKind.u64.wrap (Int.tmod x1 32)) then (some (x5.set ((wrap64 (Int.tdiv x1 32)) : Int).toNat (((rd x5 (wrap64 (Int.tdiv x1 32))) + (shl .u32 1 (IntKind.u64.wrap (Int.tmod x1 32)))) % 4294967296))) else (none)) else (none)) else (none))
def pelorusref01_set.f (k : Nat) (l0 : List Int) (a1 : Int) : Option (List Int) := if ([] : List Int).length + l0.length < 35184372088832 then (pelorusref01_set.l0 k a1 (([] : List Int) ++ l0)) else (none)

/-! ### pelorusref01_Div: function 72 -/
mutual
def pelorusref01_Div.l0 : Nat → List Int → List Int → List Int → List Int → Int → Option (List Int × List Int × Bool)
  | 0, _, _, _, _, _ => none
  | k + 1, x0, x7, x8, x9, x10 => if x10 ≥ 0 then ((pelorusref01_Add.f k x9 x9).bind fun t339 => ((pelorusref01_bit.f x0 x10).bind fun t342 => (if t342 = true then ((pelorusref01_Add.f k t339 (([1] : List Int))).bind fun t346 => (pelorusref01_Div.j1 k x0 x7 x8 t346 x10)) else (pelorusref01_Div.j1 k x0 x7 x8 t339 x10)))) else ((pelorusref01_Trim.f k x8).bind fun t333 => ((pelorusref01_Trim.f k x9).bind fun t336 => (some (t333, t336, true))))
def pelorusref01_Div.j1 : Nat → List Int → List Int → List Int → List Int → Int → Option (List Int × List Int × Bool)
  | 0, _, _, _, _, _ => none
  | k + 1, x0, x7, x8, x9, x10 => (pelorusref01_Sub.f k x9 x7).bind fun bt349 => (if bt349.2 = true then ((pelorusref01_set.f k x8 x10).bind fun t353 => (pelorusref01_Div.l0 k x0 x7 t353 bt349.1 (wrap64 (x10 - 1)))) else (pelorusref01_Div.l0 k x0 x7 x8 x9 (wrap64 (x10 - 1))))
end
def pelorusref01_Div.f (k : Nat) (l0 : List Int) (l1 : List Int) : Option (List Int × List Int × Bool) := (pelorusref01_Trim.f k l1).bind fun t329 => (if (t329.length : Int) = 0 then (some (([] : List Int), ([] : List Int), false)) else ((pelorusref01_Len.f k l0).bind fun t332 => (pelorusref01_Div.l0 k l0 t329 ([] : List Int) ([] : List Int) (wrap64 (t332 - 1)))))

/-! ### pelorusref01_Shr: function 49 -/
def pelorusref01_Shr.f (k : Nat) (l0 : List Int) (a1 : Int) : Option (List Int) := if a1 < 1 then ((pelorusref01_Trim.f k l0).bind fun t356 => (some t356)) else (if a1 ≥ (wrap64 (32 * (l0.length : Int))) then (some ([] : List Int)) else (if 0 ≤ (wrap64 (Int.tdiv a1 32)) then (if (wrap64 (Int.tdiv a1 32)) ≤ (l0.length : Int) then ((pelorusref01_Trim.f k (l0.drop ((wrap64 (Int.tdiv a1 32)) : Int).toNat)).bind fun t360 => (if 0 ≤ (IntKind.u64.wrap (Int.tmod a1 32)) then ((pelorusref01_Div.f k t360 (([shl .u32 1 (IntKind.u64.wrap (Int.tmod a1 32))] : List Int))).bind fun bt366 => (some bt366.1)) else (none))) else (none)) else (none)))

/-! ### pelorusref02_Make: function 60 -/
def pelorusref02_Make.f (k : Nat) (a0 : Bool) (l1 : List Int) : Option (Bool × List Int) := (pelorusref01_Trim.f k l1).bind fun t374 => (if a0 = true then (some (decide ((t374.length : Int) > 0), t374)) else (some (false, t374)))

/-! ### pelorusref03_even: function 69 -/
def pelorusref03_even.f (l0 : List Int) : Option (Bool) := if (l0.length : Int) > 0 then (if 0 < (l0.length : Int) then (some ((Int.tmod (rd l0 0) 2) == 0)) else (none)) else (some false)

/-! ### pelorusref03_Make: function 44 -/
mutual
def pelorusref03_Make.j0 : Nat → Int → Bool → Bool → List Int → Option (Bool × List Int × Int)
  | 0, _, _, _, _ => none
  | k + 1, x1, x24, x385000, x385001 => if x24 = true then (some (false, ([] : List Int), 0)) else (pelorusref03_Make.l0 k x1 0 x385000 x385001)
def pelorusref03_Make.l0 : Nat → Int → Int → Bool → List Int → Option (Bool × List Int × Int)
  | 0, _, _, _, _ => none
  | k + 1, x1, x6, x385000, x385001 => if x6 < 4000000 then ((pelorusref03_even.f x385001).bind fun t385 => (if t385 = true then ((pelorusref01_Shr.f k x385001 1).bind fun t386 => (pelorusref03_Make.l0 k (wrap64 (x1 + 1)) (wrap64 (x6 + 1)) x385000 t386)) else (if x1 > 4194304 then (some (false, ([] : List Int), 0)) else (some (x385000, x385001, x1))))) else (if x1 > 4194304 then (some (false, ([] : List Int), 0)) else (some (x385000, x385001, x1)))
end
def pelorusref03_Make.f (k : Nat) (a0_0 : Bool) (l0_1 : List Int) (a1 : Int) : Option (Bool × List Int × Int) := (pelorusref02_Make.f k a0_0 l0_1).bind fun bt380 => (if (bt380.2.length : Int) = 0 then (pelorusref03_Make.j0 k a1 true bt380.1 bt380.2) else (if a1 < (-4194304) then (pelorusref03_Make.j0 k a1 true bt380.1 bt380.2) else (pelorusref03_Make.j0 k a1 (decide (a1 > 4194304)) bt380.1 bt380.2)))

/-! ### pelorusref05_Infinite: function 34 -/
def pelorusref05_Infinite.f (a0 : Bool) : Option (Int × Bool × Int × Int) := some (2, a0, 0, 0)

/-! ### pelorusref05_finite: function 46 -/
def pelorusref05_finite.f (a0 : Bool) (a1 : Int) (a2 : Int) (a3 : Bool) : Option (Int × Bool × Int × Int) := if a2 > 1048576 then (if a3 = true then ((pelorusref05_Infinite.f a0).bind fun bt391 => (some (bt391.1, bt391.2.1, bt391.2.2.1, bt391.2.2.2))) else (some (1, a0, 18446744073709551615, 1048576))) else (if a2 < (-1048576) then (if a3 = true then (some (1, a0, 9223372036854775808, (-1048576))) else (some (0, false, 0, 0))) else (some (1, a0, a1, a2)))

/-! ### pelorusref05_word: function 47 -/
def pelorusref05_word.l0 : Nat → List Int → Int → Int → Option (Int)
  | 0, _, _, _ => none
  | k + 1, x0, x3, x4 => if x4 ≥ 0 then (if 0 ≤ x4 then (if x4 < (x0.length : Int) then (pelorusref05_word.l0 k x0 (IntKind.u64.wrap ((IntKind.u64.wrap (x3 * 4294967296)) + (IntKind.u64.wrap (rd x0 x4)))) (wrap64 (x4 - 1))) else (none)) else (none)) else (some x3)
def pelorusref05_word.f (k : Nat) (l0 : List Int) : Option (Int) := pelorusref05_word.l0 k l0 0 (wrap64 ((l0.length : Int) - 1))

/-! ### pelorusref01_Mul: function 71 -/
mutual
def pelorusref01_Mul.l0 : Nat → List Int → List Int → List Int → Int → Option (List Int)
  | 0, _, _, _, _ => none
  | k + 1, x0, x1, x5, x6 => if x6 ≥ 0 then ((some (([0] : List Int) : List Int)).bind fun y399 => (if y399.length + x5.length < 35184372088832 then (pelorusref01_Mul.l1 k x0 x1 (y399 ++ x5) x6 ([] : List Int) 0 0) else (none))) else ((pelorusref01_Trim.f k x5).bind fun t396 => (some t396))
def pelorusref01_Mul.l1 : Nat → List Int → List Int → List Int → Int → List Int → Int → Int → Option (List Int)
  | 0, _, _, _, _, _, _, _ => none
  | k + 1, x0, x1, x5, x6, x8, x9, x10 => if x10 < (x0.length : Int) then (if 0 ≤ x10 then (if 0 ≤ x6 then (if x6 < (x1.length : Int) then (if x8.length < 35184372088832 then (pelorusref01_Mul.l1 k x0 x1 x5 x6 (x8 ++ [(Int.tmod (IntKind.u64.wrap ((IntKind.u64.wrap ((IntKind.u64.wrap (rd x0 x10)) * (IntKind.u64.wrap (rd x1 x6)))) + x9)) 4294967296) % 4294967296]) (IntKind.u64.wrap (Int.tdiv (IntKind.u64.wrap ((IntKind.u64.wrap ((IntKind.u64.wrap (rd x0 x10)) * (IntKind.u64.wrap (rd x1 x6)))) + x9)) 4294967296)) (wrap64 (x10 + 1))) else (none)) else (none)) else (none)) else (none)) else (if x8.length < 35184372088832 then ((pelorusref01_Add.f k x5 (x8 ++ [(x9) % 4294967296])).bind fun t413 => (pelorusref01_Mul.l0 k x0 x1 t413 (wrap64 (x6 - 1)))) else (none))
end
def pelorusref01_Mul.f (k : Nat) (l0 : List Int) (l1 : List Int) : Option (List Int) := pelorusref01_Mul.l0 k l0 l1 ([] : List Int) (wrap64 ((l1.length : Int) - 1))

/-! ### pelorusref01_Shl: function 48 -/
def pelorusref01_Shl.f (k : Nat) (l0 : List Int) (a1 : Int) : Option (List Int) := if a1 < 1 then ((pelorusref01_Trim.f k l0).bind fun t416 => (some t416)) else (if a1 > 16777216 then (some ([] : List Int)) else (if 0 ≤ (wrap64 (Int.tdiv a1 32)) then (if (wrap64 (Int.tdiv a1 32) : Int).toNat ≤ 70368744177664 then ((some (List.replicate (wrap64 (Int.tdiv a1 32) : Int).toNat 0 : List Int)).bind fun y419 => (if y419.length + l0.length < 35184372088832 then (if 0 ≤ (IntKind.u64.wrap (Int.tmod a1 32)) then ((pelorusref01_Mul.f k (y419 ++ l0) (([shl .u32 1 (IntKind.u64.wrap (Int.tmod a1 32))] : List Int))).bind fun t428 => (some t428)) else (none)) else (none))) else (none)) else (none)))

/-! ### pelorusref05_Round: function 13 -/
def pelorusref05_Round.f (k : Nat) (a0_0 : Bool) (l0_1 : List Int) (a0_2 : Int) (a1 : Bool) : Option (Int × Bool × Int × Int) := (pelorusref03_Make.f k a0_0 l0_1 a0_2).bind fun bt433 => (if (bt433.2.1.length : Int) = 0 then (some (0, false, 0, 0)) else ((pelorusref01_Len.f k bt433.2.1).bind fun t439 => (if t439 ≤ 64 then ((pelorusref01_Shl.f k bt433.2.1 (wrap64 (64 - t439))).bind fun t440 => ((pelorusref05_word.f k t440).bind fun t443 => ((pelorusref05_finite.f bt433.1 t443 (wrap64 ((wrap64 (bt433.2.2 + t439)) - 64)) (a1 != bt433.1)).bind fun bt444 => (some (bt444.1, bt444.2.1, bt444.2.2.1, bt444.2.2.2))))) else ((pelorusref01_Shr.f k bt433.2.1 (wrap64 (t439 - 64))).bind fun t448 => (if (a1 != bt433.1) = true then ((pelorusref01_Add.f k t448 (([1] : List Int))).bind fun t454 => ((pelorusref01_Len.f k t454).bind fun t457 => (if t457 > 64 then ((pelorusref01_Shr.f k t454 1).bind fun t458 => ((pelorusref05_word.f k t458).bind fun t461 => ((pelorusref05_finite.f bt433.1 t461 (wrap64 ((wrap64 ((wrap64 (bt433.2.2 + t439)) - 64)) + 1)) (a1 != bt433.1)).bind fun bt462 => (some (bt462.1, bt462.2.1, bt462.2.2.1, bt462.2.2.2))))) else ((pelorusref05_word.f k t454).bind fun t466 => ((pelorusref05_finite.f bt433.1 t466 (wrap64 ((wrap64 (bt433.2.2 + t439)) - 64)) (a1 != bt433.1)).bind fun bt467 => (some (bt467.1, bt467.2.1, bt467.2.2.1, bt467.2.2.2))))))) else ((pelorusref05_word.f k t448).bind fun t471 => ((pelorusref05_finite.f bt433.1 t471 (wrap64 ((wrap64 (bt433.2.2 + t439)) - 64)) (a1 != bt433.1)).bind fun bt472 => (some (bt472.1, bt472.2.1, bt472.2.2.1, bt472.2.2.2)))))))))
def pelorusref05_Round.T7 : Bool × List (List Nat × List Nat) := (true, [([], []), ([0], [0]), ([1], [1]), ([], []), ([3], [3]), ([4], [4]), ([], []), ([6], [6]), ([5, 7], [5, 7]), ([8, 8], [8]), ([], []), ([10], [10]), ([], []), ([11, 12], [11, 12]), ([13], [13]), ([], []), ([2, 9, 14, 15, 9], [2, 9, 14, 15]), ([16, 16, 0, 1, 2, 3, 4, 5, 6, 7, 8, 9, 10, 11, 12, 13, 14, 15, 16], [16])])
def pelorusref05_Round.B7 : List Nat := [0, 1, 3, 0, 8, 24, 0, 64, 248, 504, 0, 1024, 0, 7168, 15360, 0, 65535, 131071]

/-! ### num_May: function 14 -/
def num_May.f (a0_0 : Int) (a0_1 : Bool) (a0_2 : Int) (a0_3 : Int) : Option (Bool) := if a0_0 = 0 then (some (a0_0 == 0 && (!a0_1 && (a0_2 == 0 && (a0_3 == 0))))) else (if a0_0 = 1 then (if a0_2 ≥ 9223372036854775808 then (if a0_3 ≥ (-1048576) then (some (decide (a0_3 ≤ 1048576))) else (some false)) else (some false)) else (if a0_0 = 2 then (if a0_2 = 0 then (some (a0_3 == 0)) else (some false)) else (some false)))

/-! ### peloruslaw05_NumRounds: function 3 -/
def peloruslaw05_NumRounds.j0 : Nat → Bool → Bool → Bool → Bool → List Int → Int → Option (Bool)
  | 0, _, _, _, _, _, _ => none
  | k + 1, x1, x5, x16, x478000, x478001, x478002 => if x16 = true then (some x5) else ((num_Round.f k x478000 x478001 x478002 x1).bind fun bt479 => ((pelorusref05_Round.f k x478000 x478001 x478002 x1).bind fun bt484 => (if (bt479.1 == bt484.1 && (bt479.2.1 == bt484.2.1 && (bt479.2.2.1 == bt484.2.2.1 && (bt479.2.2.2 == bt484.2.2.2)))) = true then ((num_May.f bt479.1 bt479.2.1 bt479.2.2.1 bt479.2.2.2).bind fun t488 => (some t488)) else (some false))))
def peloruslaw05_NumRounds.f (k : Nat) (a0_0 : Bool) (l0_1 : List Int) (a0_2 : Int) (a1 : Bool) : Option (Bool) := (peloruslaw05_awake.f k).bind fun t478 => (if t478 = true then (peloruslaw05_NumRounds.j0 k a1 t478 (decide ((l0_1.length : Int) > 20)) a0_0 l0_1 a0_2) else (peloruslaw05_NumRounds.j0 k a1 t478 true a0_0 l0_1 a0_2))
def peloruslaw05_NumRounds.T5 : Bool × List (List Nat × List Nat) := (true, [([], []), ([], []), ([], []), ([1, 2], [1, 2]), ([0, 3], [0, 3]), ([4, 3], [4]), ([5], [5]), ([6, 5, 5], [5, 6]), ([5, 7], [5, 7]), ([8, 7, 0, 1, 2, 3, 4, 5, 6, 7, 8], [8])])
def peloruslaw05_NumRounds.B5 : List Nat := [0, 0, 0, 6, 15, 31, 63, 127, 255, 511]
def peloruslaw05_NumRounds.Pure : Prop := ∀ (x0 : S26) (a1 : Bool), ok26 x0 → ∃ k, peloruslaw05_NumRounds.f k x0.f0.f0 x0.f0.f1 x0.f1 a1 = some true ∧ ∀ r, peloruslaw05_awake.f k = some r → r = true

/-! ### num_fair: function 52 -/
def num_fair.f (a0_0 : Int) (a0_1 : Bool) (a0_2 : Int) (a0_3 : Int) : Option (Int × Bool × Int × Int) := (num_May.f a0_0 a0_1 a0_2 a0_3).bind fun t491 => (if t491 = true then (some (a0_0, a0_1, a0_2, a0_3)) else (some (0, false, 0, 0)))

/-! ### num_Neg: function 16 -/
def num_Neg.f (a0_0 : Int) (a0_1 : Bool) (a0_2 : Int) (a0_3 : Int) : Option (Int × Bool × Int × Int) := (num_fair.f a0_0 a0_1 a0_2 a0_3).bind fun bt494 => (if bt494.1 = 0 then (some (bt494.1, false, bt494.2.2.1, bt494.2.2.2)) else (some (bt494.1, !bt494.2.1, bt494.2.2.1, bt494.2.2.2)))

/-! ### num_Sign: function 18 -/
def num_Sign.f (a0_0 : Int) (a0_1 : Bool) (a0_2 : Int) (a0_3 : Int) : Option (Int) := (num_fair.f a0_0 a0_1 a0_2 a0_3).bind fun bt499 => (if bt499.1 = 0 then (some 0) else (if bt499.2.1 = true then (some (-1)) else (some 1)))

/-! ### num_farther: function 53 -/
def num_farther.f (a0_0 : Int) (a0_1 : Bool) (a0_2 : Int) (a0_3 : Int) (a1_0 : Int) (a1_1 : Bool) (a1_2 : Int) (a1_3 : Int) : Option (Bool) := if a0_0 = a1_0 then (if a0_3 = a1_3 then (some (decide (a0_2 > a1_2))) else (some (decide (a0_3 > a1_3)))) else (some (decide (a0_0 > a1_0)))

/-! ### num_Cmp: function 17 -/
def num_Cmp.f (a0_0 : Int) (a0_1 : Bool) (a0_2 : Int) (a0_3 : Int) (a1_0 : Int) (a1_1 : Bool) (a1_2 : Int) (a1_3 : Int) : Option (Int) := (num_fair.f a0_0 a0_1 a0_2 a0_3).bind fun bt507 => ((num_fair.f a1_0 a1_1 a1_2 a1_3).bind fun bt511 => ((num_Sign.f bt507.1 bt507.2.1 bt507.2.2.1 bt507.2.2.2).bind fun t515 => ((num_Sign.f bt511.1 bt511.2.1 bt511.2.2.1 bt511.2.2.2).bind fun t516 => (if t515 < t516 then (some (-1)) else (if t515 > t516 then (some 1) else ((num_farther.f bt507.1 bt507.2.1 bt507.2.2.1 bt507.2.2.2 bt511.1 bt511.2.1 bt511.2.2.1 bt511.2.2.2).bind fun t517 => (if t517 = true then (some t515) else ((num_farther.f bt511.1 bt511.2.1 bt511.2.2.1 bt511.2.2.2 bt507.1 bt507.2.1 bt507.2.2.1 bt507.2.2.2).bind fun t518 => (if t518 = true then (some (wrap64 (-t515))) else (some 0))))))))))

/-! ### peloruslaw05_NumWholes: function 4 -/
mutual
def peloruslaw05_NumWholes.j0 : Nat → Int → Int → Bool → Int → Int → Bool → Int → Int → Int → Bool → Int → Int → Option (Bool)
  | 0, _, _, _, _, _, _, _, _, _, _, _, _ => none
  | k + 1, x0, x1, x5, x8, x525000, x525001, x525002, x525003, x530000, x530001, x530002, x530003 => if x0 > x1 then (peloruslaw05_NumWholes.j1 k x0 x1 x5 1 x525000 x525001 x525002 x525003 x530000 x530001 x530002 x530003) else (peloruslaw05_NumWholes.j1 k x0 x1 x5 x8 x525000 x525001 x525002 x525003 x530000 x530001 x530002 x530003)
def peloruslaw05_NumWholes.j1 : Nat → Int → Int → Bool → Int → Int → Bool → Int → Int → Int → Bool → Int → Int → Option (Bool)
  | 0, _, _, _, _, _, _, _, _, _, _, _, _ => none
  | k + 1, x0, x1, x5, x8, x525000, x525001, x525002, x525003, x530000, x530001, x530002, x530003 => if x0 > (-9223372036854775808) then ((num_Neg.f x525000 x525001 x525002 x525003).bind fun bt530 => ((num_Of.f k (wrap64 (-x0))).bind fun bt534 => (if x5 = true then ((num_Cmp.f x525000 x525001 x525002 x525003 x530000 x530001 x530002 x530003).bind fun t538 => (if t538 = x8 then ((num_May.f x525000 x525001 x525002 x525003).bind fun t539 => (if t539 = true then (if ((!(bt530.1 == bt534.1) || (!(bt530.2.1 == bt534.2.1) || (!(bt530.2.2.1 == bt534.2.2.1) || (!(bt530.2.2.2 == bt534.2.2.2))))) = true) then (some false) else ((num_Sign.f x525000 x525001 x525002 x525003).bind fun t540 => (if ((t540 == 0) == (x0 == 0)) = true then (if ((x525000 == x530000 && (x525001 == x530001 && (x525002 == x530002 && (x525003 == x530003)))) == (x0 == x1)) = true then (some (x525000 != 2)) else (some false)) else (some false)))) else (some false))) else (some false))) else (some false)))) else (if x5 = true then ((num_Cmp.f x525000 x525001 x525002 x525003 x530000 x530001 x530002 x530003).bind fun t541 => (if t541 = x8 then ((num_May.f x525000 x525001 x525002 x525003).bind fun t542 => (if t542 = true then ((num_Sign.f x525000 x525001 x525002 x525003).bind fun t543 => (if ((t543 == 0) == (x0 == 0)) = true then (if ((x525000 == x530000 && (x525001 == x530001 && (x525002 == x530002 && (x525003 == x530003)))) == (x0 == x1)) = true then (some (x525000 != 2)) else (some false)) else (some false))) else (some false))) else (some false))) else (some false))
end
def peloruslaw05_NumWholes.f (k : Nat) (a0 : Int) (a1 : Int) : Option (Bool) := (peloruslaw05_awake.f k).bind fun t519 => ((num_Of.f k a0).bind fun bt520 => ((num_Of.f k a1).bind fun bt525 => (if a0 < a1 then (peloruslaw05_NumWholes.j0 k a0 a1 t519 (-1) bt520.1 bt520.2.1 bt520.2.2.1 bt520.2.2.2 bt525.1 bt525.2.1 bt525.2.2.1 bt525.2.2.2) else (peloruslaw05_NumWholes.j0 k a0 a1 t519 0 bt520.1 bt520.2.1 bt520.2.2.1 bt520.2.2.2 bt525.1 bt525.2.1 bt525.2.2.1 bt525.2.2.2))))
def peloruslaw05_NumWholes.Pure : Prop := ∀ (a0 : Int) (a1 : Int), (Lit.int .i64 a0).wf = true → (Lit.int .i64 a1).wf = true → ∃ k, peloruslaw05_NumWholes.f k a0 a1 = some true ∧ ∀ r, peloruslaw05_awake.f k = some r → r = true

/-! ### num_Least: function 19 -/
def num_Least.l0 : Nat → List (S30) → Int → Int → Int → Bool → Int → Int → Option (Int × Bool × Int × Int)
  | 0, _, _, _, _, _, _, _ => none
  | k + 1, x7, x8, x9, x550000, x550001, x550002, x550003 => if x9 < x8 then (if 0 ≤ x9 then (if x9 < (x7.length : Int) then ((num_Cmp.f ((rd_T30 x7 x9).f0) ((rd_T30 x7 x9).f1) ((rd_T30 x7 x9).f2) ((rd_T30 x7 x9).f3) x550000 x550001 x550002 x550003).bind fun t552 => (if t552 < 0 then ((num_fair.f ((rd_T30 x7 x9).f0) ((rd_T30 x7 x9).f1) ((rd_T30 x7 x9).f2) ((rd_T30 x7 x9).f3)).bind fun bt553 => (num_Least.l0 k x7 x8 (wrap64 (x9 + 1)) bt553.1 bt553.2.1 bt553.2.2.1 bt553.2.2.2)) else (num_Least.l0 k x7 x8 (wrap64 (x9 + 1)) x550000 x550001 x550002 x550003))) else (none)) else (none)) else (some (x550000, x550001, x550002, x550003))
def num_Least.f (k : Nat) (l0 : List (S30)) : Option (Int × Bool × Int × Int) := (num_Infinite.f false).bind fun bt545 => (num_Least.l0 k l0 (l0.length : Int) 0 bt545.1 bt545.2.1 bt545.2.2.1 bt545.2.2.2)

/-! ### pelorusref05_May: function 28 -/
def pelorusref05_May.f (a0_0 : Int) (a0_1 : Bool) (a0_2 : Int) (a0_3 : Int) : Option (Bool) := if a0_0 = 1 then (if a0_2 ≥ 9223372036854775808 then (if a0_3 ≥ (-1048576) then (some (decide (a0_3 ≤ 1048576))) else (some false)) else (some false)) else (if a0_0 = 2 then (if a0_2 = 0 then (some (a0_3 == 0)) else (some false)) else (if a0_0 = 0 then (if a0_1 = true then (some false) else (if a0_2 = 0 then (some (a0_3 == 0)) else (some false))) else (some false)))

/-! ### pelorusref05_fair: function 54 -/
def pelorusref05_fair.f (a0_0 : Int) (a0_1 : Bool) (a0_2 : Int) (a0_3 : Int) : Option (Int × Bool × Int × Int) := (pelorusref05_May.f a0_0 a0_1 a0_2 a0_3).bind fun t560 => (if t560 = true then (some (a0_0, a0_1, a0_2, a0_3)) else (some (0, false, 0, 0)))

/-! ### pelorusref05_Sign: function 29 -/
def pelorusref05_Sign.f (a0_0 : Int) (a0_1 : Bool) (a0_2 : Int) (a0_3 : Int) : Option (Int) := (pelorusref05_fair.f a0_0 a0_1 a0_2 a0_3).bind fun bt562 => (if bt562.1 = 0 then (some 0) else (if bt562.2.1 = true then (some (-1)) else (some 1)))

/-! ### pelorusref05_Cmp: function 32 -/
def pelorusref05_Cmp.j0 : Nat → Int → Bool → Int → Bool → Int → Int → Int → Bool → Int → Int → Option (Int)
  | 0, _, _, _, _, _, _, _, _, _, _ => none
  | k + 1, x7, x30, x574000, x574001, x574002, x574003, x579000, x579001, x579002, x579003 => if x30 = true then (some 0) else (if x574000 = 2 then (some x7) else (if x579000 = 2 then (some (wrap64 (-x7))) else (if x574003 > x579003 then (some x7) else (if x574003 = x579003 then (if x574002 > x579002 then (some x7) else (some (wrap64 (-x7)))) else (some (wrap64 (-x7)))))))
def pelorusref05_Cmp.f (k : Nat) (a0_0 : Int) (a0_1 : Bool) (a0_2 : Int) (a0_3 : Int) (a1_0 : Int) (a1_1 : Bool) (a1_2 : Int) (a1_3 : Int) : Option (Int) := (pelorusref05_fair.f a0_0 a0_1 a0_2 a0_3).bind fun bt569 => ((pelorusref05_fair.f a1_0 a1_1 a1_2 a1_3).bind fun bt574 => ((pelorusref05_Sign.f bt569.1 bt569.2.1 bt569.2.2.1 bt569.2.2.2).bind fun t579 => ((pelorusref05_Sign.f bt574.1 bt574.2.1 bt574.2.2.1 bt574.2.2.2).bind fun t580 => (if t579 = t580 then (if t579 = 0 then (pelorusref05_Cmp.j0 k t579 true bt569.1 bt569.2.1 bt569.2.2.1 bt569.2.2.2 bt574.1 bt574.2.1 bt574.2.2.1 bt574.2.2.2) else (pelorusref05_Cmp.j0 k t579 (bt569.1 == bt574.1 && (bt569.2.1 == bt574.2.1 && (bt569.2.2.1 == bt574.2.2.1 && (bt569.2.2.2 == bt574.2.2.2)))) bt569.1 bt569.2.1 bt569.2.2.1 bt569.2.2.2 bt574.1 bt574.2.1 bt574.2.2.1 bt574.2.2.2)) else (if t579 < t580 then (some (-1)) else (some 1))))))

/-! ### pelorusref05_Least: function 20 -/
def pelorusref05_Least.l0 : Nat → List (S30) → Int → Int → Bool → Int → Int → Option (Int × Bool × Int × Int)
  | 0, _, _, _, _, _, _ => none
  | k + 1, x0, x4, x587000, x587001, x587002, x587003 => if x4 < (x0.length : Int) then (if 0 ≤ x4 then ((pelorusref05_Cmp.f k ((rd_T30 x0 x4).f0) ((rd_T30 x0 x4).f1) ((rd_T30 x0 x4).f2) ((rd_T30 x0 x4).f3) x587000 x587001 x587002 x587003).bind fun t588 => (if t588 < 0 then ((pelorusref05_fair.f ((rd_T30 x0 x4).f0) ((rd_T30 x0 x4).f1) ((rd_T30 x0 x4).f2) ((rd_T30 x0 x4).f3)).bind fun bt590 => (pelorusref05_Least.l0 k x0 (wrap64 (x4 + 1)) bt590.1 bt590.2.1 bt590.2.2.1 bt590.2.2.2)) else (pelorusref05_Least.l0 k x0 (wrap64 (x4 + 1)) x587000 x587001 x587002 x587003))) else (none)) else (some (x587000, x587001, x587002, x587003))
def pelorusref05_Least.f (k : Nat) (l0 : List (S30)) : Option (Int × Bool × Int × Int) := (pelorusref05_Infinite.f false).bind fun bt582 => (pelorusref05_Least.l0 k l0 0 bt582.1 bt582.2.1 bt582.2.2.1 bt582.2.2.2)

/-! ### num_Most: function 21 -/
def num_Most.l0 : Nat → List (S30) → Int → Int → Int → Bool → Int → Int → Option (Int × Bool × Int × Int)
  | 0, _, _, _, _, _, _, _ => none
  | k + 1, x7, x8, x9, x600000, x600001, x600002, x600003 => if x9 < x8 then (if 0 ≤ x9 then (if x9 < (x7.length : Int) then ((num_Cmp.f ((rd_T30 x7 x9).f0) ((rd_T30 x7 x9).f1) ((rd_T30 x7 x9).f2) ((rd_T30 x7 x9).f3) x600000 x600001 x600002 x600003).bind fun t602 => (if t602 > 0 then ((num_fair.f ((rd_T30 x7 x9).f0) ((rd_T30 x7 x9).f1) ((rd_T30 x7 x9).f2) ((rd_T30 x7 x9).f3)).bind fun bt603 => (num_Most.l0 k x7 x8 (wrap64 (x9 + 1)) bt603.1 bt603.2.1 bt603.2.2.1 bt603.2.2.2)) else (num_Most.l0 k x7 x8 (wrap64 (x9 + 1)) x600000 x600001 x600002 x600003))) else (none)) else (none)) else (some (x600000, x600001, x600002, x600003))
def num_Most.f (k : Nat) (l0 : List (S30)) : Option (Int × Bool × Int × Int) := (num_Infinite.f true).bind fun bt595 => (num_Most.l0 k l0 (l0.length : Int) 0 bt595.1 bt595.2.1 bt595.2.2.1 bt595.2.2.2)

/-! ### pelorusref05_Most: function 22 -/
def pelorusref05_Most.l0 : Nat → List (S30) → Int → Int → Bool → Int → Int → Option (Int × Bool × Int × Int)
  | 0, _, _, _, _, _, _ => none
  | k + 1, x0, x4, x613000, x613001, x613002, x613003 => if x4 < (x0.length : Int) then (if 0 ≤ x4 then ((pelorusref05_Cmp.f k ((rd_T30 x0 x4).f0) ((rd_T30 x0 x4).f1) ((rd_T30 x0 x4).f2) ((rd_T30 x0 x4).f3) x613000 x613001 x613002 x613003).bind fun t614 => (if t614 > 0 then ((pelorusref05_fair.f ((rd_T30 x0 x4).f0) ((rd_T30 x0 x4).f1) ((rd_T30 x0 x4).f2) ((rd_T30 x0 x4).f3)).bind fun bt616 => (pelorusref05_Most.l0 k x0 (wrap64 (x4 + 1)) bt616.1 bt616.2.1 bt616.2.2.1 bt616.2.2.2)) else (pelorusref05_Most.l0 k x0 (wrap64 (x4 + 1)) x613000 x613001 x613002 x613003))) else (none)) else (some (x613000, x613001, x613002, x613003))
def pelorusref05_Most.f (k : Nat) (l0 : List (S30)) : Option (Int × Bool × Int × Int) := (pelorusref05_Infinite.f true).bind fun bt608 => (pelorusref05_Most.l0 k l0 0 bt608.1 bt608.2.1 bt608.2.2.1 bt608.2.2.2)

/-! ### pelorusref02_From: function 55 -/
def pelorusref02_From.f (k : Nat) (a0 : Int) : Option (Bool × List Int) := if a0 < 0 then ((pelorusref02_Make.f k (decide (a0 < 0)) (([(Int.tmod (IntKind.u64.wrap ((IntKind.u64.wrap (wrap64 (-(wrap64 (a0 + 1))))) + 1)) 4294967296) % 4294967296, (IntKind.u64.wrap (Int.tdiv (IntKind.u64.wrap ((IntKind.u64.wrap (wrap64 (-(wrap64 (a0 + 1))))) + 1)) 4294967296)) % 4294967296] : List Int))).bind fun bt624 => (some (bt624.1, bt624.2))) else ((pelorusref02_Make.f k (decide (a0 < 0)) (([(Int.tmod (IntKind.u64.wrap (a0)) 4294967296) % 4294967296, (IntKind.u64.wrap (Int.tdiv (IntKind.u64.wrap (a0)) 4294967296)) % 4294967296] : List Int))).bind fun bt631 => (some (bt631.1, bt631.2)))

/-! ### pelorusref05_Of: function 23 -/
def pelorusref05_Of.f (k : Nat) (a0 : Int) : Option (Int × Bool × Int × Int) := (pelorusref02_From.f k a0).bind fun bt636 => ((pelorusref03_Make.f k bt636.1 bt636.2 0).bind fun bt640 => ((pelorusref05_Round.f k bt640.1 bt640.2.1 bt640.2.2 true).bind fun bt645 => (some (bt645.1, bt645.2.1, bt645.2.2.1, bt645.2.2.2))))

/-! ### peloruslaw05_NumLeast: function 5 -/
def peloruslaw05_NumLeast.f (k : Nat) (l0 : List (S30)) (a1 : Int) : Option (Bool) := (peloruslaw05_awake.f k).bind fun t649 => (if (l0.length : Int) > 100 then (some t649) else (if t649 = true then ((num_Least.f k l0).bind fun bt650 => ((pelorusref05_Least.f k l0).bind fun bt654 => (if (bt650.1 == bt654.1 && (bt650.2.1 == bt654.2.1 && (bt650.2.2.1 == bt654.2.2.1 && (bt650.2.2.2 == bt654.2.2.2)))) = true then ((num_Most.f k l0).bind fun bt658 => ((pelorusref05_Most.f k l0).bind fun bt662 => (if (bt658.1 == bt662.1 && (bt658.2.1 == bt662.2.1 && (bt658.2.2.1 == bt662.2.2.1 && (bt658.2.2.2 == bt662.2.2.2)))) = true then ((num_Of.f k a1).bind fun bt666 => ((pelorusref05_Of.f k a1).bind fun bt670 => (some (bt666.1 == bt670.1 && (bt666.2.1 == bt670.2.1 && (bt666.2.2.1 == bt670.2.2.1 && (bt666.2.2.2 == bt670.2.2.2))))))) else (some false)))) else (some false)))) else (some false)))
def peloruslaw05_NumLeast.Pure : Prop := ∀ (l0 : List (S30)) (a1 : Int), (l0.length * 32 ≤ 140737488351232 ∧ l0.length ≤ maxLen ∧ ∀ x ∈ l0, ok30 x) → (Lit.int .i64 a1).wf = true → ∃ k, peloruslaw05_NumLeast.f k l0 a1 = some true ∧ ∀ r, peloruslaw05_awake.f k = some r → r = true

/-! ### num_Next: function 24 -/
def num_Next.j0 : Nat → Bool → Bool → Int → Bool → Int → Int → Option (Int × Bool × Int × Int)
  | 0, _, _, _, _, _, _ => none
  | k + 1, x1, x14, x675000, x675001, x675002, x675003 => if x14 = true then ((num_huge.f x675001).bind fun bt684 => (some (bt684.1, bt684.2.1, bt684.2.2.1, bt684.2.2.2))) else (if x675000 = 2 then (some (x675000, x675001, x675002, x675003)) else (if (x675001 != x1) = true then ((num_Grow.f k x675001 x675002 x675003 true true).bind fun bt688 => (some (bt688.1, bt688.2.1, bt688.2.2.1, bt688.2.2.2))) else (if x675002 = 9223372036854775808 then ((num_Bound.f k x675001 18446744073709551615 (wrap64 (x675003 - 1)) false).bind fun bt692 => (some (bt692.1, bt692.2.1, bt692.2.2.1, bt692.2.2.2))) else (some (x675000, x675001, IntKind.u64.wrap (x675002 - 1), x675003)))))
def num_Next.f (k : Nat) (a0_0 : Int) (a0_1 : Bool) (a0_2 : Int) (a0_3 : Int) (a1 : Bool) : Option (Int × Bool × Int × Int) := (num_fair.f a0_0 a0_1 a0_2 a0_3).bind fun bt676 => (if bt676.1 = 0 then ((num_tiny.f (!a1)).bind fun bt680 => (some (bt680.1, bt680.2.1, bt680.2.2.1, bt680.2.2.2))) else (if bt676.1 = 2 then (num_Next.j0 k a1 (bt676.2.1 == a1) bt676.1 bt676.2.1 bt676.2.2.1 bt676.2.2.2) else (num_Next.j0 k a1 false bt676.1 bt676.2.1 bt676.2.2.1 bt676.2.2.2)))

/-! ### peloruslaw05_NumNext: function 6 -/
def peloruslaw05_NumNext.j0 : Nat → Bool → Bool → Int → Bool → Int → Int → Option (Bool)
  | 0, _, _, _, _, _, _ => none
  | k + 1, x3, x14, x697000, x697001, x697002, x697003 => if x14 = true then (some x3) else ((num_Next.f k x697000 x697001 x697002 x697003 true).bind fun bt699 => ((num_Next.f k x697000 x697001 x697002 x697003 false).bind fun bt704 => (if x3 = true then ((num_Cmp.f bt699.1 bt699.2.1 bt699.2.2.1 bt699.2.2.2 x697000 x697001 x697002 x697003).bind fun t709 => (if t709 > 0 then ((num_Cmp.f bt704.1 bt704.2.1 bt704.2.2.1 bt704.2.2.2 x697000 x697001 x697002 x697003).bind fun t710 => (if t710 < 0 then ((num_Next.f k bt699.1 bt699.2.1 bt699.2.2.1 bt699.2.2.2 false).bind fun bt711 => (if (bt711.1 == x697000 && (bt711.2.1 == x697001 && (bt711.2.2.1 == x697002 && (bt711.2.2.2 == x697003)))) = true then ((num_Next.f k bt704.1 bt704.2.1 bt704.2.2.1 bt704.2.2.2 true).bind fun bt715 => (if (bt715.1 == x697000 && (bt715.2.1 == x697001 && (bt715.2.2.1 == x697002 && (bt715.2.2.2 == x697003)))) = true then ((num_Neg.f bt699.1 bt699.2.1 bt699.2.2.1 bt699.2.2.2).bind fun bt719 => ((num_Neg.f x697000 x697001 x697002 x697003).bind fun bt723 => ((num_Next.f k bt723.1 bt723.2.1 bt723.2.2.1 bt723.2.2.2 false).bind fun bt727 => (some (bt719.1 == bt727.1 && (bt719.2.1 == bt727.2.1 && (bt719.2.2.1 == bt727.2.2.1 && (bt719.2.2.2 == bt727.2.2.2)))))))) else (some false))) else (some false))) else (some false))) else (some false))) else (some false))))
def peloruslaw05_NumNext.f (k : Nat) (a0_0 : Int) (a0_1 : Bool) (a0_2 : Int) (a0_3 : Int) : Option (Bool) := (peloruslaw05_awake.f k).bind fun t697 => ((num_May.f a0_0 a0_1 a0_2 a0_3).bind fun t698 => (if t698 = true then (peloruslaw05_NumNext.j0 k t697 (a0_0 == 2) a0_0 a0_1 a0_2 a0_3) else (peloruslaw05_NumNext.j0 k t697 true a0_0 a0_1 a0_2 a0_3)))
def peloruslaw05_NumNext.T6 : Bool × List (List Nat × List Nat) := (true, [([], []), ([0], [0]), ([1], [1]), ([1], [1]), ([2, 3, 1, 1], [1, 2, 3]), ([4, 1], [1, 4]), ([1, 5], [1, 5]), ([6, 4], [6]), ([7], [7]), ([7], [7]), ([8, 9, 7, 7], [7, 8, 9]), ([10, 7], [7, 10]), ([7, 11], [7, 11]), ([12, 10], [12]), ([13], [13]), ([14, 13, 13], [13, 14]), ([13], [13]), ([15, 16, 13], [13, 15, 16]), ([13, 17], [13, 17]), ([18, 15], [18]), ([19], [19]), ([20, 19, 19], [19, 20]), ([19], [19]), ([21, 22, 19], [19, 21, 22]), ([19, 23], [19, 23]), ([24, 21], [24]), ([25], [25]), ([26, 25, 25], [25, 26]), ([25], [25]), ([28, 27, 25], [25, 28]), ([29, 29, 25], [25, 29]), ([27, 30, 25], [25, 27, 30]), ([25, 31], [25, 31]), ([32, 30, 0, 1, 2, 3, 4, 5, 6, 7, 8, 9, 10, 11, 12, 13, 14, 15, 16, 17, 18, 19, 20, 21, 22, 23, 24, 25, 26, 27, 28, 29, 30, 31, 32], [32])])
def peloruslaw05_NumNext.B6 : List Nat := [0, 1, 3, 3, 15, 31, 63, 127, 255, 255, 1023, 2047, 4095, 8191, 16383, 32767, 16383, 131071, 262143, 524287, 1048575, 2097151, 1048575, 8388607, 16777215, 33554431, 67108863, 134217727, 67108863, 536870911, 1073741823, 2147483647, 4294967295, 8589934591]
def peloruslaw05_NumNext.Pure : Prop := ∀ (x0 : S30), ok30 x0 → ∃ k, peloruslaw05_NumNext.f k x0.f0 x0.f1 x0.f2 x0.f3 = some true ∧ ∀ r, peloruslaw05_awake.f k = some r → r = true

/-! ### peloruslaw05_NumOrder: function 7 -/
mutual
def peloruslaw05_NumOrder.j0 : Nat → Bool → Bool → Int → Bool → Int → Int → Int → Bool → Int → Int → Int → Bool → Int → Int → Int → Bool → Int → Int → Int → Bool → Int → Int → Option (Bool)
  | 0, _, _, _, _, _, _, _, _, _, _, _, _, _, _, _, _, _, _, _, _, _, _ => none
  | k + 1, x7, x59, x732000, x732001, x732002, x732003, x733000, x733001, x733002, x733003, x734000, x734001, x734002, x734003, x745000, x745001, x745002, x745003, x753000, x753001, x753002, x753003 => if x59 = true then (some false) else ((num_Cmp.f x745000 x745001 x745002 x745003 x732000 x732001 x732002 x732003).bind fun t784 => (if t784 = 0 then (peloruslaw05_NumOrder.j1 k x7 true x732000 x732001 x732002 x732003 x733000 x733001 x733002 x733003 x734000 x734001 x734002 x734003 x745000 x745001 x745002 x745003 x753000 x753001 x753002 x753003) else ((num_Cmp.f x745000 x745001 x745002 x745003 x733000 x733001 x733002 x733003).bind fun t785 => (if t785 = 0 then (peloruslaw05_NumOrder.j1 k x7 true x732000 x732001 x732002 x732003 x733000 x733001 x733002 x733003 x734000 x734001 x734002 x734003 x745000 x745001 x745002 x745003 x753000 x753001 x753002 x753003) else ((num_Cmp.f x745000 x745001 x745002 x745003 x734000 x734001 x734002 x734003).bind fun t786 => (peloruslaw05_NumOrder.j1 k x7 (t786 == 0) x732000 x732001 x732002 x732003 x733000 x733001 x733002 x733003 x734000 x734001 x734002 x734003 x745000 x745001 x745002 x745003 x753000 x753001 x753002 x753003))))))
def peloruslaw05_NumOrder.j1 : Nat → Bool → Bool → Int → Bool → Int → Int → Int → Bool → Int → Int → Int → Bool → Int → Int → Int → Bool → Int → Int → Int → Bool → Int → Int → Option (Bool)
  | 0, _, _, _, _, _, _, _, _, _, _, _, _, _, _, _, _, _, _, _, _, _, _ => none
  | k + 1, x7, x12, x732000, x732001, x732002, x732003, x733000, x733001, x733002, x733003, x734000, x734001, x734002, x734003, x745000, x745001, x745002, x745003, x753000, x753001, x753002, x753003 => if x7 = true then (if x12 = true then ((num_Cmp.f x745000 x745001 x745002 x745003 x732000 x732001 x732002 x732003).bind fun t787 => (if t787 ≤ 0 then ((num_Cmp.f x745000 x745001 x745002 x745003 x733000 x733001 x733002 x733003).bind fun t788 => (if t788 ≤ 0 then ((num_Cmp.f x745000 x745001 x745002 x745003 x734000 x734001 x734002 x734003).bind fun t789 => (if t789 ≤ 0 then ((num_Cmp.f x753000 x753001 x753002 x753003 x745000 x745001 x745002 x745003).bind fun t790 => (if t790 ≥ 0 then ((num_Cmp.f x753000 x753001 x753002 x753003 x733000 x733001 x733002 x733003).bind fun t791 => (if t791 ≥ 0 then ((num_Neg.f x753000 x753001 x753002 x753003).bind fun bt792 => ((num_Neg.f x732000 x732001 x732002 x732003).bind fun bt796 => ((num_Neg.f x733000 x733001 x733002 x733003).bind fun bt800 => ((num_Neg.f x734000 x734001 x734002 x734003).bind fun bt804 => ((num_Least.f k (([(⟨bt796.1, bt796.2.1, bt796.2.2.1, bt796.2.2.2⟩ : S30), (⟨bt800.1, bt800.2.1, bt800.2.2.1, bt800.2.2.2⟩ : S30), (⟨bt804.1, bt804.2.1, bt804.2.2.1, bt804.2.2.2⟩ : S30)] : List (S30)))).bind fun bt811 => (some (bt792.1 == bt811.1 && (bt792.2.1 == bt811.2.1 && (bt792.2.2.1 == bt811.2.2.1 && (bt792.2.2.2 == bt811.2.2.2)))))))))) else (some false))) else (some false))) else (some false))) else (some false))) else (some false))) else (some false)) else (some false)
end
def peloruslaw05_NumOrder.f (k : Nat) (a0_0 : Int) (a0_1 : Bool) (a0_2 : Int) (a0_3 : Int) (a1_0 : Int) (a1_1 : Bool) (a1_2 : Int) (a1_3 : Int) (a2_0 : Int) (a2_1 : Bool) (a2_2 : Int) (a2_3 : Int) : Option (Bool) := (peloruslaw05_awake.f k).bind fun t734 => ((num_Cmp.f a0_0 a0_1 a0_2 a0_3 a1_0 a1_1 a1_2 a1_3).bind fun t735 => ((num_Cmp.f a1_0 a1_1 a1_2 a1_3 a2_0 a2_1 a2_2 a2_3).bind fun t736 => ((num_Least.f k (([(⟨a0_0, a0_1, a0_2, a0_3⟩ : S30), (⟨a1_0, a1_1, a1_2, a1_3⟩ : S30), (⟨a2_0, a2_1, a2_2, a2_3⟩ : S30)] : List (S30)))).bind fun bt740 => ((num_Most.f k (([(⟨a0_0, a0_1, a0_2, a0_3⟩ : S30), (⟨a1_0, a1_1, a1_2, a1_3⟩ : S30), (⟨a2_0, a2_1, a2_2, a2_3⟩ : S30)] : List (S30)))).bind fun bt748 => (if t735 ≤ 0 then (if t736 ≤ 0 then ((num_Cmp.f a0_0 a0_1 a0_2 a0_3 a2_0 a2_1 a2_2 a2_3).bind fun t753 => (if t753 > 0 then (peloruslaw05_NumOrder.j0 k t734 true a0_0 a0_1 a0_2 a0_3 a1_0 a1_1 a1_2 a1_3 a2_0 a2_1 a2_2 a2_3 bt740.1 bt740.2.1 bt740.2.2.1 bt740.2.2.2 bt748.1 bt748.2.1 bt748.2.2.1 bt748.2.2.2) else ((num_Cmp.f a1_0 a1_1 a1_2 a1_3 a0_0 a0_1 a0_2 a0_3).bind fun t754 => (if t754 = (wrap64 (-t735)) then ((num_Neg.f a0_0 a0_1 a0_2 a0_3).bind fun bt755 => ((num_Neg.f a1_0 a1_1 a1_2 a1_3).bind fun bt759 => ((num_Cmp.f bt755.1 bt755.2.1 bt755.2.2.1 bt755.2.2.2 bt759.1 bt759.2.1 bt759.2.2.1 bt759.2.2.2).bind fun t763 => (peloruslaw05_NumOrder.j0 k t734 (t763 != (wrap64 (-t735))) a0_0 a0_1 a0_2 a0_3 a1_0 a1_1 a1_2 a1_3 a2_0 a2_1 a2_2 a2_3 bt740.1 bt740.2.1 bt740.2.2.1 bt740.2.2.2 bt748.1 bt748.2.1 bt748.2.2.1 bt748.2.2.2)))) else (peloruslaw05_NumOrder.j0 k t734 true a0_0 a0_1 a0_2 a0_3 a1_0 a1_1 a1_2 a1_3 a2_0 a2_1 a2_2 a2_3 bt740.1 bt740.2.1 bt740.2.2.1 bt740.2.2.2 bt748.1 bt748.2.1 bt748.2.2.1 bt748.2.2.2))))) else ((num_Cmp.f a1_0 a1_1 a1_2 a1_3 a0_0 a0_1 a0_2 a0_3).bind fun t764 => (if t764 = (wrap64 (-t735)) then ((num_Neg.f a0_0 a0_1 a0_2 a0_3).bind fun bt765 => ((num_Neg.f a1_0 a1_1 a1_2 a1_3).bind fun bt769 => ((num_Cmp.f bt765.1 bt765.2.1 bt765.2.2.1 bt765.2.2.2 bt769.1 bt769.2.1 bt769.2.2.1 bt769.2.2.2).bind fun t773 => (peloruslaw05_NumOrder.j0 k t734 (t773 != (wrap64 (-t735))) a0_0 a0_1 a0_2 a0_3 a1_0 a1_1 a1_2 a1_3 a2_0 a2_1 a2_2 a2_3 bt740.1 bt740.2.1 bt740.2.2.1 bt740.2.2.2 bt748.1 bt748.2.1 bt748.2.2.1 bt748.2.2.2)))) else (peloruslaw05_NumOrder.j0 k t734 true a0_0 a0_1 a0_2 a0_3 a1_0 a1_1 a1_2 a1_3 a2_0 a2_1 a2_2 a2_3 bt740.1 bt740.2.1 bt740.2.2.1 bt740.2.2.2 bt748.1 bt748.2.1 bt748.2.2.1 bt748.2.2.2)))) else ((num_Cmp.f a1_0 a1_1 a1_2 a1_3 a0_0 a0_1 a0_2 a0_3).bind fun t774 => (if t774 = (wrap64 (-t735)) then ((num_Neg.f a0_0 a0_1 a0_2 a0_3).bind fun bt775 => ((num_Neg.f a1_0 a1_1 a1_2 a1_3).bind fun bt779 => ((num_Cmp.f bt775.1 bt775.2.1 bt775.2.2.1 bt775.2.2.2 bt779.1 bt779.2.1 bt779.2.2.1 bt779.2.2.2).bind fun t783 => (peloruslaw05_NumOrder.j0 k t734 (t783 != (wrap64 (-t735))) a0_0 a0_1 a0_2 a0_3 a1_0 a1_1 a1_2 a1_3 a2_0 a2_1 a2_2 a2_3 bt740.1 bt740.2.1 bt740.2.2.1 bt740.2.2.2 bt748.1 bt748.2.1 bt748.2.2.1 bt748.2.2.2)))) else (peloruslaw05_NumOrder.j0 k t734 true a0_0 a0_1 a0_2 a0_3 a1_0 a1_1 a1_2 a1_3 a2_0 a2_1 a2_2 a2_3 bt740.1 bt740.2.1 bt740.2.2.1 bt740.2.2.2 bt748.1 bt748.2.1 bt748.2.2.1 bt748.2.2.2))))))))
def peloruslaw05_NumOrder.T6 : Bool × List (List Nat × List Nat) := (true, [([], []), ([0], [0]), ([1], [1]), ([2], [2]), ([3, 2], [2, 3]), ([2, 4], [2, 4]), ([5, 2], [5]), ([6], [6]), ([6], [6]), ([7, 8, 6, 6], [6, 7, 8]), ([9, 6], [6, 9]), ([6, 10], [6, 10]), ([11, 9], [11]), ([12], [12]), ([12], [12]), ([13, 14, 12, 12], [12, 13, 14]), ([12], [12]), ([16, 12], [12, 16]), ([15, 17, 12], [12, 15, 17]), ([12, 18], [12, 18]), ([19, 15], [19]), ([20], [20]), ([21, 20, 20], [20, 21]), ([20], [20]), ([23, 22, 20], [20, 23]), ([22, 24, 24, 20], [20, 22, 24]), ([20], [20]), ([26, 20], [20, 26]), ([25, 27, 20], [20, 25, 27]), ([20, 28], [20, 28])])
def peloruslaw05_NumOrder.B6 : List Nat := [0, 1, 3, 7, 15, 31, 63, 127, 127, 511, 1023, 2047, 4095, 8191, 8191, 32767, 8191, 73727, 262143, 524287, 1048575, 2097151, 4194303, 2097151, 16777215, 33554431, 2097151, 69206015, 268435455, 536870911]
def peloruslaw05_NumOrder.Pure : Prop := ∀ (x0 : S30) (x1 : S30) (x2 : S30), ok30 x0 → ok30 x1 → ok30 x2 → ∃ k, peloruslaw05_NumOrder.f k x0.f0 x0.f1 x0.f2 x0.f3 x1.f0 x1.f1 x1.f2 x1.f3 x2.f0 x2.f1 x2.f2 x2.f3 = some true ∧ ∀ r, peloruslaw05_awake.f k = some r → r = true

/-! ### num_Exact: function 25 -/
def num_Exact.j0 : Nat → Bool → Int → Bool → Int → Int → Option (Bool × List Int × Int × Bool)
  | 0, _, _, _, _, _ => none
  | k + 1, x11, x816000, x816001, x816002, x816003 => if x11 = true then (some (false, ([] : List Int), 0, false)) else ((whole_Make.f k x816001 (([(x816002) % 4294967296, (x816002 / 4294967296) % 4294967296] : List Int))).bind fun bt821 => ((dy_Make.f k bt821.1 bt821.2 x816003).bind fun bt825 => (some (bt825.1, bt825.2.1, bt825.2.2, true))))
def num_Exact.f (k : Nat) (a0_0 : Int) (a0_1 : Bool) (a0_2 : Int) (a0_3 : Int) : Option (Bool × List Int × Int × Bool) := (num_May.f a0_0 a0_1 a0_2 a0_3).bind fun t817 => (if t817 = true then (num_Exact.j0 k (a0_0 == 2) a0_0 a0_1 a0_2 a0_3) else (num_Exact.j0 k true a0_0 a0_1 a0_2 a0_3))
def num_Exact.T3 : Bool × List (List Nat × List Nat) := (true, [([], []), ([0], [0]), ([], []), ([2], [2]), ([3], [3]), ([], []), ([5], [5]), ([6], [6]), ([7], [7]), ([4, 8], [4, 8]), ([1, 9], [1, 9]), ([], []), ([11], [11]), ([10, 12, 10], [10, 12]), ([13, 13, 0, 1, 2, 3, 4, 5, 6, 7, 8, 9, 10, 11, 12, 13], [13]), ([14, 0, 1, 2, 3, 4, 5, 6, 7, 8, 9, 10, 11, 12, 13, 14], [])])
def num_Exact.B3 : List Nat := [0, 1, 0, 4, 12, 0, 32, 96, 224, 508, 1023, 0, 2048, 8191, 16383, 32767]

/-! ### pelorusref05_limbs: function 61 -/
def pelorusref05_limbs.f (a0 : Int) : Option (List Int) := some (([(Int.tmod a0 4294967296) % 4294967296, (IntKind.u64.wrap (Int.tdiv a0 4294967296)) % 4294967296] : List Int))

/-! ### pelorusref05_Exact: function 26 -/
def pelorusref05_Exact.j0 : Nat → Bool → Int → Bool → Int → Int → Option (Bool × List Int × Int × Bool)
  | 0, _, _, _, _, _ => none
  | k + 1, x13, x834000, x834001, x834002, x834003 => if x13 = true then (some (false, ([] : List Int), 0, false)) else (if x834000 = 0 then (some (false, ([] : List Int), 0, true)) else ((pelorusref05_limbs.f x834002).bind fun t836 => ((pelorusref02_Make.f k x834001 t836).bind fun bt839 => ((pelorusref03_Make.f k bt839.1 bt839.2 x834003).bind fun bt843 => (some (bt843.1, bt843.2.1, bt843.2.2, true))))))
def pelorusref05_Exact.f (k : Nat) (a0_0 : Int) (a0_1 : Bool) (a0_2 : Int) (a0_3 : Int) : Option (Bool × List Int × Int × Bool) := (pelorusref05_May.f a0_0 a0_1 a0_2 a0_3).bind fun t835 => (if t835 = true then (pelorusref05_Exact.j0 k (a0_0 == 2) a0_0 a0_1 a0_2 a0_3) else (pelorusref05_Exact.j0 k true a0_0 a0_1 a0_2 a0_3))
def pelorusref05_Exact.T6 : Bool × List (List Nat × List Nat) := (true, [([], []), ([0], [0]), ([], []), ([2], [2]), ([3], [3]), ([1, 4, 4], [1, 4]), ([], []), ([6], [6]), ([5, 7, 5], [5, 7]), ([8, 8, 0, 1, 2, 3, 4, 5, 6, 7, 8], [8]), ([9, 0, 1, 2, 3, 4, 5, 6, 7, 8, 9], [])])
def pelorusref05_Exact.B6 : List Nat := [0, 1, 0, 4, 12, 31, 0, 64, 255, 511, 1023]

/-! ### pelorusref01_Same: function 79 -/
def pelorusref01_Same.l0 : Nat → List Int → List Int → Int → Option (Bool)
  | 0, _, _, _ => none
  | k + 1, x0, x1, x5 => if x5 < (x0.length : Int) then (if 0 ≤ x5 then (if x5 < (x1.length : Int) then (if (rd x0 x5) = (rd x1 x5) then (pelorusref01_Same.l0 k x0 x1 (wrap64 (x5 + 1))) else (some false)) else (none)) else (none)) else (some true)
def pelorusref01_Same.f (k : Nat) (l0 : List Int) (l1 : List Int) : Option (Bool) := if (l0.length : Int) = (l1.length : Int) then (pelorusref01_Same.l0 k l0 l1 0) else (some false)

/-! ### pelorusref02_Alike: function 62 -/
def pelorusref02_Alike.f (k : Nat) (a0_0 : Bool) (l0_1 : List Int) (a1_0 : Bool) (l1_1 : List Int) : Option (Bool) := (pelorusref01_Same.f k l0_1 l1_1).bind fun t852 => (if t852 = true then (some (a0_0 == a1_0)) else (some false))

/-! ### pelorusref03_Alike: function 27 -/
def pelorusref03_Alike.f (k : Nat) (a0_0 : Bool) (l0_1 : List Int) (a0_2 : Int) (a1_0 : Bool) (l1_1 : List Int) (a1_2 : Int) : Option (Bool) := (pelorusref02_Alike.f k a0_0 l0_1 a1_0 l1_1).bind fun t855 => (if t855 = true then (some (a0_2 == a1_2)) else (some false))

/-! ### pelorusref05_Neg: function 30 -/
def pelorusref05_Neg.f (a0_0 : Int) (a0_1 : Bool) (a0_2 : Int) (a0_3 : Int) : Option (Int × Bool × Int × Int) := (pelorusref05_fair.f a0_0 a0_1 a0_2 a0_3).bind fun bt858 => (if bt858.1 = 0 then (some (bt858.1, bt858.2.1, bt858.2.2.1, bt858.2.2.2)) else (some (bt858.1, !bt858.2.1, bt858.2.2.1, bt858.2.2.2)))

/-! ### pelorusref05_Next: function 31 -/
def pelorusref05_Next.f (a0_0 : Int) (a0_1 : Bool) (a0_2 : Int) (a0_3 : Int) (a1 : Bool) : Option (Int × Bool × Int × Int) := (pelorusref05_fair.f a0_0 a0_1 a0_2 a0_3).bind fun bt865 => (if bt865.1 = 2 then (if (bt865.2.1 == a1) = true then (some (1, bt865.2.1, 18446744073709551615, 1048576)) else (some (bt865.1, bt865.2.1, bt865.2.2.1, bt865.2.2.2))) else (if bt865.1 = 0 then (some (1, !a1, 9223372036854775808, (-1048576))) else (if (bt865.2.1 != a1) = true then (if bt865.2.2.1 = 18446744073709551615 then ((pelorusref05_finite.f bt865.2.1 9223372036854775808 (wrap64 (bt865.2.2.2 + 1)) true).bind fun bt870 => (some (bt870.1, bt870.2.1, bt870.2.2.1, bt870.2.2.2))) else (some (bt865.1, bt865.2.1, IntKind.u64.wrap (bt865.2.2.1 + 1), bt865.2.2.2))) else (if bt865.2.2.1 = 9223372036854775808 then ((pelorusref05_finite.f bt865.2.1 18446744073709551615 (wrap64 (bt865.2.2.2 - 1)) false).bind fun bt874 => (some (bt874.1, bt874.2.1, bt874.2.2.1, bt874.2.2.2))) else (some (bt865.1, bt865.2.1, IntKind.u64.wrap (bt865.2.2.1 - 1), bt865.2.2.2))))))

/-! ### peloruslaw05_NumTells: function 8 -/
def peloruslaw05_NumTells.f (k : Nat) (a0_0 : Int) (a0_1 : Bool) (a0_2 : Int) (a0_3 : Int) (a1_0 : Int) (a1_1 : Bool) (a1_2 : Int) (a1_3 : Int) (a2 : Bool) : Option (Bool) := (peloruslaw05_awake.f k).bind fun t880 => ((num_Exact.f k a0_0 a0_1 a0_2 a0_3).bind fun bt881 => ((pelorusref05_Exact.f k a0_0 a0_1 a0_2 a0_3).bind fun bt888 => ((pelorusref03_Alike.f k bt881.1 bt881.2.1 bt881.2.2.1 bt888.1 bt888.2.1 bt888.2.2.1).bind fun t895 => (if t880 = true then (if t895 = true then (if (bt881.2.2.2 == bt888.2.2.2) = true then ((num_May.f a0_0 a0_1 a0_2 a0_3).bind fun t896 => ((pelorusref05_May.f a0_0 a0_1 a0_2 a0_3).bind fun t897 => (if (t896 == t897) = true then ((num_Sign.f a0_0 a0_1 a0_2 a0_3).bind fun t898 => ((pelorusref05_Sign.f a0_0 a0_1 a0_2 a0_3).bind fun t899 => (if t898 = t899 then ((num_Neg.f a0_0 a0_1 a0_2 a0_3).bind fun bt900 => ((pelorusref05_Neg.f a0_0 a0_1 a0_2 a0_3).bind fun bt904 => (if (bt900.1 == bt904.1 && (bt900.2.1 == bt904.2.1 && (bt900.2.2.1 == bt904.2.2.1 && (bt900.2.2.2 == bt904.2.2.2)))) = true then ((num_Next.f k a0_0 a0_1 a0_2 a0_3 a2).bind fun bt908 => ((pelorusref05_Next.f a0_0 a0_1 a0_2 a0_3 a2).bind fun bt912 => (if (bt908.1 == bt912.1 && (bt908.2.1 == bt912.2.1 && (bt908.2.2.1 == bt912.2.2.1 && (bt908.2.2.2 == bt912.2.2.2)))) = true then ((num_Cmp.f a0_0 a0_1 a0_2 a0_3 a1_0 a1_1 a1_2 a1_3).bind fun t916 => ((pelorusref05_Cmp.f k a0_0 a0_1 a0_2 a0_3 a1_0 a1_1 a1_2 a1_3).bind fun t917 => (if t916 = t917 then ((num_Infinite.f a2).bind fun bt918 => ((pelorusref05_Infinite.f a2).bind fun bt922 => (some (bt918.1 == bt922.1 && (bt918.2.1 == bt922.2.1 && (bt918.2.2.1 == bt922.2.2.1 && (bt918.2.2.2 == bt922.2.2.2))))))) else (some false)))) else (some false)))) else (some false)))) else (some false)))) else (some false)))) else (some false)) else (some false)) else (some false)))))
def peloruslaw05_NumTells.T5 : Bool × List (List Nat × List Nat) := (true, [([], []), ([0], [0]), ([1], [1]), ([1, 2], [1, 2]), ([3, 1], [3]), ([4], [4]), ([4], [4]), ([5, 6, 4], [4, 5, 6]), ([4, 7], [4, 7]), ([8, 4], [8]), ([9], [9]), ([10, 9, 9], [9, 10]), ([9], [9]), ([12, 11, 9], [9, 12]), ([11, 13, 9], [9, 11, 13]), ([9, 14], [9, 14]), ([15, 13], [15]), ([16], [16]), ([17, 16, 16], [16, 17]), ([16], [16]), ([19, 18, 16], [16, 19]), ([18, 20, 16], [16, 18, 20]), ([16, 21], [16, 21]), ([22, 20], [22]), ([23], [23]), ([24, 23, 23], [23, 24]), ([23], [23]), ([26, 25, 23], [23, 26]), ([25, 27, 23], [23, 25, 27]), ([23, 28], [23, 28]), ([29, 27], [29]), ([30], [30]), ([30], [30]), ([31, 32, 30, 30], [30, 31, 32]), ([30], [30]), ([30], [30]), ([34, 35, 33, 30], [30, 34, 35]), ([33, 36, 30], [30, 33, 36]), ([30, 37], [30, 37]), ([38, 36], [38]), ([39], [39]), ([39], [39]), ([40, 41, 39, 39], [39, 40, 41]), ([39], [39]), ([39], [39]), ([43, 44, 42, 39], [39, 43, 44]), ([42, 45, 39], [39, 42, 45]), ([39, 46], [39, 46]), ([47, 45], [47]), ([48], [48]), ([49, 48, 48], [48, 49]), ([48], [48]), ([51, 50, 48], [48, 51]), ([50, 52, 48], [48, 50, 52]), ([48, 53], [48, 53]), ([54, 52, 0, 1, 2, 3, 4, 5, 6, 7, 8, 9, 10, 11, 12, 13, 14, 15, 16, 17, 18, 19, 20, 21, 22, 23, 24, 25, 26, 27, 28, 29, 30, 31, 32, 33, 34, 35, 36, 37, 38, 39, 40, 41, 42, 43, 44, 45, 46, 47, 48, 49, 50, 51, 52, 53, 54], [54])])
def peloruslaw05_NumTells.B5 : List Nat := [0, 1, 3, 7, 15, 31, 31, 127, 255, 511, 1023, 2047, 1023, 8191, 16383, 32767, 65535, 131071, 262143, 131071, 1048575, 2097151, 4194303, 8388607, 16777215, 33554431, 16777215, 134217727, 268435455, 536870911, 1073741823, 2147483647, 2147483647, 8589934591, 2147483647, 2147483647, 68719476735, 137438953471, 274877906943, 549755813887, 1099511627775, 1099511627775, 4398046511103, 1099511627775, 1099511627775, 35184372088831, 70368744177663, 140737488355327, 281474976710655, 562949953421311, 1125899906842623, 562949953421311, 4503599627370495, 9007199254740991, 18014398509481983, 36028797018963967]
def peloruslaw05_NumTells.Pure : Prop := ∀ (x0 : S30) (x1 : S30) (a2 : Bool), ok30 x0 → ok30 x1 → ∃ k, peloruslaw05_NumTells.f k x0.f0 x0.f1 x0.f2 x0.f3 x1.f0 x1.f1 x1.f2 x1.f3 a2 = some true ∧ ∀ r, peloruslaw05_awake.f k = some r → r = true

/-! ### peloruslaw03_Few: function 35 -/
def peloruslaw03_Few.f (a0_0 : Bool) (l0_1 : List Int) (a0_2 : Int) : Option (Bool) := if (l0_1.length : Int) ≤ 20 then (if a0_2 ≥ (-1000) then (some (decide (a0_2 ≤ 1000))) else (some false)) else (some false)

/-! ### dy_Sign: function 63 -/
def dy_Sign.f (k : Nat) (a0_0 : Bool) (l0_1 : List Int) (a0_2 : Int) : Option (Int) := (dy_fair.f k a0_0 l0_1 a0_2).bind fun bt928 => ((whole_Sign.f k bt928.1 bt928.2.1).bind fun t933 => (some t933))

/-! ### bits_Add32: function 95 -/
def bits_Add32.f (a0 : Int) (a1 : Int) (a2 : Int) : Option (Int × Int) := some ((IntKind.u64.wrap ((IntKind.u64.wrap ((IntKind.u64.wrap (a0)) + (IntKind.u64.wrap (a1)))) + (IntKind.u64.wrap (a2)))) % 4294967296, ((IntKind.u64.wrap ((IntKind.u64.wrap ((IntKind.u64.wrap (a0)) + (IntKind.u64.wrap (a1)))) + (IntKind.u64.wrap (a2)))) / 4294967296) % 4294967296)

/-! ### nat_Add: function 93 -/
mutual
def nat_Add.l0 : Nat → List Int → List Int → List Int → Int → Int → Int → Option (List Int)
  | 0, _, _, _, _, _, _ => none
  | k + 1, x0, x1, x5, x6, x21, x22 => if x22 < x21 then (if x22 < (x1.length : Int) then (if 0 ≤ x22 then (if x22 < (x0.length : Int) then ((bits_Add32.f (rd x0 x22) (rd x1 x22) x6).bind fun bt939 => (if x22 < (x5.length : Int) then (nat_Add.l0 k x0 x1 (x5.set (x22 : Int).toNat bt939.1) bt939.2 x21 (wrap64 (x22 + 1))) else (none))) else (none)) else (none)) else (if 0 ≤ x22 then (if x22 < (x0.length : Int) then ((bits_Add32.f (rd x0 x22) 0 x6).bind fun bt943 => (if x22 < (x5.length : Int) then (nat_Add.l0 k x0 x1 (x5.set (x22 : Int).toNat bt943.1) bt943.2 x21 (wrap64 (x22 + 1))) else (none))) else (none)) else (none))) else (if 0 ≤ (x0.length : Int) then (if (x0.length : Int) < (x5.length : Int) then ((nat_cut_own.f k (x5.set ((x0.length : Int) : Int).toNat x6)).bind fun t947 => (some t947)) else (none)) else (none))
def nat_Add.l1 : Nat → List Int → List Int → List Int → Int → Int → Int → Option (List Int)
  | 0, _, _, _, _, _, _ => none
  | k + 1, x0, x1, x5, x6, x21, x22 => if x22 < x21 then (if x22 < (x1.length : Int) then (if 0 ≤ x22 then (if x22 < (x0.length : Int) then ((bits_Add32.f (rd x0 x22) (rd x1 x22) x6).bind fun bt955 => (if x22 < (x5.length : Int) then (nat_Add.l1 k x0 x1 (x5.set (x22 : Int).toNat bt955.1) bt955.2 x21 (wrap64 (x22 + 1))) else (none))) else (none)) else (none)) else (if 0 ≤ x22 then (if x22 < (x0.length : Int) then ((bits_Add32.f (rd x0 x22) 0 x6).bind fun bt959 => (if x22 < (x5.length : Int) then (nat_Add.l1 k x0 x1 (x5.set (x22 : Int).toNat bt959.1) bt959.2 x21 (wrap64 (x22 + 1))) else (none))) else (none)) else (none))) else (if 0 ≤ (x0.length : Int) then (if (x0.length : Int) < (x5.length : Int) then ((nat_cut_own.f k (x5.set ((x0.length : Int) : Int).toNat x6)).bind fun t963 => (some t963)) else (none)) else (none))
end
def nat_Add.f (k : Nat) (l0 : List Int) (l1 : List Int) : Option (List Int) := if (l0.length : Int) < (l1.length : Int) then (if 0 ≤ (wrap64 ((l1.length : Int) + 1)) then (if (wrap64 ((l1.length : Int) + 1) : Int).toNat ≤ 70368744177664 then (nat_Add.l0 k l1 l0 (List.replicate (wrap64 ((l1.length : Int) + 1) : Int).toNat 0) 0 (l1.length : Int) 0) else (none)) else (none)) else (if 0 ≤ (wrap64 ((l0.length : Int) + 1)) then (if (wrap64 ((l0.length : Int) + 1) : Int).toNat ≤ 70368744177664 then (nat_Add.l1 k l0 l1 (List.replicate (wrap64 ((l0.length : Int) + 1) : Int).toNat 0) 0 (l0.length : Int) 0) else (none)) else (none))

/-! ### nat_Cmp: function 96 -/
def nat_Cmp.l0 : Nat → List Int → List Int → Int → Int → Option (Int)
  | 0, _, _, _, _ => none
  | k + 1, x0, x1, x24, x25 => if x25 < x24 then (if 0 ≤ (wrap64 ((wrap64 ((x0.length : Int) - 1)) - x25)) then (if (wrap64 ((wrap64 ((x0.length : Int) - 1)) - x25)) < (x0.length : Int) then (if (wrap64 ((wrap64 ((x0.length : Int) - 1)) - x25)) < (x1.length : Int) then (if (rd x0 (wrap64 ((wrap64 ((x0.length : Int) - 1)) - x25))) < (rd x1 (wrap64 ((wrap64 ((x0.length : Int) - 1)) - x25))) then (some (-1)) else (if (rd x0 (wrap64 ((wrap64 ((x0.length : Int) - 1)) - x25))) > (rd x1 (wrap64 ((wrap64 ((x0.length : Int) - 1)) - x25))) then (some 1) else (nat_Cmp.l0 k x0 x1 x24 (wrap64 (x25 + 1))))) else (none)) else (none)) else (none)) else (some 0)
def nat_Cmp.f (k : Nat) (l0 : List Int) (l1 : List Int) : Option (Int) := (nat_cut.f k l0).bind fun t966 => ((nat_cut.f k l1).bind fun t969 => (if (t966.length : Int) < (t969.length : Int) then (some (-1)) else (if (t966.length : Int) > (t969.length : Int) then (some 1) else (nat_Cmp.l0 k t966 t969 (t966.length : Int) 0))))

/-! ### bits_Sub32: function 97 -/
def bits_Sub32.f (a0 : Int) (a1 : Int) (a2 : Int) : Option (Int × Int) := some ((((a0 - a1) % 4294967296) - a2) % 4294967296, (Go.bits .or .u32 (Go.bits .and .u32 (Go.bits .xor .u32 4294967295 a0) a1) (Go.bits .and .u32 (Go.bits .xor .u32 4294967295 (Go.bits .xor .u32 a0 a1)) ((((a0 - a1) % 4294967296) - a2) % 4294967296))) / 2147483648)

/-! ### nat_Sub: function 94 -/
def nat_Sub.l0 : Nat → List Int → List Int → List Int → Int → Int → Int → Option (List Int × Bool)
  | 0, _, _, _, _, _, _ => none
  | k + 1, x0, x1, x6, x7, x22, x23 => if x23 < x22 then (if x23 < (x1.length : Int) then (if 0 ≤ x23 then (if x23 < (x0.length : Int) then ((bits_Sub32.f (rd x0 x23) (rd x1 x23) x7).bind fun bt988 => (if x23 < (x6.length : Int) then (nat_Sub.l0 k x0 x1 (x6.set (x23 : Int).toNat bt988.1) bt988.2 x22 (wrap64 (x23 + 1))) else (none))) else (none)) else (none)) else (if 0 ≤ x23 then (if x23 < (x0.length : Int) then ((bits_Sub32.f (rd x0 x23) 0 x7).bind fun bt992 => (if x23 < (x6.length : Int) then (nat_Sub.l0 k x0 x1 (x6.set (x23 : Int).toNat bt992.1) bt992.2 x22 (wrap64 (x23 + 1))) else (none))) else (none)) else (none))) else ((nat_cut_own.f k x6).bind fun t995 => (some (t995, true)))
def nat_Sub.f (k : Nat) (l0 : List Int) (l1 : List Int) : Option (List Int × Bool) := (nat_cut.f k l0).bind fun t976 => ((nat_cut.f k l1).bind fun t979 => ((nat_Cmp.f k t976 t979).bind fun t982 => (if t982 < 0 then (some (([] : List Int), false)) else (if 0 ≤ (t976.length : Int) then (if ((t976.length : Int) : Int).toNat ≤ 70368744177664 then (nat_Sub.l0 k t976 t979 (List.replicate ((t976.length : Int) : Int).toNat 0) 0 (t976.length : Int) 0) else (none)) else (none)))))

/-! ### whole_Add: function 92 -/
def whole_Add.f (k : Nat) (a0_0 : Bool) (l0_1 : List Int) (a1_0 : Bool) (l1_1 : List Int) : Option (Bool × List Int) := if (a0_0 == a1_0) = true then ((nat_Add.f k l0_1 l1_1).bind fun t1001 => ((whole_Make.f k a0_0 t1001).bind fun bt1004 => (some (bt1004.1, bt1004.2)))) else ((nat_Sub.f k l0_1 l1_1).bind fun bt1008 => (if bt1008.2 = true then ((whole_Make.f k a0_0 bt1008.1).bind fun bt1012 => (some (bt1012.1, bt1012.2))) else ((nat_Sub.f k l1_1 l0_1).bind fun bt1016 => ((whole_Make.f k a1_0 bt1016.1).bind fun bt1020 => (some (bt1020.1, bt1020.2))))))
def whole_Add.T2 : Bool × List (List Nat × List Nat) := (true, [([], []), ([0], [0]), ([], []), ([2], [2]), ([], []), ([4], [4]), ([3, 5], [3, 5]), ([1, 6, 6], [1, 6]), ([7, 7, 0, 1, 2, 3, 4, 5, 6, 7], [7])])
def whole_Add.B2 : List Nat := [0, 1, 0, 4, 0, 16, 60, 127, 255]

/-! ### dy_add: function 87 -/
def dy_add.f (k : Nat) (a0_0 : Bool) (l0_1 : List Int) (a0_2 : Int) (a1_0 : Bool) (l1_1 : List Int) (a1_2 : Int) : Option (Bool × List Int × Int) := if (l0_1.length : Int) = 0 then (some (a1_0, l1_1, a1_2)) else (if (l1_1.length : Int) = 0 then (some (a0_0, l0_1, a0_2)) else (if a0_2 > a1_2 then ((nat_Shl.f k l0_1 (wrap64 (a0_2 - a1_2))).bind fun t1027 => ((whole_Add.f k a1_0 l1_1 a0_0 t1027).bind fun bt1031 => ((dy_Make.f k bt1031.1 bt1031.2 a1_2).bind fun bt1035 => (some (bt1035.1, bt1035.2.1, bt1035.2.2))))) else ((nat_Shl.f k l1_1 (wrap64 (a1_2 - a0_2))).bind fun t1040 => ((whole_Add.f k a0_0 l0_1 a1_0 t1040).bind fun bt1044 => ((dy_Make.f k bt1044.1 bt1044.2 a0_2).bind fun bt1048 => (some (bt1048.1, bt1048.2.1, bt1048.2.2)))))))
def dy_add.T7 : Bool × List (List Nat × List Nat) := (true, [([], []), ([0], [0]), ([1], [1]), ([], []), ([3], [3]), ([4], [4]), ([], []), ([6], [6]), ([], []), ([8], [8]), ([7, 9], [7, 9]), ([5, 10], [5, 10]), ([2, 11], [2, 11]), ([], []), ([13, 12, 11, 0, 1, 2, 3, 4, 5, 6, 7, 8, 9, 10, 11, 12, 13], [12, 13])])
def dy_add.B7 : List Nat := [0, 1, 3, 0, 8, 24, 0, 64, 0, 256, 960, 2040, 4095, 0, 16383]

/-! ### dy_own: function 88 -/
def dy_own.f (k : Nat) (a0_0 : Bool) (l0_1 : List Int) (a0_2 : Int) : Option (Bool × List Int × Int) := (dy_Make.f k a0_0 l0_1 a0_2).bind fun bt1055 => (some (bt1055.1, bt1055.2.1, bt1055.2.2))

/-! ### dy_Add: function 80 -/
def dy_Add.l0 : Nat → List (S26) → Int → Int → Bool → List Int → Int → Option (Bool × List Int × Int)
  | 0, _, _, _, _, _, _ => none
  | k + 1, x6, x7, x8, x1062000, x1062001, x1062002 => if x8 < x7 then (if 0 ≤ x8 then (if x8 < (x6.length : Int) then ((dy_fair.f k ((rd_T26 x6 x8).f0.f0) ((rd_T26 x6 x8).f0.f1) ((rd_T26 x6 x8).f1)).bind fun bt1064 => ((dy_add.f k x1062000 x1062001 x1062002 bt1064.1 bt1064.2.1 bt1064.2.2).bind fun bt1069 => (dy_Add.l0 k x6 x7 (wrap64 (x8 + 1)) bt1069.1 bt1069.2.1 bt1069.2.2))) else (none)) else (none)) else ((dy_own.f k x1062000 x1062001 x1062002).bind fun bt1074 => (some (bt1074.1, bt1074.2.1, bt1074.2.2)))
def dy_Add.f (k : Nat) (l0 : List (S26)) : Option (Bool × List Int × Int) := dy_Add.l0 k l0 (l0.length : Int) 0 false ([] : List Int) 0

/-! ### whole_Neg: function 89 -/
def whole_Neg.f (k : Nat) (a0_0 : Bool) (l0_1 : List Int) : Option (Bool × List Int) := (whole_Make.f k (!a0_0) l0_1).bind fun bt1081 => (some (bt1081.1, bt1081.2))

/-! ### dy_Neg: function 81 -/
def dy_Neg.f (k : Nat) (a0_0 : Bool) (l0_1 : List Int) (a0_2 : Int) : Option (Bool × List Int × Int) := (whole_Neg.f k a0_0 l0_1).bind fun bt1087 => ((dy_Make.f k bt1087.1 bt1087.2 a0_2).bind fun bt1091 => (some (bt1091.1, bt1091.2.1, bt1091.2.2)))

/-! ### dy_Sub: function 64 -/
def dy_Sub.f (k : Nat) (a0_0 : Bool) (l0_1 : List Int) (a0_2 : Int) (a1_0 : Bool) (l1_1 : List Int) (a1_2 : Int) : Option (Bool × List Int × Int) := (dy_Neg.f k a1_0 l1_1 a1_2).bind fun bt1099 => ((dy_Add.f k (([(⟨(⟨a0_0, l0_1⟩ : S24), a0_2⟩ : S26), (⟨(⟨bt1099.1, bt1099.2.1⟩ : S24), bt1099.2.2⟩ : S26)] : List (S26)))).bind fun bt1107 => (some (bt1107.1, bt1107.2.1, bt1107.2.2)))

/-! ### dy_Cmp: function 36 -/
def dy_Cmp.f (k : Nat) (a0_0 : Bool) (l0_1 : List Int) (a0_2 : Int) (a1_0 : Bool) (l1_1 : List Int) (a1_2 : Int) : Option (Int) := (dy_Sub.f k a0_0 l0_1 a0_2 a1_0 l1_1 a1_2).bind fun bt1114 => ((dy_Sign.f k bt1114.1 bt1114.2.1 bt1114.2.2).bind fun t1119 => (some t1119))

/-! ### peloruslaw05_NumTight: function 9 -/
mutual
def peloruslaw05_NumTight.j0 : Nat → Bool → Bool → Bool → List Int → Int → Option (Bool)
  | 0, _, _, _, _, _ => none
  | k + 1, x3, x19, x1121000, x1121001, x1121002 => if x19 = true then (some x3) else ((num_Round.f k x1121000 x1121001 x1121002 false).bind fun bt1123 => ((num_Round.f k x1121000 x1121001 x1121002 true).bind fun bt1128 => ((num_Exact.f k bt1123.1 bt1123.2.1 bt1123.2.2.1 bt1123.2.2.2).bind fun bt1133 => ((num_Exact.f k bt1128.1 bt1128.2.1 bt1128.2.2.1 bt1128.2.2.2).bind fun bt1140 => (if bt1133.2.2.2 = true then (if bt1140.2.2.2 = true then ((dy_Cmp.f k bt1133.1 bt1133.2.1 bt1133.2.2.1 x1121000 x1121001 x1121002).bind fun t1147 => (if t1147 > 0 then (peloruslaw05_NumTight.j1 k true x1121000 x1121001 x1121002 bt1123.1 bt1123.2.1 bt1123.2.2.1 bt1123.2.2.2 bt1128.1 bt1128.2.1 bt1128.2.2.1 bt1128.2.2.2 bt1133.1 bt1133.2.1 bt1133.2.2.1 bt1140.1 bt1140.2.1 bt1140.2.2.1) else ((dy_Cmp.f k bt1140.1 bt1140.2.1 bt1140.2.2.1 x1121000 x1121001 x1121002).bind fun t1148 => (peloruslaw05_NumTight.j1 k (decide (t1148 < 0)) x1121000 x1121001 x1121002 bt1123.1 bt1123.2.1 bt1123.2.2.1 bt1123.2.2.2 bt1128.1 bt1128.2.1 bt1128.2.2.1 bt1128.2.2.2 bt1133.1 bt1133.2.1 bt1133.2.2.1 bt1140.1 bt1140.2.1 bt1140.2.2.1)))) else (peloruslaw05_NumTight.j1 k true x1121000 x1121001 x1121002 bt1123.1 bt1123.2.1 bt1123.2.2.1 bt1123.2.2.2 bt1128.1 bt1128.2.1 bt1128.2.2.1 bt1128.2.2.2 bt1133.1 bt1133.2.1 bt1133.2.2.1 bt1140.1 bt1140.2.1 bt1140.2.2.1)) else (peloruslaw05_NumTight.j1 k true x1121000 x1121001 x1121002 bt1123.1 bt1123.2.1 bt1123.2.2.1 bt1123.2.2.2 bt1128.1 bt1128.2.1 bt1128.2.2.1 bt1128.2.2.2 bt1133.1 bt1133.2.1 bt1133.2.2.1 bt1140.1 bt1140.2.1 bt1140.2.2.1))))))
def peloruslaw05_NumTight.j1 : Nat → Bool → Bool → List Int → Int → Int → Bool → Int → Int → Int → Bool → Int → Int → Bool → List Int → Int → Bool → List Int → Int → Option (Bool)
  | 0, _, _, _, _, _, _, _, _, _, _, _, _, _, _, _, _, _, _ => none
  | k + 1, x52, x1121000, x1121001, x1121002, x1128000, x1128001, x1128002, x1128003, x1133000, x1133001, x1133002, x1133003, x1140000, x1140001, x1140002, x1147000, x1147001, x1147002 => if x52 = true then (some false) else (if (x1128000 == x1133000 && (x1128001 == x1133001 && (x1128002 == x1133002 && (x1128003 == x1133003)))) = true then ((dy_Cmp.f k x1140000 x1140001 x1140002 x1121000 x1121001 x1121002).bind fun t1149 => (if t1149 = 0 then (some true) else ((num_Next.f k x1128000 x1128001 x1128002 x1128003 true).bind fun bt1150 => (if (bt1150.1 == x1133000 && (bt1150.2.1 == x1133001 && (bt1150.2.2.1 == x1133002 && (bt1150.2.2.2 == x1133003)))) = true then ((dy_Cmp.f k x1140000 x1140001 x1140002 x1121000 x1121001 x1121002).bind fun t1154 => (if t1154 < 0 then ((dy_Cmp.f k x1147000 x1147001 x1147002 x1121000 x1121001 x1121002).bind fun t1155 => (some (decide (t1155 > 0)))) else (some false))) else (some false))))) else ((num_Next.f k x1128000 x1128001 x1128002 x1128003 true).bind fun bt1156 => (if (bt1156.1 == x1133000 && (bt1156.2.1 == x1133001 && (bt1156.2.2.1 == x1133002 && (bt1156.2.2.2 == x1133003)))) = true then ((dy_Cmp.f k x1140000 x1140001 x1140002 x1121000 x1121001 x1121002).bind fun t1160 => (if t1160 < 0 then ((dy_Cmp.f k x1147000 x1147001 x1147002 x1121000 x1121001 x1121002).bind fun t1161 => (some (decide (t1161 > 0)))) else (some false))) else (some false))))
end
def peloruslaw05_NumTight.f (k : Nat) (a0_0 : Bool) (l0_1 : List Int) (a0_2 : Int) : Option (Bool) := (peloruslaw05_awake.f k).bind fun t1121 => ((peloruslaw03_Few.f a0_0 l0_1 a0_2).bind fun t1122 => (if t1121 = true then (peloruslaw05_NumTight.j0 k t1121 (!t1122) a0_0 l0_1 a0_2) else (peloruslaw05_NumTight.j0 k t1121 true a0_0 l0_1 a0_2)))
def peloruslaw05_NumTight.T11 : Bool × List (List Nat × List Nat) := (true, [([], []), ([], []), ([0, 1], [0, 1]), ([2], [2]), ([3], [3]), ([3], [3]), ([4, 5, 3, 3], [3, 4, 5]), ([6, 3], [3, 6]), ([3, 7], [3, 7]), ([8, 6], [8]), ([9], [9]), ([10, 9, 9], [9, 10]), ([9], [9]), ([11, 12, 9], [9, 11, 12]), ([13, 11, 9], [9, 13]), ([14], [14]), ([14], [14]), ([15, 16, 14, 14], [14, 15, 16]), ([17, 14], [14, 17]), ([14, 18, 9], [9, 14, 18]), ([19, 17, 9], [9, 19]), ([20], [20]), ([20], [20]), ([21, 22, 20, 20], [20, 21, 22]), ([23, 20], [20, 23]), ([20, 24, 9], [9, 20, 24]), ([9, 25], [9, 25]), ([26, 23, 0, 1, 2, 3, 4, 5, 6, 7, 8, 9, 10, 11, 12, 13, 14, 15, 16, 17, 18, 19, 20, 21, 22, 23, 24, 25, 26], [26])])
def peloruslaw05_NumTight.B11 : List Nat := [0, 0, 3, 7, 15, 15, 63, 127, 255, 511, 1023, 2047, 1023, 8191, 16383, 32767, 32767, 131071, 262143, 524287, 1048575, 2097151, 2097151, 8388607, 16777215, 33554431, 67108863, 134217727]
def peloruslaw05_NumTight.Pure : Prop := ∀ (x0 : S26), ok26 x0 → ∃ k, peloruslaw05_NumTight.f k x0.f0.f0 x0.f0.f1 x0.f1 = some true ∧ ∀ r, peloruslaw05_awake.f k = some r → r = true

/-! ### peloruslaw05_NumBack: function 10 -/
mutual
def peloruslaw05_NumBack.j0 : Nat → Bool → Bool → Bool → Int → Bool → Int → Int → Bool → List Int → Int → Bool → List Int → Int → Option (Bool)
  | 0, _, _, _, _, _, _, _, _, _, _, _, _, _ => none
  | k + 1, x3, x9, x38, x1163000, x1163001, x1163002, x1163003, x1164000, x1164001, x1164002, x1165000, x1165001, x1165002 => if x38 = true then (some x9) else ((num_Exact.f k x1163000 x1163001 x1163002 x1163003).bind fun bt1168 => (if bt1168.2.2.2 = true then ((num_Round.f k bt1168.1 bt1168.2.1 bt1168.2.2.1 x3).bind fun bt1175 => (peloruslaw05_NumBack.j1 k x3 (!(bt1175.1 == x1163000) || (!(bt1175.2.1 == x1163001) || (!(bt1175.2.2.1 == x1163002) || (!(bt1175.2.2.2 == x1163003))))) x1164000 x1164001 x1164002 x1165000 x1165001 x1165002)) else (peloruslaw05_NumBack.j1 k x3 false x1164000 x1164001 x1164002 x1165000 x1165001 x1165002)))
def peloruslaw05_NumBack.j1 : Nat → Bool → Bool → Bool → List Int → Int → Bool → List Int → Int → Option (Bool)
  | 0, _, _, _, _, _, _, _, _ => none
  | k + 1, x3, x52, x1164000, x1164001, x1164002, x1165000, x1165001, x1165002 => if x52 = true then (some false) else ((dy_Cmp.f k x1164000 x1164001 x1164002 x1165000 x1165001 x1165002).bind fun t1179 => (if t1179 > 0 then (some true) else ((num_Round.f k x1164000 x1164001 x1164002 x3).bind fun bt1180 => ((num_Round.f k x1165000 x1165001 x1165002 x3).bind fun bt1184 => ((num_Cmp.f bt1180.1 bt1180.2.1 bt1180.2.2.1 bt1180.2.2.2 bt1184.1 bt1184.2.1 bt1184.2.2.1 bt1184.2.2.2).bind fun t1188 => (some (decide (t1188 ≤ 0))))))))
end
def peloruslaw05_NumBack.f (k : Nat) (a0_0 : Int) (a0_1 : Bool) (a0_2 : Int) (a0_3 : Int) (a1_0 : Bool) (l1_1 : List Int) (a1_2 : Int) (a2_0 : Bool) (l2_1 : List Int) (a2_2 : Int) (a3 : Bool) : Option (Bool) := (peloruslaw05_awake.f k).bind fun t1165 => ((peloruslaw03_Few.f a1_0 l1_1 a1_2).bind fun t1166 => ((peloruslaw03_Few.f a2_0 l2_1 a2_2).bind fun t1167 => (if t1165 = true then (if t1166 = true then (if t1167 = true then (if a0_3 > 1000 then (peloruslaw05_NumBack.j0 k a3 t1165 true a0_0 a0_1 a0_2 a0_3 a1_0 l1_1 a1_2 a2_0 l2_1 a2_2) else (peloruslaw05_NumBack.j0 k a3 t1165 (decide (a0_3 < (-1000))) a0_0 a0_1 a0_2 a0_3 a1_0 l1_1 a1_2 a2_0 l2_1 a2_2)) else (peloruslaw05_NumBack.j0 k a3 t1165 true a0_0 a0_1 a0_2 a0_3 a1_0 l1_1 a1_2 a2_0 l2_1 a2_2)) else (peloruslaw05_NumBack.j0 k a3 t1165 true a0_0 a0_1 a0_2 a0_3 a1_0 l1_1 a1_2 a2_0 l2_1 a2_2)) else (peloruslaw05_NumBack.j0 k a3 t1165 true a0_0 a0_1 a0_2 a0_3 a1_0 l1_1 a1_2 a2_0 l2_1 a2_2))))
def peloruslaw05_NumBack.T7 : Bool × List (List Nat × List Nat) := (true, [([], []), ([0], [0]), ([1], [1]), ([1], [1]), ([2, 3, 1, 1], [1, 2, 3]), ([1], [1]), ([4, 5, 1], [1, 4, 5]), ([1, 6], [1, 6])])
def peloruslaw05_NumBack.B7 : List Nat := [0, 1, 3, 3, 15, 3, 63, 127]
def peloruslaw05_NumBack.Pure : Prop := ∀ (x0 : S30) (x1 : S26) (x2 : S26) (a3 : Bool), ok30 x0 → ok26 x1 → ok26 x2 → ∃ k, peloruslaw05_NumBack.f k x0.f0 x0.f1 x0.f2 x0.f3 x1.f0.f0 x1.f0.f1 x1.f1 x2.f0.f0 x2.f0.f1 x2.f1 a3 = some true ∧ ∀ r, peloruslaw05_awake.f k = some r → r = true

end Go.Proofs.YtkemnoejpbknhaaDoor.PA
