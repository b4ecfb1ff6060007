-- Laid by this work's own program; Lean checks it.
import Derived.Test.YthlhogcnfaiphaaDoorPAx0
import Derived.Test.YthlhogcnfaiphaaDoorPAx1
namespace Go.Proofs.YthlhogcnfaiphaaDoor.PA
open Go.RowKit Go.Proofs.YthlhogcnfaiphaaDoorW.PrintWords Go.Proofs.YthlhogcnfaiphaaDoorW.PrintLast Go.Proofs.YthlhogcnfaiphaaDoorW.PrintMore
attribute [local go_sem] max2_int min2_int max_two min_two max_three min_three max_four min_four   -- for this text's walks alone
set_option linter.unusedVariables false
set_option linter.unusedSimpArgs false

attribute [local go_sem ↓ high] isSome_set_
attribute [local go_sem high] eqA24
/-! ### num_Infinite: function 14 -/
def num_Infinite.f (a0 : Bool) : Option (Int × Bool × Int × Int) := some (2, a0, 0, 0)

/-! ### num_May: function 15 -/
def num_May.f (a0_0 : Int) (a0_1 : Bool) (a0_2 : Int) (a0_3 : Int) : Option (Bool) := if a0_0 = 0 then (some (a0_0 == 0 && (!a0_1 && (a0_2 == 0 && (a0_3 == 0))))) else (if a0_0 = 1 then (if a0_2 ≥ 9223372036854775808 then (if a0_3 ≥ (-1048576) then (some (decide (a0_3 ≤ 1048576))) else (some false)) else (some false)) else (if a0_0 = 2 then (if a0_2 = 0 then (some (a0_3 == 0)) else (some false)) else (some false)))

/-! ### arith_fair: function 23 -/
def arith_fair.f (a0_0 : Int) (a0_1 : Bool) (a0_2 : Int) (a0_3 : Int) : Option (Int × Bool × Int × Int) := (num_May.f a0_0 a0_1 a0_2 a0_3).bind fun t105 => (if t105 = true then (some (a0_0, a0_1, a0_2, a0_3)) else (some (0, false, 0, 0)))

/-! ### num_tiny: function 30 -/
def num_tiny.f (a0 : Bool) : Option (Int × Bool × Int × Int) := some (1, a0, 9223372036854775808, (-1048576))

/-! ### num_huge: function 31 -/
def num_huge.f (a0 : Bool) : Option (Int × Bool × Int × Int) := some (1, a0, 18446744073709551615, 1048576)

/-! ### num_Bound: function 32 -/
mutual
def num_Bound.j0 : Nat → Bool → Int → Int → Bool → Bool → Option (Int × Bool × Int × Int)
  | 0, _, _, _, _, _ => none
  | k + 1, x0, x1, x2, x3, x9 => if x9 = true then ((num_Infinite.f x0).bind fun bt109 => (some (bt109.1, bt109.2.1, bt109.2.2.1, bt109.2.2.2))) else (if x2 > 1048576 then ((num_huge.f x0).bind fun bt113 => (some (bt113.1, bt113.2.1, bt113.2.2.1, bt113.2.2.2))) else (if x2 < (-1048576) then (num_Bound.j1 k x0 x1 x2 x3) else (num_Bound.j1 k x0 x1 x2 false)))
def num_Bound.j1 : Nat → Bool → Int → Int → Bool → Option (Int × Bool × Int × Int)
  | 0, _, _, _, _ => none
  | k + 1, x0, x1, x2, x22 => if x22 = true then ((num_tiny.f x0).bind fun bt117 => (some (bt117.1, bt117.2.1, bt117.2.2.1, bt117.2.2.2))) else (if x2 < (-1048576) then (some (0, false, 0, 0)) else (some (1, x0, x1, x2)))
end
def num_Bound.f (k : Nat) (a0 : Bool) (a1 : Int) (a2 : Int) (a3 : Bool) : Option (Int × Bool × Int × Int) := if a2 > 1048576 then (num_Bound.j0 k a0 a1 a2 a3 a3) else (num_Bound.j0 k a0 a1 a2 a3 false)

/-! ### num_Grow: function 27 -/
def num_Grow.j0 : Nat → Bool → Int → Int → Bool → Bool → Option (Int × Bool × Int × Int)
  | 0, _, _, _, _, _ => none
  | k + 1, x0, x1, x2, x4, x14 => if x14 = true then (if (IntKind.u64.wrap (x1 + 1)) = 0 then ((num_Bound.f k x0 9223372036854775808 (wrap64 (x2 + 1)) x4).bind fun bt122 => (some (bt122.1, bt122.2.1, bt122.2.2.1, bt122.2.2.2))) else ((num_Bound.f k x0 (IntKind.u64.wrap (x1 + 1)) x2 x4).bind fun bt126 => (some (bt126.1, bt126.2.1, bt126.2.2.1, bt126.2.2.2)))) else ((num_Bound.f k x0 x1 x2 x4).bind fun bt130 => (some (bt130.1, bt130.2.1, bt130.2.2.1, bt130.2.2.2)))
def num_Grow.f (k : Nat) (a0 : Bool) (a1 : Int) (a2 : Int) (a3 : Bool) (a4 : Bool) : Option (Int × Bool × Int × Int) := if a3 = true then (num_Grow.j0 k a0 a1 a2 a4 a4) else (num_Grow.j0 k a0 a1 a2 a4 false)

/-! ### arith_lower: function 44 -/
def arith_lower.f (a0 : Int) (a1 : Int) : Option (Int × Int × Bool) := if a1 < 64 then (if 0 ≤ a1 then (if 0 ≤ (wrap64 (64 - a1)) then (some (shr .u64 a0 a1, shl .u64 a0 (wrap64 (64 - a1)), false)) else (none)) else (none)) else (if a1 < 128 then (if 0 ≤ (wrap64 (a1 - 64)) then (if 0 ≤ (wrap64 (64 - (wrap64 (a1 - 64)))) then (some (0, shr .u64 a0 (wrap64 (a1 - 64)), ((shl .u64 a0 (wrap64 (64 - (wrap64 (a1 - 64))))) != 0))) else (none)) else (none)) else (some (0, 0, true)))
def arith_lower.T2 : Bool × List (List Nat × List Nat) := (true, [([], []), ([], []), ([0, 1], [0, 1]), ([], []), ([], []), ([4], [4]), ([3, 5], [3, 5]), ([2, 6], [2, 6]), ([7, 0, 1, 2, 3, 4, 5, 6, 7], [7])])
def arith_lower.B2 : List Nat := [0, 0, 3, 0, 0, 16, 56, 127, 255]


/-! ### bits_Add64: function 45 (a text of our own) -/
def bits_Add64.f (a0 a1 a2 : Int) : Option (Int × Int) := if 0 ≤ a0 ∧ 0 ≤ a1 ∧ 0 ≤ a2 ∧ a2 ≤ 1 then some ((a0 + a1 + a2) % 18446744073709551616, (a0 + a1 + a2) / 18446744073709551616) else none
theorem bits_Add64.calls (a0 : Int) (a1 : Int) (a2 : Int) (r1 : Int) (r2 : Int) (w : World) (h : bits_Add64.f a0 a1 a2 = some (r1, r2)) :
    XCalls Tryd.prog 45 #[.int .u64 a0, .int .u64 a1, .int .u64 a2] w fun e w' => e = .returned (.tuple #[.int .u64 r1, .int .u64 r2]) ∧ Drawn0 w w' := by
  unfold bits_Add64.f at h
  by_cases hq : 0 ≤ a0 ∧ 0 ≤ a1 ∧ 0 ≤ a2 ∧ a2 ≤ 1
  · rw [if_pos hq] at h
    obtain ⟨rfl, rfl⟩ := Prod.mk.inj (Option.some.inj h)
    refine ⟨.tuple #[.int .u64 ((a0 + a1 + a2) % 18446744073709551616), .int .u64 ((a0 + a1 + a2) / 18446744073709551616)], ?_, rfl, Drawn0.refl _⟩
    rw [run_callFunc_extern Tryd.func45 (by kernel_rfl) (by kernel_rfl) (by kernel_rfl) (e := add64Entry) (by kernel_rfl), run_add64 a0 a1 a2 hq.1 hq.2.1 hq.2.2.1 hq.2.2.2]
    simp only [Result.andThen]
  · rw [if_neg hq] at h; exact absurd h (by simp)

/-! ### arith_plus: function 24 -/
def arith_plus.f (k : Nat) (a0_0 : Int) (a0_1 : Bool) (a0_2 : Int) (a0_3 : Int) (a1_0 : Int) (a1_1 : Bool) (a1_2 : Int) (a1_3 : Int) (a2 : Bool) : Option (Int × Bool × Int × Int) := (arith_lower.f a1_2 (wrap64 (a0_3 - a1_3))).bind fun bt138 => ((bits_Add64.f a0_2 bt138.1 0).bind fun bt142 => (if bt138.2.2 = true then (if bt142.2 = 0 then ((num_Grow.f k a0_1 bt142.1 a0_3 true (a2 != a0_1)).bind fun bt144 => (some (bt144.1, bt144.2.1, bt144.2.2.1, bt144.2.2.2))) else ((num_Grow.f k a0_1 (Go.bits .or .u64 (bt142.1 / 2) 9223372036854775808) (wrap64 (a0_3 + 1)) true (a2 != a0_1)).bind fun bt148 => (some (bt148.1, bt148.2.1, bt148.2.2.1, bt148.2.2.2)))) else (if bt142.2 = 0 then ((num_Grow.f k a0_1 bt142.1 a0_3 (bt138.2.1 != 0) (a2 != a0_1)).bind fun bt152 => (some (bt152.1, bt152.2.1, bt152.2.2.1, bt152.2.2.2))) else (if bt138.2.1 = 0 then ((num_Grow.f k a0_1 (Go.bits .or .u64 (bt142.1 / 2) 9223372036854775808) (wrap64 (a0_3 + 1)) ((Go.bits .and .u64 bt142.1 1) != 0) (a2 != a0_1)).bind fun bt156 => (some (bt156.1, bt156.2.1, bt156.2.2.1, bt156.2.2.2))) else ((num_Grow.f k a0_1 (Go.bits .or .u64 (bt142.1 / 2) 9223372036854775808) (wrap64 (a0_3 + 1)) true (a2 != a0_1)).bind fun bt160 => (some (bt160.1, bt160.2.1, bt160.2.2.1, bt160.2.2.2)))))))

/-! ### bits_Len64: function 47 -/
def bits_Len64.j0 : Nat → Int → Int → Option (Int)
  | 0, _, _ => none
  | k + 1, x0, x2 => if x0 ≥ 65536 then (if (x0 / 65536) ≥ 256 then (if 0 ≤ (((x0 / 65536) / 256) % 256) then (if (((x0 / 65536) / 256) % 256) < 256 then (some (wrap64 ((wrap64 ((wrap64 (x2 + 16)) + 8)) + (wrap64 (bt (⟨#[0, 1, 2, 2, 3, 3, 3, 3, 4, 4, 4, 4, 4, 4, 4, 4, 5, 5, 5, 5, 5, 5, 5, 5, 5, 5, 5, 5, 5, 5, 5, 5, 6, 6, 6, 6, 6, 6, 6, 6, 6, 6, 6, 6, 6, 6, 6, 6, 6, 6, 6, 6, 6, 6, 6, 6, 6, 6, 6, 6, 6, 6, 6, 6, 7, 7, 7, 7, 7, 7, 7, 7, 7, 7, 7, 7, 7, 7, 7, 7, 7, 7, 7, 7, 7, 7, 7, 7, 7, 7, 7, 7, 7, 7, 7, 7, 7, 7, 7, 7, 7, 7, 7, 7, 7, 7, 7, 7, 7, 7, 7, 7, 7, 7, 7, 7, 7, 7, 7, 7, 7, 7, 7, 7, 7, 7, 7, 7, 8, 8, 8, 8, 8, 8, 8, 8, 8, 8, 8, 8, 8, 8, 8, 8, 8, 8, 8, 8, 8, 8, 8, 8, 8, 8, 8, 8, 8, 8, 8, 8, 8, 8, 8, 8, 8, 8, 8, 8, 8, 8, 8, 8, 8, 8, 8, 8, 8, 8, 8, 8, 8, 8, 8, 8, 8, 8, 8, 8, 8, 8, 8, 8, 8, 8, 8, 8, 8, 8, 8, 8, 8, 8, 8, 8, 8, 8, 8, 8, 8, 8, 8, 8, 8, 8, 8, 8, 8, 8, 8, 8, 8, 8, 8, 8, 8, 8, 8, 8, 8, 8, 8, 8, 8, 8, 8, 8, 8, 8, 8, 8, 8, 8, 8, 8, 8, 8, 8, 8, 8, 8, 8, 8, 8, 8, 8, 8]⟩ : ByteArray) (((x0 / 65536) / 256) % 256)))))) else (none)) else (none)) else (if 0 ≤ ((x0 / 65536) % 256) then (if ((x0 / 65536) % 256) < 256 then (some (wrap64 ((wrap64 (x2 + 16)) + (wrap64 (bt (⟨#[0, 1, 2, 2, 3, 3, 3, 3, 4, 4, 4, 4, 4, 4, 4, 4, 5, 5, 5, 5, 5, 5, 5, 5, 5, 5, 5, 5, 5, 5, 5, 5, 6, 6, 6, 6, 6, 6, 6, 6, 6, 6, 6, 6, 6, 6, 6, 6, 6, 6, 6, 6, 6, 6, 6, 6, 6, 6, 6, 6, 6, 6, 6, 6, 7, 7, 7, 7, 7, 7, 7, 7, 7, 7, 7, 7, 7, 7, 7, 7, 7, 7, 7, 7, 7, 7, 7, 7, 7, 7, 7, 7, 7, 7, 7, 7, 7, 7, 7, 7, 7, 7, 7, 7, 7, 7, 7, 7, 7, 7, 7, 7, 7, 7, 7, 7, 7, 7, 7, 7, 7, 7, 7, 7, 7, 7, 7, 7, 8, 8, 8, 8, 8, 8, 8, 8, 8, 8, 8, 8, 8, 8, 8, 8, 8, 8, 8, 8, 8, 8, 8, 8, 8, 8, 8, 8, 8, 8, 8, 8, 8, 8, 8, 8, 8, 8, 8, 8, 8, 8, 8, 8, 8, 8, 8, 8, 8, 8, 8, 8, 8, 8, 8, 8, 8, 8, 8, 8, 8, 8, 8, 8, 8, 8, 8, 8, 8, 8, 8, 8, 8, 8, 8, 8, 8, 8, 8, 8, 8, 8, 8, 8, 8, 8, 8, 8, 8, 8, 8, 8, 8, 8, 8, 8, 8, 8, 8, 8, 8, 8, 8, 8, 8, 8, 8, 8, 8, 8, 8, 8, 8, 8, 8, 8, 8, 8, 8, 8, 8, 8, 8, 8, 8, 8, 8, 8]⟩ : ByteArray) ((x0 / 65536) % 256)))))) else (none)) else (none))) else (if x0 ≥ 256 then (if 0 ≤ ((x0 / 256) % 256) then (if ((x0 / 256) % 256) < 256 then (some (wrap64 ((wrap64 (x2 + 8)) + (wrap64 (bt (⟨#[0, 1, 2, 2, 3, 3, 3, 3, 4, 4, 4, 4, 4, 4, 4, 4, 5, 5, 5, 5, 5, 5, 5, 5, 5, 5, 5, 5, 5, 5, 5, 5, 6, 6, 6, 6, 6, 6, 6, 6, 6, 6, 6, 6, 6, 6, 6, 6, 6, 6, 6, 6, 6, 6, 6, 6, 6, 6, 6, 6, 6, 6, 6, 6, 7, 7, 7, 7, 7, 7, 7, 7, 7, 7, 7, 7, 7, 7, 7, 7, 7, 7, 7, 7, 7, 7, 7, 7, 7, 7, 7, 7, 7, 7, 7, 7, 7, 7, 7, 7, 7, 7, 7, 7, 7, 7, 7, 7, 7, 7, 7, 7, 7, 7, 7, 7, 7, 7, 7, 7, 7, 7, 7, 7, 7, 7, 7, 7, 8, 8, 8, 8, 8, 8, 8, 8, 8, 8, 8, 8, 8, 8, 8, 8, 8, 8, 8, 8, 8, 8, 8, 8, 8, 8, 8, 8, 8, 8, 8, 8, 8, 8, 8, 8, 8, 8, 8, 8, 8, 8, 8, 8, 8, 8, 8, 8, 8, 8, 8, 8, 8, 8, 8, 8, 8, 8, 8, 8, 8, 8, 8, 8, 8, 8, 8, 8, 8, 8, 8, 8, 8, 8, 8, 8, 8, 8, 8, 8, 8, 8, 8, 8, 8, 8, 8, 8, 8, 8, 8, 8, 8, 8, 8, 8, 8, 8, 8, 8, 8, 8, 8, 8, 8, 8, 8, 8, 8, 8, 8, 8, 8, 8, 8, 8, 8, 8, 8, 8, 8, 8, 8, 8, 8, 8, 8, 8]⟩ : ByteArray) ((x0 / 256) % 256)))))) else (none)) else (none)) else (if 0 ≤ ((x0) % 256) then (if ((x0) % 256) < 256 then (some (wrap64 (x2 + (wrap64 (bt (⟨#[0, 1, 2, 2, 3, 3, 3, 3, 4, 4, 4, 4, 4, 4, 4, 4, 5, 5, 5, 5, 5, 5, 5, 5, 5, 5, 5, 5, 5, 5, 5, 5, 6, 6, 6, 6, 6, 6, 6, 6, 6, 6, 6, 6, 6, 6, 6, 6, 6, 6, 6, 6, 6, 6, 6, 6, 6, 6, 6, 6, 6, 6, 6, 6, 7, 7, 7, 7, 7, 7, 7, 7, 7, 7, 7, 7, 7, 7, 7, 7, 7, 7, 7, 7, 7, 7, 7, 7, 7, 7, 7, 7, 7, 7, 7, 7, 7, 7, 7, 7, 7, 7, 7, 7, 7, 7, 7, 7, 7, 7, 7, 7, 7, 7, 7, 7, 7, 7, 7, 7, 7, 7, 7, 7, 7, 7, 7, 7, 8, 8, 8, 8, 8, 8, 8, 8, 8, 8, 8, 8, 8, 8, 8, 8, 8, 8, 8, 8, 8, 8, 8, 8, 8, 8, 8, 8, 8, 8, 8, 8, 8, 8, 8, 8, 8, 8, 8, 8, 8, 8, 8, 8, 8, 8, 8, 8, 8, 8, 8, 8, 8, 8, 8, 8, 8, 8, 8, 8, 8, 8, 8, 8, 8, 8, 8, 8, 8, 8, 8, 8, 8, 8, 8, 8, 8, 8, 8, 8, 8, 8, 8, 8, 8, 8, 8, 8, 8, 8, 8, 8, 8, 8, 8, 8, 8, 8, 8, 8, 8, 8, 8, 8, 8, 8, 8, 8, 8, 8, 8, 8, 8, 8, 8, 8, 8, 8, 8, 8, 8, 8, 8, 8, 8, 8, 8, 8]⟩ : ByteArray) ((x0) % 256)))))) else (none)) else (none)))
def bits_Len64.f (k : Nat) (a0 : Int) : Option (Int) := if a0 ≥ 4294967296 then (bits_Len64.j0 k (a0 / 4294967296) 32) else (bits_Len64.j0 k a0 0)

/-! ### bits_LeadingZeros64: function 28 -/
def bits_LeadingZeros64.f (k : Nat) (a0 : Int) : Option (Int) := (bits_Len64.f k a0).bind fun t164 => (some (wrap64 (64 - t164)))


/-! ### bits_Sub64: function 46 (a text of our own) -/
def bits_Sub64.f (a0 a1 a2 : Int) : Option (Int × Int) := if 0 ≤ a0 ∧ 0 ≤ a1 ∧ a1 < 18446744073709551616 ∧ 0 ≤ a2 ∧ a2 ≤ 1 then some ((a0 - a1 - a2) % 18446744073709551616, if a0 < a1 + a2 then 1 else 0) else none
/-- The model's entry for Sub64. -/
def bits_Sub64.entry : Array Value → Sem Value := fun args => do
  let (x, y, b) ← Extern.MathBitsCarry.three "Sub64" args
  pure (Extern.MathBitsCarry.pair ((x + Extern.MathBitsCarry.m64 - y - b) % Extern.MathBitsCarry.m64) (if x < y + b then 1 else 0))
theorem bits_Sub64.run {P : Program} (x y b : Nat) (hb : b ≤ 1) (w : World) : (bits_Sub64.entry #[.int .u64 x, .int .u64 y, .int .u64 b]).run P w =
    .ok (.tuple #[.int .u64 (((x + 18446744073709551616 - y - b) % 18446744073709551616 : Nat) : Int), .int .u64 ((if x < y + b then 1 else 0 : Nat) : Int)]) w := by
  have : b = 0 ∨ b = 1 := by omega
  rcases this with rfl | rfl <;> rfl
theorem bits_Sub64.calls (a0 : Int) (a1 : Int) (a2 : Int) (r1 : Int) (r2 : Int) (w : World) (h : bits_Sub64.f a0 a1 a2 = some (r1, r2)) :
    XCalls Tryd.prog 46 #[.int .u64 a0, .int .u64 a1, .int .u64 a2] w fun e w' => e = .returned (.tuple #[.int .u64 r1, .int .u64 r2]) ∧ Drawn0 w w' := by
  unfold bits_Sub64.f at h
  by_cases hq : 0 ≤ a0 ∧ 0 ≤ a1 ∧ a1 < 18446744073709551616 ∧ 0 ≤ a2 ∧ a2 ≤ 1
  · rw [if_pos hq] at h
    obtain ⟨h1, h2⟩ := Prod.mk.inj (Option.some.inj h)
    obtain ⟨q0, q1, q2, q3, q4⟩ := hq
    obtain ⟨x, rfl⟩ := Int.eq_ofNat_of_zero_le q0
    obtain ⟨y, rfl⟩ := Int.eq_ofNat_of_zero_le q1
    obtain ⟨b, rfl⟩ := Int.eq_ofNat_of_zero_le q3
    have e1 : (((x + 18446744073709551616 - y - b) % 18446744073709551616 : Nat) : Int) = r1 := by omega
    have e2 : ((if x < y + b then 1 else 0 : Nat) : Int) = r2 := by rw [← h2]; split <;> split <;> omega
    refine ⟨.tuple #[.int .u64 r1, .int .u64 r2], ?_, rfl, Drawn0.refl _⟩
    rw [run_callFunc_extern Tryd.func46 (by kernel_rfl) (by kernel_rfl) (by kernel_rfl) (e := bits_Sub64.entry) (by kernel_rfl), bits_Sub64.run x y b (by omega)]
    simp only [Result.andThen, e1, e2]
  · rw [if_neg hq] at h; exact absurd h (by simp)

/-! ### arith_minus: function 25 -/
mutual
def arith_minus.j0 : Nat → Bool → Int → Int → Bool → Int → Int → Int → Int → Bool → Option (Int × Bool × Int × Int)
  | 0, _, _, _, _, _, _, _, _, _ => none
  | k + 1, x2, x8, x166000, x166001, x166002, x166003, x172000, x172001, x172002 => (bits_Sub64.f 0 x172001 x8).bind fun bt172 => ((bits_Sub64.f x166002 x172000 bt172.2).bind fun bt174 => (if bt174.1 = 0 then (arith_minus.j1 k x2 0 bt172.1 (wrap64 (x166003 - 64)) x166000 x166001 x166002 x166003 x172000 x172001 x172002) else (arith_minus.j1 k x2 bt172.1 bt174.1 x166003 x166000 x166001 x166002 x166003 x172000 x172001 x172002)))
def arith_minus.j1 : Nat → Bool → Int → Int → Int → Int → Bool → Int → Int → Int → Int → Bool → Option (Int × Bool × Int × Int)
  | 0, _, _, _, _, _, _, _, _, _, _, _ => none
  | k + 1, x2, x9, x11, x13, x166000, x166001, x166002, x166003, x172000, x172001, x172002 => (bits_LeadingZeros64.f k x11).bind fun t176 => (if t176 > 0 then (if 0 ≤ t176 then (if 0 ≤ (wrap64 (64 - t176)) then (if x172002 = true then ((num_Grow.f k x166001 (Go.bits .or .u64 (shl .u64 x11 t176) (shr .u64 x9 (wrap64 (64 - t176)))) (wrap64 (x13 - t176)) true (x2 != x166001)).bind fun bt177 => (some (bt177.1, bt177.2.1, bt177.2.2.1, bt177.2.2.2))) else ((num_Grow.f k x166001 (Go.bits .or .u64 (shl .u64 x11 t176) (shr .u64 x9 (wrap64 (64 - t176)))) (wrap64 (x13 - t176)) ((shl .u64 x9 t176) != 0) (x2 != x166001)).bind fun bt181 => (some (bt181.1, bt181.2.1, bt181.2.2.1, bt181.2.2.2)))) else (none)) else (none)) else (if x172002 = true then ((num_Grow.f k x166001 x11 x13 true (x2 != x166001)).bind fun bt185 => (some (bt185.1, bt185.2.1, bt185.2.2.1, bt185.2.2.2))) else ((num_Grow.f k x166001 x11 x13 (x9 != 0) (x2 != x166001)).bind fun bt189 => (some (bt189.1, bt189.2.1, bt189.2.2.1, bt189.2.2.2)))))
end
def arith_minus.f (k : Nat) (a0_0 : Int) (a0_1 : Bool) (a0_2 : Int) (a0_3 : Int) (a1_0 : Int) (a1_1 : Bool) (a1_2 : Int) (a1_3 : Int) (a2 : Bool) : Option (Int × Bool × Int × Int) := (arith_lower.f a1_2 (wrap64 (a0_3 - a1_3))).bind fun bt168 => (if bt168.2.2 = true then (arith_minus.j0 k a2 1 a0_0 a0_1 a0_2 a0_3 bt168.1 bt168.2.1 bt168.2.2) else (arith_minus.j0 k a2 0 a0_0 a0_1 a0_2 a0_3 bt168.1 bt168.2.1 bt168.2.2))

/-! ### arith_Add: function 10 -/
mutual
def arith_Add.j0 : Nat → Bool → Bool → Int → Bool → Int → Int → Int → Bool → Int → Int → Option (Int × Bool × Int × Int)
  | 0, _, _, _, _, _, _, _, _, _, _ => none
  | k + 1, x2, x11, x194000, x194001, x194002, x194003, x195000, x195001, x195002, x195003 => if x11 = true then ((num_Infinite.f (!x2)).bind fun bt204 => (some (bt204.1, bt204.2.1, bt204.2.2.1, bt204.2.2.2))) else (if x194000 = 2 then (arith_Add.j1 k x2 true x194000 x194001 x194002 x194003 x195000 x195001 x195002 x195003) else (arith_Add.j1 k x2 (x195000 == 0) x194000 x194001 x194002 x194003 x195000 x195001 x195002 x195003))
def arith_Add.j1 : Nat → Bool → Bool → Int → Bool → Int → Int → Int → Bool → Int → Int → Option (Int × Bool × Int × Int)
  | 0, _, _, _, _, _, _, _, _, _, _ => none
  | k + 1, x2, x30, x194000, x194001, x194002, x194003, x195000, x195001, x195002, x195003 => if x30 = true then (some (x194000, x194001, x194002, x194003)) else (if x195000 = 2 then (some (x195000, x195001, x195002, x195003)) else (if x194000 = 0 then (some (x195000, x195001, x195002, x195003)) else (if x195003 > x194003 then (arith_Add.j2 k x2 true x194000 x194001 x194002 x194003 x195000 x195001 x195002 x195003) else (if x195003 = x194003 then (arith_Add.j2 k x2 (decide (x195002 > x194002)) x194000 x194001 x194002 x194003 x195000 x195001 x195002 x195003) else (arith_Add.j2 k x2 false x194000 x194001 x194002 x194003 x195000 x195001 x195002 x195003)))))
def arith_Add.j2 : Nat → Bool → Bool → Int → Bool → Int → Int → Int → Bool → Int → Int → Option (Int × Bool × Int × Int)
  | 0, _, _, _, _, _, _, _, _, _, _ => none
  | k + 1, x2, x68, x194000, x194001, x194002, x194003, x195000, x195001, x195002, x195003 => if x68 = true then (arith_Add.j3 k x2 x195000 x195001 x195002 x195003 x194000 x194001 x194002 x194003) else (arith_Add.j3 k x2 x194000 x194001 x194002 x194003 x195000 x195001 x195002 x195003)
def arith_Add.j3 : Nat → Bool → Int → Bool → Int → Int → Int → Bool → Int → Int → Option (Int × Bool × Int × Int)
  | 0, _, _, _, _, _, _, _, _, _ => none
  | k + 1, x2, x194000, x194001, x194002, x194003, x195000, x195001, x195002, x195003 => if (x194001 == x195001) = true then ((arith_plus.f k x194000 x194001 x194002 x194003 x195000 x195001 x195002 x195003 x2).bind fun bt208 => (some (bt208.1, bt208.2.1, bt208.2.2.1, bt208.2.2.2))) else (if x194003 = x195003 then (if x194002 = x195002 then (some (0, false, 0, 0)) else ((arith_minus.f k x194000 x194001 x194002 x194003 x195000 x195001 x195002 x195003 x2).bind fun bt212 => (some (bt212.1, bt212.2.1, bt212.2.2.1, bt212.2.2.2)))) else ((arith_minus.f k x194000 x194001 x194002 x194003 x195000 x195001 x195002 x195003 x2).bind fun bt216 => (some (bt216.1, bt216.2.1, bt216.2.2.1, bt216.2.2.2))))
end
def arith_Add.f (k : Nat) (a0_0 : Int) (a0_1 : Bool) (a0_2 : Int) (a0_3 : Int) (a1_0 : Int) (a1_1 : Bool) (a1_2 : Int) (a1_3 : Int) (a2 : Bool) : Option (Int × Bool × Int × Int) := (arith_fair.f a0_0 a0_1 a0_2 a0_3).bind fun bt196 => ((arith_fair.f a1_0 a1_1 a1_2 a1_3).bind fun bt200 => (if bt196.1 = 2 then (if bt200.1 = 2 then (arith_Add.j0 k a2 (bt196.2.1 != bt200.2.1) bt196.1 bt196.2.1 bt196.2.2.1 bt196.2.2.2 bt200.1 bt200.2.1 bt200.2.2.1 bt200.2.2.2) else (arith_Add.j0 k a2 false bt196.1 bt196.2.1 bt196.2.2.1 bt196.2.2.2 bt200.1 bt200.2.1 bt200.2.2.1 bt200.2.2.2)) else (arith_Add.j0 k a2 false bt196.1 bt196.2.1 bt196.2.2.1 bt196.2.2.2 bt200.1 bt200.2.1 bt200.2.2.1 bt200.2.2.2)))

/-! ### bits_Mul64: function 26 -/
def bits_Mul64.f (a0 : Int) (a1 : Int) : Option (Int × Int) := some (IntKind.u64.wrap ((IntKind.u64.wrap ((IntKind.u64.wrap ((a0 / 4294967296) * (a1 / 4294967296))) + ((IntKind.u64.wrap ((IntKind.u64.wrap ((a0 / 4294967296) * (Go.bits .and .u64 a1 4294967295))) + ((IntKind.u64.wrap ((Go.bits .and .u64 a0 4294967295) * (Go.bits .and .u64 a1 4294967295))) / 4294967296))) / 4294967296))) + ((IntKind.u64.wrap ((Go.bits .and .u64 (IntKind.u64.wrap ((IntKind.u64.wrap ((a0 / 4294967296) * (Go.bits .and .u64 a1 4294967295))) + ((IntKind.u64.wrap ((Go.bits .and .u64 a0 4294967295) * (Go.bits .and .u64 a1 4294967295))) / 4294967296))) 4294967295) + (IntKind.u64.wrap ((Go.bits .and .u64 a0 4294967295) * (a1 / 4294967296))))) / 4294967296)), IntKind.u64.wrap (a0 * a1))

/-! ### arith_Mul: function 11 -/
def arith_Mul.j0 : Nat → Bool → Bool → Bool → Int → Bool → Int → Int → Int → Bool → Int → Int → Option (Int × Bool × Int × Int)
  | 0, _, _, _, _, _, _, _, _, _, _, _ => none
  | k + 1, x2, x7, x20, x221000, x221001, x221002, x221003, x222000, x222001, x222002, x222003 => if x20 = true then (some (0, false, 0, 0)) else (if x221000 = 2 then ((num_Infinite.f x7).bind fun bt231 => (some (bt231.1, bt231.2.1, bt231.2.2.1, bt231.2.2.2))) else (if x222000 = 2 then ((num_Infinite.f x7).bind fun bt235 => (some (bt235.1, bt235.2.1, bt235.2.2.1, bt235.2.2.2))) else ((bits_Mul64.f x221002 x222002).bind fun bt239 => (if bt239.1 < 9223372036854775808 then ((num_Grow.f k x7 (Go.bits .or .u64 (IntKind.u64.wrap (bt239.1 * 2)) (bt239.2 / 9223372036854775808)) (wrap64 ((wrap64 ((wrap64 (x221003 + x222003)) + 64)) - 1)) ((IntKind.u64.wrap (bt239.2 * 2)) != 0) (x2 != x7)).bind fun bt241 => (some (bt241.1, bt241.2.1, bt241.2.2.1, bt241.2.2.2))) else ((num_Grow.f k x7 bt239.1 (wrap64 ((wrap64 (x221003 + x222003)) + 64)) (bt239.2 != 0) (x2 != x7)).bind fun bt245 => (some (bt245.1, bt245.2.1, bt245.2.2.1, bt245.2.2.2)))))))
def arith_Mul.f (k : Nat) (a0_0 : Int) (a0_1 : Bool) (a0_2 : Int) (a0_3 : Int) (a1_0 : Int) (a1_1 : Bool) (a1_2 : Int) (a1_3 : Int) (a2 : Bool) : Option (Int × Bool × Int × Int) := (arith_fair.f a0_0 a0_1 a0_2 a0_3).bind fun bt223 => ((arith_fair.f a1_0 a1_1 a1_2 a1_3).bind fun bt227 => (if bt223.1 = 0 then (arith_Mul.j0 k a2 (bt223.2.1 != bt227.2.1) true bt223.1 bt223.2.1 bt223.2.2.1 bt223.2.2.2 bt227.1 bt227.2.1 bt227.2.2.1 bt227.2.2.2) else (arith_Mul.j0 k a2 (bt223.2.1 != bt227.2.1) (bt227.1 == 0) bt223.1 bt223.2.1 bt223.2.2.1 bt223.2.2.2 bt227.1 bt227.2.1 bt227.2.2.1 bt227.2.2.2)))

/-! ### num_Of: function 12 -/
def num_Of.f (k : Nat) (a0 : Int) : Option (Int × Bool × Int × Int) := if a0 < 0 then ((bits_LeadingZeros64.f k (IntKind.u64.wrap (-(IntKind.u64.wrap (a0))))).bind fun t250 => (if (IntKind.u64.wrap (-(IntKind.u64.wrap (a0)))) = 0 then (some (0, false, 0, 0)) else (if 0 ≤ t250 then (some (1, decide (a0 < 0), shl .u64 (IntKind.u64.wrap (-(IntKind.u64.wrap (a0)))) t250, wrap64 (-t250))) else (none)))) else ((bits_LeadingZeros64.f k (IntKind.u64.wrap (a0))).bind fun t251 => (if (IntKind.u64.wrap (a0)) = 0 then (some (0, false, 0, 0)) else (if 0 ≤ t251 then (some (1, decide (a0 < 0), shl .u64 (IntKind.u64.wrap (a0)) t251, wrap64 (-t251))) else (none))))

/-! ### num_fair: function 29 -/
def num_fair.f (a0_0 : Int) (a0_1 : Bool) (a0_2 : Int) (a0_3 : Int) : Option (Int × Bool × Int × Int) := (num_May.f a0_0 a0_1 a0_2 a0_3).bind fun t254 => (if t254 = true then (some (a0_0, a0_1, a0_2, a0_3)) else (some (0, false, 0, 0)))

/-! ### num_Next: function 13 -/
def num_Next.j0 : Nat → Bool → Bool → Int → Bool → Int → Int → Option (Int × Bool × Int × Int)
  | 0, _, _, _, _, _, _ => none
  | k + 1, x1, x14, x256000, x256001, x256002, x256003 => if x14 = true then ((num_huge.f x256001).bind fun bt265 => (some (bt265.1, bt265.2.1, bt265.2.2.1, bt265.2.2.2))) else (if x256000 = 2 then (some (x256000, x256001, x256002, x256003)) else (if (x256001 != x1) = true then ((num_Grow.f k x256001 x256002 x256003 true true).bind fun bt269 => (some (bt269.1, bt269.2.1, bt269.2.2.1, bt269.2.2.2))) else (if x256002 = 9223372036854775808 then ((num_Bound.f k x256001 18446744073709551615 (wrap64 (x256003 - 1)) false).bind fun bt273 => (some (bt273.1, bt273.2.1, bt273.2.2.1, bt273.2.2.2))) else (some (x256000, x256001, IntKind.u64.wrap (x256002 - 1), x256003)))))
def num_Next.f (k : Nat) (a0_0 : Int) (a0_1 : Bool) (a0_2 : Int) (a0_3 : Int) (a1 : Bool) : Option (Int × Bool × Int × Int) := (num_fair.f a0_0 a0_1 a0_2 a0_3).bind fun bt257 => (if bt257.1 = 0 then ((num_tiny.f (!a1)).bind fun bt261 => (some (bt261.1, bt261.2.1, bt261.2.2.1, bt261.2.2.2))) else (if bt257.1 = 2 then (num_Next.j0 k a1 (bt257.2.1 == a1) bt257.1 bt257.2.1 bt257.2.2.1 bt257.2.2.2) else (num_Next.j0 k a1 false bt257.1 bt257.2.1 bt257.2.2.1 bt257.2.2.2)))

/-! ### peloruslaw06_awake: function 4 -/
def peloruslaw06_awake.f (k : Nat)  : Option (Bool) := (num_Of.f k 1).bind fun bt277 => ((arith_Add.f k bt277.1 bt277.2.1 bt277.2.2.1 bt277.2.2.2 1 false 9223372036854775808 (-133) true).bind fun bt283 => ((num_Next.f k bt277.1 bt277.2.1 bt277.2.2.1 bt277.2.2.2 true).bind fun bt287 => (if (bt283.1 == bt287.1 && (bt283.2.1 == bt287.2.1 && (bt283.2.2.1 == bt287.2.2.1 && (bt283.2.2.2 == bt287.2.2.2)))) = true then ((arith_Add.f k bt277.1 bt277.2.1 bt277.2.2.1 bt277.2.2.2 1 false 9223372036854775808 (-133) false).bind fun bt291 => (if (bt291.1 == bt277.1 && (bt291.2.1 == bt277.2.1 && (bt291.2.2.1 == bt277.2.2.1 && (bt291.2.2.2 == bt277.2.2.2)))) = true then (if bt277.1 = 1 then ((num_Infinite.f false).bind fun bt295 => ((num_Of.f k (-2)).bind fun bt299 => ((arith_Mul.f k bt295.1 bt295.2.1 bt295.2.2.1 bt295.2.2.2 bt299.1 bt299.2.1 bt299.2.2.1 bt299.2.2.2 true).bind fun bt303 => ((num_Infinite.f true).bind fun bt307 => (some (bt303.1 == bt307.1 && (bt303.2.1 == bt307.2.1 && (bt303.2.2.1 == bt307.2.2.1 && (bt303.2.2.2 == bt307.2.2.2))))))))) else (some false)) else (some false))) else (some false))))
def peloruslaw06_awake.T3 : Bool × List (List Nat × List Nat) := (true, [([], []), ([], []), ([0, 1], [0, 1]), ([], []), ([3, 2], [3]), ([2, 4], [2, 4]), ([5, 4], [5]), ([6], [6]), ([6], [6]), ([7, 8, 6, 6], [6, 7, 8]), ([6], [6]), ([9, 10, 6], [6, 9, 10]), ([6, 11], [6, 11]), ([12, 9], [12]), ([13], [13]), ([14, 13], [13, 14]), ([15, 13], [13, 15]), ([13, 16], [13, 16]), ([17, 13], [17]), ([18, 18], [18]), ([19, 18], [18]), ([19, 20, 20, 18], [18, 19, 20]), ([21, 18], [18]), ([21, 22, 18], [18, 21, 22]), ([18, 23], [18, 23]), ([24, 22, 0, 1, 2, 3, 4, 5, 6, 7, 8, 9, 10, 11, 12, 13, 14, 15, 16, 17, 18, 19, 20, 21, 22, 23, 24], [24])])
def peloruslaw06_awake.B3 : List Nat := [0, 0, 3, 0, 15, 31, 63, 127, 127, 511, 127, 2047, 4095, 8191, 16383, 32767, 65535, 131071, 262143, 524287, 1048575, 2097151, 4194303, 8388607, 16777215, 33554431]

/-! ### peloruslaw06_Few: function 5 -/
def peloruslaw06_Few.f (a0_0 : Int) (a0_1 : Bool) (a0_2 : Int) (a0_3 : Int) : Option (Bool) := if a0_0 = 1 then (if a0_3 ≥ (-1500) then (some (decide (a0_3 ≤ 1500))) else (some false)) else (some true)

/-! ### nat_cut: function 50 -/
def nat_cut.l0 : Nat → List Int → Option (List Int)
  | 0, _ => none
  | k + 1, x0 => if (x0.length : Int) > 0 then (if 0 ≤ (wrap64 ((x0.length : Int) - 1)) then (if (wrap64 ((x0.length : Int) - 1)) < (x0.length : Int) then (if (rd x0 (wrap64 ((x0.length : Int) - 1))) = 0 then (if (wrap64 ((x0.length : Int) - 1)) ≤ (x0.length : Int) then (nat_cut.l0 k (x0.take ((wrap64 ((x0.length : Int) - 1)) : Int).toNat)) else (none)) else (some x0)) else (none)) else (none)) else (some x0)
def nat_cut.f (k : Nat) (l0 : List Int) : Option (List Int) := nat_cut.l0 k l0

/-! ### nat_cut_own: function 50 -/
def nat_cut_own.l0 : Nat → List Int → Option (List Int)
  | 0, _ => none
  | k + 1, x0 => if (x0.length : Int) > 0 then (if 0 ≤ (wrap64 ((x0.length : Int) - 1)) then (if (wrap64 ((x0.length : Int) - 1)) < (x0.length : Int) then (if (rd x0 (wrap64 ((x0.length : Int) - 1))) = 0 then (if (wrap64 ((x0.length : Int) - 1)) ≤ (x0.length : Int) then (nat_cut_own.l0 k (x0.take ((wrap64 ((x0.length : Int) - 1)) : Int).toNat)) else (none)) else (some x0)) else (none)) else (none)) else (some x0)
def nat_cut_own.f (k : Nat) (l0 : List Int) : Option (List Int) := nat_cut_own.l0 k l0


/-! ### slices_Clone_uint32_uint32: function 51 (a text of our own) -/
def slices_Clone_uint32_uint32.f (l0 : List Int) : Option (List Int) := if l0.length < 35184372088832 then some l0 else none

/-! ### nat_Trim: function 37 -/
def nat_Trim.f (k : Nat) (l0 : List Int) : Option (List Int) := (nat_cut.f k l0).bind fun t322 => ((slices_Clone_uint32_uint32.f t322).bind fun t325 => (some t325))

/-! ### whole_Make: function 17 -/
def whole_Make.f (k : Nat) (a0 : Bool) (l1 : List Int) : Option (Bool × List Int) := (nat_Trim.f k l1).bind fun t329 => (if a0 = true then (some (decide ((t329.length : Int) > 0), t329)) else (some (false, t329)))

/-! ### bits_Len32: function 56 -/
def bits_Len32.f (a0 : Int) : Option (Int) := if a0 ≥ 65536 then (if (a0 / 65536) ≥ 256 then (if 0 ≤ (((a0 / 65536) / 256) % 256) then (if (((a0 / 65536) / 256) % 256) < 256 then (some (wrap64 ((16 + 8) + (wrap64 (bt (⟨#[0, 1, 2, 2, 3, 3, 3, 3, 4, 4, 4, 4, 4, 4, 4, 4, 5, 5, 5, 5, 5, 5, 5, 5, 5, 5, 5, 5, 5, 5, 5, 5, 6, 6, 6, 6, 6, 6, 6, 6, 6, 6, 6, 6, 6, 6, 6, 6, 6, 6, 6, 6, 6, 6, 6, 6, 6, 6, 6, 6, 6, 6, 6, 6, 7, 7, 7, 7, 7, 7, 7, 7, 7, 7, 7, 7, 7, 7, 7, 7, 7, 7, 7, 7, 7, 7, 7, 7, 7, 7, 7, 7, 7, 7, 7, 7, 7, 7, 7, 7, 7, 7, 7, 7, 7, 7, 7, 7, 7, 7, 7, 7, 7, 7, 7, 7, 7, 7, 7, 7, 7, 7, 7, 7, 7, 7, 7, 7, 8, 8, 8, 8, 8, 8, 8, 8, 8, 8, 8, 8, 8, 8, 8, 8, 8, 8, 8, 8, 8, 8, 8, 8, 8, 8, 8, 8, 8, 8, 8, 8, 8, 8, 8, 8, 8, 8, 8, 8, 8, 8, 8, 8, 8, 8, 8, 8, 8, 8, 8, 8, 8, 8, 8, 8, 8, 8, 8, 8, 8, 8, 8, 8, 8, 8, 8, 8, 8, 8, 8, 8, 8, 8, 8, 8, 8, 8, 8, 8, 8, 8, 8, 8, 8, 8, 8, 8, 8, 8, 8, 8, 8, 8, 8, 8, 8, 8, 8, 8, 8, 8, 8, 8, 8, 8, 8, 8, 8, 8, 8, 8, 8, 8, 8, 8, 8, 8, 8, 8, 8, 8, 8, 8, 8, 8, 8, 8]⟩ : ByteArray) (((a0 / 65536) / 256) % 256)))))) else (none)) else (none)) else (if 0 ≤ ((a0 / 65536) % 256) then (if ((a0 / 65536) % 256) < 256 then (some (wrap64 (16 + (wrap64 (bt (⟨#[0, 1, 2, 2, 3, 3, 3, 3, 4, 4, 4, 4, 4, 4, 4, 4, 5, 5, 5, 5, 5, 5, 5, 5, 5, 5, 5, 5, 5, 5, 5, 5, 6, 6, 6, 6, 6, 6, 6, 6, 6, 6, 6, 6, 6, 6, 6, 6, 6, 6, 6, 6, 6, 6, 6, 6, 6, 6, 6, 6, 6, 6, 6, 6, 7, 7, 7, 7, 7, 7, 7, 7, 7, 7, 7, 7, 7, 7, 7, 7, 7, 7, 7, 7, 7, 7, 7, 7, 7, 7, 7, 7, 7, 7, 7, 7, 7, 7, 7, 7, 7, 7, 7, 7, 7, 7, 7, 7, 7, 7, 7, 7, 7, 7, 7, 7, 7, 7, 7, 7, 7, 7, 7, 7, 7, 7, 7, 7, 8, 8, 8, 8, 8, 8, 8, 8, 8, 8, 8, 8, 8, 8, 8, 8, 8, 8, 8, 8, 8, 8, 8, 8, 8, 8, 8, 8, 8, 8, 8, 8, 8, 8, 8, 8, 8, 8, 8, 8, 8, 8, 8, 8, 8, 8, 8, 8, 8, 8, 8, 8, 8, 8, 8, 8, 8, 8, 8, 8, 8, 8, 8, 8, 8, 8, 8, 8, 8, 8, 8, 8, 8, 8, 8, 8, 8, 8, 8, 8, 8, 8, 8, 8, 8, 8, 8, 8, 8, 8, 8, 8, 8, 8, 8, 8, 8, 8, 8, 8, 8, 8, 8, 8, 8, 8, 8, 8, 8, 8, 8, 8, 8, 8, 8, 8, 8, 8, 8, 8, 8, 8, 8, 8, 8, 8, 8, 8]⟩ : ByteArray) ((a0 / 65536) % 256)))))) else (none)) else (none))) else (if a0 ≥ 256 then (if 0 ≤ ((a0 / 256) % 256) then (if ((a0 / 256) % 256) < 256 then (some (wrap64 ((0 + 8) + (wrap64 (bt (⟨#[0, 1, 2, 2, 3, 3, 3, 3, 4, 4, 4, 4, 4, 4, 4, 4, 5, 5, 5, 5, 5, 5, 5, 5, 5, 5, 5, 5, 5, 5, 5, 5, 6, 6, 6, 6, 6, 6, 6, 6, 6, 6, 6, 6, 6, 6, 6, 6, 6, 6, 6, 6, 6, 6, 6, 6, 6, 6, 6, 6, 6, 6, 6, 6, 7, 7, 7, 7, 7, 7, 7, 7, 7, 7, 7, 7, 7, 7, 7, 7, 7, 7, 7, 7, 7, 7, 7, 7, 7, 7, 7, 7, 7, 7, 7, 7, 7, 7, 7, 7, 7, 7, 7, 7, 7, 7, 7, 7, 7, 7, 7, 7, 7, 7, 7, 7, 7, 7, 7, 7, 7, 7, 7, 7, 7, 7, 7, 7, 8, 8, 8, 8, 8, 8, 8, 8, 8, 8, 8, 8, 8, 8, 8, 8, 8, 8, 8, 8, 8, 8, 8, 8, 8, 8, 8, 8, 8, 8, 8, 8, 8, 8, 8, 8, 8, 8, 8, 8, 8, 8, 8, 8, 8, 8, 8, 8, 8, 8, 8, 8, 8, 8, 8, 8, 8, 8, 8, 8, 8, 8, 8, 8, 8, 8, 8, 8, 8, 8, 8, 8, 8, 8, 8, 8, 8, 8, 8, 8, 8, 8, 8, 8, 8, 8, 8, 8, 8, 8, 8, 8, 8, 8, 8, 8, 8, 8, 8, 8, 8, 8, 8, 8, 8, 8, 8, 8, 8, 8, 8, 8, 8, 8, 8, 8, 8, 8, 8, 8, 8, 8, 8, 8, 8, 8, 8, 8]⟩ : ByteArray) ((a0 / 256) % 256)))))) else (none)) else (none)) else (if 0 ≤ ((a0) % 256) then (if ((a0) % 256) < 256 then (some (wrap64 (0 + (wrap64 (bt (⟨#[0, 1, 2, 2, 3, 3, 3, 3, 4, 4, 4, 4, 4, 4, 4, 4, 5, 5, 5, 5, 5, 5, 5, 5, 5, 5, 5, 5, 5, 5, 5, 5, 6, 6, 6, 6, 6, 6, 6, 6, 6, 6, 6, 6, 6, 6, 6, 6, 6, 6, 6, 6, 6, 6, 6, 6, 6, 6, 6, 6, 6, 6, 6, 6, 7, 7, 7, 7, 7, 7, 7, 7, 7, 7, 7, 7, 7, 7, 7, 7, 7, 7, 7, 7, 7, 7, 7, 7, 7, 7, 7, 7, 7, 7, 7, 7, 7, 7, 7, 7, 7, 7, 7, 7, 7, 7, 7, 7, 7, 7, 7, 7, 7, 7, 7, 7, 7, 7, 7, 7, 7, 7, 7, 7, 7, 7, 7, 7, 8, 8, 8, 8, 8, 8, 8, 8, 8, 8, 8, 8, 8, 8, 8, 8, 8, 8, 8, 8, 8, 8, 8, 8, 8, 8, 8, 8, 8, 8, 8, 8, 8, 8, 8, 8, 8, 8, 8, 8, 8, 8, 8, 8, 8, 8, 8, 8, 8, 8, 8, 8, 8, 8, 8, 8, 8, 8, 8, 8, 8, 8, 8, 8, 8, 8, 8, 8, 8, 8, 8, 8, 8, 8, 8, 8, 8, 8, 8, 8, 8, 8, 8, 8, 8, 8, 8, 8, 8, 8, 8, 8, 8, 8, 8, 8, 8, 8, 8, 8, 8, 8, 8, 8, 8, 8, 8, 8, 8, 8, 8, 8, 8, 8, 8, 8, 8, 8, 8, 8, 8, 8, 8, 8, 8, 8, 8, 8]⟩ : ByteArray) ((a0) % 256)))))) else (none)) else (none)))

/-! ### nat_Len: function 48 -/
def nat_Len.f (k : Nat) (l0 : List Int) : Option (Int) := (nat_cut.f k l0).bind fun t332 => (if (t332.length : Int) = 0 then (some 0) else (if 0 ≤ (wrap64 ((t332.length : Int) - 1)) then (if (wrap64 ((t332.length : Int) - 1)) < (t332.length : Int) then ((bits_Len32.f (rd t332 (wrap64 ((t332.length : Int) - 1)))).bind fun t336 => (some (wrap64 ((wrap64 (32 * (wrap64 ((t332.length : Int) - 1)))) + t336)))) else (none)) else (none)))

/-! ### whole_Sign: function 33 -/
def whole_Sign.f (k : Nat) (a0_0 : Bool) (l0_1 : List Int) : Option (Int) := (nat_Len.f k l0_1).bind fun t338 => (if t338 = 0 then (some 0) else (if a0_0 = true then (some (-1)) else (some 1)))

/-! ### dy_within: function 34 -/
def dy_within.f (a0 : Int) : Option (Bool) := if a0 ≥ (-4194304) then (some (decide (a0 ≤ 4194304))) else (some false)


/-! ### bits_TrailingZeros32: function 49 (a text of our own) -/
/-- What the library's table holds (the row lists it). -/
def tz32tab : List Int := [0, 1, 28, 2, 29, 14, 24, 3, 30, 22, 20, 15, 25, 17, 4, 8, 31, 27, 13, 23, 21, 19, 16, 7, 26, 12, 18, 6, 11, 5, 10, 9]
def tz32ix (a0 : Int) : Int := Go.bits .and .u32 a0 (-a0 % 4294967296) * 125613361 % 4294967296 / 134217728
def bits_TrailingZeros32.f (a0 : Int) : Option Int := if a0 = 0 then some 32 else if 0 ≤ tz32ix a0 ∧ tz32ix a0 < 32 then some (wrap64 (tz32tab.getD (tz32ix a0).toNat 0)) else none
theorem tz32_at {w : World} (h : Kd.C (Kd.int .u8) w (some ⟨0, 0, none⟩) 32 tz32tab) (i : Nat) (hi : i < 32) : w.cell? ⟨0, i, none⟩ = some (.int .u8 (tz32tab.getD i 0)) := by
  obtain ⟨ad, he, hc⟩ := h.2.2 (by decide)
  obtain rfl := Option.some.inj he
  have hl : tz32tab[i]? = some (tz32tab.getD i 0) := by
    rw [List.getD_eq_getElem?_getD, List.getElem?_eq_getElem (show i < tz32tab.length from hi)]; rfl
  obtain ⟨c, hs, hr, hcell⟩ := hc i _ hl
  have hc1 : c = [.int .u8 (tz32tab.getD i 0)] := hr
  subst hc1
  have := hcell 0 _ rfl
  by_cases hz : i = 0
  · subst hz; simpa [Addr.add, Kd.int, Kd.scalar] using this
  · simpa [Addr.add, Kd.int, Kd.scalar, hz] using this
theorem bits_TrailingZeros32.calls (a0 : Int) (r : Int) (w : World) (h : bits_TrailingZeros32.f a0 = some r) (htab_ : Kd.C (Kd.int .u8) w (some ⟨0, 0, none⟩) 32 tz32tab) :
    Calls Tryd.prog 49 #[.int .u32 a0] w fun e w' => e = .returned (.int .i64 r) ∧ Drawn0 w w' := by
  by_cases c0 : a0 = 0
  · have e0 : (some 32 : Option Int) = some r := by simpa [bits_TrailingZeros32.f, c0] using h
    obtain rfl := Option.some.inj e0
    subst c0
    clear h htab_
    go_enter Tryd.func49, Tryd.ntmps49
    go_wp2
    go_ret
    exact ⟨rfl, by repeat (first | exact Drawn0.refl _ | apply Drawn0.step)⟩
  · unfold bits_TrailingZeros32.f at h
    rw [if_neg c0] at h
    by_cases hq : 0 ≤ tz32ix a0 ∧ tz32ix a0 < 32
    · rw [if_pos hq] at h
      obtain rfl := Option.some.inj h
      have hc := tz32_at htab_ (tz32ix a0).toNat (by omega)
      have hcb : (a0 == 0) = false := beq_eq_false_iff_ne.mpr c0
      obtain ⟨h0, h1⟩ := hq
      clear h htab_ c0
      generalize hr : tz32tab.getD (tz32ix a0).toNat 0 = r at hc ⊢
      clear hr
      unfold tz32ix at hc h0 h1
      replace h0 := eq_true h0
      replace h1 := eq_true h1
      go_enter Tryd.func49, Tryd.ntmps49
      go_wp2
      go_ret
      exact ⟨rfl, by repeat (first | exact Drawn0.refl _ | apply Drawn0.step)⟩
    · rw [if_neg hq] at h; exact absurd h (by simp)

/-! ### dy_trailing: function 35 -/
def dy_trailing.l0 : Nat → Int → List Int → Int → Int → Option (Int)
  | 0, _, _, _, _ => none
  | k + 1, x3, x6, x7, x8 => if x8 < x7 then (if 0 ≤ x8 then (if x8 < (x6.length : Int) then (if (rd x6 x8) = 0 then (dy_trailing.l0 k (wrap64 (x3 + 32)) x6 x7 (wrap64 (x8 + 1))) else ((bits_TrailingZeros32.f (rd x6 x8)).bind fun t340 => (some (wrap64 (x3 + t340))))) else (none)) else (none)) else (some x3)
def dy_trailing.f (k : Nat) (l0 : List Int) : Option (Int) := dy_trailing.l0 k 0 l0 (l0.length : Int) 0

/-! ### nat_Shr: function 36 -/
def nat_Shr.l0 : Nat → List Int → Int → Int → List Int → Int → Int → Option (List Int)
  | 0, _, _, _, _, _, _ => none
  | k + 1, x0, x5, x6, x7, x33, x34 => if x34 < x33 then (if 0 ≤ (wrap64 (x34 + x5)) then (if (wrap64 (x34 + x5)) < (x0.length : Int) then (if (wrap64 ((wrap64 (x34 + x5)) + 1)) < (x0.length : Int) then (if 0 ≤ (wrap64 ((wrap64 (x34 + x5)) + 1)) then (if 0 ≤ x6 then (if 0 ≤ x34 then (if x34 < (x7.length : Int) then (nat_Shr.l0 k x0 x5 x6 (x7.set (x34 : Int).toNat ((shr .u64 (Go.bits .or .u64 (IntKind.u64.wrap (rd x0 (wrap64 (x34 + x5)))) (IntKind.u64.wrap ((IntKind.u64.wrap (rd x0 (wrap64 ((wrap64 (x34 + x5)) + 1)))) * 4294967296))) x6) % 4294967296)) x33 (wrap64 (x34 + 1))) else (none)) else (none)) else (none)) else (none)) else (if 0 ≤ x6 then (if 0 ≤ x34 then (if x34 < (x7.length : Int) then (nat_Shr.l0 k x0 x5 x6 (x7.set (x34 : Int).toNat ((shr .u64 (IntKind.u64.wrap (rd x0 (wrap64 (x34 + x5)))) x6) % 4294967296)) x33 (wrap64 (x34 + 1))) else (none)) else (none)) else (none))) else (none)) else (none)) else ((nat_cut_own.f k x7).bind fun t354 => (some t354))
def nat_Shr.f (k : Nat) (l0 : List Int) (a1 : Int) : Option (List Int) := (nat_cut.f k l0).bind fun t341 => (if a1 < 1 then ((slices_Clone_uint32_uint32.f t341).bind fun t344 => (some t344)) else (if a1 ≥ (wrap64 (32 * (t341.length : Int))) then (some ([] : List Int)) else (if 0 ≤ (wrap64 ((t341.length : Int) - (wrap64 (Int.tdiv a1 32)))) then (if (wrap64 ((t341.length : Int) - (wrap64 (Int.tdiv a1 32))) : Int).toNat ≤ 70368744177664 then ((some (List.replicate (wrap64 ((t341.length : Int) - (wrap64 (Int.tdiv a1 32))) : Int).toNat 0 : List Int)).bind fun y347 => (nat_Shr.l0 k t341 (wrap64 (Int.tdiv a1 32)) (Int.tmod a1 32) y347 (y347.length : Int) 0)) else (none)) else (none))))

/-! ### dy_Make: function 16 -/
def dy_Make.j0 : Nat → Int → Bool → Bool → List Int → Option (Bool × List Int × Int)
  | 0, _, _, _, _ => none
  | k + 1, x1, x13, x358000, x358001 => if x13 = true then (some (false, ([] : List Int), 0)) else ((dy_trailing.f k x358001).bind fun t361 => ((dy_within.f (wrap64 (x1 + t361))).bind fun t362 => (if t362 = true then ((nat_Shr.f k x358001 t361).bind fun t363 => ((whole_Make.f k x358000 t363).bind fun bt366 => (some (bt366.1, bt366.2, wrap64 (x1 + t361))))) else (some (false, ([] : List Int), 0)))))
def dy_Make.f (k : Nat) (a0_0 : Bool) (l0_1 : List Int) (a1 : Int) : Option (Bool × List Int × Int) := (whole_Sign.f k a0_0 l0_1).bind fun t359 => (if t359 = 0 then (dy_Make.j0 k a1 true a0_0 l0_1) else ((dy_within.f a1).bind fun t360 => (dy_Make.j0 k a1 (!t360) a0_0 l0_1)))
def dy_Make.T6 : Bool × List (List Nat × List Nat) := (true, [([], []), ([0], [0]), ([], []), ([2], [2]), ([], []), ([3, 4], [3, 4]), ([1, 5, 5], [1, 5]), ([], []), ([], []), ([7, 8], [7, 8]), ([6, 9], [6, 9]), ([10, 6, 0, 1, 2, 3, 4, 5, 6, 7, 8, 9, 10], [10])])
def dy_Make.B6 : List Nat := [0, 1, 0, 4, 0, 28, 63, 0, 0, 384, 1023, 2047]

/-! ### num_Exact: function 6 -/
def num_Exact.j0 : Nat → Bool → Int → Bool → Int → Int → Option (Bool × List Int × Int × Bool)
  | 0, _, _, _, _, _ => none
  | k + 1, x11, x371000, x371001, x371002, x371003 => if x11 = true then (some (false, ([] : List Int), 0, false)) else ((whole_Make.f k x371001 (([(x371002) % 4294967296, (x371002 / 4294967296) % 4294967296] : List Int))).bind fun bt376 => ((dy_Make.f k bt376.1 bt376.2 x371003).bind fun bt380 => (some (bt380.1, bt380.2.1, bt380.2.2, true))))
def num_Exact.f (k : Nat) (a0_0 : Int) (a0_1 : Bool) (a0_2 : Int) (a0_3 : Int) : Option (Bool × List Int × Int × Bool) := (num_May.f a0_0 a0_1 a0_2 a0_3).bind fun t372 => (if t372 = true then (num_Exact.j0 k (a0_0 == 2) a0_0 a0_1 a0_2 a0_3) else (num_Exact.j0 k true a0_0 a0_1 a0_2 a0_3))
def num_Exact.T3 : Bool × List (List Nat × List Nat) := (true, [([], []), ([0], [0]), ([], []), ([2], [2]), ([3], [3]), ([], []), ([5], [5]), ([6], [6]), ([7], [7]), ([4, 8], [4, 8]), ([1, 9], [1, 9]), ([], []), ([11], [11]), ([10, 12, 10], [10, 12]), ([13, 13, 0, 1, 2, 3, 4, 5, 6, 7, 8, 9, 10, 11, 12, 13], [13]), ([14, 0, 1, 2, 3, 4, 5, 6, 7, 8, 9, 10, 11, 12, 13, 14], [])])
def num_Exact.B3 : List Nat := [0, 1, 0, 4, 12, 0, 32, 96, 224, 508, 1023, 0, 2048, 8191, 16383, 32767]

/-! ### nat_Shl: function 38 -/
def nat_Shl.l0 : Nat → Int → Int → List Int → List Int → Int → Int → Option (List Int)
  | 0, _, _, _, _, _, _ => none
  | k + 1, x5, x6, x7, x36, x37, x38 => if x38 < x37 then (if 0 ≤ x38 then (if x38 < (x36.length : Int) then (if 0 ≤ x6 then (if 0 ≤ (wrap64 (x38 + x5)) then (if (wrap64 (x38 + x5)) < (x7.length : Int) then ((some (x7.set ((wrap64 (x38 + x5)) : Int).toNat (Go.bits .or .u32 (rd x7 (wrap64 (x38 + x5))) ((shl .u64 (IntKind.u64.wrap (rd x36 x38)) x6) % 4294967296)) : List Int)).bind fun y396 => (if 0 ≤ (wrap64 ((wrap64 (x38 + x5)) + 1)) then (if (wrap64 ((wrap64 (x38 + x5)) + 1)) < (x7.length : Int) then (nat_Shl.l0 k x5 x6 (y396.set ((wrap64 ((wrap64 (x38 + x5)) + 1)) : Int).toNat (Go.bits .or .u32 (rd y396 (wrap64 ((wrap64 (x38 + x5)) + 1))) (((shl .u64 (IntKind.u64.wrap (rd x36 x38)) x6) / 4294967296) % 4294967296))) x36 x37 (wrap64 (x38 + 1))) else (none)) else (none))) else (none)) else (none)) else (none)) else (none)) else (none)) else ((nat_cut_own.f k x7).bind fun t399 => (some t399))
def nat_Shl.f (k : Nat) (l0 : List Int) (a1 : Int) : Option (List Int) := (nat_cut.f k l0).bind fun t385 => (if a1 < 1 then ((slices_Clone_uint32_uint32.f t385).bind fun t388 => (some t388)) else (if a1 > 16777216 then (some ([] : List Int)) else (if (t385.length : Int) = 0 then (some ([] : List Int)) else (if 0 ≤ (wrap64 ((wrap64 ((t385.length : Int) + (wrap64 (Int.tdiv a1 32)))) + 1)) then (if (wrap64 ((wrap64 ((t385.length : Int) + (wrap64 (Int.tdiv a1 32)))) + 1) : Int).toNat ≤ 70368744177664 then (nat_Shl.l0 k (wrap64 (Int.tdiv a1 32)) (Int.tmod a1 32) (List.replicate (wrap64 ((wrap64 ((t385.length : Int) + (wrap64 (Int.tdiv a1 32)))) + 1) : Int).toNat 0) t385 (t385.length : Int) 0) else (none)) else (none)))))

/-! ### bits_Add32: function 57 -/
def bits_Add32.f (a0 : Int) (a1 : Int) (a2 : Int) : Option (Int × Int) := some ((IntKind.u64.wrap ((IntKind.u64.wrap ((IntKind.u64.wrap (a0)) + (IntKind.u64.wrap (a1)))) + (IntKind.u64.wrap (a2)))) % 4294967296, ((IntKind.u64.wrap ((IntKind.u64.wrap ((IntKind.u64.wrap (a0)) + (IntKind.u64.wrap (a1)))) + (IntKind.u64.wrap (a2)))) / 4294967296) % 4294967296)

/-! ### nat_Add: function 52 -/
mutual
def nat_Add.l0 : Nat → List Int → List Int → List Int → Int → Int → Int → Option (List Int)
  | 0, _, _, _, _, _, _ => none
  | k + 1, x0, x1, x5, x6, x21, x22 => if x22 < x21 then (if x22 < (x1.length : Int) then (if 0 ≤ x22 then (if x22 < (x0.length : Int) then ((bits_Add32.f (rd x0 x22) (rd x1 x22) x6).bind fun bt407 => (if x22 < (x5.length : Int) then (nat_Add.l0 k x0 x1 (x5.set (x22 : Int).toNat bt407.1) bt407.2 x21 (wrap64 (x22 + 1))) else (none))) else (none)) else (none)) else (if 0 ≤ x22 then (if x22 < (x0.length : Int) then ((bits_Add32.f (rd x0 x22) 0 x6).bind fun bt411 => (if x22 < (x5.length : Int) then (nat_Add.l0 k x0 x1 (x5.set (x22 : Int).toNat bt411.1) bt411.2 x21 (wrap64 (x22 + 1))) else (none))) else (none)) else (none))) else (if 0 ≤ (x0.length : Int) then (if (x0.length : Int) < (x5.length : Int) then ((nat_cut_own.f k (x5.set ((x0.length : Int) : Int).toNat x6)).bind fun t415 => (some t415)) else (none)) else (none))
def nat_Add.l1 : Nat → List Int → List Int → List Int → Int → Int → Int → Option (List Int)
  | 0, _, _, _, _, _, _ => none
  | k + 1, x0, x1, x5, x6, x21, x22 => if x22 < x21 then (if x22 < (x1.length : Int) then (if 0 ≤ x22 then (if x22 < (x0.length : Int) then ((bits_Add32.f (rd x0 x22) (rd x1 x22) x6).bind fun bt423 => (if x22 < (x5.length : Int) then (nat_Add.l1 k x0 x1 (x5.set (x22 : Int).toNat bt423.1) bt423.2 x21 (wrap64 (x22 + 1))) else (none))) else (none)) else (none)) else (if 0 ≤ x22 then (if x22 < (x0.length : Int) then ((bits_Add32.f (rd x0 x22) 0 x6).bind fun bt427 => (if x22 < (x5.length : Int) then (nat_Add.l1 k x0 x1 (x5.set (x22 : Int).toNat bt427.1) bt427.2 x21 (wrap64 (x22 + 1))) else (none))) else (none)) else (none))) else (if 0 ≤ (x0.length : Int) then (if (x0.length : Int) < (x5.length : Int) then ((nat_cut_own.f k (x5.set ((x0.length : Int) : Int).toNat x6)).bind fun t431 => (some t431)) else (none)) else (none))
end
def nat_Add.f (k : Nat) (l0 : List Int) (l1 : List Int) : Option (List Int) := if (l0.length : Int) < (l1.length : Int) then (if 0 ≤ (wrap64 ((l1.length : Int) + 1)) then (if (wrap64 ((l1.length : Int) + 1) : Int).toNat ≤ 70368744177664 then (nat_Add.l0 k l1 l0 (List.replicate (wrap64 ((l1.length : Int) + 1) : Int).toNat 0) 0 (l1.length : Int) 0) else (none)) else (none)) else (if 0 ≤ (wrap64 ((l0.length : Int) + 1)) then (if (wrap64 ((l0.length : Int) + 1) : Int).toNat ≤ 70368744177664 then (nat_Add.l1 k l0 l1 (List.replicate (wrap64 ((l0.length : Int) + 1) : Int).toNat 0) 0 (l0.length : Int) 0) else (none)) else (none))

/-! ### nat_Cmp: function 58 -/
def nat_Cmp.l0 : Nat → List Int → List Int → Int → Int → Option (Int)
  | 0, _, _, _, _ => none
  | k + 1, x0, x1, x24, x25 => if x25 < x24 then (if 0 ≤ (wrap64 ((wrap64 ((x0.length : Int) - 1)) - x25)) then (if (wrap64 ((wrap64 ((x0.length : Int) - 1)) - x25)) < (x0.length : Int) then (if (wrap64 ((wrap64 ((x0.length : Int) - 1)) - x25)) < (x1.length : Int) then (if (rd x0 (wrap64 ((wrap64 ((x0.length : Int) - 1)) - x25))) < (rd x1 (wrap64 ((wrap64 ((x0.length : Int) - 1)) - x25))) then (some (-1)) else (if (rd x0 (wrap64 ((wrap64 ((x0.length : Int) - 1)) - x25))) > (rd x1 (wrap64 ((wrap64 ((x0.length : Int) - 1)) - x25))) then (some 1) else (nat_Cmp.l0 k x0 x1 x24 (wrap64 (x25 + 1))))) else (none)) else (none)) else (none)) else (some 0)
def nat_Cmp.f (k : Nat) (l0 : List Int) (l1 : List Int) : Option (Int) := (nat_cut.f k l0).bind fun t434 => ((nat_cut.f k l1).bind fun t437 => (if (t434.length : Int) < (t437.length : Int) then (some (-1)) else (if (t434.length : Int) > (t437.length : Int) then (some 1) else (nat_Cmp.l0 k t434 t437 (t434.length : Int) 0))))

/-! ### bits_Sub32: function 59 -/
def bits_Sub32.f (a0 : Int) (a1 : Int) (a2 : Int) : Option (Int × Int) := some ((((a0 - a1) % 4294967296) - a2) % 4294967296, (Go.bits .or .u32 (Go.bits .and .u32 (Go.bits .xor .u32 4294967295 a0) a1) (Go.bits .and .u32 (Go.bits .xor .u32 4294967295 (Go.bits .xor .u32 a0 a1)) ((((a0 - a1) % 4294967296) - a2) % 4294967296))) / 2147483648)

/-! ### nat_Sub: function 53 -/
def nat_Sub.l0 : Nat → List Int → List Int → List Int → Int → Int → Int → Option (List Int × Bool)
  | 0, _, _, _, _, _, _ => none
  | k + 1, x0, x1, x6, x7, x22, x23 => if x23 < x22 then (if x23 < (x1.length : Int) then (if 0 ≤ x23 then (if x23 < (x0.length : Int) then ((bits_Sub32.f (rd x0 x23) (rd x1 x23) x7).bind fun bt456 => (if x23 < (x6.length : Int) then (nat_Sub.l0 k x0 x1 (x6.set (x23 : Int).toNat bt456.1) bt456.2 x22 (wrap64 (x23 + 1))) else (none))) else (none)) else (none)) else (if 0 ≤ x23 then (if x23 < (x0.length : Int) then ((bits_Sub32.f (rd x0 x23) 0 x7).bind fun bt460 => (if x23 < (x6.length : Int) then (nat_Sub.l0 k x0 x1 (x6.set (x23 : Int).toNat bt460.1) bt460.2 x22 (wrap64 (x23 + 1))) else (none))) else (none)) else (none))) else ((nat_cut_own.f k x6).bind fun t463 => (some (t463, true)))
def nat_Sub.f (k : Nat) (l0 : List Int) (l1 : List Int) : Option (List Int × Bool) := (nat_cut.f k l0).bind fun t444 => ((nat_cut.f k l1).bind fun t447 => ((nat_Cmp.f k t444 t447).bind fun t450 => (if t450 < 0 then (some (([] : List Int), false)) else (if 0 ≤ (t444.length : Int) then (if ((t444.length : Int) : Int).toNat ≤ 70368744177664 then (nat_Sub.l0 k t444 t447 (List.replicate ((t444.length : Int) : Int).toNat 0) 0 (t444.length : Int) 0) else (none)) else (none)))))

/-! ### whole_Add: function 39 -/
def whole_Add.f (k : Nat) (a0_0 : Bool) (l0_1 : List Int) (a1_0 : Bool) (l1_1 : List Int) : Option (Bool × List Int) := if (a0_0 == a1_0) = true then ((nat_Add.f k l0_1 l1_1).bind fun t469 => ((whole_Make.f k a0_0 t469).bind fun bt472 => (some (bt472.1, bt472.2)))) else ((nat_Sub.f k l0_1 l1_1).bind fun bt476 => (if bt476.2 = true then ((whole_Make.f k a0_0 bt476.1).bind fun bt480 => (some (bt480.1, bt480.2))) else ((nat_Sub.f k l1_1 l0_1).bind fun bt484 => ((whole_Make.f k a1_0 bt484.1).bind fun bt488 => (some (bt488.1, bt488.2))))))
def whole_Add.T2 : Bool × List (List Nat × List Nat) := (true, [([], []), ([0], [0]), ([], []), ([2], [2]), ([], []), ([4], [4]), ([3, 5], [3, 5]), ([1, 6, 6], [1, 6]), ([7, 7, 0, 1, 2, 3, 4, 5, 6, 7], [7])])
def whole_Add.B2 : List Nat := [0, 1, 0, 4, 0, 16, 60, 127, 255]

/-! ### dy_add: function 18 -/
def dy_add.f (k : Nat) (a0_0 : Bool) (l0_1 : List Int) (a0_2 : Int) (a1_0 : Bool) (l1_1 : List Int) (a1_2 : Int) : Option (Bool × List Int × Int) := if (l0_1.length : Int) = 0 then (some (a1_0, l1_1, a1_2)) else (if (l1_1.length : Int) = 0 then (some (a0_0, l0_1, a0_2)) else (if a0_2 > a1_2 then ((nat_Shl.f k l0_1 (wrap64 (a0_2 - a1_2))).bind fun t495 => ((whole_Add.f k a1_0 l1_1 a0_0 t495).bind fun bt499 => ((dy_Make.f k bt499.1 bt499.2 a1_2).bind fun bt503 => (some (bt503.1, bt503.2.1, bt503.2.2))))) else ((nat_Shl.f k l1_1 (wrap64 (a1_2 - a0_2))).bind fun t508 => ((whole_Add.f k a0_0 l0_1 a1_0 t508).bind fun bt512 => ((dy_Make.f k bt512.1 bt512.2 a0_2).bind fun bt516 => (some (bt516.1, bt516.2.1, bt516.2.2)))))))
def dy_add.T7 : Bool × List (List Nat × List Nat) := (true, [([], []), ([0], [0]), ([1], [1]), ([], []), ([3], [3]), ([4], [4]), ([], []), ([6], [6]), ([], []), ([8], [8]), ([7, 9], [7, 9]), ([5, 10], [5, 10]), ([2, 11], [2, 11]), ([], []), ([13, 12, 11, 0, 1, 2, 3, 4, 5, 6, 7, 8, 9, 10, 11, 12, 13], [12, 13])])
def dy_add.B7 : List Nat := [0, 1, 3, 0, 8, 24, 0, 64, 0, 256, 960, 2040, 4095, 0, 16383]

/-! ### whole_May: function 54 -/
def whole_May.f (a0_0 : Bool) (l0_1 : List Int) : Option (Bool) := if (l0_1.length : Int) = 0 then (some (!a0_0)) else (if 0 ≤ (wrap64 ((l0_1.length : Int) - 1)) then (if (wrap64 ((l0_1.length : Int) - 1)) < (l0_1.length : Int) then (some ((rd l0_1 (wrap64 ((l0_1.length : Int) - 1))) != 0)) else (none)) else (none))

/-! ### dy_May: function 40 -/
def dy_May.f (a0_0 : Bool) (l0_1 : List Int) (a0_2 : Int) : Option (Bool) := if (l0_1.length : Int) = 0 then (if a0_0 = true then (some false) else (some (a0_2 == 0))) else ((whole_May.f a0_0 l0_1).bind fun t524 => (if t524 = true then (if 0 < (l0_1.length : Int) then (if (Go.bits .and .u32 (rd l0_1 0) 1) = 1 then ((dy_within.f a0_2).bind fun t526 => (some t526)) else (some false)) else (none)) else (some false)))

/-! ### dy_fair: function 19 -/
def dy_fair.f (k : Nat) (a0_0 : Bool) (l0_1 : List Int) (a0_2 : Int) : Option (Bool × List Int × Int) := (dy_May.f a0_0 l0_1 a0_2).bind fun t529 => (if t529 = true then (some (a0_0, l0_1, a0_2)) else ((dy_Make.f k a0_0 l0_1 a0_2).bind fun bt530 => (some (bt530.1, bt530.2.1, bt530.2.2))))

/-! ### dy_own: function 20 -/
def dy_own.f (k : Nat) (a0_0 : Bool) (l0_1 : List Int) (a0_2 : Int) : Option (Bool × List Int × Int) := (dy_Make.f k a0_0 l0_1 a0_2).bind fun bt537 => (some (bt537.1, bt537.2.1, bt537.2.2))

/-! ### dy_Add: function 7 -/
def dy_Add.l0 : Nat → List (S31) → Int → Int → Bool → List Int → Int → Option (Bool × List Int × Int)
  | 0, _, _, _, _, _, _ => none
  | k + 1, x6, x7, x8, x544000, x544001, x544002 => if x8 < x7 then (if 0 ≤ x8 then (if x8 < (x6.length : Int) then ((dy_fair.f k ((rd_T31 x6 x8).f0.f0) ((rd_T31 x6 x8).f0.f1) ((rd_T31 x6 x8).f1)).bind fun bt546 => ((dy_add.f k x544000 x544001 x544002 bt546.1 bt546.2.1 bt546.2.2).bind fun bt551 => (dy_Add.l0 k x6 x7 (wrap64 (x8 + 1)) bt551.1 bt551.2.1 bt551.2.2))) else (none)) else (none)) else ((dy_own.f k x544000 x544001 x544002).bind fun bt556 => (some (bt556.1, bt556.2.1, bt556.2.2)))
def dy_Add.f (k : Nat) (l0 : List (S31)) : Option (Bool × List Int × Int) := dy_Add.l0 k l0 (l0.length : Int) 0 false ([] : List Int) 0

/-! ### nat_Mul: function 41 -/
mutual
def nat_Mul.l0 : Nat → List Int → List Int → List Int → Int → Int → Option (List Int)
  | 0, _, _, _, _, _ => none
  | k + 1, x1, x5, x18, x19, x20 => if x20 < x19 then (if 0 ≤ x20 then (if x20 < (x18.length : Int) then (nat_Mul.l1 k x1 x5 x20 (rd x18 x20) 0 x18 x19 x20 x1 (x1.length : Int) 0) else (none)) else (none)) else ((nat_cut_own.f k x5).bind fun t564 => (some t564))
def nat_Mul.l1 : Nat → List Int → List Int → Int → Int → Int → List Int → Int → Int → List Int → Int → Int → Option (List Int)
  | 0, _, _, _, _, _, _, _, _, _, _, _ => none
  | k + 1, x1, x5, x6, x7, x8, x18, x19, x20, x25, x26, x27 => if x27 < x26 then (if 0 ≤ x27 then (if x27 < (x25.length : Int) then (if 0 ≤ (wrap64 (x6 + x27)) then (if (wrap64 (x6 + x27)) < (x5.length : Int) then (nat_Mul.l1 k x1 (x5.set ((wrap64 (x6 + x27)) : Int).toNat ((IntKind.u64.wrap ((IntKind.u64.wrap ((IntKind.u64.wrap ((IntKind.u64.wrap (x7)) * (IntKind.u64.wrap (rd x25 x27)))) + (IntKind.u64.wrap (rd x5 (wrap64 (x6 + x27)))))) + x8)) % 4294967296)) x6 x7 ((IntKind.u64.wrap ((IntKind.u64.wrap ((IntKind.u64.wrap ((IntKind.u64.wrap (x7)) * (IntKind.u64.wrap (rd x25 x27)))) + (IntKind.u64.wrap (rd x5 (wrap64 (x6 + x27)))))) + x8)) / 4294967296) x18 x19 x20 x25 x26 (wrap64 (x27 + 1))) else (none)) else (none)) else (none)) else (none)) else (if 0 ≤ (wrap64 (x6 + (x1.length : Int))) then (if (wrap64 (x6 + (x1.length : Int))) < (x5.length : Int) then (nat_Mul.l0 k x1 (x5.set ((wrap64 (x6 + (x1.length : Int))) : Int).toNat ((x8) % 4294967296)) x18 x19 (wrap64 (x20 + 1))) else (none)) else (none))
end
def nat_Mul.f (k : Nat) (l0 : List Int) (l1 : List Int) : Option (List Int) := if 0 ≤ (wrap64 ((l0.length : Int) + (l1.length : Int))) then (if (wrap64 ((l0.length : Int) + (l1.length : Int)) : Int).toNat ≤ 70368744177664 then (nat_Mul.l0 k l1 (List.replicate (wrap64 ((l0.length : Int) + (l1.length : Int)) : Int).toNat 0) l0 (l0.length : Int) 0) else (none)) else (none)

/-! ### whole_Mul: function 21 -/
def whole_Mul.l0 : Nat → Bool → List Int → List (S29) → Int → Int → Option (Bool × List Int)
  | 0, _, _, _, _, _ => none
  | k + 1, x3, x4, x8, x9, x10 => if x10 < x9 then (if 0 ≤ x10 then (if x10 < (x8.length : Int) then ((nat_Mul.f k x4 ((rd_T29 x8 x10).f1)).bind fun t578 => (whole_Mul.l0 k (x3 != ((rd_T29 x8 x10).f0)) t578 x8 x9 (wrap64 (x10 + 1)))) else (none)) else (none)) else ((whole_Make.f k x3 x4).bind fun bt581 => (some (bt581.1, bt581.2)))
def whole_Mul.f (k : Nat) (l0 : List (S29)) : Option (Bool × List Int) := whole_Mul.l0 k false (([1] : List Int)) l0 (l0.length : Int) 0
def whole_Mul.T5 : Bool × List (List Nat × List Nat) := (true, [([], []), ([], []), ([1], [1]), ([0, 2], [0, 2]), ([], []), ([], []), ([5], [5]), ([4, 6], [4, 6]), ([3, 7, 0, 1, 2, 3], [0, 3]), ([7, 8, 0, 1, 2, 3, 4, 5, 6, 7, 8], [4, 7])])
def whole_Mul.B5 : List Nat := [0, 0, 2, 7, 0, 0, 32, 112, 255, 511]

/-! ### dy_Mul: function 8 -/
def dy_Mul.f (k : Nat) (a0_0 : Bool) (l0_1 : List Int) (a0_2 : Int) (a1_0 : Bool) (l1_1 : List Int) (a1_2 : Int) : Option (Bool × List Int × Int) := (dy_fair.f k a0_0 l0_1 a0_2).bind fun bt588 => ((dy_fair.f k a1_0 l1_1 a1_2).bind fun bt593 => ((whole_Mul.f k (([(⟨bt588.1, bt588.2.1⟩ : S29), (⟨bt593.1, bt593.2.1⟩ : S29)] : List (S29)))).bind fun bt601 => ((dy_Make.f k bt601.1 bt601.2 (wrap64 (bt588.2.2 + bt593.2.2))).bind fun bt605 => (some (bt605.1, bt605.2.1, bt605.2.2)))))
def dy_Mul.T2 : Bool × List (List Nat × List Nat) := (true, [([], []), ([0], [0]), ([], []), ([2], [2]), ([1, 3], [1, 3]), ([4], [4]), ([], []), ([6], [6]), ([], []), ([8], [8]), ([7, 9], [7, 9]), ([5, 10, 5], [5, 10]), ([11, 11, 0, 1, 2, 3, 4, 5, 6, 7, 8, 9, 10, 11], [11])])
def dy_Mul.B2 : List Nat := [0, 1, 0, 4, 15, 31, 0, 64, 0, 256, 960, 2047, 4095]

/-! ### dy_Sign: function 42 -/
def dy_Sign.f (k : Nat) (a0_0 : Bool) (l0_1 : List Int) (a0_2 : Int) : Option (Int) := (dy_fair.f k a0_0 l0_1 a0_2).bind fun bt611 => ((whole_Sign.f k bt611.1 bt611.2.1).bind fun t616 => (some t616))

/-! ### whole_Neg: function 60 -/
def whole_Neg.f (k : Nat) (a0_0 : Bool) (l0_1 : List Int) : Option (Bool × List Int) := (whole_Make.f k (!a0_0) l0_1).bind fun bt619 => (some (bt619.1, bt619.2))

/-! ### dy_Neg: function 55 -/
def dy_Neg.f (k : Nat) (a0_0 : Bool) (l0_1 : List Int) (a0_2 : Int) : Option (Bool × List Int × Int) := (whole_Neg.f k a0_0 l0_1).bind fun bt625 => ((dy_Make.f k bt625.1 bt625.2 a0_2).bind fun bt629 => (some (bt629.1, bt629.2.1, bt629.2.2)))

/-! ### dy_Sub: function 43 -/
def dy_Sub.f (k : Nat) (a0_0 : Bool) (l0_1 : List Int) (a0_2 : Int) (a1_0 : Bool) (l1_1 : List Int) (a1_2 : Int) : Option (Bool × List Int × Int) := (dy_Neg.f k a1_0 l1_1 a1_2).bind fun bt637 => ((dy_Add.f k (([(⟨(⟨a0_0, l0_1⟩ : S29), a0_2⟩ : S31), (⟨(⟨bt637.1, bt637.2.1⟩ : S29), bt637.2.2⟩ : S31)] : List (S31)))).bind fun bt645 => (some (bt645.1, bt645.2.1, bt645.2.2)))

/-! ### dy_Cmp: function 22 -/
def dy_Cmp.f (k : Nat) (a0_0 : Bool) (l0_1 : List Int) (a0_2 : Int) (a1_0 : Bool) (l1_1 : List Int) (a1_2 : Int) : Option (Int) := (dy_Sub.f k a0_0 l0_1 a0_2 a1_0 l1_1 a1_2).bind fun bt652 => ((dy_Sign.f k bt652.1 bt652.2.1 bt652.2.2).bind fun t657 => (some t657))

/-! ### peloruslaw06_holds: function 9 -/
def peloruslaw06_holds.j0 : Nat → Bool → Bool → List Int → Int → Int → Bool → Int → Int → Int → Bool → Int → Int → Bool → List Int → Int → Bool → List Int → Int → Option (Bool)
  | 0, _, _, _, _, _, _, _, _, _, _, _, _, _, _, _, _, _, _ => none
  | k + 1, x38, x659000, x659001, x659002, x660000, x660001, x660002, x660003, x661000, x661001, x661002, x661003, x668000, x668001, x668002, x675000, x675001, x675002 => if x38 = true then (some false) else (if (x660000 == x661000 && (x660001 == x661001 && (x660002 == x661002 && (x660003 == x661003)))) = true then (some true) else ((num_Next.f k x660000 x660001 x660002 x660003 true).bind fun bt677 => (if (bt677.1 == x661000 && (bt677.2.1 == x661001 && (bt677.2.2.1 == x661002 && (bt677.2.2.2 == x661003)))) = true then ((dy_Cmp.f k x668000 x668001 x668002 x659000 x659001 x659002).bind fun t681 => (if t681 < 0 then ((dy_Cmp.f k x659000 x659001 x659002 x675000 x675001 x675002).bind fun t682 => (some (decide (t682 < 0)))) else (some false))) else (some false))))
def peloruslaw06_holds.f (k : Nat) (a0_0 : Bool) (l0_1 : List Int) (a0_2 : Int) (a1_0 : Int) (a1_1 : Bool) (a1_2 : Int) (a1_3 : Int) (a2_0 : Int) (a2_1 : Bool) (a2_2 : Int) (a2_3 : Int) : Option (Bool) := (num_Exact.f k a1_0 a1_1 a1_2 a1_3).bind fun bt661 => ((num_Exact.f k a2_0 a2_1 a2_2 a2_3).bind fun bt668 => (if bt661.2.2.2 = true then (if bt668.2.2.2 = true then ((dy_Cmp.f k bt661.1 bt661.2.1 bt661.2.2.1 a0_0 l0_1 a0_2).bind fun t675 => (if t675 > 0 then (peloruslaw06_holds.j0 k true a0_0 l0_1 a0_2 a1_0 a1_1 a1_2 a1_3 a2_0 a2_1 a2_2 a2_3 bt661.1 bt661.2.1 bt661.2.2.1 bt668.1 bt668.2.1 bt668.2.2.1) else ((dy_Cmp.f k bt668.1 bt668.2.1 bt668.2.2.1 a0_0 l0_1 a0_2).bind fun t676 => (peloruslaw06_holds.j0 k (decide (t676 < 0)) a0_0 l0_1 a0_2 a1_0 a1_1 a1_2 a1_3 a2_0 a2_1 a2_2 a2_3 bt661.1 bt661.2.1 bt661.2.2.1 bt668.1 bt668.2.1 bt668.2.2.1)))) else (peloruslaw06_holds.j0 k true a0_0 l0_1 a0_2 a1_0 a1_1 a1_2 a1_3 a2_0 a2_1 a2_2 a2_3 bt661.1 bt661.2.1 bt661.2.2.1 bt668.1 bt668.2.1 bt668.2.2.1)) else (peloruslaw06_holds.j0 k true a0_0 l0_1 a0_2 a1_0 a1_1 a1_2 a1_3 a2_0 a2_1 a2_2 a2_3 bt661.1 bt661.2.1 bt661.2.2.1 bt668.1 bt668.2.1 bt668.2.2.1)))
def peloruslaw06_holds.T5 : Bool × List (List Nat × List Nat) := (true, [([], []), ([], []), ([0, 1], [0, 1]), ([2], [2]), ([3], [3]), ([4, 3, 3], [3, 4]), ([3], [3]), ([5, 6, 3], [3, 5, 6]), ([7, 5, 3], [3, 7]), ([8], [8]), ([8], [8]), ([9, 10, 8, 8], [8, 9, 10]), ([11, 8], [8, 11]), ([8, 12, 3], [3, 8, 12]), ([13, 11, 3], [3, 13]), ([14], [14]), ([14], [14]), ([15, 16, 14, 14], [14, 15, 16]), ([17, 14], [14, 17]), ([14, 18, 3], [3, 14, 18]), ([3, 19], [3, 19]), ([20, 17, 0, 1, 2, 3, 4, 5, 6, 7, 8, 9, 10, 11, 12, 13, 14, 15, 16, 17, 18, 19, 20], [20])])
def peloruslaw06_holds.B5 : List Nat := [0, 0, 3, 7, 15, 31, 15, 127, 255, 511, 511, 2047, 4095, 8191, 16383, 32767, 32767, 131071, 262143, 524287, 1048575, 2097151]

/-! ### peloruslaw06_ArithHolds: function 3 -/
def peloruslaw06_ArithHolds.j0 : Nat → Bool → Bool → Int → Bool → Int → Int → Int → Bool → Int → Int → Bool → List Int → Int → Bool → List Int → Int → Option (Bool)
  | 0, _, _, _, _, _, _, _, _, _, _, _, _, _, _, _, _ => none
  | k + 1, x5, x48, x684000, x684001, x684002, x684003, x685000, x685001, x685002, x685003, x695000, x695001, x695002, x702000, x702001, x702002 => if x48 = true then (some x5) else ((dy_Add.f k (([(⟨(⟨x695000, x695001⟩ : S29), x695002⟩ : S31), (⟨(⟨x702000, x702001⟩ : S29), x702002⟩ : S31)] : List (S31)))).bind fun bt705 => ((dy_Mul.f k x695000 x695001 x695002 x702000 x702001 x702002).bind fun bt711 => ((arith_Add.f k x684000 x684001 x684002 x684003 x685000 x685001 x685002 x685003 false).bind fun bt717 => ((arith_Add.f k x684000 x684001 x684002 x684003 x685000 x685001 x685002 x685003 true).bind fun bt721 => ((peloruslaw06_holds.f k bt705.1 bt705.2.1 bt705.2.2 bt717.1 bt717.2.1 bt717.2.2.1 bt717.2.2.2 bt721.1 bt721.2.1 bt721.2.2.1 bt721.2.2.2).bind fun t725 => ((arith_Mul.f k x684000 x684001 x684002 x684003 x685000 x685001 x685002 x685003 false).bind fun bt726 => ((arith_Mul.f k x684000 x684001 x684002 x684003 x685000 x685001 x685002 x685003 true).bind fun bt730 => ((peloruslaw06_holds.f k bt711.1 bt711.2.1 bt711.2.2 bt726.1 bt726.2.1 bt726.2.2.1 bt726.2.2.2 bt730.1 bt730.2.1 bt730.2.2.1 bt730.2.2.2).bind fun t734 => (if t725 = true then (some t734) else (some false))))))))))
def peloruslaw06_ArithHolds.f (k : Nat) (a0_0 : Int) (a0_1 : Bool) (a0_2 : Int) (a0_3 : Int) (a1_0 : Int) (a1_1 : Bool) (a1_2 : Int) (a1_3 : Int) : Option (Bool) := (peloruslaw06_awake.f k).bind fun t685 => ((peloruslaw06_Few.f a0_0 a0_1 a0_2 a0_3).bind fun t686 => ((peloruslaw06_Few.f a1_0 a1_1 a1_2 a1_3).bind fun t687 => ((num_Exact.f k a0_0 a0_1 a0_2 a0_3).bind fun bt688 => ((num_Exact.f k a1_0 a1_1 a1_2 a1_3).bind fun bt695 => (if t685 = true then (if t686 = true then (if t687 = true then (if bt688.2.2.2 = true then (peloruslaw06_ArithHolds.j0 k t685 (!bt695.2.2.2) a0_0 a0_1 a0_2 a0_3 a1_0 a1_1 a1_2 a1_3 bt688.1 bt688.2.1 bt688.2.2.1 bt695.1 bt695.2.1 bt695.2.2.1) else (peloruslaw06_ArithHolds.j0 k t685 true a0_0 a0_1 a0_2 a0_3 a1_0 a1_1 a1_2 a1_3 bt688.1 bt688.2.1 bt688.2.2.1 bt695.1 bt695.2.1 bt695.2.2.1)) else (peloruslaw06_ArithHolds.j0 k t685 true a0_0 a0_1 a0_2 a0_3 a1_0 a1_1 a1_2 a1_3 bt688.1 bt688.2.1 bt688.2.2.1 bt695.1 bt695.2.1 bt695.2.2.1)) else (peloruslaw06_ArithHolds.j0 k t685 true a0_0 a0_1 a0_2 a0_3 a1_0 a1_1 a1_2 a1_3 bt688.1 bt688.2.1 bt688.2.2.1 bt695.1 bt695.2.1 bt695.2.2.1)) else (peloruslaw06_ArithHolds.j0 k t685 true a0_0 a0_1 a0_2 a0_3 a1_0 a1_1 a1_2 a1_3 bt688.1 bt688.2.1 bt688.2.2.1 bt695.1 bt695.2.1 bt695.2.2.1))))))
def peloruslaw06_ArithHolds.T10 : Bool × List (List Nat × List Nat) := (true, [([], []), ([], []), ([], []), ([1, 2], [1, 2]), ([], []), ([], []), ([4, 5, 3], [4, 5]), ([0, 3, 6, 6], [0, 3, 6]), ([7, 7, 0, 1, 2, 3, 4, 5, 6, 7], [7])])
def peloruslaw06_ArithHolds.B10 : List Nat := [0, 0, 0, 6, 0, 0, 62, 127, 255]
def peloruslaw06_ArithHolds.Pure : Prop := ∀ (x0 : S24) (x1 : S24), ok24 x0 → ok24 x1 → ∃ k, peloruslaw06_ArithHolds.f k x0.f0 x0.f1 x0.f2 x0.f3 x1.f0 x1.f1 x1.f2 x1.f3 = some true ∧ ∀ r, peloruslaw06_awake.f k = some r → r = true

end Go.Proofs.YthlhogcnfaiphaaDoor.PA
