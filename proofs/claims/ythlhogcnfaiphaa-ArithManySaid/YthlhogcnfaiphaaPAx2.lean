-- Laid by this work's own program; Lean checks it.
import Derived.Test.YthlhogcnfaiphaaPAx0
import Derived.Test.YthlhogcnfaiphaaPAx1
namespace Go.Proofs.Ythlhogcnfaiphaa.PA
open Go.RowKit Go.Proofs.YthlhogcnfaiphaaW.PrintWords Go.Proofs.YthlhogcnfaiphaaW.PrintLast Go.Proofs.YthlhogcnfaiphaaW.PrintMore
attribute [local go_sem] max2_int min2_int max_two min_two max_three min_three max_four min_four   -- for this text's walks alone
set_option linter.unusedVariables false
set_option linter.unusedSimpArgs false

attribute [local go_sem ↓ high] isSome_set_
attribute [local go_sem high] eqA24
/-! ### num_Infinite: function 30 -/
def num_Infinite.f (a0 : Bool) : Option (Int × Bool × Int × Int) := some (2, a0, 0, 0)

/-! ### num_May: function 18 -/
def num_May.f (a0_0 : Int) (a0_1 : Bool) (a0_2 : Int) (a0_3 : Int) : Option (Bool) := if a0_0 = 0 then (some (a0_0 == 0 && (!a0_1 && (a0_2 == 0 && (a0_3 == 0))))) else (if a0_0 = 1 then (if a0_2 ≥ 9223372036854775808 then (if a0_3 ≥ (-1048576) then (some (decide (a0_3 ≤ 1048576))) else (some false)) else (some false)) else (if a0_0 = 2 then (if a0_2 = 0 then (some (a0_3 == 0)) else (some false)) else (some false)))

/-! ### arith_fair: function 31 -/
def arith_fair.f (a0_0 : Int) (a0_1 : Bool) (a0_2 : Int) (a0_3 : Int) : Option (Int × Bool × Int × Int) := (num_May.f a0_0 a0_1 a0_2 a0_3).bind fun t105 => (if t105 = true then (some (a0_0, a0_1, a0_2, a0_3)) else (some (0, false, 0, 0)))

/-! ### num_tiny: function 45 -/
def num_tiny.f (a0 : Bool) : Option (Int × Bool × Int × Int) := some (1, a0, 9223372036854775808, (-1048576))

/-! ### num_huge: function 46 -/
def num_huge.f (a0 : Bool) : Option (Int × Bool × Int × Int) := some (1, a0, 18446744073709551615, 1048576)

/-! ### num_Bound: function 47 -/
mutual
def num_Bound.j0 : Nat → Bool → Int → Int → Bool → Bool → Option (Int × Bool × Int × Int)
  | 0, _, _, _, _, _ => none
  | k + 1, x0, x1, x2, x3, x9 => if x9 = true then ((num_Infinite.f x0).bind fun bt109 => (some (bt109.1, bt109.2.1, bt109.2.2.1, bt109.2.2.2))) else (if x2 > 1048576 then ((num_huge.f x0).bind fun bt113 => (some (bt113.1, bt113.2.1, bt113.2.2.1, bt113.2.2.2))) else (if x2 < (-1048576) then (num_Bound.j1 k x0 x1 x2 x3) else (num_Bound.j1 k x0 x1 x2 false)))
def num_Bound.j1 : Nat → Bool → Int → Int → Bool → Option (Int × Bool × Int × Int)
  | 0, _, _, _, _ => none
  | k + 1, x0, x1, x2, x22 => if x22 = true then ((num_tiny.f x0).bind fun bt117 => (some (bt117.1, bt117.2.1, bt117.2.2.1, bt117.2.2.2))) else (if x2 < (-1048576) then (some (0, false, 0, 0)) else (some (1, x0, x1, x2)))
end
def num_Bound.f (k : Nat) (a0 : Bool) (a1 : Int) (a2 : Int) (a3 : Bool) : Option (Int × Bool × Int × Int) := if a2 > 1048576 then (num_Bound.j0 k a0 a1 a2 a3 a3) else (num_Bound.j0 k a0 a1 a2 a3 false)

/-! ### num_Grow: function 36 -/
def num_Grow.j0 : Nat → Bool → Int → Int → Bool → Bool → Option (Int × Bool × Int × Int)
  | 0, _, _, _, _, _ => none
  | k + 1, x0, x1, x2, x4, x14 => if x14 = true then (if (IntKind.u64.wrap (x1 + 1)) = 0 then ((num_Bound.f k x0 9223372036854775808 (wrap64 (x2 + 1)) x4).bind fun bt122 => (some (bt122.1, bt122.2.1, bt122.2.2.1, bt122.2.2.2))) else ((num_Bound.f k x0 (IntKind.u64.wrap (x1 + 1)) x2 x4).bind fun bt126 => (some (bt126.1, bt126.2.1, bt126.2.2.1, bt126.2.2.2)))) else ((num_Bound.f k x0 x1 x2 x4).bind fun bt130 => (some (bt130.1, bt130.2.1, bt130.2.2.1, bt130.2.2.2)))
def num_Grow.f (k : Nat) (a0 : Bool) (a1 : Int) (a2 : Int) (a3 : Bool) (a4 : Bool) : Option (Int × Bool × Int × Int) := if a3 = true then (num_Grow.j0 k a0 a1 a2 a4 a4) else (num_Grow.j0 k a0 a1 a2 a4 false)

/-! ### arith_lower: function 50 -/
def arith_lower.f (a0 : Int) (a1 : Int) : Option (Int × Int × Bool) := if a1 < 64 then (if 0 ≤ a1 then (if 0 ≤ (wrap64 (64 - a1)) then (some (shr .u64 a0 a1, shl .u64 a0 (wrap64 (64 - a1)), false)) else (none)) else (none)) else (if a1 < 128 then (if 0 ≤ (wrap64 (a1 - 64)) then (if 0 ≤ (wrap64 (64 - (wrap64 (a1 - 64)))) then (some (0, shr .u64 a0 (wrap64 (a1 - 64)), ((shl .u64 a0 (wrap64 (64 - (wrap64 (a1 - 64))))) != 0))) else (none)) else (none)) else (some (0, 0, true)))
def arith_lower.T2 : Bool × List (List Nat × List Nat) := (true, [([], []), ([], []), ([0, 1], [0, 1]), ([], []), ([], []), ([4], [4]), ([3, 5], [3, 5]), ([2, 6], [2, 6]), ([7, 0, 1, 2, 3, 4, 5, 6, 7], [7])])
def arith_lower.B2 : List Nat := [0, 0, 3, 0, 0, 16, 56, 127, 255]


/-! ### bits_Add64: function 51 (a text of our own) -/
def bits_Add64.f (a0 a1 a2 : Int) : Option (Int × Int) := if 0 ≤ a0 ∧ 0 ≤ a1 ∧ 0 ≤ a2 ∧ a2 ≤ 1 then some ((a0 + a1 + a2) % 18446744073709551616, (a0 + a1 + a2) / 18446744073709551616) else none
theorem bits_Add64.calls (a0 : Int) (a1 : Int) (a2 : Int) (r1 : Int) (r2 : Int) (w : World) (h : bits_Add64.f a0 a1 a2 = some (r1, r2)) :
    XCalls Try.prog 51 #[.int .u64 a0, .int .u64 a1, .int .u64 a2] w fun e w' => e = .returned (.tuple #[.int .u64 r1, .int .u64 r2]) ∧ Drawn0 w w' := by
  unfold bits_Add64.f at h
  by_cases hq : 0 ≤ a0 ∧ 0 ≤ a1 ∧ 0 ≤ a2 ∧ a2 ≤ 1
  · rw [if_pos hq] at h
    obtain ⟨rfl, rfl⟩ := Prod.mk.inj (Option.some.inj h)
    refine ⟨.tuple #[.int .u64 ((a0 + a1 + a2) % 18446744073709551616), .int .u64 ((a0 + a1 + a2) / 18446744073709551616)], ?_, rfl, Drawn0.refl _⟩
    rw [run_callFunc_extern Try.func51 (by kernel_rfl) (by kernel_rfl) (by kernel_rfl) (e := add64Entry) (by kernel_rfl), run_add64 a0 a1 a2 hq.1 hq.2.1 hq.2.2.1 hq.2.2.2]
    simp only [Result.andThen]
  · rw [if_neg hq] at h; exact absurd h (by simp)

/-! ### arith_plus: function 32 -/
def arith_plus.f (k : Nat) (a0_0 : Int) (a0_1 : Bool) (a0_2 : Int) (a0_3 : Int) (a1_0 : Int) (a1_1 : Bool) (a1_2 : Int) (a1_3 : Int) (a2 : Bool) : Option (Int × Bool × Int × Int) := (arith_lower.f a1_2 (wrap64 (a0_3 - a1_3))).bind fun bt138 => ((bits_Add64.f a0_2 bt138.1 0).bind fun bt142 => (if bt138.2.2 = true then (if bt142.2 = 0 then ((num_Grow.f k a0_1 bt142.1 a0_3 true (a2 != a0_1)).bind fun bt144 => (some (bt144.1, bt144.2.1, bt144.2.2.1, bt144.2.2.2))) else ((num_Grow.f k a0_1 (Go.bits .or .u64 (bt142.1 / 2) 9223372036854775808) (wrap64 (a0_3 + 1)) true (a2 != a0_1)).bind fun bt148 => (some (bt148.1, bt148.2.1, bt148.2.2.1, bt148.2.2.2)))) else (if bt142.2 = 0 then ((num_Grow.f k a0_1 bt142.1 a0_3 (bt138.2.1 != 0) (a2 != a0_1)).bind fun bt152 => (some (bt152.1, bt152.2.1, bt152.2.2.1, bt152.2.2.2))) else (if bt138.2.1 = 0 then ((num_Grow.f k a0_1 (Go.bits .or .u64 (bt142.1 / 2) 9223372036854775808) (wrap64 (a0_3 + 1)) ((Go.bits .and .u64 bt142.1 1) != 0) (a2 != a0_1)).bind fun bt156 => (some (bt156.1, bt156.2.1, bt156.2.2.1, bt156.2.2.2))) else ((num_Grow.f k a0_1 (Go.bits .or .u64 (bt142.1 / 2) 9223372036854775808) (wrap64 (a0_3 + 1)) true (a2 != a0_1)).bind fun bt160 => (some (bt160.1, bt160.2.1, bt160.2.2.1, bt160.2.2.2)))))))

/-! ### bits_Len64: function 67 -/
def bits_Len64.j0 : Nat → Int → Int → Option (Int)
  | 0, _, _ => none
  | k + 1, x0, x2 => if x0 ≥ 65536 then (if (x0 / 65536) ≥ 256 then (if 0 ≤ (((x0 / 65536) / 256) % 256) then (if (((x0 / 65536) / 256) % 256) < 256 then (some (wrap64 ((wrap64 ((wrap64 (x2 + 16)) + 8)) + (wrap64 (bt (⟨#[0, 1, 2, 2, 3, 3, 3, 3, 4, 4, 4, 4, 4, 4, 4, 4, 5, 5, 5, 5, 5, 5, 5, 5, 5, 5, 5, 5, 5, 5, 5, 5, 6, 6, 6, 6, 6, 6, 6, 6, 6, 6, 6, 6, 6, 6, 6, 6, 6, 6, 6, 6, 6, 6, 6, 6, 6, 6, 6, 6, 6, 6, 6, 6, 7, 7, 7, 7, 7, 7, 7, 7, 7, 7, 7, 7, 7, 7, 7, 7, 7, 7, 7, 7, 7, 7, 7, 7, 7, 7, 7, 7, 7, 7, 7, 7, 7, 7, 7, 7, 7, 7, 7, 7, 7, 7, 7, 7, 7, 7, 7, 7, 7, 7, 7, 7, 7, 7, 7, 7, 7, 7, 7, 7, 7, 7, 7, 7, 8, 8, 8, 8, 8, 8, 8, 8, 8, 8, 8, 8, 8, 8, 8, 8, 8, 8, 8, 8, 8, 8, 8, 8, 8, 8, 8, 8, 8, 8, 8, 8, 8, 8, 8, 8, 8, 8, 8, 8, 8, 8, 8, 8, 8, 8, 8, 8, 8, 8, 8, 8, 8, 8, 8, 8, 8, 8, 8, 8, 8, 8, 8, 8, 8, 8, 8, 8, 8, 8, 8, 8, 8, 8, 8, 8, 8, 8, 8, 8, 8, 8, 8, 8, 8, 8, 8, 8, 8, 8, 8, 8, 8, 8, 8, 8, 8, 8, 8, 8, 8, 8, 8, 8, 8, 8, 8, 8, 8, 8, 8, 8, 8, 8, 8, 8, 8, 8, 8, 8, 8, 8, 8, 8, 8, 8, 8, 8]⟩ : ByteArray) (((x0 / 65536) / 256) % 256)))))) else (none)) else (none)) else (if 0 ≤ ((x0 / 65536) % 256) then (if ((x0 / 65536) % 256) < 256 then (some (wrap64 ((wrap64 (x2 + 16)) + (wrap64 (bt (⟨#[0, 1, 2, 2, 3, 3, 3, 3, 4, 4, 4, 4, 4, 4, 4, 4, 5, 5, 5, 5, 5, 5, 5, 5, 5, 5, 5, 5, 5, 5, 5, 5, 6, 6, 6, 6, 6, 6, 6, 6, 6, 6, 6, 6, 6, 6, 6, 6, 6, 6, 6, 6, 6, 6, 6, 6, 6, 6, 6, 6, 6, 6, 6, 6, 7, 7, 7, 7, 7, 7, 7, 7, 7, 7, 7, 7, 7, 7, 7, 7, 7, 7, 7, 7, 7, 7, 7, 7, 7, 7, 7, 7, 7, 7, 7, 7, 7, 7, 7, 7, 7, 7, 7, 7, 7, 7, 7, 7, 7, 7, 7, 7, 7, 7, 7, 7, 7, 7, 7, 7, 7, 7, 7, 7, 7, 7, 7, 7, 8, 8, 8, 8, 8, 8, 8, 8, 8, 8, 8, 8, 8, 8, 8, 8, 8, 8, 8, 8, 8, 8, 8, 8, 8, 8, 8, 8, 8, 8, 8, 8, 8, 8, 8, 8, 8, 8, 8, 8, 8, 8, 8, 8, 8, 8, 8, 8, 8, 8, 8, 8, 8, 8, 8, 8, 8, 8, 8, 8, 8, 8, 8, 8, 8, 8, 8, 8, 8, 8, 8, 8, 8, 8, 8, 8, 8, 8, 8, 8, 8, 8, 8, 8, 8, 8, 8, 8, 8, 8, 8, 8, 8, 8, 8, 8, 8, 8, 8, 8, 8, 8, 8, 8, 8, 8, 8, 8, 8, 8, 8, 8, 8, 8, 8, 8, 8, 8, 8, 8, 8, 8, 8, 8, 8, 8, 8, 8]⟩ : ByteArray) ((x0 / 65536) % 256)))))) else (none)) else (none))) else (if x0 ≥ 256 then (if 0 ≤ ((x0 / 256) % 256) then (if ((x0 / 256) % 256) < 256 then (some (wrap64 ((wrap64 (x2 + 8)) + (wrap64 (bt (⟨#[0, 1, 2, 2, 3, 3, 3, 3, 4, 4, 4, 4, 4, 4, 4, 4, 5, 5, 5, 5, 5, 5, 5, 5, 5, 5, 5, 5, 5, 5, 5, 5, 6, 6, 6, 6, 6, 6, 6, 6, 6, 6, 6, 6, 6, 6, 6, 6, 6, 6, 6, 6, 6, 6, 6, 6, 6, 6, 6, 6, 6, 6, 6, 6, 7, 7, 7, 7, 7, 7, 7, 7, 7, 7, 7, 7, 7, 7, 7, 7, 7, 7, 7, 7, 7, 7, 7, 7, 7, 7, 7, 7, 7, 7, 7, 7, 7, 7, 7, 7, 7, 7, 7, 7, 7, 7, 7, 7, 7, 7, 7, 7, 7, 7, 7, 7, 7, 7, 7, 7, 7, 7, 7, 7, 7, 7, 7, 7, 8, 8, 8, 8, 8, 8, 8, 8, 8, 8, 8, 8, 8, 8, 8, 8, 8, 8, 8, 8, 8, 8, 8, 8, 8, 8, 8, 8, 8, 8, 8, 8, 8, 8, 8, 8, 8, 8, 8, 8, 8, 8, 8, 8, 8, 8, 8, 8, 8, 8, 8, 8, 8, 8, 8, 8, 8, 8, 8, 8, 8, 8, 8, 8, 8, 8, 8, 8, 8, 8, 8, 8, 8, 8, 8, 8, 8, 8, 8, 8, 8, 8, 8, 8, 8, 8, 8, 8, 8, 8, 8, 8, 8, 8, 8, 8, 8, 8, 8, 8, 8, 8, 8, 8, 8, 8, 8, 8, 8, 8, 8, 8, 8, 8, 8, 8, 8, 8, 8, 8, 8, 8, 8, 8, 8, 8, 8, 8]⟩ : ByteArray) ((x0 / 256) % 256)))))) else (none)) else (none)) else (if 0 ≤ ((x0) % 256) then (if ((x0) % 256) < 256 then (some (wrap64 (x2 + (wrap64 (bt (⟨#[0, 1, 2, 2, 3, 3, 3, 3, 4, 4, 4, 4, 4, 4, 4, 4, 5, 5, 5, 5, 5, 5, 5, 5, 5, 5, 5, 5, 5, 5, 5, 5, 6, 6, 6, 6, 6, 6, 6, 6, 6, 6, 6, 6, 6, 6, 6, 6, 6, 6, 6, 6, 6, 6, 6, 6, 6, 6, 6, 6, 6, 6, 6, 6, 7, 7, 7, 7, 7, 7, 7, 7, 7, 7, 7, 7, 7, 7, 7, 7, 7, 7, 7, 7, 7, 7, 7, 7, 7, 7, 7, 7, 7, 7, 7, 7, 7, 7, 7, 7, 7, 7, 7, 7, 7, 7, 7, 7, 7, 7, 7, 7, 7, 7, 7, 7, 7, 7, 7, 7, 7, 7, 7, 7, 7, 7, 7, 7, 8, 8, 8, 8, 8, 8, 8, 8, 8, 8, 8, 8, 8, 8, 8, 8, 8, 8, 8, 8, 8, 8, 8, 8, 8, 8, 8, 8, 8, 8, 8, 8, 8, 8, 8, 8, 8, 8, 8, 8, 8, 8, 8, 8, 8, 8, 8, 8, 8, 8, 8, 8, 8, 8, 8, 8, 8, 8, 8, 8, 8, 8, 8, 8, 8, 8, 8, 8, 8, 8, 8, 8, 8, 8, 8, 8, 8, 8, 8, 8, 8, 8, 8, 8, 8, 8, 8, 8, 8, 8, 8, 8, 8, 8, 8, 8, 8, 8, 8, 8, 8, 8, 8, 8, 8, 8, 8, 8, 8, 8, 8, 8, 8, 8, 8, 8, 8, 8, 8, 8, 8, 8, 8, 8, 8, 8, 8, 8]⟩ : ByteArray) ((x0) % 256)))))) else (none)) else (none)))
def bits_Len64.f (k : Nat) (a0 : Int) : Option (Int) := if a0 ≥ 4294967296 then (bits_Len64.j0 k (a0 / 4294967296) 32) else (bits_Len64.j0 k a0 0)

/-! ### bits_LeadingZeros64: function 48 -/
def bits_LeadingZeros64.f (k : Nat) (a0 : Int) : Option (Int) := (bits_Len64.f k a0).bind fun t164 => (some (wrap64 (64 - t164)))


/-! ### bits_Sub64: function 52 (a text of our own) -/
def bits_Sub64.f (a0 a1 a2 : Int) : Option (Int × Int) := if 0 ≤ a0 ∧ 0 ≤ a1 ∧ a1 < 18446744073709551616 ∧ 0 ≤ a2 ∧ a2 ≤ 1 then some ((a0 - a1 - a2) % 18446744073709551616, if a0 < a1 + a2 then 1 else 0) else none
/-- The model's entry for Sub64. -/
def bits_Sub64.entry : Array Value → Sem Value := fun args => do
  let (x, y, b) ← Extern.MathBitsCarry.three "Sub64" args
  pure (Extern.MathBitsCarry.pair ((x + Extern.MathBitsCarry.m64 - y - b) % Extern.MathBitsCarry.m64) (if x < y + b then 1 else 0))
theorem bits_Sub64.run {P : Program} (x y b : Nat) (hb : b ≤ 1) (w : World) : (bits_Sub64.entry #[.int .u64 x, .int .u64 y, .int .u64 b]).run P w =
    .ok (.tuple #[.int .u64 (((x + 18446744073709551616 - y - b) % 18446744073709551616 : Nat) : Int), .int .u64 ((if x < y + b then 1 else 0 : Nat) : Int)]) w := by
  have : b = 0 ∨ b = 1 := by omega
  rcases this with rfl | rfl <;> rfl
theorem bits_Sub64.calls (a0 : Int) (a1 : Int) (a2 : Int) (r1 : Int) (r2 : Int) (w : World) (h : bits_Sub64.f a0 a1 a2 = some (r1, r2)) :
    XCalls Try.prog 52 #[.int .u64 a0, .int .u64 a1, .int .u64 a2] w fun e w' => e = .returned (.tuple #[.int .u64 r1, .int .u64 r2]) ∧ Drawn0 w w' := by
  unfold bits_Sub64.f at h
  by_cases hq : 0 ≤ a0 ∧ 0 ≤ a1 ∧ a1 < 18446744073709551616 ∧ 0 ≤ a2 ∧ a2 ≤ 1
  · rw [if_pos hq] at h
    obtain ⟨h1, h2⟩ := Prod.mk.inj (Option.some.inj h)
    obtain ⟨q0, q1, q2, q3, q4⟩ := hq
    obtain ⟨x, rfl⟩ := Int.eq_ofNat_of_zero_le q0
    obtain ⟨y, rfl⟩ := Int.eq_ofNat_of_zero_le q1
    obtain ⟨b, rfl⟩ := Int.eq_ofNat_of_zero_le q3
    have e1 : (((x + 18446744073709551616 - y - b) % 18446744073709551616 : Nat) : Int) = r1 := by omega
    have e2 : ((if x < y + b then 1 else 0 : Nat) : Int) = r2 := by rw [← h2]; split <;> split <;> omega
    refine ⟨.tuple #[.int .u64 r1, .int .u64 r2], ?_, rfl, Drawn0.refl _⟩
    rw [run_callFunc_extern Try.func52 (by kernel_rfl) (by kernel_rfl) (by kernel_rfl) (e := bits_Sub64.entry) (by kernel_rfl), bits_Sub64.run x y b (by omega)]
    simp only [Result.andThen, e1, e2]
  · rw [if_neg hq] at h; exact absurd h (by simp)

/-! ### arith_minus: function 33 -/
mutual
def arith_minus.j0 : Nat → Bool → Int → Int → Bool → Int → Int → Int → Int → Bool → Option (Int × Bool × Int × Int)
  | 0, _, _, _, _, _, _, _, _, _ => none
  | k + 1, x2, x8, x166000, x166001, x166002, x166003, x172000, x172001, x172002 => (bits_Sub64.f 0 x172001 x8).bind fun bt172 => ((bits_Sub64.f x166002 x172000 bt172.2).bind fun bt174 => (if bt174.1 = 0 then (arith_minus.j1 k x2 0 bt172.1 (wrap64 (x166003 - 64)) x166000 x166001 x166002 x166003 x172000 x172001 x172002) else (arith_minus.j1 k x2 bt172.1 bt174.1 x166003 x166000 x166001 x166002 x166003 x172000 x172001 x172002)))
def arith_minus.j1 : Nat → Bool → Int → Int → Int → Int → Bool → Int → Int → Int → Int → Bool → Option (Int × Bool × Int × Int)
  | 0, _, _, _, _, _, _, _, _, _, _, _ => none
  | k + 1, x2, x9, x11, x13, x166000, x166001, x166002, x166003, x172000, x172001, x172002 => (bits_LeadingZeros64.f k x11).bind fun t176 => (if t176 > 0 then (if 0 ≤ t176 then (if 0 ≤ (wrap64 (64 - t176)) then (if x172002 = true then ((num_Grow.f k x166001 (Go.bits .or .u64 (shl .u64 x11 t176) (shr .u64 x9 (wrap64 (64 - t176)))) (wrap64 (x13 - t176)) true (x2 != x166001)).bind fun bt177 => (some (bt177.1, bt177.2.1, bt177.2.2.1, bt177.2.2.2))) else ((num_Grow.f k x166001 (Go.bits .or .u64 (shl .u64 x11 t176) (shr .u64 x9 (wrap64 (64 - t176)))) (wrap64 (x13 - t176)) ((shl .u64 x9 t176) != 0) (x2 != x166001)).bind fun bt181 => (some (bt181.1, bt181.2.1, bt181.2.2.1, bt181.2.2.2)))) else (none)) else (none)) else (if x172002 = true then ((num_Grow.f k x166001 x11 x13 true (x2 != x166001)).bind fun bt185 => (some (bt185.1, bt185.2.1, bt185.2.2.1, bt185.2.2.2))) else ((num_Grow.f k x166001 x11 x13 (x9 != 0) (x2 != x166001)).bind fun bt189 => (some (bt189.1, bt189.2.1, bt189.2.2.1, bt189.2.2.2)))))
end
def arith_minus.f (k : Nat) (a0_0 : Int) (a0_1 : Bool) (a0_2 : Int) (a0_3 : Int) (a1_0 : Int) (a1_1 : Bool) (a1_2 : Int) (a1_3 : Int) (a2 : Bool) : Option (Int × Bool × Int × Int) := (arith_lower.f a1_2 (wrap64 (a0_3 - a1_3))).bind fun bt168 => (if bt168.2.2 = true then (arith_minus.j0 k a2 1 a0_0 a0_1 a0_2 a0_3 bt168.1 bt168.2.1 bt168.2.2) else (arith_minus.j0 k a2 0 a0_0 a0_1 a0_2 a0_3 bt168.1 bt168.2.1 bt168.2.2))

/-! ### arith_Add: function 11 -/
mutual
def arith_Add.j0 : Nat → Bool → Bool → Int → Bool → Int → Int → Int → Bool → Int → Int → Option (Int × Bool × Int × Int)
  | 0, _, _, _, _, _, _, _, _, _, _ => none
  | k + 1, x2, x11, x194000, x194001, x194002, x194003, x195000, x195001, x195002, x195003 => if x11 = true then ((num_Infinite.f (!x2)).bind fun bt204 => (some (bt204.1, bt204.2.1, bt204.2.2.1, bt204.2.2.2))) else (if x194000 = 2 then (arith_Add.j1 k x2 true x194000 x194001 x194002 x194003 x195000 x195001 x195002 x195003) else (arith_Add.j1 k x2 (x195000 == 0) x194000 x194001 x194002 x194003 x195000 x195001 x195002 x195003))
def arith_Add.j1 : Nat → Bool → Bool → Int → Bool → Int → Int → Int → Bool → Int → Int → Option (Int × Bool × Int × Int)
  | 0, _, _, _, _, _, _, _, _, _, _ => none
  | k + 1, x2, x30, x194000, x194001, x194002, x194003, x195000, x195001, x195002, x195003 => if x30 = true then (some (x194000, x194001, x194002, x194003)) else (if x195000 = 2 then (some (x195000, x195001, x195002, x195003)) else (if x194000 = 0 then (some (x195000, x195001, x195002, x195003)) else (if x195003 > x194003 then (arith_Add.j2 k x2 true x194000 x194001 x194002 x194003 x195000 x195001 x195002 x195003) else (if x195003 = x194003 then (arith_Add.j2 k x2 (decide (x195002 > x194002)) x194000 x194001 x194002 x194003 x195000 x195001 x195002 x195003) else (arith_Add.j2 k x2 false x194000 x194001 x194002 x194003 x195000 x195001 x195002 x195003)))))
def arith_Add.j2 : Nat → Bool → Bool → Int → Bool → Int → Int → Int → Bool → Int → Int → Option (Int × Bool × Int × Int)
  | 0, _, _, _, _, _, _, _, _, _, _ => none
  | k + 1, x2, x68, x194000, x194001, x194002, x194003, x195000, x195001, x195002, x195003 => if x68 = true then (arith_Add.j3 k x2 x195000 x195001 x195002 x195003 x194000 x194001 x194002 x194003) else (arith_Add.j3 k x2 x194000 x194001 x194002 x194003 x195000 x195001 x195002 x195003)
def arith_Add.j3 : Nat → Bool → Int → Bool → Int → Int → Int → Bool → Int → Int → Option (Int × Bool × Int × Int)
  | 0, _, _, _, _, _, _, _, _, _ => none
  | k + 1, x2, x194000, x194001, x194002, x194003, x195000, x195001, x195002, x195003 => if (x194001 == x195001) = true then ((arith_plus.f k x194000 x194001 x194002 x194003 x195000 x195001 x195002 x195003 x2).bind fun bt208 => (some (bt208.1, bt208.2.1, bt208.2.2.1, bt208.2.2.2))) else (if x194003 = x195003 then (if x194002 = x195002 then (some (0, false, 0, 0)) else ((arith_minus.f k x194000 x194001 x194002 x194003 x195000 x195001 x195002 x195003 x2).bind fun bt212 => (some (bt212.1, bt212.2.1, bt212.2.2.1, bt212.2.2.2)))) else ((arith_minus.f k x194000 x194001 x194002 x194003 x195000 x195001 x195002 x195003 x2).bind fun bt216 => (some (bt216.1, bt216.2.1, bt216.2.2.1, bt216.2.2.2))))
end
def arith_Add.f (k : Nat) (a0_0 : Int) (a0_1 : Bool) (a0_2 : Int) (a0_3 : Int) (a1_0 : Int) (a1_1 : Bool) (a1_2 : Int) (a1_3 : Int) (a2 : Bool) : Option (Int × Bool × Int × Int) := (arith_fair.f a0_0 a0_1 a0_2 a0_3).bind fun bt196 => ((arith_fair.f a1_0 a1_1 a1_2 a1_3).bind fun bt200 => (if bt196.1 = 2 then (if bt200.1 = 2 then (arith_Add.j0 k a2 (bt196.2.1 != bt200.2.1) bt196.1 bt196.2.1 bt196.2.2.1 bt196.2.2.2 bt200.1 bt200.2.1 bt200.2.2.1 bt200.2.2.2) else (arith_Add.j0 k a2 false bt196.1 bt196.2.1 bt196.2.2.1 bt196.2.2.2 bt200.1 bt200.2.1 bt200.2.2.1 bt200.2.2.2)) else (arith_Add.j0 k a2 false bt196.1 bt196.2.1 bt196.2.2.1 bt196.2.2.2 bt200.1 bt200.2.1 bt200.2.2.1 bt200.2.2.2)))

/-! ### bits_Mul64: function 35 -/
def bits_Mul64.f (a0 : Int) (a1 : Int) : Option (Int × Int) := some (IntKind.u64.wrap ((IntKind.u64.wrap ((IntKind.u64.wrap ((a0 / 4294967296) * (a1 / 4294967296))) + ((IntKind.u64.wrap ((IntKind.u64.wrap ((a0 / 4294967296) * (Go.bits .and .u64 a1 4294967295))) + ((IntKind.u64.wrap ((Go.bits .and .u64 a0 4294967295) * (Go.bits .and .u64 a1 4294967295))) / 4294967296))) / 4294967296))) + ((IntKind.u64.wrap ((Go.bits .and .u64 (IntKind.u64.wrap ((IntKind.u64.wrap ((a0 / 4294967296) * (Go.bits .and .u64 a1 4294967295))) + ((IntKind.u64.wrap ((Go.bits .and .u64 a0 4294967295) * (Go.bits .and .u64 a1 4294967295))) / 4294967296))) 4294967295) + (IntKind.u64.wrap ((Go.bits .and .u64 a0 4294967295) * (a1 / 4294967296))))) / 4294967296)), IntKind.u64.wrap (a0 * a1))

/-! ### arith_Mul: function 13 -/
def arith_Mul.j0 : Nat → Bool → Bool → Bool → Int → Bool → Int → Int → Int → Bool → Int → Int → Option (Int × Bool × Int × Int)
  | 0, _, _, _, _, _, _, _, _, _, _, _ => none
  | k + 1, x2, x7, x20, x221000, x221001, x221002, x221003, x222000, x222001, x222002, x222003 => if x20 = true then (some (0, false, 0, 0)) else (if x221000 = 2 then ((num_Infinite.f x7).bind fun bt231 => (some (bt231.1, bt231.2.1, bt231.2.2.1, bt231.2.2.2))) else (if x222000 = 2 then ((num_Infinite.f x7).bind fun bt235 => (some (bt235.1, bt235.2.1, bt235.2.2.1, bt235.2.2.2))) else ((bits_Mul64.f x221002 x222002).bind fun bt239 => (if bt239.1 < 9223372036854775808 then ((num_Grow.f k x7 (Go.bits .or .u64 (IntKind.u64.wrap (bt239.1 * 2)) (bt239.2 / 9223372036854775808)) (wrap64 ((wrap64 ((wrap64 (x221003 + x222003)) + 64)) - 1)) ((IntKind.u64.wrap (bt239.2 * 2)) != 0) (x2 != x7)).bind fun bt241 => (some (bt241.1, bt241.2.1, bt241.2.2.1, bt241.2.2.2))) else ((num_Grow.f k x7 bt239.1 (wrap64 ((wrap64 (x221003 + x222003)) + 64)) (bt239.2 != 0) (x2 != x7)).bind fun bt245 => (some (bt245.1, bt245.2.1, bt245.2.2.1, bt245.2.2.2)))))))
def arith_Mul.f (k : Nat) (a0_0 : Int) (a0_1 : Bool) (a0_2 : Int) (a0_3 : Int) (a1_0 : Int) (a1_1 : Bool) (a1_2 : Int) (a1_3 : Int) (a2 : Bool) : Option (Int × Bool × Int × Int) := (arith_fair.f a0_0 a0_1 a0_2 a0_3).bind fun bt223 => ((arith_fair.f a1_0 a1_1 a1_2 a1_3).bind fun bt227 => (if bt223.1 = 0 then (arith_Mul.j0 k a2 (bt223.2.1 != bt227.2.1) true bt223.1 bt223.2.1 bt223.2.2.1 bt223.2.2.2 bt227.1 bt227.2.1 bt227.2.2.1 bt227.2.2.2) else (arith_Mul.j0 k a2 (bt223.2.1 != bt227.2.1) (bt227.1 == 0) bt223.1 bt223.2.1 bt223.2.2.1 bt223.2.2.2 bt227.1 bt227.2.1 bt227.2.2.1 bt227.2.2.2)))

/-! ### num_fair: function 34 -/
def num_fair.f (a0_0 : Int) (a0_1 : Bool) (a0_2 : Int) (a0_3 : Int) : Option (Int × Bool × Int × Int) := (num_May.f a0_0 a0_1 a0_2 a0_3).bind fun t251 => (if t251 = true then (some (a0_0, a0_1, a0_2, a0_3)) else (some (0, false, 0, 0)))

/-! ### num_Next: function 24 -/
def num_Next.j0 : Nat → Bool → Bool → Int → Bool → Int → Int → Option (Int × Bool × Int × Int)
  | 0, _, _, _, _, _, _ => none
  | k + 1, x1, x14, x253000, x253001, x253002, x253003 => if x14 = true then ((num_huge.f x253001).bind fun bt262 => (some (bt262.1, bt262.2.1, bt262.2.2.1, bt262.2.2.2))) else (if x253000 = 2 then (some (x253000, x253001, x253002, x253003)) else (if (x253001 != x1) = true then ((num_Grow.f k x253001 x253002 x253003 true true).bind fun bt266 => (some (bt266.1, bt266.2.1, bt266.2.2.1, bt266.2.2.2))) else (if x253002 = 9223372036854775808 then ((num_Bound.f k x253001 18446744073709551615 (wrap64 (x253003 - 1)) false).bind fun bt270 => (some (bt270.1, bt270.2.1, bt270.2.2.1, bt270.2.2.2))) else (some (x253000, x253001, IntKind.u64.wrap (x253002 - 1), x253003)))))
def num_Next.f (k : Nat) (a0_0 : Int) (a0_1 : Bool) (a0_2 : Int) (a0_3 : Int) (a1 : Bool) : Option (Int × Bool × Int × Int) := (num_fair.f a0_0 a0_1 a0_2 a0_3).bind fun bt254 => (if bt254.1 = 0 then ((num_tiny.f (!a1)).bind fun bt258 => (some (bt258.1, bt258.2.1, bt258.2.2.1, bt258.2.2.2))) else (if bt254.1 = 2 then (num_Next.j0 k a1 (bt254.2.1 == a1) bt254.1 bt254.2.1 bt254.2.2.1 bt254.2.2.2) else (num_Next.j0 k a1 false bt254.1 bt254.2.1 bt254.2.2.1 bt254.2.2.2)))

/-! ### num_Of: function 25 -/
def num_Of.f (k : Nat) (a0 : Int) : Option (Int × Bool × Int × Int) := if a0 < 0 then ((bits_LeadingZeros64.f k (IntKind.u64.wrap (-(IntKind.u64.wrap (a0))))).bind fun t275 => (if (IntKind.u64.wrap (-(IntKind.u64.wrap (a0)))) = 0 then (some (0, false, 0, 0)) else (if 0 ≤ t275 then (some (1, decide (a0 < 0), shl .u64 (IntKind.u64.wrap (-(IntKind.u64.wrap (a0)))) t275, wrap64 (-t275))) else (none)))) else ((bits_LeadingZeros64.f k (IntKind.u64.wrap (a0))).bind fun t276 => (if (IntKind.u64.wrap (a0)) = 0 then (some (0, false, 0, 0)) else (if 0 ≤ t276 then (some (1, decide (a0 < 0), shl .u64 (IntKind.u64.wrap (a0)) t276, wrap64 (-t276))) else (none))))

/-! ### peloruslaw06_awake: function 10 -/
def peloruslaw06_awake.f (k : Nat)  : Option (Bool) := (num_Of.f k 1).bind fun bt277 => ((arith_Add.f k bt277.1 bt277.2.1 bt277.2.2.1 bt277.2.2.2 1 false 9223372036854775808 (-133) true).bind fun bt283 => ((num_Next.f k bt277.1 bt277.2.1 bt277.2.2.1 bt277.2.2.2 true).bind fun bt287 => (if (bt283.1 == bt287.1 && (bt283.2.1 == bt287.2.1 && (bt283.2.2.1 == bt287.2.2.1 && (bt283.2.2.2 == bt287.2.2.2)))) = true then ((arith_Add.f k bt277.1 bt277.2.1 bt277.2.2.1 bt277.2.2.2 1 false 9223372036854775808 (-133) false).bind fun bt291 => (if (bt291.1 == bt277.1 && (bt291.2.1 == bt277.2.1 && (bt291.2.2.1 == bt277.2.2.1 && (bt291.2.2.2 == bt277.2.2.2)))) = true then (if bt277.1 = 1 then ((num_Infinite.f false).bind fun bt295 => ((num_Of.f k (-2)).bind fun bt299 => ((arith_Mul.f k bt295.1 bt295.2.1 bt295.2.2.1 bt295.2.2.2 bt299.1 bt299.2.1 bt299.2.2.1 bt299.2.2.2 true).bind fun bt303 => ((num_Infinite.f true).bind fun bt307 => (some (bt303.1 == bt307.1 && (bt303.2.1 == bt307.2.1 && (bt303.2.2.1 == bt307.2.2.1 && (bt303.2.2.2 == bt307.2.2.2))))))))) else (some false)) else (some false))) else (some false))))
def peloruslaw06_awake.T3 : Bool × List (List Nat × List Nat) := (true, [([], []), ([], []), ([0, 1], [0, 1]), ([], []), ([3, 2], [3]), ([2, 4], [2, 4]), ([5, 4], [5]), ([6], [6]), ([6], [6]), ([7, 8, 6, 6], [6, 7, 8]), ([6], [6]), ([9, 10, 6], [6, 9, 10]), ([6, 11], [6, 11]), ([12, 9], [12]), ([13], [13]), ([14, 13], [13, 14]), ([15, 13], [13, 15]), ([13, 16], [13, 16]), ([17, 13], [17]), ([18, 18], [18]), ([19, 18], [18]), ([19, 20, 20, 18], [18, 19, 20]), ([21, 18], [18]), ([21, 22, 18], [18, 21, 22]), ([18, 23], [18, 23]), ([24, 22, 0, 1, 2, 3, 4, 5, 6, 7, 8, 9, 10, 11, 12, 13, 14, 15, 16, 17, 18, 19, 20, 21, 22, 23, 24], [24])])
def peloruslaw06_awake.B3 : List Nat := [0, 0, 3, 0, 15, 31, 63, 127, 127, 511, 127, 2047, 4095, 8191, 16383, 32767, 65535, 131071, 262143, 524287, 1048575, 2097151, 4194303, 8388607, 16777215, 33554431]

/-! ### num_Neg: function 12 -/
def num_Neg.f (a0_0 : Int) (a0_1 : Bool) (a0_2 : Int) (a0_3 : Int) : Option (Int × Bool × Int × Int) := (num_fair.f a0_0 a0_1 a0_2 a0_3).bind fun bt313 => (if bt313.1 = 0 then (some (bt313.1, false, bt313.2.2.1, bt313.2.2.2)) else (some (bt313.1, !bt313.2.1, bt313.2.2.1, bt313.2.2.2)))

/-! ### peloruslaw06_ArithTurns: function 3 -/
def peloruslaw06_ArithTurns.f (k : Nat) (a0_0 : Int) (a0_1 : Bool) (a0_2 : Int) (a0_3 : Int) (a1_0 : Int) (a1_1 : Bool) (a1_2 : Int) (a1_3 : Int) (a2 : Bool) : Option (Bool) := (peloruslaw06_awake.f k).bind fun t319 => ((num_Neg.f a0_0 a0_1 a0_2 a0_3).bind fun bt320 => ((num_Neg.f a1_0 a1_1 a1_2 a1_3).bind fun bt324 => ((arith_Add.f k bt320.1 bt320.2.1 bt320.2.2.1 bt320.2.2.2 bt324.1 bt324.2.1 bt324.2.2.1 bt324.2.2.2 (!a2)).bind fun bt328 => ((num_Neg.f a0_0 a0_1 a0_2 a0_3).bind fun bt333 => ((arith_Mul.f k bt333.1 bt333.2.1 bt333.2.2.1 bt333.2.2.2 a1_0 a1_1 a1_2 a1_3 (!a2)).bind fun bt337 => (if t319 = true then ((arith_Add.f k a0_0 a0_1 a0_2 a0_3 a1_0 a1_1 a1_2 a1_3 a2).bind fun bt342 => ((num_Neg.f bt328.1 bt328.2.1 bt328.2.2.1 bt328.2.2.2).bind fun bt346 => (if (bt342.1 == bt346.1 && (bt342.2.1 == bt346.2.1 && (bt342.2.2.1 == bt346.2.2.1 && (bt342.2.2.2 == bt346.2.2.2)))) = true then ((arith_Mul.f k a0_0 a0_1 a0_2 a0_3 a1_0 a1_1 a1_2 a1_3 a2).bind fun bt350 => ((num_Neg.f bt337.1 bt337.2.1 bt337.2.2.1 bt337.2.2.2).bind fun bt354 => (if (bt350.1 == bt354.1 && (bt350.2.1 == bt354.2.1 && (bt350.2.2.1 == bt354.2.2.1 && (bt350.2.2.2 == bt354.2.2.2)))) = true then ((arith_Add.f k a0_0 a0_1 a0_2 a0_3 a1_0 a1_1 a1_2 a1_3 a2).bind fun bt358 => ((arith_Add.f k a1_0 a1_1 a1_2 a1_3 a0_0 a0_1 a0_2 a0_3 a2).bind fun bt362 => (if (bt358.1 == bt362.1 && (bt358.2.1 == bt362.2.1 && (bt358.2.2.1 == bt362.2.2.1 && (bt358.2.2.2 == bt362.2.2.2)))) = true then ((arith_Mul.f k a0_0 a0_1 a0_2 a0_3 a1_0 a1_1 a1_2 a1_3 a2).bind fun bt366 => ((arith_Mul.f k a1_0 a1_1 a1_2 a1_3 a0_0 a0_1 a0_2 a0_3 a2).bind fun bt370 => (some (bt366.1 == bt370.1 && (bt366.2.1 == bt370.2.1 && (bt366.2.2.1 == bt370.2.2.1 && (bt366.2.2.2 == bt370.2.2.2))))))) else (some false)))) else (some false)))) else (some false)))) else (some false)))))))
def peloruslaw06_ArithTurns.T2 : Bool × List (List Nat × List Nat) := (true, [([], []), ([0], [0]), ([], []), ([2, 1], [2]), ([], []), ([4], [4]), ([1, 3, 5, 3], [1, 3, 5]), ([], []), ([7, 6, 6, 0, 1, 2, 3, 4, 5, 6, 7], [6, 7])])
def peloruslaw06_ArithTurns.B2 : List Nat := [0, 1, 0, 7, 0, 16, 63, 0, 255]
def peloruslaw06_ArithTurns.Pure : Prop := ∀ (x0 : S24) (x1 : S24) (a2 : Bool), ok24 x0 → ok24 x1 → ∃ k, peloruslaw06_ArithTurns.f k x0.f0 x0.f1 x0.f2 x0.f3 x1.f0 x1.f1 x1.f2 x1.f3 a2 = some true ∧ ∀ r, peloruslaw06_awake.f k = some r → r = true

/-! ### peloruslaw06_Few: function 14 -/
def peloruslaw06_Few.f (a0_0 : Int) (a0_1 : Bool) (a0_2 : Int) (a0_3 : Int) : Option (Bool) := if a0_0 = 1 then (if a0_3 ≥ (-1500) then (some (decide (a0_3 ≤ 1500))) else (some false)) else (some true)

/-! ### pelorusref05_May: function 53 -/
def pelorusref05_May.f (a0_0 : Int) (a0_1 : Bool) (a0_2 : Int) (a0_3 : Int) : Option (Bool) := if a0_0 = 1 then (if a0_2 ≥ 9223372036854775808 then (if a0_3 ≥ (-1048576) then (some (decide (a0_3 ≤ 1048576))) else (some false)) else (some false)) else (if a0_0 = 2 then (if a0_2 = 0 then (some (a0_3 == 0)) else (some false)) else (if a0_0 = 0 then (if a0_1 = true then (some false) else (if a0_2 = 0 then (some (a0_3 == 0)) else (some false))) else (some false)))

/-! ### pelorusref06_Fair: function 37 -/
def pelorusref06_Fair.f (a0_0 : Int) (a0_1 : Bool) (a0_2 : Int) (a0_3 : Int) : Option (Int × Bool × Int × Int) := (pelorusref05_May.f a0_0 a0_1 a0_2 a0_3).bind fun t378 => (if t378 = true then (some (a0_0, a0_1, a0_2, a0_3)) else (some (0, false, 0, 0)))

/-! ### pelorusref05_Infinite: function 38 -/
def pelorusref05_Infinite.f (a0 : Bool) : Option (Int × Bool × Int × Int) := some (2, a0, 0, 0)

/-! ### pelorusref01_Trim: function 69 -/
def pelorusref01_Trim.l0 : Nat → List Int → Int → Option (List Int)
  | 0, _, _ => none
  | k + 1, x0, x3 => if x3 > 0 then (if 0 ≤ (wrap64 (x3 - 1)) then (if (wrap64 (x3 - 1)) < (x0.length : Int) then (if (rd x0 (wrap64 (x3 - 1))) = 0 then (pelorusref01_Trim.l0 k x0 (wrap64 (x3 - 1))) else (if 0 ≤ x3 then (if x3 ≤ (x0.length : Int) then (if ([] : List Int).length + (x0.take (x3 : Int).toNat).length < 35184372088832 then (some (([] : List Int) ++ (x0.take (x3 : Int).toNat))) else (none)) else (none)) else (none))) else (none)) else (none)) else (if 0 ≤ x3 then (if x3 ≤ (x0.length : Int) then (if ([] : List Int).length + (x0.take (x3 : Int).toNat).length < 35184372088832 then (some (([] : List Int) ++ (x0.take (x3 : Int).toNat))) else (none)) else (none)) else (none))
def pelorusref01_Trim.f (k : Nat) (l0 : List Int) : Option (List Int) := pelorusref01_Trim.l0 k l0 (l0.length : Int)

/-! ### pelorusref02_Make: function 55 -/
def pelorusref02_Make.f (k : Nat) (a0 : Bool) (l1 : List Int) : Option (Bool × List Int) := (pelorusref01_Trim.f k l1).bind fun t390 => (if a0 = true then (some (decide ((t390.length : Int) > 0), t390)) else (some (false, t390)))

/-! ### pelorusref01_Len: function 57 -/
def pelorusref01_Len.l0 : Nat → Int → Int → Option (Int)
  | 0, _, _ => none
  | k + 1, x4, x5 => if x5 > 0 then (pelorusref01_Len.l0 k (wrap64 (x4 + 1)) ((Int.tdiv x5 2) % 4294967296)) else (some x4)
def pelorusref01_Len.f (k : Nat) (l0 : List Int) : Option (Int) := (pelorusref01_Trim.f k l0).bind fun t393 => (if (t393.length : Int) = 0 then (some 0) else (if 0 ≤ (wrap64 ((t393.length : Int) - 1)) then (if (wrap64 ((t393.length : Int) - 1)) < (t393.length : Int) then (pelorusref01_Len.l0 k (wrap64 (32 * (wrap64 ((t393.length : Int) - 1)))) (rd t393 (wrap64 ((t393.length : Int) - 1)))) else (none)) else (none)))

/-! ### pelorusref01_at: function 72 -/
def pelorusref01_at.f (l0 : List Int) (a1 : Int) : Option (Int) := if a1 ≥ (l0.length : Int) then (some 0) else (if 0 ≤ a1 then (if a1 < (l0.length : Int) then (some (IntKind.u64.wrap (rd l0 a1))) else (none)) else (none))

/-! ### pelorusref01_Add: function 62 -/
mutual
def pelorusref01_Add.l0 : Nat → List Int → List Int → List Int → Int → Int → Option (List Int)
  | 0, _, _, _, _, _ => none
  | k + 1, x0, x1, x5, x6, x7 => if x7 < (x0.length : Int) then (pelorusref01_Add.j1 k x0 x1 x5 x6 x7 true) else (if x7 < (x1.length : Int) then (pelorusref01_Add.j1 k x0 x1 x5 x6 x7 true) else (pelorusref01_Add.j1 k x0 x1 x5 x6 x7 (decide (x6 > 0))))
def pelorusref01_Add.j1 : Nat → List Int → List Int → List Int → Int → Int → Bool → Option (List Int)
  | 0, _, _, _, _, _, _ => none
  | k + 1, x0, x1, x5, x6, x7, x22 => if x22 = true then ((pelorusref01_at.f x0 x7).bind fun t398 => ((pelorusref01_at.f x1 x7).bind fun t399 => (if x5.length < 35184372088832 then (pelorusref01_Add.l0 k x0 x1 (x5 ++ [(Int.tmod (IntKind.u64.wrap ((IntKind.u64.wrap (t398 + t399)) + x6)) 4294967296) % 4294967296]) (IntKind.u64.wrap (Int.tdiv (IntKind.u64.wrap ((IntKind.u64.wrap (t398 + t399)) + x6)) 4294967296)) (wrap64 (x7 + 1))) else (none)))) else ((pelorusref01_Trim.f k x5).bind fun t403 => (some t403))
end
def pelorusref01_Add.f (k : Nat) (l0 : List Int) (l1 : List Int) : Option (List Int) := pelorusref01_Add.l0 k l0 l1 ([] : List Int) 0 0

/-! ### pelorusref01_Cmp: function 76 -/
def pelorusref01_Cmp.l0 : Nat → List Int → List Int → Int → Option (Int)
  | 0, _, _, _ => none
  | k + 1, x5, x6, x7 => if x7 ≥ 0 then (if 0 ≤ x7 then (if x7 < (x5.length : Int) then (if x7 < (x6.length : Int) then (if (rd x5 x7) < (rd x6 x7) then (some (-1)) else (if (rd x5 x7) > (rd x6 x7) then (some 1) else (pelorusref01_Cmp.l0 k x5 x6 (wrap64 (x7 - 1))))) else (none)) else (none)) else (none)) else (some 0)
def pelorusref01_Cmp.f (k : Nat) (l0 : List Int) (l1 : List Int) : Option (Int) := (pelorusref01_Trim.f k l0).bind fun t406 => ((pelorusref01_Trim.f k l1).bind fun t409 => (if (t406.length : Int) = (t409.length : Int) then (pelorusref01_Cmp.l0 k t406 t409 (wrap64 ((t406.length : Int) - 1))) else (if (t406.length : Int) < (t409.length : Int) then (some (-1)) else (some 1))))

/-! ### pelorusref01_Sub: function 73 -/
def pelorusref01_Sub.l0 : Nat → List Int → List Int → List Int → Int → Int → Option (List Int × Bool)
  | 0, _, _, _, _, _ => none
  | k + 1, x0, x1, x6, x7, x8 => if x8 < (x0.length : Int) then ((pelorusref01_at.f x0 x8).bind fun t417 => ((pelorusref01_at.f x1 x8).bind fun t418 => (if x6.length < 35184372088832 then (pelorusref01_Sub.l0 k x0 x1 (x6 ++ [(Int.tmod (IntKind.u64.wrap ((IntKind.u64.wrap ((IntKind.u64.wrap (4294967296 + t417)) - t418)) - x7)) 4294967296) % 4294967296]) (IntKind.u64.wrap (1 - (IntKind.u64.wrap (Int.tdiv (IntKind.u64.wrap ((IntKind.u64.wrap ((IntKind.u64.wrap (4294967296 + t417)) - t418)) - x7)) 4294967296)))) (wrap64 (x8 + 1))) else (none)))) else ((pelorusref01_Trim.f k x6).bind fun t422 => (some (t422, true)))
def pelorusref01_Sub.f (k : Nat) (l0 : List Int) (l1 : List Int) : Option (List Int × Bool) := (pelorusref01_Cmp.f k l0 l1).bind fun t416 => (if t416 < 0 then (some (([] : List Int), false)) else (pelorusref01_Sub.l0 k l0 l1 ([] : List Int) 0 0))

/-! ### pelorusref01_bit: function 74 -/
def pelorusref01_bit.f (l0 : List Int) (a1 : Int) : Option (Bool) := (pelorusref01_at.f l0 (wrap64 (Int.tdiv a1 32))).bind fun t425 => (if 0 ≤ (IntKind.u64.wrap (Int.tmod a1 32)) then (some ((Int.tmod (shr .u64 t425 (IntKind.u64.wrap (Int.tmod a1 32))) 2) == 1)) else (none))

/-! ### pelorusref01_set: function 75 -/
def pelorusref01_set.l0 : Nat → Int → List Int → Option (List Int)
  | 0, _, _ => none
  | k + 1, x1, x5 => if (x5.length : Int) ≤ (wrap64 (Int.tdiv x1 32)) then (if x5.length < 35184372088832 then (pelorusref01_set.l0 k x1 (x5 ++ [0])) else (none)) else (if 0 ≤ (wrap64 (Int.tdiv x1 32)) then (if (wrap64 (Int.tdiv x1 32)) < (x5.length : Int) then (if 0 ≤ (IntKind.u64.wrap (Int.tmod x1 32)) then (some (x5.set ((wrap64 (Int.tdiv x1 32)) : Int).toNat (((rd x5 (wrap64 (Int.tdiv x1 32))) + (shl .u32 1 (IntKind.u64.wrap (Int.tmod x1 32)))) % 4294967296))) else (none)) else (none)) else (none))
def pelorusref01_set.f (k : Nat) (l0 : List Int) (a1 : Int) : Option (List Int) := if ([] : List Int).length + l0.length < 35184372088832 then (pelorusref01_set.l0 k a1 (([] : List Int) ++ l0)) else (none)

/-! ### pelorusref01_Div: function 71 -/
mutual
def pelorusref01_Div.l0 : Nat → List Int → List Int → List Int → List Int → Int → Option (List Int × List Int × Bool)
  | 0, _, _, _, _, _ => none
  | k + 1, x0, x7, x8, x9, x10 => if x10 ≥ 0 then ((pelorusref01_Add.f k x9 x9).bind fun t444 => ((pelorusref01_bit.f x0 x10).bind fun t447 => (if t447 = true then ((pelorusref01_Add.f k t444 (([1] : List Int))).bind fun t451 => (pelorusref01_Div.j1 k x0 x7 x8 t451 x10)) else (pelorusref01_Div.j1 k x0 x7 x8 t444 x10)))) else ((pelorusref01_Trim.f k x8).bind fun t438 => ((pelorusref01_Trim.f k x9).bind fun t441 => (some (t438, t441, true))))
def pelorusref01_Div.j1 : Nat → List Int → List Int → List Int → List Int → Int → Option (List Int × List Int × Bool)
  | 0, _, _, _, _, _ => none
  | k + 1, x0, x7, x8, x9, x10 => (pelorusref01_Sub.f k x9 x7).bind fun bt454 => (if bt454.2 = true then ((pelorusref01_set.f k x8 x10).bind fun t458 => (pelorusref01_Div.l0 k x0 x7 t458 bt454.1 (wrap64 (x10 - 1)))) else (pelorusref01_Div.l0 k x0 x7 x8 x9 (wrap64 (x10 - 1))))
end
def pelorusref01_Div.f (k : Nat) (l0 : List Int) (l1 : List Int) : Option (List Int × List Int × Bool) := (pelorusref01_Trim.f k l1).bind fun t434 => (if (t434.length : Int) = 0 then (some (([] : List Int), ([] : List Int), false)) else ((pelorusref01_Len.f k l0).bind fun t437 => (pelorusref01_Div.l0 k l0 t434 ([] : List Int) ([] : List Int) (wrap64 (t437 - 1)))))

/-! ### pelorusref01_Shr: function 61 -/
def pelorusref01_Shr.f (k : Nat) (l0 : List Int) (a1 : Int) : Option (List Int) := if a1 < 1 then ((pelorusref01_Trim.f k l0).bind fun t461 => (some t461)) else (if a1 ≥ (wrap64 (32 * (l0.length : Int))) then (some ([] : List Int)) else (if 0 ≤ (wrap64 (Int.tdiv a1 32)) then (if (wrap64 (Int.tdiv a1 32)) ≤ (l0.length : Int) then ((pelorusref01_Trim.f k (l0.drop ((wrap64 (Int.tdiv a1 32)) : Int).toNat)).bind fun t465 => (if 0 ≤ (IntKind.u64.wrap (Int.tmod a1 32)) then ((pelorusref01_Div.f k t465 (([shl .u32 1 (IntKind.u64.wrap (Int.tmod a1 32))] : List Int))).bind fun bt471 => (some bt471.1)) else (none))) else (none)) else (none)))

/-! ### pelorusref03_even: function 68 -/
def pelorusref03_even.f (l0 : List Int) : Option (Bool) := if (l0.length : Int) > 0 then (if 0 < (l0.length : Int) then (some ((Int.tmod (rd l0 0) 2) == 0)) else (none)) else (some false)

/-! ### pelorusref03_Make: function 54 -/
mutual
def pelorusref03_Make.j0 : Nat → Int → Bool → Bool → List Int → Option (Bool × List Int × Int)
  | 0, _, _, _, _ => none
  | k + 1, x1, x24, x486000, x486001 => if x24 = true then (some (false, ([] : List Int), 0)) else (pelorusref03_Make.l0 k x1 0 x486000 x486001)
def pelorusref03_Make.l0 : Nat → Int → Int → Bool → List Int → Option (Bool × List Int × Int)
  | 0, _, _, _, _ => none
  | k + 1, x1, x6, x486000, x486001 => if x6 < 4000000 then ((pelorusref03_even.f x486001).bind fun t486 => (if t486 = true then ((pelorusref01_Shr.f k x486001 1).bind fun t487 => (pelorusref03_Make.l0 k (wrap64 (x1 + 1)) (wrap64 (x6 + 1)) x486000 t487)) else (if x1 > 4194304 then (some (false, ([] : List Int), 0)) else (some (x486000, x486001, x1))))) else (if x1 > 4194304 then (some (false, ([] : List Int), 0)) else (some (x486000, x486001, x1)))
end
def pelorusref03_Make.f (k : Nat) (a0_0 : Bool) (l0_1 : List Int) (a1 : Int) : Option (Bool × List Int × Int) := (pelorusref02_Make.f k a0_0 l0_1).bind fun bt481 => (if (bt481.2.length : Int) = 0 then (pelorusref03_Make.j0 k a1 true bt481.1 bt481.2) else (if a1 < (-4194304) then (pelorusref03_Make.j0 k a1 true bt481.1 bt481.2) else (pelorusref03_Make.j0 k a1 (decide (a1 > 4194304)) bt481.1 bt481.2)))

/-! ### pelorusref05_limbs: function 56 -/
def pelorusref05_limbs.f (a0 : Int) : Option (List Int) := some (([(Int.tmod a0 4294967296) % 4294967296, (IntKind.u64.wrap (Int.tdiv a0 4294967296)) % 4294967296] : List Int))

/-! ### pelorusref05_Exact: function 39 -/
def pelorusref05_Exact.j0 : Nat → Bool → Int → Bool → Int → Int → Option (Bool × List Int × Int × Bool)
  | 0, _, _, _, _, _ => none
  | k + 1, x13, x494000, x494001, x494002, x494003 => if x13 = true then (some (false, ([] : List Int), 0, false)) else (if x494000 = 0 then (some (false, ([] : List Int), 0, true)) else ((pelorusref05_limbs.f x494002).bind fun t496 => ((pelorusref02_Make.f k x494001 t496).bind fun bt499 => ((pelorusref03_Make.f k bt499.1 bt499.2 x494003).bind fun bt503 => (some (bt503.1, bt503.2.1, bt503.2.2, true))))))
def pelorusref05_Exact.f (k : Nat) (a0_0 : Int) (a0_1 : Bool) (a0_2 : Int) (a0_3 : Int) : Option (Bool × List Int × Int × Bool) := (pelorusref05_May.f a0_0 a0_1 a0_2 a0_3).bind fun t495 => (if t495 = true then (pelorusref05_Exact.j0 k (a0_0 == 2) a0_0 a0_1 a0_2 a0_3) else (pelorusref05_Exact.j0 k true a0_0 a0_1 a0_2 a0_3))
def pelorusref05_Exact.T6 : Bool × List (List Nat × List Nat) := (true, [([], []), ([0], [0]), ([], []), ([2], [2]), ([3], [3]), ([1, 4, 4], [1, 4]), ([], []), ([6], [6]), ([5, 7, 5], [5, 7]), ([8, 8, 0, 1, 2, 3, 4, 5, 6, 7, 8], [8]), ([9, 0, 1, 2, 3, 4, 5, 6, 7, 8, 9], [])])
def pelorusref05_Exact.B6 : List Nat := [0, 1, 0, 4, 12, 31, 0, 64, 255, 511, 1023]

/-! ### pelorusref05_finite: function 58 -/
def pelorusref05_finite.f (a0 : Bool) (a1 : Int) (a2 : Int) (a3 : Bool) : Option (Int × Bool × Int × Int) := if a2 > 1048576 then (if a3 = true then ((pelorusref05_Infinite.f a0).bind fun bt509 => (some (bt509.1, bt509.2.1, bt509.2.2.1, bt509.2.2.2))) else (some (1, a0, 18446744073709551615, 1048576))) else (if a2 < (-1048576) then (if a3 = true then (some (1, a0, 9223372036854775808, (-1048576))) else (some (0, false, 0, 0))) else (some (1, a0, a1, a2)))

/-! ### pelorusref05_word: function 59 -/
def pelorusref05_word.l0 : Nat → List Int → Int → Int → Option (Int)
  | 0, _, _, _ => none
  | k + 1, x0, x3, x4 => if x4 ≥ 0 then (if 0 ≤ x4 then (if x4 < (x0.length : Int) then (pelorusref05_word.l0 k x0 (IntKind.u64.wrap ((IntKind.u64.wrap (x3 * 4294967296)) + (IntKind.u64.wrap (rd x0 x4)))) (wrap64 (x4 - 1))) else (none)) else (none)) else (some x3)
def pelorusref05_word.f (k : Nat) (l0 : List Int) : Option (Int) := pelorusref05_word.l0 k l0 0 (wrap64 ((l0.length : Int) - 1))

/-! ### pelorusref01_Mul: function 70 -/
mutual
def pelorusref01_Mul.l0 : Nat → List Int → List Int → List Int → Int → Option (List Int)
  | 0, _, _, _, _ => none
  | k + 1, x0, x1, x5, x6 => if x6 ≥ 0 then ((some (([0] : List Int) : List Int)).bind fun y517 => (if y517.length + x5.length < 35184372088832 then (pelorusref01_Mul.l1 k x0 x1 (y517 ++ x5) x6 ([] : List Int) 0 0) else (none))) else ((pelorusref01_Trim.f k x5).bind fun t514 => (some t514))
def pelorusref01_Mul.l1 : Nat → List Int → List Int → List Int → Int → List Int → Int → Int → Option (List Int)
  | 0, _, _, _, _, _, _, _ => none
  | k + 1, x0, x1, x5, x6, x8, x9, x10 => if x10 < (x0.length : Int) then (if 0 ≤ x10 then (if 0 ≤ x6 then (if x6 < (x1.length : Int) then (if x8.length < 35184372088832 then (pelorusref01_Mul.l1 k x0 x1 x5 x6 (x8 ++ [(Int.tmod (IntKind.u64.wrap ((IntKind.u64.wrap ((IntKind.u64.wrap (rd x0 x10)) * (IntKind.u64.wrap (rd x1 x6)))) + x9)) 4294967296) % 4294967296]) (IntKind.u64.wrap (Int.tdiv (IntKind.u64.wrap ((IntKind.u64.wrap ((IntKind.u64.wrap (rd x0 x10)) * (IntKind.u64.wrap (rd x1 x6)))) + x9)) 4294967296)) (wrap64 (x10 + 1))) else (none)) else (none)) else (none)) else (none)) else (if x8.length < 35184372088832 then ((pelorusref01_Add.f k x5 (x8 ++ [(x9) % 4294967296])).bind fun t531 => (pelorusref01_Mul.l0 k x0 x1 t531 (wrap64 (x6 - 1)))) else (none))
end
def pelorusref01_Mul.f (k : Nat) (l0 : List Int) (l1 : List Int) : Option (List Int) := pelorusref01_Mul.l0 k l0 l1 ([] : List Int) (wrap64 ((l1.length : Int) - 1))

/-! ### pelorusref01_Shl: function 60 -/
def pelorusref01_Shl.f (k : Nat) (l0 : List Int) (a1 : Int) : Option (List Int) := if a1 < 1 then ((pelorusref01_Trim.f k l0).bind fun t534 => (some t534)) else (if a1 > 16777216 then (some ([] : List Int)) else (if 0 ≤ (wrap64 (Int.tdiv a1 32)) then (if (wrap64 (Int.tdiv a1 32) : Int).toNat ≤ 70368744177664 then ((some (List.replicate (wrap64 (Int.tdiv a1 32) : Int).toNat 0 : List Int)).bind fun y537 => (if y537.length + l0.length < 35184372088832 then (if 0 ≤ (IntKind.u64.wrap (Int.tmod a1 32)) then ((pelorusref01_Mul.f k (y537 ++ l0) (([shl .u32 1 (IntKind.u64.wrap (Int.tmod a1 32))] : List Int))).bind fun t546 => (some t546)) else (none)) else (none))) else (none)) else (none)))

/-! ### pelorusref05_Round: function 40 -/
def pelorusref05_Round.f (k : Nat) (a0_0 : Bool) (l0_1 : List Int) (a0_2 : Int) (a1 : Bool) : Option (Int × Bool × Int × Int) := (pelorusref03_Make.f k a0_0 l0_1 a0_2).bind fun bt551 => (if (bt551.2.1.length : Int) = 0 then (some (0, false, 0, 0)) else ((pelorusref01_Len.f k bt551.2.1).bind fun t557 => (if t557 ≤ 64 then ((pelorusref01_Shl.f k bt551.2.1 (wrap64 (64 - t557))).bind fun t558 => ((pelorusref05_word.f k t558).bind fun t561 => ((pelorusref05_finite.f bt551.1 t561 (wrap64 ((wrap64 (bt551.2.2 + t557)) - 64)) (a1 != bt551.1)).bind fun bt562 => (some (bt562.1, bt562.2.1, bt562.2.2.1, bt562.2.2.2))))) else ((pelorusref01_Shr.f k bt551.2.1 (wrap64 (t557 - 64))).bind fun t566 => (if (a1 != bt551.1) = true then ((pelorusref01_Add.f k t566 (([1] : List Int))).bind fun t572 => ((pelorusref01_Len.f k t572).bind fun t575 => (if t575 > 64 then ((pelorusref01_Shr.f k t572 1).bind fun t576 => ((pelorusref05_word.f k t576).bind fun t579 => ((pelorusref05_finite.f bt551.1 t579 (wrap64 ((wrap64 ((wrap64 (bt551.2.2 + t557)) - 64)) + 1)) (a1 != bt551.1)).bind fun bt580 => (some (bt580.1, bt580.2.1, bt580.2.2.1, bt580.2.2.2))))) else ((pelorusref05_word.f k t572).bind fun t584 => ((pelorusref05_finite.f bt551.1 t584 (wrap64 ((wrap64 (bt551.2.2 + t557)) - 64)) (a1 != bt551.1)).bind fun bt585 => (some (bt585.1, bt585.2.1, bt585.2.2.1, bt585.2.2.2))))))) else ((pelorusref05_word.f k t566).bind fun t589 => ((pelorusref05_finite.f bt551.1 t589 (wrap64 ((wrap64 (bt551.2.2 + t557)) - 64)) (a1 != bt551.1)).bind fun bt590 => (some (bt590.1, bt590.2.1, bt590.2.2.1, bt590.2.2.2)))))))))
def pelorusref05_Round.T7 : Bool × List (List Nat × List Nat) := (true, [([], []), ([0], [0]), ([1], [1]), ([], []), ([3], [3]), ([4], [4]), ([], []), ([6], [6]), ([5, 7], [5, 7]), ([8, 8], [8]), ([], []), ([10], [10]), ([], []), ([11, 12], [11, 12]), ([13], [13]), ([], []), ([2, 9, 14, 15, 9], [2, 9, 14, 15]), ([16, 16, 0, 1, 2, 3, 4, 5, 6, 7, 8, 9, 10, 11, 12, 13, 14, 15, 16], [16])])
def pelorusref05_Round.B7 : List Nat := [0, 1, 3, 0, 8, 24, 0, 64, 248, 504, 0, 1024, 0, 7168, 15360, 0, 65535, 131071]

/-! ### pelorusref02_Add: function 63 -/
def pelorusref02_Add.f (k : Nat) (a0_0 : Bool) (l0_1 : List Int) (a1_0 : Bool) (l1_1 : List Int) : Option (Bool × List Int) := if (a0_0 == a1_0) = true then ((pelorusref01_Add.f k l0_1 l1_1).bind fun t597 => ((pelorusref02_Make.f k a0_0 t597).bind fun bt600 => (some (bt600.1, bt600.2)))) else ((pelorusref01_Sub.f k l0_1 l1_1).bind fun bt604 => (if bt604.2 = true then ((pelorusref02_Make.f k a0_0 bt604.1).bind fun bt608 => (some (bt608.1, bt608.2))) else ((pelorusref01_Sub.f k l1_1 l0_1).bind fun bt612 => ((pelorusref02_Make.f k a1_0 bt612.1).bind fun bt616 => (some (bt616.1, bt616.2))))))
def pelorusref02_Add.T2 : Bool × List (List Nat × List Nat) := (true, [([], []), ([0], [0]), ([], []), ([2], [2]), ([], []), ([4], [4]), ([3, 5], [3, 5]), ([1, 6, 6], [1, 6]), ([7, 7, 0, 1, 2, 3, 4, 5, 6, 7], [7])])
def pelorusref02_Add.B2 : List Nat := [0, 1, 0, 4, 0, 16, 60, 127, 255]

/-! ### pelorusref03_Two: function 41 -/
def pelorusref03_Two.j0 : Nat → Bool → List Int → Int → Bool → List Int → Int → Option (Bool × List Int × Int)
  | 0, _, _, _, _, _, _ => none
  | k + 1, x629000, x629001, x629002, x635000, x635001, x635002 => (pelorusref01_Shl.f k x635001 (wrap64 (x635002 - x629002))).bind fun t636 => ((pelorusref02_Make.f k x635000 t636).bind fun bt639 => ((pelorusref02_Add.f k x629000 x629001 bt639.1 bt639.2).bind fun bt644 => ((pelorusref03_Make.f k bt644.1 bt644.2 x629002).bind fun bt648 => (some (bt648.1, bt648.2.1, bt648.2.2)))))
def pelorusref03_Two.f (k : Nat) (a0_0 : Bool) (l0_1 : List Int) (a0_2 : Int) (a1_0 : Bool) (l1_1 : List Int) (a1_2 : Int) : Option (Bool × List Int × Int) := (pelorusref03_Make.f k a0_0 l0_1 a0_2).bind fun bt623 => ((pelorusref03_Make.f k a1_0 l1_1 a1_2).bind fun bt629 => (if (bt623.2.1.length : Int) = 0 then (some (bt629.1, bt629.2.1, bt629.2.2)) else (if (bt629.2.1.length : Int) = 0 then (some (bt623.1, bt623.2.1, bt623.2.2)) else (if bt623.2.2 > bt629.2.2 then (pelorusref03_Two.j0 k bt629.1 bt629.2.1 bt629.2.2 bt623.1 bt623.2.1 bt623.2.2) else (pelorusref03_Two.j0 k bt623.1 bt623.2.1 bt623.2.2 bt629.1 bt629.2.1 bt629.2.2)))))
def pelorusref03_Two.T11 : Bool × List (List Nat × List Nat) := (true, [([], []), ([0], [0]), ([1], [1]), ([], []), ([3], [3]), ([4], [4]), ([], []), ([6], [6]), ([], []), ([8], [8]), ([7, 9], [7, 9]), ([5, 10], [5, 10]), ([2, 11, 11], [2, 11]), ([], []), ([13, 12, 12, 0, 1, 2, 3, 4, 5, 6, 7, 8, 9, 10, 11, 12, 13], [12, 13])])
def pelorusref03_Two.B11 : List Nat := [0, 1, 3, 0, 8, 24, 0, 64, 0, 256, 960, 2040, 4095, 0, 16383]

/-! ### pelorusref06_Add: function 15 -/
def pelorusref06_Add.j0 : Nat → Bool → Bool → Int → Bool → Int → Int → Int → Bool → Int → Int → Option (Int × Bool × Int × Int)
  | 0, _, _, _, _, _, _, _, _, _, _ => none
  | k + 1, x2, x31, x661000, x661001, x661002, x661003, x666000, x666001, x666002, x666003 => if x31 = true then ((pelorusref05_Infinite.f (!x2)).bind fun bt666 => (some (bt666.1, bt666.2.1, bt666.2.2.1, bt666.2.2.2))) else (if x661000 = 2 then (some (x661000, x661001, x661002, x661003)) else (if x666000 = 2 then (some (x666000, x666001, x666002, x666003)) else ((pelorusref05_Exact.f k x661000 x661001 x661002 x661003).bind fun bt670 => ((pelorusref05_Exact.f k x666000 x666001 x666002 x666003).bind fun bt677 => ((pelorusref03_Two.f k bt670.1 bt670.2.1 bt670.2.2.1 bt677.1 bt677.2.1 bt677.2.2.1).bind fun bt684 => ((pelorusref05_Round.f k bt684.1 bt684.2.1 bt684.2.2 x2).bind fun bt689 => (some (bt689.1, bt689.2.1, bt689.2.2.1, bt689.2.2.2))))))))
def pelorusref06_Add.f (k : Nat) (a0_0 : Int) (a0_1 : Bool) (a0_2 : Int) (a0_3 : Int) (a1_0 : Int) (a1_1 : Bool) (a1_2 : Int) (a1_3 : Int) (a2 : Bool) : Option (Int × Bool × Int × Int) := (pelorusref06_Fair.f a0_0 a0_1 a0_2 a0_3).bind fun bt656 => ((pelorusref06_Fair.f a1_0 a1_1 a1_2 a1_3).bind fun bt661 => (if bt656.1 = 2 then (if bt661.1 = 2 then (pelorusref06_Add.j0 k a2 (bt656.2.1 != bt661.2.1) bt656.1 bt656.2.1 bt656.2.2.1 bt656.2.2.2 bt661.1 bt661.2.1 bt661.2.2.1 bt661.2.2.2) else (pelorusref06_Add.j0 k a2 false bt656.1 bt656.2.1 bt656.2.2.1 bt656.2.2.2 bt661.1 bt661.2.1 bt661.2.2.1 bt661.2.2.2)) else (pelorusref06_Add.j0 k a2 false bt656.1 bt656.2.1 bt656.2.2.1 bt656.2.2.2 bt661.1 bt661.2.1 bt661.2.2.1 bt661.2.2.2)))

/-! ### arith_Sub: function 16 -/
def arith_Sub.f (k : Nat) (a0_0 : Int) (a0_1 : Bool) (a0_2 : Int) (a0_3 : Int) (a1_0 : Int) (a1_1 : Bool) (a1_2 : Int) (a1_3 : Int) (a2 : Bool) : Option (Int × Bool × Int × Int) := (num_Neg.f a1_0 a1_1 a1_2 a1_3).bind fun bt696 => ((arith_Add.f k a0_0 a0_1 a0_2 a0_3 bt696.1 bt696.2.1 bt696.2.2.1 bt696.2.2.2 a2).bind fun bt700 => (some (bt700.1, bt700.2.1, bt700.2.2.1, bt700.2.2.2)))

/-! ### pelorusref05_fair: function 64 -/
def pelorusref05_fair.f (a0_0 : Int) (a0_1 : Bool) (a0_2 : Int) (a0_3 : Int) : Option (Int × Bool × Int × Int) := (pelorusref05_May.f a0_0 a0_1 a0_2 a0_3).bind fun t706 => (if t706 = true then (some (a0_0, a0_1, a0_2, a0_3)) else (some (0, false, 0, 0)))

/-! ### pelorusref05_Neg: function 42 -/
def pelorusref05_Neg.f (a0_0 : Int) (a0_1 : Bool) (a0_2 : Int) (a0_3 : Int) : Option (Int × Bool × Int × Int) := (pelorusref05_fair.f a0_0 a0_1 a0_2 a0_3).bind fun bt709 => (if bt709.1 = 0 then (some (bt709.1, bt709.2.1, bt709.2.2.1, bt709.2.2.2)) else (some (bt709.1, !bt709.2.1, bt709.2.2.1, bt709.2.2.2)))

/-! ### pelorusref06_Sub: function 17 -/
def pelorusref06_Sub.f (k : Nat) (a0_0 : Int) (a0_1 : Bool) (a0_2 : Int) (a0_3 : Int) (a1_0 : Int) (a1_1 : Bool) (a1_2 : Int) (a1_3 : Int) (a2 : Bool) : Option (Int × Bool × Int × Int) := (pelorusref05_Neg.f a1_0 a1_1 a1_2 a1_3).bind fun bt717 => ((pelorusref06_Add.f k a0_0 a0_1 a0_2 a0_3 bt717.1 bt717.2.1 bt717.2.2.1 bt717.2.2.2 a2).bind fun bt721 => (some (bt721.1, bt721.2.1, bt721.2.2.1, bt721.2.2.2)))

/-! ### peloruslaw06_ArithSums: function 4 -/
def peloruslaw06_ArithSums.j0 : Nat → Bool → Bool → Bool → Int → Bool → Int → Int → Int → Bool → Int → Int → Option (Bool)
  | 0, _, _, _, _, _, _, _, _, _, _, _ => none
  | k + 1, x2, x7, x25, x726000, x726001, x726002, x726003, x727000, x727001, x727002, x727003 => if x25 = true then (some x7) else ((arith_Add.f k x726000 x726001 x726002 x726003 x727000 x727001 x727002 x727003 x2).bind fun bt730 => ((pelorusref06_Add.f k x726000 x726001 x726002 x726003 x727000 x727001 x727002 x727003 x2).bind fun bt735 => (if (bt730.1 == bt735.1 && (bt730.2.1 == bt735.2.1 && (bt730.2.2.1 == bt735.2.2.1 && (bt730.2.2.2 == bt735.2.2.2)))) = true then ((arith_Sub.f k x726000 x726001 x726002 x726003 x727000 x727001 x727002 x727003 x2).bind fun bt739 => ((pelorusref06_Sub.f k x726000 x726001 x726002 x726003 x727000 x727001 x727002 x727003 x2).bind fun bt743 => (if (bt739.1 == bt743.1 && (bt739.2.1 == bt743.2.1 && (bt739.2.2.1 == bt743.2.2.1 && (bt739.2.2.2 == bt743.2.2.2)))) = true then ((num_May.f bt730.1 bt730.2.1 bt730.2.2.1 bt730.2.2.2).bind fun t747 => (some t747)) else (some false)))) else (some false))))
def peloruslaw06_ArithSums.f (k : Nat) (a0_0 : Int) (a0_1 : Bool) (a0_2 : Int) (a0_3 : Int) (a1_0 : Int) (a1_1 : Bool) (a1_2 : Int) (a1_3 : Int) (a2 : Bool) : Option (Bool) := (peloruslaw06_awake.f k).bind fun t727 => ((peloruslaw06_Few.f a0_0 a0_1 a0_2 a0_3).bind fun t728 => ((peloruslaw06_Few.f a1_0 a1_1 a1_2 a1_3).bind fun t729 => (if t727 = true then (if t728 = true then (peloruslaw06_ArithSums.j0 k a2 t727 (!t729) a0_0 a0_1 a0_2 a0_3 a1_0 a1_1 a1_2 a1_3) else (peloruslaw06_ArithSums.j0 k a2 t727 true a0_0 a0_1 a0_2 a0_3 a1_0 a1_1 a1_2 a1_3)) else (peloruslaw06_ArithSums.j0 k a2 t727 true a0_0 a0_1 a0_2 a0_3 a1_0 a1_1 a1_2 a1_3))))
def peloruslaw06_ArithSums.T7 : Bool × List (List Nat × List Nat) := (true, [([], []), ([], []), ([], []), ([], []), ([1, 2, 3], [1, 2, 3]), ([0, 4], [0, 4]), ([5, 4], [5]), ([6], [6]), ([6], [6]), ([6], [6]), ([7, 8, 9, 6, 6], [6, 7, 8, 9]), ([6], [6]), ([6], [6]), ([6], [6]), ([11, 12, 13, 10, 6], [6, 11, 12, 13]), ([10, 14, 6], [6, 10, 14]), ([6, 15], [6, 15]), ([16, 14], [16]), ([17], [17]), ([18, 17, 17], [17, 18]), ([17, 19], [17, 19]), ([20, 19, 0, 1, 2, 3, 4, 5, 6, 7, 8, 9, 10, 11, 12, 13, 14, 15, 16, 17, 18, 19, 20], [20])])
def peloruslaw06_ArithSums.B7 : List Nat := [0, 0, 0, 0, 14, 31, 63, 127, 127, 127, 1023, 127, 127, 127, 16383, 32767, 65535, 131071, 262143, 524287, 1048575, 2097151]
def peloruslaw06_ArithSums.Pure : Prop := ∀ (x0 : S24) (x1 : S24) (a2 : Bool), ok24 x0 → ok24 x1 → ∃ k, peloruslaw06_ArithSums.f k x0.f0 x0.f1 x0.f2 x0.f3 x1.f0 x1.f1 x1.f2 x1.f3 a2 = some true ∧ ∀ r, peloruslaw06_awake.f k = some r → r = true

/-! ### pelorusref02_Two: function 65 -/
def pelorusref02_Two.f (k : Nat) (a0_0 : Bool) (l0_1 : List Int) (a1_0 : Bool) (l1_1 : List Int) : Option (Bool × List Int) := (pelorusref01_Mul.f k l0_1 l1_1).bind fun t751 => ((pelorusref02_Make.f k (a0_0 != a1_0) t751).bind fun bt754 => (some (bt754.1, bt754.2)))
def pelorusref02_Two.T1 : Bool × List (List Nat × List Nat) := (true, [([], []), ([0], [0]), ([], []), ([2], [2]), ([1, 3], [1, 3]), ([], []), ([5], [5]), ([], []), ([7], [7]), ([6, 8], [6, 8]), ([4, 9, 9], [4, 9]), ([10, 10, 0, 1, 2, 3, 4, 5, 6, 7, 8, 9, 10], [10])])
def pelorusref02_Two.B1 : List Nat := [0, 1, 0, 4, 15, 0, 32, 0, 128, 480, 1023, 2047]

/-! ### pelorusref03_Mul: function 43 -/
def pelorusref03_Mul.f (k : Nat) (a0_0 : Bool) (l0_1 : List Int) (a0_2 : Int) (a1_0 : Bool) (l1_1 : List Int) (a1_2 : Int) : Option (Bool × List Int × Int) := (pelorusref03_Make.f k a0_0 l0_1 a0_2).bind fun bt761 => ((pelorusref03_Make.f k a1_0 l1_1 a1_2).bind fun bt767 => ((pelorusref02_Two.f k bt761.1 bt761.2.1 bt767.1 bt767.2.1).bind fun bt773 => ((pelorusref03_Make.f k bt773.1 bt773.2 (wrap64 (bt761.2.2 + bt767.2.2))).bind fun bt777 => (some (bt777.1, bt777.2.1, bt777.2.2)))))
def pelorusref03_Mul.T3 : Bool × List (List Nat × List Nat) := (true, [([], []), ([0], [0]), ([], []), ([2], [2]), ([1, 3], [1, 3]), ([], []), ([5], [5]), ([], []), ([7], [7]), ([6, 8], [6, 8]), ([4, 9, 4], [4, 9]), ([10, 10, 0, 1, 2, 3, 4, 5, 6, 7, 8, 9, 10], [10])])
def pelorusref03_Mul.B3 : List Nat := [0, 1, 0, 4, 15, 0, 32, 0, 128, 480, 1023, 2047]

/-! ### pelorusref06_Mul: function 19 -/
mutual
def pelorusref06_Mul.j0 : Nat → Bool → Bool → Int → Bool → Int → Int → Int → Bool → Int → Int → Option (Int × Bool × Int × Int)
  | 0, _, _, _, _, _, _, _, _, _, _ => none
  | k + 1, x2, x24, x790000, x790001, x790002, x790003, x795000, x795001, x795002, x795003 => if x24 = true then (some (0, false, 0, 0)) else (if x790000 = 2 then (pelorusref06_Mul.j1 k x2 true x790000 x790001 x790002 x790003 x795000 x795001 x795002 x795003) else (pelorusref06_Mul.j1 k x2 (x795000 == 2) x790000 x790001 x790002 x790003 x795000 x795001 x795002 x795003))
def pelorusref06_Mul.j1 : Nat → Bool → Bool → Int → Bool → Int → Int → Int → Bool → Int → Int → Option (Int × Bool × Int × Int)
  | 0, _, _, _, _, _, _, _, _, _, _ => none
  | k + 1, x2, x33, x790000, x790001, x790002, x790003, x795000, x795001, x795002, x795003 => if x33 = true then ((pelorusref05_Infinite.f (x790001 != x795001)).bind fun bt795 => (some (bt795.1, bt795.2.1, bt795.2.2.1, bt795.2.2.2))) else ((pelorusref05_Exact.f k x790000 x790001 x790002 x790003).bind fun bt799 => ((pelorusref05_Exact.f k x795000 x795001 x795002 x795003).bind fun bt806 => ((pelorusref03_Mul.f k bt799.1 bt799.2.1 bt799.2.2.1 bt806.1 bt806.2.1 bt806.2.2.1).bind fun bt813 => ((pelorusref05_Round.f k bt813.1 bt813.2.1 bt813.2.2 x2).bind fun bt818 => (some (bt818.1, bt818.2.1, bt818.2.2.1, bt818.2.2.2))))))
end
def pelorusref06_Mul.f (k : Nat) (a0_0 : Int) (a0_1 : Bool) (a0_2 : Int) (a0_3 : Int) (a1_0 : Int) (a1_1 : Bool) (a1_2 : Int) (a1_3 : Int) (a2 : Bool) : Option (Int × Bool × Int × Int) := (pelorusref06_Fair.f a0_0 a0_1 a0_2 a0_3).bind fun bt785 => ((pelorusref06_Fair.f a1_0 a1_1 a1_2 a1_3).bind fun bt790 => (if bt785.1 = 0 then (pelorusref06_Mul.j0 k a2 true bt785.1 bt785.2.1 bt785.2.2.1 bt785.2.2.2 bt790.1 bt790.2.1 bt790.2.2.1 bt790.2.2.2) else (pelorusref06_Mul.j0 k a2 (bt790.1 == 0) bt785.1 bt785.2.1 bt785.2.2.1 bt785.2.2.2 bt790.1 bt790.2.1 bt790.2.2.1 bt790.2.2.2)))

/-! ### arith_Half: function 20 -/
def arith_Half.f (k : Nat) (a0_0 : Int) (a0_1 : Bool) (a0_2 : Int) (a0_3 : Int) (a1 : Bool) : Option (Int × Bool × Int × Int) := (num_Of.f k 1).bind fun bt824 => ((arith_Mul.f k a0_0 a0_1 a0_2 a0_3 bt824.1 bt824.2.1 bt824.2.2.1 (wrap64 (bt824.2.2.2 - 1)) a1).bind fun bt829 => (some (bt829.1, bt829.2.1, bt829.2.2.1, bt829.2.2.2)))

/-! ### pelorusref06_Half: function 21 -/
def pelorusref06_Half.f (k : Nat) (a0_0 : Int) (a0_1 : Bool) (a0_2 : Int) (a0_3 : Int) (a1 : Bool) : Option (Int × Bool × Int × Int) := (pelorusref06_Mul.f k a0_0 a0_1 a0_2 a0_3 1 false 9223372036854775808 (-64) a1).bind fun bt835 => (some (bt835.1, bt835.2.1, bt835.2.2.1, bt835.2.2.2))

/-! ### arith_Twice: function 22 -/
def arith_Twice.f (k : Nat) (a0_0 : Int) (a0_1 : Bool) (a0_2 : Int) (a0_3 : Int) (a1 : Bool) : Option (Int × Bool × Int × Int) := (num_Of.f k 2).bind fun bt841 => ((arith_Mul.f k a0_0 a0_1 a0_2 a0_3 bt841.1 bt841.2.1 bt841.2.2.1 bt841.2.2.2 a1).bind fun bt845 => (some (bt845.1, bt845.2.1, bt845.2.2.1, bt845.2.2.2)))

/-! ### pelorusref02_From: function 66 -/
def pelorusref02_From.f (k : Nat) (a0 : Int) : Option (Bool × List Int) := if a0 < 0 then ((pelorusref02_Make.f k (decide (a0 < 0)) (([(Int.tmod (IntKind.u64.wrap ((IntKind.u64.wrap (wrap64 (-(wrap64 (a0 + 1))))) + 1)) 4294967296) % 4294967296, (IntKind.u64.wrap (Int.tdiv (IntKind.u64.wrap ((IntKind.u64.wrap (wrap64 (-(wrap64 (a0 + 1))))) + 1)) 4294967296)) % 4294967296] : List Int))).bind fun bt853 => (some (bt853.1, bt853.2))) else ((pelorusref02_Make.f k (decide (a0 < 0)) (([(Int.tmod (IntKind.u64.wrap (a0)) 4294967296) % 4294967296, (IntKind.u64.wrap (Int.tdiv (IntKind.u64.wrap (a0)) 4294967296)) % 4294967296] : List Int))).bind fun bt860 => (some (bt860.1, bt860.2)))

/-! ### pelorusref05_Of: function 44 -/
def pelorusref05_Of.f (k : Nat) (a0 : Int) : Option (Int × Bool × Int × Int) := (pelorusref02_From.f k a0).bind fun bt865 => ((pelorusref03_Make.f k bt865.1 bt865.2 0).bind fun bt869 => ((pelorusref05_Round.f k bt869.1 bt869.2.1 bt869.2.2 true).bind fun bt874 => (some (bt874.1, bt874.2.1, bt874.2.2.1, bt874.2.2.2))))

/-! ### pelorusref06_Twice: function 23 -/
def pelorusref06_Twice.f (k : Nat) (a0_0 : Int) (a0_1 : Bool) (a0_2 : Int) (a0_3 : Int) (a1 : Bool) : Option (Int × Bool × Int × Int) := (pelorusref05_Of.f k 2).bind fun bt880 => ((pelorusref06_Mul.f k a0_0 a0_1 a0_2 a0_3 bt880.1 bt880.2.1 bt880.2.2.1 bt880.2.2.2 a1).bind fun bt884 => (some (bt884.1, bt884.2.1, bt884.2.2.1, bt884.2.2.2)))

/-! ### peloruslaw06_ArithProducts: function 5 -/
def peloruslaw06_ArithProducts.f (k : Nat) (a0_0 : Int) (a0_1 : Bool) (a0_2 : Int) (a0_3 : Int) (a1_0 : Int) (a1_1 : Bool) (a1_2 : Int) (a1_3 : Int) (a2 : Bool) : Option (Bool) := (peloruslaw06_awake.f k).bind fun t890 => ((arith_Mul.f k a0_0 a0_1 a0_2 a0_3 a1_0 a1_1 a1_2 a1_3 a2).bind fun bt891 => (if t890 = true then ((pelorusref06_Mul.f k a0_0 a0_1 a0_2 a0_3 a1_0 a1_1 a1_2 a1_3 a2).bind fun bt896 => (if (bt891.1 == bt896.1 && (bt891.2.1 == bt896.2.1 && (bt891.2.2.1 == bt896.2.2.1 && (bt891.2.2.2 == bt896.2.2.2)))) = true then ((num_May.f bt891.1 bt891.2.1 bt891.2.2.1 bt891.2.2.2).bind fun t900 => (if t900 = true then ((arith_Half.f k a0_0 a0_1 a0_2 a0_3 a2).bind fun bt901 => ((pelorusref06_Half.f k a0_0 a0_1 a0_2 a0_3 a2).bind fun bt905 => (if (bt901.1 == bt905.1 && (bt901.2.1 == bt905.2.1 && (bt901.2.2.1 == bt905.2.2.1 && (bt901.2.2.2 == bt905.2.2.2)))) = true then ((arith_Twice.f k a0_0 a0_1 a0_2 a0_3 a2).bind fun bt909 => ((pelorusref06_Twice.f k a0_0 a0_1 a0_2 a0_3 a2).bind fun bt913 => (some (bt909.1 == bt913.1 && (bt909.2.1 == bt913.2.1 && (bt909.2.2.1 == bt913.2.2.1 && (bt909.2.2.2 == bt913.2.2.2))))))) else (some false)))) else (some false))) else (some false))) else (some false)))
def peloruslaw06_ArithProducts.T3 : Bool × List (List Nat × List Nat) := (true, [([], []), ([0], [0]), ([1], [1]), ([1], [1]), ([1], [1]), ([1], [1]), ([3, 4, 5, 1, 1], [1, 3, 4, 5]), ([2, 6, 1], [1, 2, 6]), ([1, 7], [1, 7]), ([8, 6], [8]), ([9], [9]), ([10, 9, 9], [9, 10]), ([9, 11], [9, 11]), ([12, 11], [12]), ([13], [13]), ([13], [13]), ([14, 15, 13, 13], [13, 14, 15]), ([13], [13]), ([13], [13]), ([17, 18, 16, 13], [13, 17, 18]), ([16, 19, 13], [13, 16, 19]), ([13, 20], [13, 20]), ([21, 19], [21]), ([22], [22]), ([22], [22]), ([23, 24, 22, 22], [22, 23, 24]), ([22], [22]), ([22], [22]), ([26, 27, 25, 22], [22, 26, 27]), ([25, 28, 22], [22, 25, 28]), ([22, 29], [22, 29]), ([30, 28, 0, 1, 2, 3, 4, 5, 6, 7, 8, 9, 10, 11, 12, 13, 14, 15, 16, 17, 18, 19, 20, 21, 22, 23, 24, 25, 26, 27, 28, 29, 30], [30])])
def peloruslaw06_ArithProducts.B3 : List Nat := [0, 1, 3, 3, 3, 3, 59, 127, 255, 511, 1023, 2047, 4095, 8191, 16383, 16383, 65535, 16383, 16383, 524287, 1048575, 2097151, 4194303, 8388607, 8388607, 33554431, 8388607, 8388607, 268435455, 536870911, 1073741823, 2147483647]
def peloruslaw06_ArithProducts.Pure : Prop := ∀ (x0 : S24) (x1 : S24) (a2 : Bool), ok24 x0 → ok24 x1 → ∃ k, peloruslaw06_ArithProducts.f k x0.f0 x0.f1 x0.f2 x0.f3 x1.f0 x1.f1 x1.f2 x1.f3 a2 = some true ∧ ∀ r, peloruslaw06_awake.f k = some r → r = true

/-! ### peloruslaw06_ArithFar: function 6 -/
def peloruslaw06_ArithFar.j0 : Nat → Bool → Bool → Int → Bool → Int → Int → Int → Bool → Int → Int → Option (Bool)
  | 0, _, _, _, _, _, _, _, _, _, _ => none
  | k + 1, x5, x44, x918000, x918001, x918002, x918003, x919000, x919001, x919002, x919003 => if x44 = true then (some x5) else ((arith_Add.f k x918000 x918001 x918002 x918003 x919000 x919001 x919002 x919003 true).bind fun bt922 => ((num_Next.f k x918000 x918001 x918002 x918003 true).bind fun bt926 => (if (bt922.1 == bt926.1 && (bt922.2.1 == bt926.2.1 && (bt922.2.2.1 == bt926.2.2.1 && (bt922.2.2.2 == bt926.2.2.2)))) = true then ((arith_Add.f k x918000 x918001 x918002 x918003 x919000 x919001 x919002 x919003 false).bind fun bt930 => (if (bt930.1 == x918000 && (bt930.2.1 == x918001 && (bt930.2.2.1 == x918002 && (bt930.2.2.2 == x918003)))) = true then ((arith_Sub.f k x918000 x918001 x918002 x918003 x919000 x919001 x919002 x919003 false).bind fun bt934 => ((num_Next.f k x918000 x918001 x918002 x918003 false).bind fun bt938 => (if (bt934.1 == bt938.1 && (bt934.2.1 == bt938.2.1 && (bt934.2.2.1 == bt938.2.2.1 && (bt934.2.2.2 == bt938.2.2.2)))) = true then ((arith_Sub.f k x918000 x918001 x918002 x918003 x919000 x919001 x919002 x919003 true).bind fun bt942 => (some (bt942.1 == x918000 && (bt942.2.1 == x918001 && (bt942.2.2.1 == x918002 && (bt942.2.2.2 == x918003)))))) else (some false)))) else (some false))) else (some false))))
def peloruslaw06_ArithFar.f (k : Nat) (a0_0 : Int) (a0_1 : Bool) (a0_2 : Int) (a0_3 : Int) (a1_0 : Int) (a1_1 : Bool) (a1_2 : Int) (a1_3 : Int) : Option (Bool) := (peloruslaw06_awake.f k).bind fun t919 => (if t919 = true then ((num_May.f a0_0 a0_1 a0_2 a0_3).bind fun t920 => (if t920 = true then ((num_May.f a1_0 a1_1 a1_2 a1_3).bind fun t921 => (if t921 = true then (if a0_0 = 1 then (if a1_0 = 1 then (if a0_1 = true then (peloruslaw06_ArithFar.j0 k t919 true a0_0 a0_1 a0_2 a0_3 a1_0 a1_1 a1_2 a1_3) else (if a1_1 = true then (peloruslaw06_ArithFar.j0 k t919 true a0_0 a0_1 a0_2 a0_3 a1_0 a1_1 a1_2 a1_3) else (peloruslaw06_ArithFar.j0 k t919 (decide ((wrap64 (a0_3 - a1_3)) ≤ 130)) a0_0 a0_1 a0_2 a0_3 a1_0 a1_1 a1_2 a1_3))) else (peloruslaw06_ArithFar.j0 k t919 true a0_0 a0_1 a0_2 a0_3 a1_0 a1_1 a1_2 a1_3)) else (peloruslaw06_ArithFar.j0 k t919 true a0_0 a0_1 a0_2 a0_3 a1_0 a1_1 a1_2 a1_3)) else (peloruslaw06_ArithFar.j0 k t919 true a0_0 a0_1 a0_2 a0_3 a1_0 a1_1 a1_2 a1_3))) else (peloruslaw06_ArithFar.j0 k t919 true a0_0 a0_1 a0_2 a0_3 a1_0 a1_1 a1_2 a1_3))) else (peloruslaw06_ArithFar.j0 k t919 true a0_0 a0_1 a0_2 a0_3 a1_0 a1_1 a1_2 a1_3))
def peloruslaw06_ArithFar.T4 : Bool × List (List Nat × List Nat) := (true, [([], []), ([], []), ([0, 1], [0, 1]), ([], []), ([3, 2], [3]), ([2, 4], [2, 4]), ([5, 4], [5]), ([6], [6]), ([6], [6]), ([7, 8, 6, 6], [6, 7, 8]), ([6], [6]), ([9, 10, 6], [6, 9, 10]), ([6, 11], [6, 11]), ([12, 9], [12]), ([13], [13]), ([13], [13]), ([14, 15, 13, 13], [13, 14, 15]), ([13], [13]), ([17, 16, 13], [13, 17]), ([16, 18, 13], [13, 16, 18]), ([13, 19], [13, 19]), ([20, 18], [20]), ([21], [21]), ([21], [21]), ([22, 23, 21, 21], [21, 22, 23]), ([21], [21]), ([24, 25, 21], [21, 24, 25]), ([21, 26], [21, 26]), ([27, 24, 0, 1, 2, 3, 4, 5, 6, 7, 8, 9, 10, 11, 12, 13, 14, 15, 16, 17, 18, 19, 20, 21, 22, 23, 24, 25, 26, 27], [27])])
def peloruslaw06_ArithFar.B4 : List Nat := [0, 0, 3, 0, 15, 31, 63, 127, 127, 511, 127, 2047, 4095, 8191, 16383, 16383, 65535, 16383, 262143, 524287, 1048575, 2097151, 4194303, 4194303, 16777215, 4194303, 67108863, 134217727, 268435455]
def peloruslaw06_ArithFar.Pure : Prop := ∀ (x0 : S24) (x1 : S24), ok24 x0 → ok24 x1 → ∃ k, peloruslaw06_ArithFar.f k x0.f0 x0.f1 x0.f2 x0.f3 x1.f0 x1.f1 x1.f2 x1.f3 = some true ∧ ∀ r, peloruslaw06_awake.f k = some r → r = true

/-! ### peloruslaw06_ArithUnits: function 7 -/
mutual
def peloruslaw06_ArithUnits.j0 : Nat → Bool → Bool → Bool → Int → Bool → Int → Int → Option (Bool)
  | 0, _, _, _, _, _, _, _ => none
  | k + 1, x1, x5, x20, x947000, x947001, x947002, x947003 => if x20 = true then (some x5) else (if x947000 = 2 then (peloruslaw06_ArithUnits.j1 k x1 x5 false x947000 x947001 x947002 x947003 0 false 0 0) else ((arith_Sub.f k x947000 x947001 x947002 x947003 x947000 x947001 x947002 x947003 x1).bind fun bt950 => (peloruslaw06_ArithUnits.j1 k x1 x5 (!(bt950.1 == 0) || (bt950.2.1 || (!(bt950.2.2.1 == 0) || (!(bt950.2.2.2 == 0))))) x947000 x947001 x947002 x947003 0 false 0 0)))
def peloruslaw06_ArithUnits.j1 : Nat → Bool → Bool → Bool → Int → Bool → Int → Int → Int → Bool → Int → Int → Option (Bool)
  | 0, _, _, _, _, _, _, _, _, _, _, _ => none
  | k + 1, x1, x5, x33, x947000, x947001, x947002, x947003, x950000, x950001, x950002, x950003 => if x33 = true then (some false) else (if x5 = true then ((arith_Add.f k x947000 x947001 x947002 x947003 x950000 x950001 x950002 x950003 x1).bind fun bt954 => (if (bt954.1 == x947000 && (bt954.2.1 == x947001 && (bt954.2.2.1 == x947002 && (bt954.2.2.2 == x947003)))) = true then ((num_Of.f k 1).bind fun bt958 => ((arith_Mul.f k x947000 x947001 x947002 x947003 bt958.1 bt958.2.1 bt958.2.2.1 bt958.2.2.2 x1).bind fun bt962 => (if (bt962.1 == x947000 && (bt962.2.1 == x947001 && (bt962.2.2.1 == x947002 && (bt962.2.2.2 == x947003)))) = true then ((arith_Mul.f k x947000 x947001 x947002 x947003 x950000 x950001 x950002 x950003 x1).bind fun bt966 => (if (bt966.1 == x950000 && (bt966.2.1 == x950001 && (bt966.2.2.1 == x950002 && (bt966.2.2.2 == x950003)))) = true then ((arith_Twice.f k x947000 x947001 x947002 x947003 x1).bind fun bt970 => ((arith_Half.f k bt970.1 bt970.2.1 bt970.2.2.1 bt970.2.2.2 x1).bind fun bt974 => (some (bt974.1 == x947000 && (bt974.2.1 == x947001 && (bt974.2.2.1 == x947002 && (bt974.2.2.2 == x947003))))))) else (some false))) else (some false)))) else (some false))) else (some false))
end
def peloruslaw06_ArithUnits.f (k : Nat) (a0_0 : Int) (a0_1 : Bool) (a0_2 : Int) (a0_3 : Int) (a1 : Bool) : Option (Bool) := (peloruslaw06_awake.f k).bind fun t947 => ((num_May.f a0_0 a0_1 a0_2 a0_3).bind fun t948 => (if t948 = true then (if a0_0 = 1 then (peloruslaw06_ArithUnits.j0 k a1 t947 (decide (a0_3 ≥ 1048576)) a0_0 a0_1 a0_2 a0_3) else (peloruslaw06_ArithUnits.j0 k a1 t947 false a0_0 a0_1 a0_2 a0_3)) else (peloruslaw06_ArithUnits.j0 k a1 t947 true a0_0 a0_1 a0_2 a0_3)))
def peloruslaw06_ArithUnits.T5 : Bool × List (List Nat × List Nat) := (true, [([], []), ([0], [0]), ([1], [1]), ([2], [2]), ([3], [3]), ([3], [3]), ([3], [3]), ([4, 5, 6, 3, 3], [3, 4, 5, 6]), ([3], [3]), ([7, 8, 3], [3, 7, 8]), ([3, 9], [3, 9])])
def peloruslaw06_ArithUnits.B5 : List Nat := [0, 1, 3, 7, 15, 15, 15, 127, 15, 511, 1023]
def peloruslaw06_ArithUnits.Pure : Prop := ∀ (x0 : S24) (a1 : Bool), ok24 x0 → ∃ k, peloruslaw06_ArithUnits.f k x0.f0 x0.f1 x0.f2 x0.f3 a1 = some true ∧ ∀ r, peloruslaw06_awake.f k = some r → r = true

/-! ### num_Sign: function 27 -/
def num_Sign.f (a0_0 : Int) (a0_1 : Bool) (a0_2 : Int) (a0_3 : Int) : Option (Int) := (num_fair.f a0_0 a0_1 a0_2 a0_3).bind fun bt979 => (if bt979.1 = 0 then (some 0) else (if bt979.2.1 = true then (some (-1)) else (some 1)))

/-! ### num_farther: function 49 -/
def num_farther.f (a0_0 : Int) (a0_1 : Bool) (a0_2 : Int) (a0_3 : Int) (a1_0 : Int) (a1_1 : Bool) (a1_2 : Int) (a1_3 : Int) : Option (Bool) := if a0_0 = a1_0 then (if a0_3 = a1_3 then (some (decide (a0_2 > a1_2))) else (some (decide (a0_3 > a1_3)))) else (some (decide (a0_0 > a1_0)))

/-! ### num_Cmp: function 26 -/
def num_Cmp.f (a0_0 : Int) (a0_1 : Bool) (a0_2 : Int) (a0_3 : Int) (a1_0 : Int) (a1_1 : Bool) (a1_2 : Int) (a1_3 : Int) : Option (Int) := (num_fair.f a0_0 a0_1 a0_2 a0_3).bind fun bt987 => ((num_fair.f a1_0 a1_1 a1_2 a1_3).bind fun bt991 => ((num_Sign.f bt987.1 bt987.2.1 bt987.2.2.1 bt987.2.2.2).bind fun t995 => ((num_Sign.f bt991.1 bt991.2.1 bt991.2.2.1 bt991.2.2.2).bind fun t996 => (if t995 < t996 then (some (-1)) else (if t995 > t996 then (some 1) else ((num_farther.f bt987.1 bt987.2.1 bt987.2.2.1 bt987.2.2.2 bt991.1 bt991.2.1 bt991.2.2.1 bt991.2.2.2).bind fun t997 => (if t997 = true then (some t995) else ((num_farther.f bt991.1 bt991.2.1 bt991.2.2.1 bt991.2.2.2 bt987.1 bt987.2.1 bt987.2.2.1 bt987.2.2.2).bind fun t998 => (if t998 = true then (some (wrap64 (-t995))) else (some 0))))))))))

/-! ### peloruslaw06_ArithGrows: function 8 -/
def peloruslaw06_ArithGrows.j0 : Nat → Bool → Bool → Bool → Int → Bool → Int → Int → Int → Bool → Int → Int → Int → Bool → Int → Int → Option (Bool)
  | 0, _, _, _, _, _, _, _, _, _, _, _, _, _, _, _ => none
  | k + 1, x3, x9, x19, x1000000, x1000001, x1000002, x1000003, x1001000, x1001001, x1001002, x1001003, x1002000, x1002001, x1002002, x1002003 => if x19 = true then (some x9) else ((arith_Add.f k x1000000 x1000001 x1000002 x1000003 x1002000 x1002001 x1002002 x1002003 x3).bind fun bt1004 => ((arith_Add.f k x1001000 x1001001 x1001002 x1001003 x1002000 x1002001 x1002002 x1002003 x3).bind fun bt1008 => ((num_Cmp.f bt1004.1 bt1004.2.1 bt1004.2.2.1 bt1004.2.2.2 bt1008.1 bt1008.2.1 bt1008.2.2.1 bt1008.2.2.2).bind fun t1012 => ((num_Sign.f x1002000 x1002001 x1002002 x1002003).bind fun t1013 => (if t1013 < 0 then (if t1012 ≤ 0 then ((arith_Mul.f k x1000000 x1000001 x1000002 x1000003 x1002000 x1002001 x1002002 x1002003 x3).bind fun bt1014 => ((arith_Mul.f k x1001000 x1001001 x1001002 x1001003 x1002000 x1002001 x1002002 x1002003 x3).bind fun bt1018 => ((num_Cmp.f bt1014.1 bt1014.2.1 bt1014.2.2.1 bt1014.2.2.2 bt1018.1 bt1018.2.1 bt1018.2.2.1 bt1018.2.2.2).bind fun t1022 => (some (decide (t1022 ≥ 0)))))) else (some false)) else (if t1012 ≤ 0 then ((arith_Mul.f k x1000000 x1000001 x1000002 x1000003 x1002000 x1002001 x1002002 x1002003 x3).bind fun bt1023 => ((arith_Mul.f k x1001000 x1001001 x1001002 x1001003 x1002000 x1002001 x1002002 x1002003 x3).bind fun bt1027 => ((num_Cmp.f bt1023.1 bt1023.2.1 bt1023.2.2.1 bt1023.2.2.2 bt1027.1 bt1027.2.1 bt1027.2.2.1 bt1027.2.2.2).bind fun t1031 => (some (decide (t1031 ≤ 0)))))) else (some false)))))))
def peloruslaw06_ArithGrows.f (k : Nat) (a0_0 : Int) (a0_1 : Bool) (a0_2 : Int) (a0_3 : Int) (a1_0 : Int) (a1_1 : Bool) (a1_2 : Int) (a1_3 : Int) (a2_0 : Int) (a2_1 : Bool) (a2_2 : Int) (a2_3 : Int) (a3 : Bool) : Option (Bool) := (peloruslaw06_awake.f k).bind fun t1002 => (if t1002 = true then ((num_Cmp.f a0_0 a0_1 a0_2 a0_3 a1_0 a1_1 a1_2 a1_3).bind fun t1003 => (peloruslaw06_ArithGrows.j0 k a3 t1002 (decide (t1003 > 0)) a0_0 a0_1 a0_2 a0_3 a1_0 a1_1 a1_2 a1_3 a2_0 a2_1 a2_2 a2_3)) else (peloruslaw06_ArithGrows.j0 k a3 t1002 true a0_0 a0_1 a0_2 a0_3 a1_0 a1_1 a1_2 a1_3 a2_0 a2_1 a2_2 a2_3))
def peloruslaw06_ArithGrows.T4 : Bool × List (List Nat × List Nat) := (true, [([], []), ([], []), ([], []), ([0, 1, 2], [0, 1, 2]), ([], []), ([], []), ([], []), ([4, 5, 6, 3], [4, 5, 6]), ([3, 7, 7], [3, 7]), ([8], [8]), ([9, 8, 0, 1, 2, 3, 4, 5, 6, 7, 8, 9], [9])])
def peloruslaw06_ArithGrows.B4 : List Nat := [0, 0, 0, 7, 0, 0, 0, 127, 255, 511, 1023]
def peloruslaw06_ArithGrows.Pure : Prop := ∀ (x0 : S24) (x1 : S24) (x2 : S24) (a3 : Bool), ok24 x0 → ok24 x1 → ok24 x2 → ∃ k, peloruslaw06_ArithGrows.f k x0.f0 x0.f1 x0.f2 x0.f3 x1.f0 x1.f1 x1.f2 x1.f3 x2.f0 x2.f1 x2.f2 x2.f3 a3 = some true ∧ ∀ r, peloruslaw06_awake.f k = some r → r = true

/-! ### arith_Sum: function 28 -/
def arith_Sum.l0 : Nat → Bool → List (S24) → Int → Int → Int → Bool → Int → Int → Option (Int × Bool × Int × Int)
  | 0, _, _, _, _, _, _, _, _ => none
  | k + 1, x0, x8, x9, x10, x1034000, x1034001, x1034002, x1034003 => if x10 < x9 then (if 0 ≤ x10 then (if x10 < (x8.length : Int) then ((arith_Add.f k x1034000 x1034001 x1034002 x1034003 ((rd_T24 x8 x10).f0) ((rd_T24 x8 x10).f1) ((rd_T24 x8 x10).f2) ((rd_T24 x8 x10).f3) x0).bind fun bt1036 => (arith_Sum.l0 k x0 x8 x9 (wrap64 (x10 + 1)) bt1036.1 bt1036.2.1 bt1036.2.2.1 bt1036.2.2.2)) else (none)) else (none)) else (some (x1034000, x1034001, x1034002, x1034003))
def arith_Sum.f (k : Nat) (a0 : Bool) (l1 : List (S24)) : Option (Int × Bool × Int × Int) := arith_Sum.l0 k a0 l1 (l1.length : Int) 0 0 false 0 0

/-! ### pelorusref06_Sum: function 29 -/
def pelorusref06_Sum.l0 : Nat → Bool → List (S24) → Int → Int → Bool → Int → Int → Option (Int × Bool × Int × Int)
  | 0, _, _, _, _, _, _, _ => none
  | k + 1, x0, x1, x6, x1042000, x1042001, x1042002, x1042003 => if x6 < (x1.length : Int) then (if x6 = 0 then (if 0 ≤ x6 then ((pelorusref06_Fair.f ((rd_T24 x1 x6).f0) ((rd_T24 x1 x6).f1) ((rd_T24 x1 x6).f2) ((rd_T24 x1 x6).f3)).bind fun bt1043 => (pelorusref06_Sum.l0 k x0 x1 (wrap64 (x6 + 1)) bt1043.1 bt1043.2.1 bt1043.2.2.1 bt1043.2.2.2)) else (none)) else (if 0 ≤ x6 then ((pelorusref06_Add.f k x1042000 x1042001 x1042002 x1042003 ((rd_T24 x1 x6).f0) ((rd_T24 x1 x6).f1) ((rd_T24 x1 x6).f2) ((rd_T24 x1 x6).f3) x0).bind fun bt1048 => (pelorusref06_Sum.l0 k x0 x1 (wrap64 (x6 + 1)) bt1048.1 bt1048.2.1 bt1048.2.2.1 bt1048.2.2.2)) else (none))) else (some (x1042000, x1042001, x1042002, x1042003))
def pelorusref06_Sum.f (k : Nat) (a0 : Bool) (l1 : List (S24)) : Option (Int × Bool × Int × Int) := pelorusref06_Sum.l0 k a0 l1 0 0 false 0 0
def pelorusref06_Sum.T7 : Bool × List (List Nat × List Nat) := (true, [([], []), ([], []), ([], []), ([1, 2], [1, 2]), ([3], [3]), ([], []), ([0, 4, 5], [0, 4, 5]), ([6, 6, 0, 1, 2, 3, 4, 5, 6], [6])])
def pelorusref06_Sum.B7 : List Nat := [0, 0, 0, 6, 14, 0, 63, 127]

/-! ### peloruslaw06_ArithMany: function 9 -/
mutual
def peloruslaw06_ArithMany.j0 : Nat → List (S24) → Bool → Bool → Bool → Option (Bool)
  | 0, _, _, _, _ => none
  | k + 1, x0, x1, x5, x17 => if x17 = true then (some x5) else (peloruslaw06_ArithMany.l0 k x0 x1 0)
def peloruslaw06_ArithMany.l0 : Nat → List (S24) → Bool → Int → Option (Bool)
  | 0, _, _, _ => none
  | k + 1, x0, x1, x6 => if x6 < (x0.length : Int) then (if 0 ≤ x6 then ((peloruslaw06_Few.f ((rd_T24 x0 x6).f0) ((rd_T24 x0 x6).f1) ((rd_T24 x0 x6).f2) ((rd_T24 x0 x6).f3)).bind fun t1054 => (if t1054 = true then (peloruslaw06_ArithMany.l0 k x0 x1 (wrap64 (x6 + 1))) else (some true))) else (none)) else ((arith_Sum.f k false x0).bind fun bt1055 => ((arith_Sum.f k true x0).bind fun bt1060 => ((arith_Sum.f k x1 x0).bind fun bt1065 => ((pelorusref06_Sum.f k x1 x0).bind fun bt1069 => (if (bt1065.1 == bt1069.1 && (bt1065.2.1 == bt1069.2.1 && (bt1065.2.2.1 == bt1069.2.2.1 && (bt1065.2.2.2 == bt1069.2.2.2)))) = true then ((num_Cmp.f bt1055.1 bt1055.2.1 bt1055.2.2.1 bt1055.2.2.2 bt1060.1 bt1060.2.1 bt1060.2.2.1 bt1060.2.2.2).bind fun t1073 => (some (decide (t1073 ≤ 0)))) else (some false))))))
end
def peloruslaw06_ArithMany.f (k : Nat) (l0 : List (S24)) (a1 : Bool) : Option (Bool) := (peloruslaw06_awake.f k).bind fun t1052 => (if t1052 = true then (peloruslaw06_ArithMany.j0 k l0 a1 t1052 (decide ((l0.length : Int) > 20))) else (peloruslaw06_ArithMany.j0 k l0 a1 t1052 true))
def peloruslaw06_ArithMany.Pure : Prop := ∀ (l0 : List (S24)) (a1 : Bool), (l0.length * 32 ≤ 140737488351232 ∧ l0.length ≤ maxLen ∧ ∀ x ∈ l0, ok24 x) → ∃ k, peloruslaw06_ArithMany.f k l0 a1 = some true ∧ ∀ r, peloruslaw06_awake.f k = some r → r = true

end Go.Proofs.Ythlhogcnfaiphaa.PA
