/- What the document's answers for layer 1 are (second part: products, bits, quotients, roots). -/
import Derived.Test.YtbejmpocgnldnaaPZx1
import Derived.Test.YtbejmpocgnldnaaT8
namespace Go.Proofs.Ytbejmpocgnldnaa.T
set_option linter.unusedVariables false
set_option linter.unusedSimpArgs false
open Go.RowKit Go.Proofs.YtbejmpocgnldnaaW.PrintWords Go.Proofs.YtbejmpocgnldnaaW.PrintMore Go.Proofs.Ytbejmpocgnldnaa.PZ

/-! products -/
theorem step_row {V P S x y c r q : Int} (e : r + 4294967296 * q = x * y + c) (h : V + P * c = S * y) : V + P * r + 4294967296 * P * q = (S + P * x) * y := by
  have h1 : P * (r + 4294967296 * q) = P * (x * y + c) := by rw [e]
  grind
theorem shl1 {s : Nat} (hs : s < 32) : shl .u32 1 (s : Int) = 2 ^ s := by
  unfold shl
  have hmn : min (s : Int).toNat IntKind.u32.bits = s := by
    have : IntKind.u32.bits = 32 := rfl
    rw [this, Int.toNat_natCast]
    omega
  have h1 := p2_pos s
  have h2 := p2_mono (show s ≤ 31 by omega)
  have e : (2 : Int) ^ 31 = 2147483648 := rfl
  rw [hmn, Int.one_mul, IntKind.wrap_u32, Int.emod_eq_of_lt (by omega) (by omega)]
theorem p2_31 {s : Nat} (hs : s < 32) : 0 < (2 : Int) ^ s ∧ (2 : Int) ^ s ≤ 2147483648 := by
  have h2 := p2_mono (show s ≤ 31 by omega)
  have e : (2 : Int) ^ 31 = 2147483648 := rfl
  exact ⟨p2_pos s, by omega⟩
theorem val_div' {l : List Int} (h : U l) (i : Nat) : val l / pw i = val (l.drop i) := by
  by_cases hi : i ≤ l.length
  · exact val_div h hi
  · have h1 := val_lt h
    have h2 := pw_mono (show l.length ≤ i by omega)
    rw [List.drop_of_length_le (by omega), val_nil, Int.ediv_eq_zero_of_lt (val_nonneg h) (by omega)]
theorem bit_eq {l : List Int} (h : U l) (i : Nat) : (val l / 2 ^ i) % 2 = (l.getD (i / 32) 0 / 2 ^ (i % 32)) % 2 := by
  have hp := p2_pos (i % 32)
  have e1 : val l / 2 ^ i = val (l.drop (i / 32)) / 2 ^ (i % 32) := by
    rw [← val_div' h, p2_limb, Int.ediv_ediv_of_nonneg (by have := p2_pos (32 * (i / 32)); omega), ← p2_add, show 32 * (i / 32) + i % 32 = i by omega]
  have e2 : (4294967296 : Int) = 2 ^ (i % 32) * (2 * 2 ^ (31 - i % 32)) := by
    rw [← p2_succ, ← p2_add, show i % 32 + (31 - i % 32 + 1) = 32 by omega]
    rfl
  rw [e1, val_drop', e2, Int.mul_assoc, Int.add_mul_ediv_left _ _ (by omega), Int.mul_assoc, Int.add_mul_emod_self_left]
/-! quotients, bit by bit -/
theorem div_unique {v D Q R : Int} (h : v = D * Q + R) (h0 : 0 ≤ R) (h1 : R < D) : v / D = Q ∧ v % D = R := by
  subst h
  rw [Int.add_comm]
  exact ⟨by rw [Int.add_mul_ediv_left _ _ (by omega), Int.ediv_eq_zero_of_lt h0 h1, Int.zero_add], by rw [Int.add_mul_emod_self_left, Int.emod_eq_of_lt h0 h1]⟩
/-! roots, bit by bit -/
theorem sq_mono {a b : Int} (ha : 0 ≤ a) (h : a ≤ b) : a * a ≤ b * b := Int.mul_le_mul h h ha (by omega)
end Go.Proofs.Ytbejmpocgnldnaa.T
