/- What the sums and products of layer 6 compute (second part). -/
import Derived.Test.YthlhogcnfaiphaaPAx2
import Derived.Test.YthlhogcnfaiphaaTC
import Derived.Lib.Mul64
namespace Go.Proofs.Ythlhogcnfaiphaa.T
set_option linter.unusedVariables false
set_option linter.unusedSimpArgs false
open Go.RowKit Go.Proofs.YthlhogcnfaiphaaW.PrintWords Go.Proofs.YthlhogcnfaiphaaW.PrintMore Go.Proofs.Ythlhogcnfaiphaa.PA

/-! how many bits 64 bits have -/
theorem len64_j0 {x n : Int} (h0 : 0 ≤ x) (h1 : x < 4294967296) (n0 : 0 ≤ n) (n1 : n ≤ 32) (k : Nat) : bits_Len64.j0 (k + 1) x n = some (n + bl x) := by
  have b8 : ∀ y : Int, 0 ≤ y → y < 256 → bl y ≤ 8 := fun y _ hy => bl_le (m := 8) hy
  unfold bits_Len64.j0
  change (if x ≥ 65536 then (if (x / 65536) ≥ 256 then (if 0 ≤ (((x / 65536) / 256) % 256) then (if (((x / 65536) / 256) % 256) < 256 then (some (wrap64 ((wrap64 ((wrap64 (n + 16)) + 8)) + (wrap64 (bt tab8 (((x / 65536) / 256) % 256)))))) else (none)) else (none)) else (if 0 ≤ ((x / 65536) % 256) then (if ((x / 65536) % 256) < 256 then (some (wrap64 ((wrap64 (n + 16)) + (wrap64 (bt tab8 ((x / 65536) % 256)))))) else (none)) else (none))) else (if x ≥ 256 then (if 0 ≤ ((x / 256) % 256) then (if ((x / 256) % 256) < 256 then (some (wrap64 ((wrap64 (n + 8)) + (wrap64 (bt tab8 ((x / 256) % 256)))))) else (none)) else (none)) else (if 0 ≤ (x % 256) then (if (x % 256) < 256 then (some (wrap64 (n + (wrap64 (bt tab8 (x % 256)))))) else (none)) else (none)))) = some (n + bl x)
  by_cases c1 : x ≥ 65536
  · rw [if_pos c1]
    by_cases c2 : x / 65536 ≥ 256
    · rw [if_pos c2, if_pos (by omega), if_pos (by omega)]
      have e : x / 65536 / 256 % 256 = x / 2 ^ 24 := by omega
      have e2 := bl_shift (x := x) 24 (by omega)
      have e3 := b8 (x / 2 ^ 24) (by omega) (by omega)
      have e4 := bl_nonneg (x / 2 ^ 24)
      rw [e, tab8_eq (by omega) (by omega), w64 (x := bl _) (by omega) (by omega), w64 (x := n + 16) (by omega) (by omega), w64 (x := n + 16 + 8) (by omega) (by omega), w64 (by omega) (by omega), e2]
      congr 1
      omega
    · rw [if_neg c2, if_pos (by omega), if_pos (by omega)]
      have e : x / 65536 % 256 = x / 2 ^ 16 := by omega
      have e2 := bl_shift (x := x) 16 (by omega)
      have e3 := b8 (x / 2 ^ 16) (by omega) (by omega)
      have e4 := bl_nonneg (x / 2 ^ 16)
      rw [e, tab8_eq (by omega) (by omega), w64 (x := bl _) (by omega) (by omega), w64 (x := n + 16) (by omega) (by omega), w64 (by omega) (by omega), e2]
      congr 1
      omega
  · rw [if_neg c1]
    by_cases c2 : x ≥ 256
    · rw [if_pos c2, if_pos (by omega), if_pos (by omega)]
      have e : x / 256 % 256 = x / 2 ^ 8 := by omega
      have e2 := bl_shift (x := x) 8 (by omega)
      have e3 := b8 (x / 2 ^ 8) (by omega) (by omega)
      have e4 := bl_nonneg (x / 2 ^ 8)
      rw [e, tab8_eq (by omega) (by omega), w64 (x := bl _) (by omega) (by omega), w64 (x := n + 8) (by omega) (by omega), w64 (by omega) (by omega), e2]
      congr 1
      omega
    · rw [if_neg c2, if_pos (by omega), if_pos (by omega)]
      have e : x % 256 = x := by omega
      have e3 := b8 x (by omega) (by omega)
      have e4 := bl_nonneg x
      rw [e, tab8_eq (by omega) (by omega), w64 (x := bl _) (by omega) (by omega), w64 (by omega) (by omega)]
theorem len64 {x : Int} (h0 : 0 ≤ x) (h1 : x < 18446744073709551616) (k : Nat) (hk : 1 ≤ k) : bits_Len64.f k x = some (bl x) := by
  obtain ⟨k, rfl⟩ : ∃ i, k = i + 1 := ⟨k - 1, by omega⟩
  unfold bits_Len64.f
  by_cases h : x ≥ 4294967296
  · have e2 := bl_shift (x := x) 32 (by omega)
    rw [if_pos h, len64_j0 (by omega) (by omega) (by decide) (by decide), e2]
    rfl
  · rw [if_neg h, len64_j0 h0 (by omega) (by decide) (by decide), Int.zero_add]
theorem lz64 {x : Int} (h0 : 0 ≤ x) (h1 : x < 18446744073709551616) (k : Nat) (hk : 1 ≤ k) : bits_LeadingZeros64.f k x = some (64 - bl x) := by
  unfold bits_LeadingZeros64.f
  have e3 := bl_le (n := x) (m := 64) (by rw [p64]; exact h1)
  have e4 := bl_nonneg x
  rw [len64 h0 h1 k hk, Option.bind_some, w64 (by omega) (by omega)]
/-! the sum of two of one sign -/
theorem low_hi {hi lo m : Int} {n : Nat} (m0 : 0 ≤ m) (l0 : 0 ≤ lo) (l1 : lo < 18446744073709551616) (h : hi * 18446744073709551616 + lo = m * 18446744073709551616 / 2 ^ n) :
    m / 2 ^ n = hi ∧ (m % 2 ^ n ≠ 0 ↔ lo ≠ 0 ∨ m * 18446744073709551616 % 2 ^ n ≠ 0) := by
  have hp := p2_pos n
  have a1 : m / 2 ^ n = hi := by
    have : m * 18446744073709551616 / 2 ^ n / 18446744073709551616 = m / 2 ^ n := by
      rw [Int.ediv_ediv_of_nonneg (by omega), Int.mul_ediv_mul_of_pos_left _ _ (by decide)]
    rw [← this, ← h]
    omega
  have a2 := Int.mul_ediv_add_emod m (2 ^ n)
  have a3 := Int.mul_ediv_add_emod (m * 18446744073709551616) (2 ^ n)
  rw [← h] at a3
  rw [a1] at a2
  have r0 := Int.emod_nonneg (m * 18446744073709551616) (b := 2 ^ n) (by omega)
  have t0 := Int.emod_nonneg m (b := 2 ^ n) (by omega)
  rw [Int.mul_add, ← Int.mul_assoc] at a3
  have b0 := Int.mul_nonneg (show (0 : Int) ≤ 2 ^ n by omega) l0
  have key : (m % 2 ^ n) * 18446744073709551616 = 2 ^ n * lo + m * 18446744073709551616 % 2 ^ n := by omega
  refine ⟨a1, ?_⟩
  constructor
  · intro q1
    by_cases q2 : lo = 0
    · refine .inr fun q3 => q1 ?_
      rw [q2, q3] at key
      omega
    · exact .inl q2
  · rintro (q | q) q1
    · rw [q1] at key
      have := Int.mul_pos hp (show 0 < lo by omega)
      omega
    · rw [q1] at key
      omega
theorem sum_div {am bm : Int} {d : Nat} : (am * 2 ^ d + bm) / 2 ^ d = am + bm / 2 ^ d ∧ (am * 2 ^ d + bm) % 2 ^ d = bm % 2 ^ d := by
  have hp := p2_pos d
  rw [Int.mul_comm am, Int.add_comm]
  rw [Int.add_mul_ediv_left _ _ (by omega), Int.add_mul_emod_self_left, Int.add_comm]
  exact ⟨rfl, rfl⟩
theorem div_succ (v : Int) (d : Nat) : v / 2 ^ (d + 1) = v / 2 ^ d / 2 ∧ (v % 2 ^ (d + 1) ≠ 0 ↔ v / 2 ^ d % 2 ≠ 0 ∨ v % 2 ^ d ≠ 0) := by
  have hp := p2_pos d
  have e1 : v / 2 ^ (d + 1) = v / 2 ^ d / 2 := by
    rw [Int.ediv_ediv_of_nonneg (by omega), Int.pow_succ]
  refine ⟨e1, ?_⟩
  have a1 := Int.mul_ediv_add_emod v (2 ^ (d + 1))
  have a2 := Int.mul_ediv_add_emod v (2 ^ d)
  have a3 := Int.mul_ediv_add_emod (v / 2 ^ d) 2
  have r0 := Int.emod_nonneg v (b := 2 ^ d) (by omega)
  have r1 := Int.emod_nonneg (v / 2 ^ d) (b := 2) (by omega)
  rw [e1, p2_succ] at a1
  rw [p2_succ]
  generalize v / 2 ^ d / 2 = Q at *
  generalize v / 2 ^ d % 2 = R at *
  generalize v / 2 ^ d = q at *
  subst a3
  have b := Int.mul_nonneg (show (0 : Int) ≤ 2 ^ d by omega) r1
  have key : v % (2 * 2 ^ d) = 2 ^ d * R + v % 2 ^ d := by
    rw [Int.mul_add, ← Int.mul_assoc, Int.mul_comm (2 ^ d) 2] at a2
    omega
  rw [key]
  constructor
  · intro q1
    by_cases q2 : R = 0
    · refine .inr fun q3 => q1 (by rw [q2, q3]; omega)
    · exact .inl q2
  · rintro (q | q) q1
    · have := Int.mul_pos hp (show 0 < R by omega)
      omega
    · omega
theorem and_one {x : Int} (h0 : 0 ≤ x) (h1 : x < 18446744073709551616) : Go.bits .and .u64 x 1 = x % 2 := by
  have := bits_mask .u64 64 (by decide) wraps_u64 1 (by decide) x h0 (by rw [p64]; exact h1)
  simpa using this
theorem and_low {x : Int} (h0 : 0 ≤ x) (h1 : x < 18446744073709551616) : Go.bits .and .u64 x 4294967295 = x % 4294967296 := by
  have := bits_mask .u64 64 (by decide) wraps_u64 32 (by decide) x h0 (by rw [p64]; exact h1)
  simpa using this
theorem or_top {x : Int} (h0 : 0 ≤ x) (h1 : x < 9223372036854775808) : Go.bits .or .u64 x 9223372036854775808 = x + 9223372036854775808 := by
  rw [bits_or_comm, bits_join .u64 64 (by decide) wraps_u64 63 9223372036854775808 x (by decide) (by decide) (by decide) h0 (by rw [p63]; exact h1) (by rw [p64]; omega), Int.add_comm]
theorem tup {α β γ δ : Type} (p : α × β × γ × δ) : (p.1, p.2.1, p.2.2.1, p.2.2.2) = p := rfl
theorem plus_eq (k : Nat) (hk : 3 ≤ k) {am ae bm be : Int} (q1 q2 : Int) (an bn up : Bool) {d : Nat} (a0 : 9223372036854775808 ≤ am) (a1 : am < 18446744073709551616) (b0 : 9223372036854775808 ≤ bm) (b1 : bm < 18446744073709551616) (e0 : -1048576 ≤ be) (e1 : ae ≤ 1048576) (hd : ae = be + d) :
    arith_plus.f k q1 an am ae q2 bn bm be up = some (rnd an (am * 2 ^ d + bm) be (up != an)) := by
  obtain ⟨hi, lo, cut, hl, i0, i1, l0, l1, hv, hc⟩ := lower_eq b0 b1 (n := d) (by omega)
  obtain ⟨hh, hr⟩ := low_hi (by omega) l0 l1 hv
  obtain ⟨s1, s2⟩ := sum_div (am := am) (bm := bm) (d := d)
  obtain ⟨s3, s4⟩ := div_succ (am * 2 ^ d + bm) d
  rw [hh] at s1
  rw [s1] at s3 s4
  rw [← hc] at hr
  rw [s2, hr] at s4
  have e : wrap64 (ae - be) = (d : Int) := by rw [w64 (by omega) (by omega)]; omega
  unfold arith_plus.f
  rw [e, hl, Option.bind_some]
  unfold bits_Add64.f
  rw [if_pos ⟨by omega, i0, by decide, by decide⟩, Option.bind_some]
  simp only [Int.add_zero]
  by_cases c : am + hi < 18446744073709551616
  · have m1 : (am + hi) % 18446744073709551616 = am + hi := by omega
    have m2 : (am + hi) / 18446744073709551616 = 0 := by omega
    have f : ∀ cc : Bool, (cc = true ↔ bm % 2 ^ d ≠ 0) → num_Grow.f k an (am + hi) ae cc (up != an) = some (rnd an (am * 2 ^ d + bm) be (up != an)) := fun cc h => by
      rw [grw_eq k hk _ _ _ _ _ (by omega) c (by omega) (by omega), rnd_fit (div_fit (c := cc) (by omega) c s1 (by rw [s2]; exact h)), hd]
    rw [m1, m2]
    cases cut
    · rw [if_neg (by decide), if_pos rfl, f (lo != 0) (by rw [hr]; simp), Option.bind_some]
    · rw [if_pos rfl, if_pos rfl, f true (by rw [hr]; simp), Option.bind_some]
  · have m1 : (am + hi) % 18446744073709551616 = am + hi - 18446744073709551616 := by omega
    have m2 : (am + hi) / 18446744073709551616 = 1 := by omega
    have w : wrap64 (ae + 1) = ae + 1 := w64 (by omega) (by omega)
    have o : Go.bits .or .u64 ((am + hi - 18446744073709551616) / 2) 9223372036854775808 = (am + hi) / 2 := by
      rw [or_top (by omega) (by omega)]; omega
    have f : ∀ cc : Bool, (cc = true ↔ (am * 2 ^ d + bm) % 2 ^ (d + 1) ≠ 0) → num_Grow.f k an ((am + hi) / 2) (ae + 1) cc (up != an) = some (rnd an (am * 2 ^ d + bm) be (up != an)) := fun cc h => by
      rw [grw_eq k hk _ _ _ _ _ (by omega) (by omega) (by omega) (by omega), rnd_fit (div_fit (c := cc) (by omega) (by omega) s3 h), hd, show be + (d : Int) + 1 = be + ((d + 1 : Nat) : Int) by omega]
    rw [m1, m2, o, w, and_one (by omega) (by omega)]
    have n1 : (1 : Int) ≠ 0 := by decide
    cases cut
    · rw [if_neg (by decide), if_neg n1]
      by_cases z : lo = 0
      · rw [if_pos z, f _ (by rw [s4]; simp [z]; omega), Option.bind_some]
      · rw [if_neg z, f true (by rw [s4]; simp [z]), Option.bind_some]
    · rw [if_pos rfl, if_neg n1, f true (by rw [s4]; simp), Option.bind_some]
theorem or_sum {h l : Int} {b j : Nat} (hb : b + j = 64) (h0 : 0 ≤ h) (h1 : h < 2 ^ j) (l0 : 0 ≤ l) (l1 : l < 2 ^ b) : Go.bits .or .u64 (h * 2 ^ b) l = h * 2 ^ b + l ∧ h * 2 ^ b < 18446744073709551616 := by
  have hp := p2_pos b
  have hW : (18446744073709551616 : Int) = 2 ^ j * 2 ^ b := by rw [← p2_add, Nat.add_comm, hb, p64]
  have a1 := mul_lt_p b h1
  rw [← hW] at a1
  have a2 := Int.mul_nonneg h0 (show (0 : Int) ≤ 2 ^ b by omega)
  have a3 := p2_mono (i := b) (j := 64) (by omega)
  rw [p64] at a3
  refine ⟨?_, a1⟩
  exact bits_join .u64 64 (by decide) wraps_u64 b _ _ a2 (Int.mul_emod_left _ _) (by rw [p64]; exact a1) l0 l1 (by rw [p64]; omega)
/-- Two words, moved up so that the highest bit is 1. -/
theorem norm128 {hi lo : Int} {b j : Nat} (hb : b + j = 64) (h0 : 0 < hi) (hbl : bl hi = j) (l0 : 0 ≤ lo) (l1 : lo < 18446744073709551616) :
    9223372036854775808 ≤ hi * 2 ^ b + lo / 2 ^ j ∧ hi * 2 ^ b + lo / 2 ^ j < 18446744073709551616 ∧ (hi * 2 ^ b + lo / 2 ^ j) * 18446744073709551616 + (lo * 2 ^ b) % 18446744073709551616 = (hi * 18446744073709551616 + lo) * 2 ^ b ∧
    (lo * 2 ^ b) % 18446744073709551616 + 2 ^ b ≤ 18446744073709551616 ∧ 0 ≤ (lo * 2 ^ b) % 18446744073709551616 ∧
    Go.bits .or .u64 ((hi * 2 ^ b) % 18446744073709551616) (lo / 2 ^ j) = hi * 2 ^ b + lo / 2 ^ j := by
  have hW : (18446744073709551616 : Int) = 2 ^ j * 2 ^ b := by rw [← p2_add, Nat.add_comm, hb, p64]
  have pb := p2_pos b
  have pj := p2_pos j
  have g := bl_ge h0
  have l := bl_lt (n := hi) (by omega)
  rw [hbl] at g l
  rw [Int.toNat_natCast] at l
  have hj : 1 ≤ j := by have := bl_pos h0; omega
  rw [show ((j : Int) - 1).toNat = j - 1 by omega] at g
  have g2 := mul_le_p b g
  rw [← p2_add, show j - 1 + b = 63 by omega, p63] at g2
  have d0 : 0 ≤ lo / 2 ^ j := Int.ediv_nonneg l0 (by omega)
  have d1 : lo / 2 ^ j < 2 ^ b := Int.ediv_lt_of_lt_mul pj (by rw [Int.mul_comm, ← hW]; exact l1)
  obtain ⟨o1, o2⟩ := or_sum hb (by omega) l d0 d1
  have m1 : (lo * 2 ^ b) % 18446744073709551616 = (lo % 2 ^ j) * 2 ^ b := by rw [hW, em_mul _ _ pb]
  have r0 := Int.emod_nonneg lo (b := 2 ^ j) (by omega)
  have r1 : lo % 2 ^ j + 1 ≤ 2 ^ j := Int.emod_lt_of_pos lo pj
  have r2 := mul_le_p b r1
  rw [← hW, Int.add_mul, Int.one_mul] at r2
  have r3 := Int.mul_nonneg r0 (show (0 : Int) ≤ 2 ^ b by omega)
  have a5 : (hi + 1) * 2 ^ b ≤ 2 ^ j * 2 ^ b := mul_le_p b (by omega)
  rw [← hW, Int.add_mul, Int.one_mul] at a5
  have a6 := Int.mul_nonneg (show 0 ≤ hi by omega) (show (0 : Int) ≤ 2 ^ b by omega)
  refine ⟨by omega, by omega, ?_, by rw [m1]; exact r2, by rw [m1]; exact r3, by rw [Int.emod_eq_of_lt a6 o2]; exact o1⟩
  have e1 := Int.mul_ediv_add_emod lo (2 ^ j)
  rw [m1]
  have e2 : lo * 2 ^ b = (lo / 2 ^ j) * 18446744073709551616 + lo % 2 ^ j * 2 ^ b := by
    rw [hW, ← Int.mul_assoc, ← Int.add_mul]
    congr 1
    rw [Int.mul_comm (lo / 2 ^ j)]
    exact e1.symm
  rw [Int.add_mul, Int.add_mul, e2, Int.mul_right_comm hi]
  omega
/-- What is left of a difference, of which 128 bits are known. -/
theorem diff_fit {v e D q E r l : Int} {d b : Nat} {c : Bool} (q0 : 9223372036854775808 ≤ q) (q1 : q < 18446744073709551616) (hv : v * 18446744073709551616 = D * 2 ^ d + r) (r0 : 0 ≤ r) (r1 : r < 2 ^ d) (hq : q * 18446744073709551616 + l = D * 2 ^ b) (l0 : 0 ≤ l) (l1 : l + 2 ^ b ≤ 18446744073709551616) (he : e - b = E - d) (hc : c = true ↔ l ≠ 0 ∨ r ≠ 0) : Fit v e q E c := by
  have pb := p2_pos b
  have pd := p2_pos d
  have a1 : v * 2 ^ b * 18446744073709551616 = q * 2 ^ d * 18446744073709551616 + (l * 2 ^ d + r * 2 ^ b) := by
    have h1 : v * 18446744073709551616 * 2 ^ b = (D * 2 ^ d + r) * 2 ^ b := by rw [hv]
    have h2 : (q * 18446744073709551616 + l) * 2 ^ d = D * 2 ^ b * 2 ^ d := by rw [hq]
    rw [Int.add_mul] at h1 h2
    rw [Int.mul_right_comm D] at h2
    rw [Int.mul_right_comm v, ← h2] at h1
    rw [Int.mul_right_comm q] at h1
    omega
  have a2 := Int.mul_nonneg l0 (show (0 : Int) ≤ 2 ^ d by omega)
  have a3 := Int.mul_nonneg r0 (show (0 : Int) ≤ 2 ^ b by omega)
  have a4 : l * 2 ^ d + r * 2 ^ b < 2 ^ d * 18446744073709551616 := by
    have b1 := mul_le_p d l1
    rw [Int.add_mul] at b1
    have b2 : r * 2 ^ b < 2 ^ b * 2 ^ d := by
      have := mul_lt_p b r1
      rw [Int.mul_comm (2 ^ b) (2 ^ d)]
      exact this
    rw [Int.mul_comm (2 ^ d)]
    omega
  refine ⟨q0, q1, b, d, he, ?_, ?_, ?_⟩
  · refine le_of_p 64 ?_
    rw [p64]
    omega
  · refine lt_of_p 64 ?_
    rw [p64, Int.add_mul, Int.one_mul, Int.add_mul]
    omega
  · rw [hc]
    constructor
    · intro h1 h2
      rw [h2] at a1
      rcases h1 with h1 | h1
      · have := Int.mul_pos (show 0 < l by omega) pd
        omega
      · have := Int.mul_pos (show 0 < r by omega) pb
        omega
    · intro h1
      by_cases z : l = 0
      · refine .inr fun z2 => h1 ?_
        rw [z, z2] at a1
        refine eq_of_p 64 ?_
        rw [p64]
        omega
      · exact .inl z
theorem minus_eq (k : Nat) (hk : 5 ≤ k) {am ae bm be : Int} (q1 q2 : Int) (an bn up : Bool) {d : Nat} (a0 : 9223372036854775808 ≤ am) (a1 : am < 18446744073709551616) (b0 : 9223372036854775808 ≤ bm) (b1 : bm < 18446744073709551616) (e0 : -1048576 ≤ be) (e1 : ae ≤ 1048576) (hd : ae = be + d) (hv : 0 < am * 2 ^ d - bm) :
    arith_minus.f k q1 an am ae q2 bn bm be up = some (rnd an (am * 2 ^ d - bm) be (up != an)) := by
  obtain ⟨k, rfl⟩ : ∃ i, k = i + 2 := ⟨k - 2, by omega⟩
  obtain ⟨hi, lo, cut, hl, i0, i1, l0, l1, hX, hc⟩ := lower_eq b0 b1 (n := d) (by omega)
  obtain ⟨hh, -⟩ := low_hi (by omega) l0 l1 hX
  have pd := p2_pos d
  have x1 := Int.mul_ediv_add_emod (bm * 18446744073709551616) (2 ^ d)
  have x2 := Int.emod_nonneg (bm * 18446744073709551616) (b := 2 ^ d) (by omega)
  have x3 := Int.emod_lt_of_pos (bm * 18446744073709551616) pd
  rw [← hX] at x1
  have e : wrap64 (ae - be) = (d : Int) := by rw [w64 (by omega) (by omega)]; omega
  -- the 128 bits of the difference, and what is behind them
  obtain ⟨D, r, hD, hr0, hr1, hDv, hcr⟩ : ∃ D r : Int, D = am * 18446744073709551616 - (hi * 18446744073709551616 + lo) - (if cut = true then 1 else 0) ∧ 0 ≤ r ∧ r < 2 ^ d ∧ (am * 2 ^ d - bm) * 18446744073709551616 = D * 2 ^ d + r ∧ (cut = true ↔ r ≠ 0) := by
    have y1 : (am * 2 ^ d - bm) * 18446744073709551616 = (am * 18446744073709551616 - (hi * 18446744073709551616 + lo)) * 2 ^ d - bm * 18446744073709551616 % 2 ^ d := by
      rw [Int.sub_mul, Int.sub_mul, Int.mul_right_comm am, Int.mul_comm _ (2 ^ d)] at *
      have : 2 ^ d * (hi * 18446744073709551616 + lo) = (hi * 18446744073709551616 + lo) * 2 ^ d := Int.mul_comm _ _
      omega
    cases hcut : cut
    · have z : bm * 18446744073709551616 % 2 ^ d = 0 := by
        by_cases z : bm * 18446744073709551616 % 2 ^ d = 0
        · exact z
        · rw [hc.2 z] at hcut; exact absurd hcut (by decide)
      refine ⟨_, 0, rfl, by decide, pd, ?_, by simp⟩
      rw [y1, z]
      simp
    · have z := hc.1 hcut
      refine ⟨_, 2 ^ d - bm * 18446744073709551616 % 2 ^ d, rfl, by omega, by omega, ?_, ?_⟩
      · rw [y1, if_pos rfl, Int.sub_mul (am * 18446744073709551616 - (hi * 18446744073709551616 + lo)) 1, Int.one_mul]
        omega
      · simp; omega
  have vW : 2 ^ d ≤ (am * 2 ^ d - bm) * 18446744073709551616 := by
    by_cases z : d ≤ 64
    · have := p2_mono z
      rw [p64] at this
      omega
    · have h1 := p2_mono (i := 64) (j := d) (by omega)
      rw [p64] at h1
      have h2 := mul_le_p d a0
      omega
  have D0 : 0 ≤ D := by
    have := Int.mul_pos hv (show (0 : Int) < 18446744073709551616 by decide)
    by_cases z : 0 ≤ D
    · exact z
    · have := mul_le_p d (show D ≤ -1 by omega)
      omega
  have D1 : D < 340282366920938463463374607431768211456 := by
    split at hD <;> omega
  -- the two words
  obtain ⟨h1, h2, hw⟩ : ∃ h1 h2 : Int, h1 = D / 18446744073709551616 ∧ h2 = D % 18446744073709551616 := ⟨_, _, rfl, rfl⟩
  have sub : (bits_Sub64.f 0 lo (if cut = true then 1 else 0)).bind (fun t => (bits_Sub64.f am hi t.2).bind fun u => some (t.1, u.1)) = some (h2, h1) := by
    unfold bits_Sub64.f
    cases cut
    · simp only [Bool.false_eq_true, if_false] at hD ⊢
      rw [if_pos ⟨by decide, l0, l1, by decide, by decide⟩, Option.bind_some]
      by_cases z : 0 < lo + 0
      · simp only [if_pos z]
        rw [if_pos ⟨by omega, i0, i1, by decide, by decide⟩, Option.bind_some]
        congr 2 <;> omega
      · simp only [if_neg z]
        rw [if_pos ⟨by omega, i0, i1, by decide, by decide⟩, Option.bind_some]
        congr 2 <;> omega
    · simp only [if_true] at hD ⊢
      rw [if_pos ⟨by decide, l0, l1, by decide, by decide⟩, Option.bind_some]
      have z : 0 < lo + 1 := by omega
      simp only [if_pos z]
      rw [if_pos ⟨by omega, i0, i1, by decide, by decide⟩, Option.bind_some]
      congr 2 <;> omega
  have g0 : 0 ≤ h1 ∧ h1 < 18446744073709551616 := by omega
  have g1 : 0 ≤ h2 ∧ h2 < 18446744073709551616 := by omega
  have gD : D = h1 * 18446744073709551616 + h2 := by omega
  -- what comes behind them
  have tail : ∀ (v' e' x1 x0 E : Int), 0 < x1 → x1 < 18446744073709551616 → 0 ≤ x0 → x0 < 18446744073709551616 → v' * 18446744073709551616 = (x1 * 18446744073709551616 + x0) * 2 ^ d + r → E = e' + d → -4194304 ≤ E → E ≤ 4194304 → ∀ i m w, arith_minus.j1 (k + 1) up x0 x1 E i an m w hi lo cut = some (rnd an v' e' (up != an)) := by
    intro v' e' x1 x0 E p0 p1 p2 p3 pv pe pE0 pE1 i m w
    have b0 := bl_pos p0
    have b1 := bl_le (n := x1) (m := 64) (by rw [p64]; exact p1)
    obtain ⟨j, hj⟩ : ∃ j : Nat, bl x1 = j := ⟨(bl x1).toNat, by omega⟩
    obtain ⟨b, hb⟩ : ∃ b : Nat, b + j = 64 := ⟨64 - j, by omega⟩
    obtain ⟨n1, n2, n3, n4, n5, n6⟩ := norm128 hb p0 hj p2 p3
    have f : ∀ cc : Bool, (cc = true ↔ (x0 * 2 ^ b) % 18446744073709551616 ≠ 0 ∨ r ≠ 0) → num_Grow.f k an (x1 * 2 ^ b + x0 / 2 ^ j) (E - b) cc (up != an) = some (rnd an v' e' (up != an)) := fun cc h => by
      rw [grw_eq k (by omega) _ _ _ _ _ n1 n2 (by omega) (by omega), rnd_fit (diff_fit n1 n2 pv hr0 hr1 n3 n5 n4 (show e' - b = (E - b) - d by omega) h)]
    simp only [arith_minus.j1]
    rw [lz64 (by omega) p1 k (by omega), Option.bind_some, hj, show (64 : Int) - (j : Int) = (b : Int) by omega]
    have s1 : shl .u64 x1 (b : Int) = (x1 * 2 ^ b) % 18446744073709551616 := shl64 (by omega)
    have s2 : shl .u64 x0 (b : Int) = (x0 * 2 ^ b) % 18446744073709551616 := shl64 (by omega)
    have s3 : wrap64 (64 - (b : Int)) = (j : Int) := by rw [w64 (by omega) (by omega)]; omega
    have s4 : shr .u64 x0 (j : Int) = x0 / 2 ^ j := shr_eq (by omega)
    have s5 : wrap64 (E - (b : Int)) = E - b := w64 (by omega) (by omega)
    by_cases z : (b : Int) > 0
    · rw [if_pos z, if_pos (by omega), s3, if_pos (by omega), s1, s2, s4, s5, n6]
      cases hcut : cut
      · rw [if_neg (by decide), f _ (by rw [← hcr, hcut]; simp), Option.bind_some]
      · rw [if_pos rfl, f true (by rw [← hcr, hcut]; simp), Option.bind_some]
    · have zb : b = 0 := by omega
      subst zb
      have zj : j = 64 := by omega
      subst zj
      have e1 : x0 / 2 ^ 64 = 0 := by rw [p64]; omega
      rw [e1, Int.pow_zero, Int.mul_one, Int.mul_one, Int.add_zero, Int.emod_eq_of_lt p2 p3, show E - ((0 : Nat) : Int) = E by omega] at f
      rw [if_neg z]
      cases hcut : cut
      · rw [if_neg (by decide), f _ (by rw [← hcr, hcut]; simp), Option.bind_some]
      · rw [if_pos rfl, f true (by rw [← hcr, hcut]; simp), Option.bind_some]
  -- joined
  have j0 : arith_minus.j0 (k + 2) up (if cut = true then 1 else 0) q1 an am ae hi lo cut = some (rnd an (am * 2 ^ d - bm) be (up != an)) := by
    cases hs1 : bits_Sub64.f 0 lo (if cut = true then 1 else 0) with
    | none => rw [hs1] at sub; exact absurd sub (by simp)
    | some t1 =>
      rw [hs1, Option.bind_some] at sub
      cases hs2 : bits_Sub64.f am hi t1.2 with
      | none => rw [hs2] at sub; exact absurd sub (by simp)
      | some t2 =>
        rw [hs2, Option.bind_some] at sub
        obtain ⟨g2, g3⟩ := Prod.mk.inj (Option.some.inj sub)
        simp only [arith_minus.j0]
        rw [hs1, Option.bind_some, hs2, Option.bind_some, g2, g3]
        by_cases z : h1 = 0
        · rw [if_pos z]
          have Dpos : 0 < h2 := by
            by_cases z2 : 0 < h2
            · exact z2
            · have : D = 0 := by omega
              rw [this, Int.zero_mul] at hDv
              omega
          -- so far down the difference is only where nothing is behind the 128 bits
          have hr : r = 0 := by
            have t1 : (am * 2 ^ d - bm) * 18446744073709551616 < 18446744073709551616 * 2 ^ d := by
              have := mul_le_p d (show D + 1 ≤ 18446744073709551616 by omega)
              rw [Int.add_mul, Int.one_mul] at this
              omega
            have t2 : (9223372036854775808 - 1) * 2 ^ d ≤ (am - 1) * 2 ^ d := mul_le_p d (by omega)
            rw [Int.sub_mul] at t2
            rw [Int.sub_mul am] at t2
            have t3 : d < 2 := by
              by_cases z3 : d < 2
              · exact z3
              · have := p2_mono (i := 2) (j := d) (by omega)
                omega
            by_cases z4 : r = 0
            · exact z4
            · have t4 := hcr.2 z4
              have t5 := hc.1 t4
              have : d = 0 ∨ d = 1 := by omega
              rcases this with rfl | rfl <;> omega
          have w : wrap64 (ae - 64) = ae - 64 := w64 (by omega) (by omega)
          rw [w, tail ((am * 2 ^ d - bm) * 2 ^ 64) (be - 64) h2 0 (ae - 64) Dpos g1.2 (by decide) (by decide) (by rw [p64, hDv, hr, gD, z]; simp [Int.mul_right_comm]) (by omega) (by omega) (by omega), rnd_scale hv, show be - 64 + ((64 : Nat) : Int) = be by omega]
        · rw [if_neg z]
          exact tail _ be h1 h2 ae (by omega) g0.2 g1.1 g1.2 (by rw [hDv, gD]) hd (by omega) (by omega) _ _ _
  unfold arith_minus.f
  rw [e, hl, Option.bind_some]
  cases hcut : cut
  · rw [hcut] at j0
    exact j0
  · rw [hcut] at j0
    exact j0
end Go.Proofs.Ythlhogcnfaiphaa.T
