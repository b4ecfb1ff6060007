/- What the sums and products of layer 6, and what they use of layer 5, compute: the exact ones, rounded. What wakes the statements; the calls of numbers that may be. -/
import Derived.Test.YthlhogcnfaiphaaPAx2
import Derived.Test.YthlhogcnfaiphaaTS
import Derived.Lib.Mul64
namespace Go.Proofs.Ythlhogcnfaiphaa.T
set_option linter.unusedVariables false
set_option linter.unusedSimpArgs false
open Go.RowKit Go.Proofs.YthlhogcnfaiphaaW.PrintWords Go.Proofs.YthlhogcnfaiphaaW.PrintMore Go.Proofs.Ythlhogcnfaiphaa.PA

instance (n : Nm) : Decidable (mayP n) := by unfold mayP; infer_instance
/-- One that may be. -/
def fairv (n : Nm) : Nm := if mayP n then n else (0, false, 0, 0)
theorem fairv_may (n : Nm) : mayP (fairv n) := by
  unfold fairv
  split
  · assumption
  · exact .inl ⟨rfl, rfl, rfl, rfl⟩
theorem fairv_of {n : Nm} (h : mayP n) : fairv n = n := if_pos h
theorem may_eq (a : Int) (b : Bool) (c d : Int) (h1 : c < 18446744073709551616) : num_May.f a b c d = some (decide (mayP (a, b, c, d))) := by
  unfold num_May.f mayP
  by_cases h0 : a = 0
  · subst h0; cases b <;> simp <;> rfl
  · rw [if_neg h0]
    by_cases h2 : a = 1
    · subst h2; simp [h1]
      by_cases q1 : 9223372036854775808 ≤ c
      · rw [if_pos q1]
        by_cases q2 : -1048576 ≤ d
        · rw [if_pos q2]; simp [q1, q2]
        · rw [if_neg q2]; simp [q2]
      · rw [if_neg q1]; simp [q1]
    · rw [if_neg h2]
      by_cases h3 : a = 2
      · subst h3; simp
        by_cases q1 : c = 0
        · rw [if_pos q1]; simp [q1]; rfl
        · rw [if_neg q1]; simp [q1]
      · rw [if_neg h3]; simp [h0, h2, h3]
theorem afair_eq (a : Int) (b : Bool) (c d : Int) (h1 : c < 18446744073709551616) : arith_fair.f a b c d = some (fairv (a, b, c, d)) := by
  unfold arith_fair.f fairv
  rw [may_eq a b c d h1, Option.bind_some]
  by_cases h : mayP (a, b, c, d)
  · rw [if_pos h, decide_eq_true h, if_pos rfl]
  · rw [if_neg h, decide_eq_false h]; rfl
theorem nfair_eq (a : Int) (b : Bool) (c d : Int) (h1 : c < 18446744073709551616) : num_fair.f a b c d = some (fairv (a, b, c, d)) := afair_eq a b c d h1
theorem nneg_eq (a : Int) (b : Bool) (c d : Int) (h1 : c < 18446744073709551616) : num_Neg.f a b c d = some (ngv (fairv (a, b, c, d))) := by
  unfold num_Neg.f
  rw [nfair_eq a b c d h1, Option.bind_some]
  have h := fairv_may (a, b, c, d)
  generalize fairv (a, b, c, d) = n at h
  obtain ⟨n1, n2, n3, n4⟩ := n
  unfold ngv
  rcases h with ⟨h1, h2, h3, h4⟩ | ⟨h1, h2⟩ | ⟨h1, h2⟩ <;> simp only at h1
  · simp only at h2 h3 h4; subst h1 h2 h3 h4; rfl
  · subst h1; rfl
  · subst h1; rfl
theorem bnd_eq (k : Nat) (hk : 2 ≤ k) (neg : Bool) (m e : Int) (away : Bool) : num_Bound.f k neg m e away = some (bnd neg m e away) := by
  obtain ⟨k, rfl⟩ : ∃ i, k = i + 2 := ⟨k - 2, by omega⟩
  unfold num_Bound.f bnd
  by_cases h : e > 1048576
  · rw [if_pos h, if_pos h]
    cases away
    · simp only [num_Bound.j0, Bool.false_eq_true, if_false, if_pos h, num_huge.f, Option.bind_some]
    · simp only [num_Bound.j0, if_true, num_Infinite.f, Option.bind_some]
  · rw [if_neg h, if_neg h]
    simp only [num_Bound.j0, num_Bound.j1, Bool.false_eq_true, if_false, if_neg h]
    by_cases h2 : e < -1048576
    · simp only [if_pos h2]
      cases away
      · simp only [Bool.false_eq_true, if_false, if_pos h2]
      · simp only [if_true, num_tiny.f, Option.bind_some]
    · simp only [if_neg h2]
theorem grw_eq (k : Nat) (hk : 3 ≤ k) (neg : Bool) (m e : Int) (cut away : Bool) (m0 : 9223372036854775808 ≤ m) (m1 : m < 18446744073709551616) (e0 : -9223372036854775808 ≤ e) (e1 : e < 9223372036854775807) : num_Grow.f k neg m e cut away = some (grw neg m e cut away) := by
  obtain ⟨k, rfl⟩ : ∃ i, k = i + 1 := ⟨k - 1, by omega⟩
  unfold num_Grow.f grw
  have q : num_Grow.j0 (k + 1) neg m e away false = some (bnd neg m e away) := by
    simp only [num_Grow.j0, Bool.false_eq_true, if_false, bnd_eq k (by omega), Option.bind_some]
  cases cut
  · rw [if_neg (by decide), if_neg (by simp)]; exact q
  · rw [if_pos rfl]
    cases away
    · rw [if_neg (by simp)]; exact q
    · rw [if_pos ⟨rfl, rfl⟩]
      simp only [num_Grow.j0, if_true, bnd_eq k (by omega), Option.bind_some]
      by_cases h : m + 1 = 18446744073709551616
      · have h2 : IntKind.u64.wrap (m + 1) = 0 := by rw [h]; rfl
        rw [if_pos h, if_pos h2, w64 (by omega) (by omega)]
      · have h2 : IntKind.u64.wrap (m + 1) = m + 1 := u64w (by omega) (by omega)
        rw [if_neg h, h2, if_neg (by omega)]
/-! 64 bits moved down, as 128 bits and whether more was cut off -/
theorem wrap_u64 (x : Int) : IntKind.u64.wrap x = x % 18446744073709551616 := by rw [IntKind.wrap_u64]
theorem shl64 {x : Int} {s : Nat} (hs : s ≤ 64) : shl .u64 x (s : Int) = (x * 2 ^ s) % 18446744073709551616 := by
  unfold shl
  have hmn : min (s : Int).toNat IntKind.u64.bits = s := by
    have : IntKind.u64.bits = 64 := rfl
    rw [this, Int.toNat_natCast]
    omega
  rw [hmn, wrap_u64]
theorem low_a {m : Int} {n j : Nat} (h : n + j = 64) : m * 18446744073709551616 / 2 ^ n = m * 2 ^ j ∧ m * 18446744073709551616 % 2 ^ n = 0 ∧ m / 2 ^ n = m * 2 ^ j / 18446744073709551616 := by
  have hW : (18446744073709551616 : Int) = 2 ^ j * 2 ^ n := by rw [← p2_add, Nat.add_comm, h, p64]
  have hn := p2_pos n
  have hj := p2_pos j
  rw [hW, ← Int.mul_assoc, Int.mul_ediv_cancel _ (by omega), Int.mul_emod_left]
  refine ⟨rfl, rfl, ?_⟩
  rw [Int.mul_comm (2 ^ j) (2 ^ n), Int.mul_ediv_mul_of_pos_left _ _ hj]
theorem em_mul (m a : Int) {b : Int} (hb : 0 < b) : (m * b) % (a * b) = (m % a) * b := by rw [Int.mul_comm m, Int.mul_comm a, Int.mul_emod_mul_of_pos _ _ hb, Int.mul_comm]
theorem low_b {m : Int} {n i : Nat} (h : n = i + 64) : m * 18446744073709551616 / 2 ^ n = m / 2 ^ i ∧ m * 18446744073709551616 % 2 ^ n = (m % 2 ^ i) * 18446744073709551616 := by
  subst h
  rw [p2_add, p64, Int.mul_ediv_mul_of_pos_left _ _ (by decide), em_mul _ _ (by decide)]
  exact ⟨rfl, rfl⟩
theorem low_c {m : Int} {i j : Nat} (h : i + j = 64) : (m * 2 ^ j) % 18446744073709551616 = (m % 2 ^ i) * 2 ^ j := by
  have hW : (18446744073709551616 : Int) = 2 ^ i * 2 ^ j := by rw [← p2_add, h, p64]
  rw [hW, em_mul _ _ (p2_pos j)]
theorem lower_eq {m : Int} {n : Nat} (m0 : 9223372036854775808 ≤ m) (m1 : m < 18446744073709551616) (hn : n ≤ 4194304) :
    ∃ hi lo cut, arith_lower.f m (n : Int) = some (hi, lo, cut) ∧ 0 ≤ hi ∧ hi < 18446744073709551616 ∧ 0 ≤ lo ∧ lo < 18446744073709551616 ∧ hi * 18446744073709551616 + lo = m * 18446744073709551616 / 2 ^ n ∧ (cut = true ↔ m * 18446744073709551616 % 2 ^ n ≠ 0) := by
  have hp := p2_pos n
  have d0 : ∀ i : Nat, 0 ≤ m / 2 ^ i ∧ m / 2 ^ i ≤ m := fun i => by
    have := p2_pos i
    exact ⟨Int.ediv_nonneg (by omega) (by omega), Int.ediv_le_self _ (by omega)⟩
  unfold arith_lower.f
  by_cases h : n < 64
  · obtain ⟨j, hj⟩ : ∃ j, n + j = 64 := ⟨64 - n, by omega⟩
    obtain ⟨a1, a2, a3⟩ := low_a (m := m) hj
    have w : wrap64 (64 - (n : Int)) = (j : Int) := by rw [w64 (by omega) (by omega)]; omega
    rw [if_pos (by omega), if_pos (by omega), w, if_pos (by omega), shr_eq (by omega), shl64 (by omega), a1, a2, a3]
    refine ⟨_, _, _, rfl, ?_, ?_, Int.emod_nonneg _ (by decide), Int.emod_lt_of_pos _ (by decide), ?_, ?_⟩
    · rw [← a3]; exact (d0 n).1
    · rw [← a3]; have := (d0 n).2; omega
    · have := Int.mul_ediv_add_emod (m * 2 ^ j) 18446744073709551616
      omega
    · simp
  · rw [if_neg (by omega)]
    by_cases h2 : n < 128
    · obtain ⟨i, hi⟩ : ∃ i, n = i + 64 := ⟨n - 64, by omega⟩
      obtain ⟨j, hj⟩ : ∃ j, i + j = 64 := ⟨64 - i, by omega⟩
      obtain ⟨b1, b2⟩ := low_b (m := m) hi
      have w : wrap64 ((n : Int) - 64) = (i : Int) := by rw [w64 (by omega) (by omega)]; omega
      have w2 : wrap64 (64 - (i : Int)) = (j : Int) := by rw [w64 (by omega) (by omega)]; omega
      rw [if_pos (by omega), w, if_pos (by omega), w2, if_pos (by omega), shr_eq (by omega), shl64 (by omega), b1, b2, low_c hj]
      refine ⟨_, _, _, rfl, by decide, by decide, (d0 i).1, by have := (d0 i).2; omega, by omega, ?_⟩
      have hpj := p2_pos j
      have hm := Int.emod_nonneg m (b := 2 ^ i) (by have := p2_pos i; omega)
      simp only [bne_iff_ne, ne_eq]
      constructor
      · intro q1 q2; exact q1 (by rw [show m % 2 ^ i = 0 by omega]; omega)
      · intro q1 q2
        have := Int.mul_eq_zero.1 q2
        rcases this with h3 | h3
        · exact q1 (by rw [h3]; rfl)
        · omega
    · rw [if_neg (by omega)]
      obtain ⟨i, rfl⟩ : ∃ i, n = 128 + i := ⟨n - 128, by omega⟩
      have hb := p2_mono (i := 128) (j := 128 + i) (by omega)
      have e128 : (2 : Int) ^ 128 = 340282366920938463463374607431768211456 := by decide
      have l1 : m * 18446744073709551616 < 2 ^ (128 + i) := by omega
      refine ⟨0, 0, true, rfl, by decide, by decide, by decide, by decide, ?_, ?_⟩
      · rw [Int.ediv_eq_zero_of_lt (by omega) l1]; rfl
      · rw [Int.emod_eq_of_lt (by omega) l1]
        simp
        omega

/-! how many bits 64 bits have -/
theorem len64_j0 {x n : Int} (h0 : 0 ≤ x) (h1 : x < 4294967296) (n0 : 0 ≤ n) (n1 : n ≤ 32) (k : Nat) : bits_Len64.j0 (k + 1) x n = some (n + bl x) := by
  have b8 : ∀ y : Int, 0 ≤ y → y < 256 → bl y ≤ 8 := fun y _ hy => bl_le (m := 8) hy
  unfold bits_Len64.j0
  change (if x ≥ 65536 then (if (x / 65536) ≥ 256 then (if 0 ≤ (((x / 65536) / 256) % 256) then (if (((x / 65536) / 256) % 256) < 256 then (some (wrap64 ((wrap64 ((wrap64 (n + 16)) + 8)) + (wrap64 (bt tab8 (((x / 65536) / 256) % 256)))))) else (none)) else (none)) else (if 0 ≤ ((x / 65536) % 256) then (if ((x / 65536) % 256) < 256 then (some (wrap64 ((wrap64 (n + 16)) + (wrap64 (bt tab8 ((x / 65536) % 256)))))) else (none)) else (none))) else (if x ≥ 256 then (if 0 ≤ ((x / 256) % 256) then (if ((x / 256) % 256) < 256 then (some (wrap64 ((wrap64 (n + 8)) + (wrap64 (bt tab8 ((x / 256) % 256)))))) else (none)) else (none)) else (if 0 ≤ (x % 256) then (if (x % 256) < 256 then (some (wrap64 (n + (wrap64 (bt tab8 (x % 256)))))) else (none)) else (none)))) = some (n + bl x)
  by_cases c1 : x ≥ 65536
  · rw [if_pos c1]
    by_cases c2 : x / 65536 ≥ 256
    · rw [if_pos c2, if_pos (by omega), if_pos (by omega)]
      have e : x / 65536 / 256 % 256 = x / 2 ^ 24 := by omega
      have e2 := bl_shift (x := x) 24 (by omega)
      have e3 := b8 (x / 2 ^ 24) (by omega) (by omega)
      have e4 := bl_nonneg (x / 2 ^ 24)
      rw [e, tab8_eq (by omega) (by omega), w64 (x := bl _) (by omega) (by omega), w64 (x := n + 16) (by omega) (by omega), w64 (x := n + 16 + 8) (by omega) (by omega), w64 (by omega) (by omega), e2]
      congr 1
      omega
    · rw [if_neg c2, if_pos (by omega), if_pos (by omega)]
      have e : x / 65536 % 256 = x / 2 ^ 16 := by omega
      have e2 := bl_shift (x := x) 16 (by omega)
      have e3 := b8 (x / 2 ^ 16) (by omega) (by omega)
      have e4 := bl_nonneg (x / 2 ^ 16)
      rw [e, tab8_eq (by omega) (by omega), w64 (x := bl _) (by omega) (by omega), w64 (x := n + 16) (by omega) (by omega), w64 (by omega) (by omega), e2]
      congr 1
      omega
  · rw [if_neg c1]
    by_cases c2 : x ≥ 256
    · rw [if_pos c2, if_pos (by omega), if_pos (by omega)]
      have e : x / 256 % 256 = x / 2 ^ 8 := by omega
      have e2 := bl_shift (x := x) 8 (by omega)
      have e3 := b8 (x / 2 ^ 8) (by omega) (by omega)
      have e4 := bl_nonneg (x / 2 ^ 8)
      rw [e, tab8_eq (by omega) (by omega), w64 (x := bl _) (by omega) (by omega), w64 (x := n + 8) (by omega) (by omega), w64 (by omega) (by omega), e2]
      congr 1
      omega
    · rw [if_neg c2, if_pos (by omega), if_pos (by omega)]
      have e : x % 256 = x := by omega
      have e3 := b8 x (by omega) (by omega)
      have e4 := bl_nonneg x
      rw [e, tab8_eq (by omega) (by omega), w64 (x := bl _) (by omega) (by omega), w64 (by omega) (by omega)]
theorem len64 {x : Int} (h0 : 0 ≤ x) (h1 : x < 18446744073709551616) (k : Nat) (hk : 1 ≤ k) : bits_Len64.f k x = some (bl x) := by
  obtain ⟨k, rfl⟩ : ∃ i, k = i + 1 := ⟨k - 1, by omega⟩
  unfold bits_Len64.f
  by_cases h : x ≥ 4294967296
  · have e2 := bl_shift (x := x) 32 (by omega)
    rw [if_pos h, len64_j0 (by omega) (by omega) (by decide) (by decide), e2]
    rfl
  · rw [if_neg h, len64_j0 h0 (by omega) (by decide) (by decide), Int.zero_add]
theorem lz64 {x : Int} (h0 : 0 ≤ x) (h1 : x < 18446744073709551616) (k : Nat) (hk : 1 ≤ k) : bits_LeadingZeros64.f k x = some (64 - bl x) := by
  unfold bits_LeadingZeros64.f
  have e3 := bl_le (n := x) (m := 64) (by rw [p64]; exact h1)
  have e4 := bl_nonneg x
  rw [len64 h0 h1 k hk, Option.bind_some, w64 (by omega) (by omega)]
/-! the sum of two of one sign -/
theorem low_hi {hi lo m : Int} {n : Nat} (m0 : 0 ≤ m) (l0 : 0 ≤ lo) (l1 : lo < 18446744073709551616) (h : hi * 18446744073709551616 + lo = m * 18446744073709551616 / 2 ^ n) :
    m / 2 ^ n = hi ∧ (m % 2 ^ n ≠ 0 ↔ lo ≠ 0 ∨ m * 18446744073709551616 % 2 ^ n ≠ 0) := by
  have hp := p2_pos n
  have a1 : m / 2 ^ n = hi := by
    have : m * 18446744073709551616 / 2 ^ n / 18446744073709551616 = m / 2 ^ n := by
      rw [Int.ediv_ediv_of_nonneg (by omega), Int.mul_ediv_mul_of_pos_left _ _ (by decide)]
    rw [← this, ← h]
    omega
  have a2 := Int.mul_ediv_add_emod m (2 ^ n)
  have a3 := Int.mul_ediv_add_emod (m * 18446744073709551616) (2 ^ n)
  rw [← h] at a3
  rw [a1] at a2
  have r0 := Int.emod_nonneg (m * 18446744073709551616) (b := 2 ^ n) (by omega)
  have t0 := Int.emod_nonneg m (b := 2 ^ n) (by omega)
  rw [Int.mul_add, ← Int.mul_assoc] at a3
  have b0 := Int.mul_nonneg (show (0 : Int) ≤ 2 ^ n by omega) l0
  have key : (m % 2 ^ n) * 18446744073709551616 = 2 ^ n * lo + m * 18446744073709551616 % 2 ^ n := by omega
  refine ⟨a1, ?_⟩
  constructor
  · intro q1
    by_cases q2 : lo = 0
    · refine .inr fun q3 => q1 ?_
      rw [q2, q3] at key
      omega
    · exact .inl q2
  · rintro (q | q) q1
    · rw [q1] at key
      have := Int.mul_pos hp (show 0 < lo by omega)
      omega
    · rw [q1] at key
      omega
theorem sum_div {am bm : Int} {d : Nat} : (am * 2 ^ d + bm) / 2 ^ d = am + bm / 2 ^ d ∧ (am * 2 ^ d + bm) % 2 ^ d = bm % 2 ^ d := by
  have hp := p2_pos d
  rw [Int.mul_comm am, Int.add_comm]
  rw [Int.add_mul_ediv_left _ _ (by omega), Int.add_mul_emod_self_left, Int.add_comm]
  exact ⟨rfl, rfl⟩
theorem div_succ (v : Int) (d : Nat) : v / 2 ^ (d + 1) = v / 2 ^ d / 2 ∧ (v % 2 ^ (d + 1) ≠ 0 ↔ v / 2 ^ d % 2 ≠ 0 ∨ v % 2 ^ d ≠ 0) := by
  have hp := p2_pos d
  have e1 : v / 2 ^ (d + 1) = v / 2 ^ d / 2 := by
    rw [Int.ediv_ediv_of_nonneg (by omega), Int.pow_succ]
  refine ⟨e1, ?_⟩
  have a1 := Int.mul_ediv_add_emod v (2 ^ (d + 1))
  have a2 := Int.mul_ediv_add_emod v (2 ^ d)
  have a3 := Int.mul_ediv_add_emod (v / 2 ^ d) 2
  have r0 := Int.emod_nonneg v (b := 2 ^ d) (by omega)
  have r1 := Int.emod_nonneg (v / 2 ^ d) (b := 2) (by omega)
  rw [e1, p2_succ] at a1
  rw [p2_succ]
  generalize v / 2 ^ d / 2 = Q at *
  generalize v / 2 ^ d % 2 = R at *
  generalize v / 2 ^ d = q at *
  subst a3
  have b := Int.mul_nonneg (show (0 : Int) ≤ 2 ^ d by omega) r1
  have key : v % (2 * 2 ^ d) = 2 ^ d * R + v % 2 ^ d := by
    rw [Int.mul_add, ← Int.mul_assoc, Int.mul_comm (2 ^ d) 2] at a2
    omega
  rw [key]
  constructor
  · intro q1
    by_cases q2 : R = 0
    · refine .inr fun q3 => q1 (by rw [q2, q3]; omega)
    · exact .inl q2
  · rintro (q | q) q1
    · have := Int.mul_pos hp (show 0 < R by omega)
      omega
    · omega
theorem and_one {x : Int} (h0 : 0 ≤ x) (h1 : x < 18446744073709551616) : Go.bits .and .u64 x 1 = x % 2 := by
  have := bits_mask .u64 64 (by decide) wraps_u64 1 (by decide) x h0 (by rw [p64]; exact h1)
  simpa using this
theorem and_low {x : Int} (h0 : 0 ≤ x) (h1 : x < 18446744073709551616) : Go.bits .and .u64 x 4294967295 = x % 4294967296 := by
  have := bits_mask .u64 64 (by decide) wraps_u64 32 (by decide) x h0 (by rw [p64]; exact h1)
  simpa using this
theorem or_top {x : Int} (h0 : 0 ≤ x) (h1 : x < 9223372036854775808) : Go.bits .or .u64 x 9223372036854775808 = x + 9223372036854775808 := by
  rw [bits_or_comm, bits_join .u64 64 (by decide) wraps_u64 63 9223372036854775808 x (by decide) (by decide) (by decide) h0 (by rw [p63]; exact h1) (by rw [p64]; omega), Int.add_comm]
theorem tup {α β γ δ : Type} (p : α × β × γ × δ) : (p.1, p.2.1, p.2.2.1, p.2.2.2) = p := rfl
theorem plus_eq (k : Nat) (hk : 3 ≤ k) {am ae bm be : Int} (q1 q2 : Int) (an bn up : Bool) {d : Nat} (a0 : 9223372036854775808 ≤ am) (a1 : am < 18446744073709551616) (b0 : 9223372036854775808 ≤ bm) (b1 : bm < 18446744073709551616) (e0 : -1048576 ≤ be) (e1 : ae ≤ 1048576) (hd : ae = be + d) :
    arith_plus.f k q1 an am ae q2 bn bm be up = some (rnd an (am * 2 ^ d + bm) be (up != an)) := by
  obtain ⟨hi, lo, cut, hl, i0, i1, l0, l1, hv, hc⟩ := lower_eq b0 b1 (n := d) (by omega)
  obtain ⟨hh, hr⟩ := low_hi (by omega) l0 l1 hv
  obtain ⟨s1, s2⟩ := sum_div (am := am) (bm := bm) (d := d)
  obtain ⟨s3, s4⟩ := div_succ (am * 2 ^ d + bm) d
  rw [hh] at s1
  rw [s1] at s3 s4
  rw [← hc] at hr
  rw [s2, hr] at s4
  have e : wrap64 (ae - be) = (d : Int) := by rw [w64 (by omega) (by omega)]; omega
  unfold arith_plus.f
  rw [e, hl, Option.bind_some]
  unfold bits_Add64.f
  rw [if_pos ⟨by omega, i0, by decide, by decide⟩, Option.bind_some]
  simp only [Int.add_zero]
  by_cases c : am + hi < 18446744073709551616
  · have m1 : (am + hi) % 18446744073709551616 = am + hi := by omega
    have m2 : (am + hi) / 18446744073709551616 = 0 := by omega
    have f : ∀ cc : Bool, (cc = true ↔ bm % 2 ^ d ≠ 0) → num_Grow.f k an (am + hi) ae cc (up != an) = some (rnd an (am * 2 ^ d + bm) be (up != an)) := fun cc h => by
      rw [grw_eq k hk _ _ _ _ _ (by omega) c (by omega) (by omega), rnd_fit (div_fit (c := cc) (by omega) c s1 (by rw [s2]; exact h)), hd]
    rw [m1, m2]
    cases cut
    · rw [if_neg (by decide), if_pos rfl, f (lo != 0) (by rw [hr]; simp), Option.bind_some]
    · rw [if_pos rfl, if_pos rfl, f true (by rw [hr]; simp), Option.bind_some]
  · have m1 : (am + hi) % 18446744073709551616 = am + hi - 18446744073709551616 := by omega
    have m2 : (am + hi) / 18446744073709551616 = 1 := by omega
    have w : wrap64 (ae + 1) = ae + 1 := w64 (by omega) (by omega)
    have o : Go.bits .or .u64 ((am + hi - 18446744073709551616) / 2) 9223372036854775808 = (am + hi) / 2 := by
      rw [or_top (by omega) (by omega)]; omega
    have f : ∀ cc : Bool, (cc = true ↔ (am * 2 ^ d + bm) % 2 ^ (d + 1) ≠ 0) → num_Grow.f k an ((am + hi) / 2) (ae + 1) cc (up != an) = some (rnd an (am * 2 ^ d + bm) be (up != an)) := fun cc h => by
      rw [grw_eq k hk _ _ _ _ _ (by omega) (by omega) (by omega) (by omega), rnd_fit (div_fit (c := cc) (by omega) (by omega) s3 h), hd, show be + (d : Int) + 1 = be + ((d + 1 : Nat) : Int) by omega]
    rw [m1, m2, o, w, and_one (by omega) (by omega)]
    have n1 : (1 : Int) ≠ 0 := by decide
    cases cut
    · rw [if_neg (by decide), if_neg n1]
      by_cases z : lo = 0
      · rw [if_pos z, f _ (by rw [s4]; simp [z]; omega), Option.bind_some]
      · rw [if_neg z, f true (by rw [s4]; simp [z]), Option.bind_some]
    · rw [if_pos rfl, if_neg n1, f true (by rw [s4]; simp), Option.bind_some]
theorem or_sum {h l : Int} {b j : Nat} (hb : b + j = 64) (h0 : 0 ≤ h) (h1 : h < 2 ^ j) (l0 : 0 ≤ l) (l1 : l < 2 ^ b) : Go.bits .or .u64 (h * 2 ^ b) l = h * 2 ^ b + l ∧ h * 2 ^ b < 18446744073709551616 := by
  have hp := p2_pos b
  have hW : (18446744073709551616 : Int) = 2 ^ j * 2 ^ b := by rw [← p2_add, Nat.add_comm, hb, p64]
  have a1 := mul_lt_p b h1
  rw [← hW] at a1
  have a2 := Int.mul_nonneg h0 (show (0 : Int) ≤ 2 ^ b by omega)
  have a3 := p2_mono (i := b) (j := 64) (by omega)
  rw [p64] at a3
  refine ⟨?_, a1⟩
  exact bits_join .u64 64 (by decide) wraps_u64 b _ _ a2 (Int.mul_emod_left _ _) (by rw [p64]; exact a1) l0 l1 (by rw [p64]; omega)
/-- Two words, moved up so that the highest bit is 1. -/
theorem norm128 {hi lo : Int} {b j : Nat} (hb : b + j = 64) (h0 : 0 < hi) (hbl : bl hi = j) (l0 : 0 ≤ lo) (l1 : lo < 18446744073709551616) :
    9223372036854775808 ≤ hi * 2 ^ b + lo / 2 ^ j ∧ hi * 2 ^ b + lo / 2 ^ j < 18446744073709551616 ∧ (hi * 2 ^ b + lo / 2 ^ j) * 18446744073709551616 + (lo * 2 ^ b) % 18446744073709551616 = (hi * 18446744073709551616 + lo) * 2 ^ b ∧
    (lo * 2 ^ b) % 18446744073709551616 + 2 ^ b ≤ 18446744073709551616 ∧ 0 ≤ (lo * 2 ^ b) % 18446744073709551616 ∧
    Go.bits .or .u64 ((hi * 2 ^ b) % 18446744073709551616) (lo / 2 ^ j) = hi * 2 ^ b + lo / 2 ^ j := by
  have hW : (18446744073709551616 : Int) = 2 ^ j * 2 ^ b := by rw [← p2_add, Nat.add_comm, hb, p64]
  have pb := p2_pos b
  have pj := p2_pos j
  have g := bl_ge h0
  have l := bl_lt (n := hi) (by omega)
  rw [hbl] at g l
  rw [Int.toNat_natCast] at l
  have hj : 1 ≤ j := by have := bl_pos h0; omega
  rw [show ((j : Int) - 1).toNat = j - 1 by omega] at g
  have g2 := mul_le_p b g
  rw [← p2_add, show j - 1 + b = 63 by omega, p63] at g2
  have d0 : 0 ≤ lo / 2 ^ j := Int.ediv_nonneg l0 (by omega)
  have d1 : lo / 2 ^ j < 2 ^ b := Int.ediv_lt_of_lt_mul pj (by rw [Int.mul_comm, ← hW]; exact l1)
  obtain ⟨o1, o2⟩ := or_sum hb (by omega) l d0 d1
  have m1 : (lo * 2 ^ b) % 18446744073709551616 = (lo % 2 ^ j) * 2 ^ b := by rw [hW, em_mul _ _ pb]
  have r0 := Int.emod_nonneg lo (b := 2 ^ j) (by omega)
  have r1 : lo % 2 ^ j + 1 ≤ 2 ^ j := Int.emod_lt_of_pos lo pj
  have r2 := mul_le_p b r1
  rw [← hW, Int.add_mul, Int.one_mul] at r2
  have r3 := Int.mul_nonneg r0 (show (0 : Int) ≤ 2 ^ b by omega)
  have a5 : (hi + 1) * 2 ^ b ≤ 2 ^ j * 2 ^ b := mul_le_p b (by omega)
  rw [← hW, Int.add_mul, Int.one_mul] at a5
  have a6 := Int.mul_nonneg (show 0 ≤ hi by omega) (show (0 : Int) ≤ 2 ^ b by omega)
  refine ⟨by omega, by omega, ?_, by rw [m1]; exact r2, by rw [m1]; exact r3, by rw [Int.emod_eq_of_lt a6 o2]; exact o1⟩
  have e1 := Int.mul_ediv_add_emod lo (2 ^ j)
  rw [m1]
  have e2 : lo * 2 ^ b = (lo / 2 ^ j) * 18446744073709551616 + lo % 2 ^ j * 2 ^ b := by
    rw [hW, ← Int.mul_assoc, ← Int.add_mul]
    congr 1
    rw [Int.mul_comm (lo / 2 ^ j)]
    exact e1.symm
  rw [Int.add_mul, Int.add_mul, e2, Int.mul_right_comm hi]
  omega
/-- What is left of a difference, of which 128 bits are known. -/
theorem diff_fit {v e D q E r l : Int} {d b : Nat} {c : Bool} (q0 : 9223372036854775808 ≤ q) (q1 : q < 18446744073709551616) (hv : v * 18446744073709551616 = D * 2 ^ d + r) (r0 : 0 ≤ r) (r1 : r < 2 ^ d) (hq : q * 18446744073709551616 + l = D * 2 ^ b) (l0 : 0 ≤ l) (l1 : l + 2 ^ b ≤ 18446744073709551616) (he : e - b = E - d) (hc : c = true ↔ l ≠ 0 ∨ r ≠ 0) : Fit v e q E c := by
  have pb := p2_pos b
  have pd := p2_pos d
  have a1 : v * 2 ^ b * 18446744073709551616 = q * 2 ^ d * 18446744073709551616 + (l * 2 ^ d + r * 2 ^ b) := by
    have h1 : v * 18446744073709551616 * 2 ^ b = (D * 2 ^ d + r) * 2 ^ b := by rw [hv]
    have h2 : (q * 18446744073709551616 + l) * 2 ^ d = D * 2 ^ b * 2 ^ d := by rw [hq]
    rw [Int.add_mul] at h1 h2
    rw [Int.mul_right_comm D] at h2
    rw [Int.mul_right_comm v, ← h2] at h1
    rw [Int.mul_right_comm q] at h1
    omega
  have a2 := Int.mul_nonneg l0 (show (0 : Int) ≤ 2 ^ d by omega)
  have a3 := Int.mul_nonneg r0 (show (0 : Int) ≤ 2 ^ b by omega)
  have a4 : l * 2 ^ d + r * 2 ^ b < 2 ^ d * 18446744073709551616 := by
    have b1 := mul_le_p d l1
    rw [Int.add_mul] at b1
    have b2 : r * 2 ^ b < 2 ^ b * 2 ^ d := by
      have := mul_lt_p b r1
      rw [Int.mul_comm (2 ^ b) (2 ^ d)]
      exact this
    rw [Int.mul_comm (2 ^ d)]
    omega
  refine ⟨q0, q1, b, d, he, ?_, ?_, ?_⟩
  · refine le_of_p 64 ?_
    rw [p64]
    omega
  · refine lt_of_p 64 ?_
    rw [p64, Int.add_mul, Int.one_mul, Int.add_mul]
    omega
  · rw [hc]
    constructor
    · intro h1 h2
      rw [h2] at a1
      rcases h1 with h1 | h1
      · have := Int.mul_pos (show 0 < l by omega) pd
        omega
      · have := Int.mul_pos (show 0 < r by omega) pb
        omega
    · intro h1
      by_cases z : l = 0
      · refine .inr fun z2 => h1 ?_
        rw [z, z2] at a1
        refine eq_of_p 64 ?_
        rw [p64]
        omega
      · exact .inl z
theorem minus_eq (k : Nat) (hk : 5 ≤ k) {am ae bm be : Int} (q1 q2 : Int) (an bn up : Bool) {d : Nat} (a0 : 9223372036854775808 ≤ am) (a1 : am < 18446744073709551616) (b0 : 9223372036854775808 ≤ bm) (b1 : bm < 18446744073709551616) (e0 : -1048576 ≤ be) (e1 : ae ≤ 1048576) (hd : ae = be + d) (hv : 0 < am * 2 ^ d - bm) :
    arith_minus.f k q1 an am ae q2 bn bm be up = some (rnd an (am * 2 ^ d - bm) be (up != an)) := by
  obtain ⟨k, rfl⟩ : ∃ i, k = i + 2 := ⟨k - 2, by omega⟩
  obtain ⟨hi, lo, cut, hl, i0, i1, l0, l1, hX, hc⟩ := lower_eq b0 b1 (n := d) (by omega)
  obtain ⟨hh, -⟩ := low_hi (by omega) l0 l1 hX
  have pd := p2_pos d
  have x1 := Int.mul_ediv_add_emod (bm * 18446744073709551616) (2 ^ d)
  have x2 := Int.emod_nonneg (bm * 18446744073709551616) (b := 2 ^ d) (by omega)
  have x3 := Int.emod_lt_of_pos (bm * 18446744073709551616) pd
  rw [← hX] at x1
  have e : wrap64 (ae - be) = (d : Int) := by rw [w64 (by omega) (by omega)]; omega
  -- the 128 bits of the difference, and what is behind them
  obtain ⟨D, r, hD, hr0, hr1, hDv, hcr⟩ : ∃ D r : Int, D = am * 18446744073709551616 - (hi * 18446744073709551616 + lo) - (if cut = true then 1 else 0) ∧ 0 ≤ r ∧ r < 2 ^ d ∧ (am * 2 ^ d - bm) * 18446744073709551616 = D * 2 ^ d + r ∧ (cut = true ↔ r ≠ 0) := by
    have y1 : (am * 2 ^ d - bm) * 18446744073709551616 = (am * 18446744073709551616 - (hi * 18446744073709551616 + lo)) * 2 ^ d - bm * 18446744073709551616 % 2 ^ d := by
      rw [Int.sub_mul, Int.sub_mul, Int.mul_right_comm am, Int.mul_comm _ (2 ^ d)] at *
      have : 2 ^ d * (hi * 18446744073709551616 + lo) = (hi * 18446744073709551616 + lo) * 2 ^ d := Int.mul_comm _ _
      omega
    cases hcut : cut
    · have z : bm * 18446744073709551616 % 2 ^ d = 0 := by
        by_cases z : bm * 18446744073709551616 % 2 ^ d = 0
        · exact z
        · rw [hc.2 z] at hcut; exact absurd hcut (by decide)
      refine ⟨_, 0, rfl, by decide, pd, ?_, by simp⟩
      rw [y1, z]
      simp
    · have z := hc.1 hcut
      refine ⟨_, 2 ^ d - bm * 18446744073709551616 % 2 ^ d, rfl, by omega, by omega, ?_, ?_⟩
      · rw [y1, if_pos rfl, Int.sub_mul (am * 18446744073709551616 - (hi * 18446744073709551616 + lo)) 1, Int.one_mul]
        omega
      · simp; omega
  have vW : 2 ^ d ≤ (am * 2 ^ d - bm) * 18446744073709551616 := by
    by_cases z : d ≤ 64
    · have := p2_mono z
      rw [p64] at this
      omega
    · have h1 := p2_mono (i := 64) (j := d) (by omega)
      rw [p64] at h1
      have h2 := mul_le_p d a0
      omega
  have D0 : 0 ≤ D := by
    have := Int.mul_pos hv (show (0 : Int) < 18446744073709551616 by decide)
    by_cases z : 0 ≤ D
    · exact z
    · have := mul_le_p d (show D ≤ -1 by omega)
      omega
  have D1 : D < 340282366920938463463374607431768211456 := by
    split at hD <;> omega
  -- the two words
  obtain ⟨h1, h2, hw⟩ : ∃ h1 h2 : Int, h1 = D / 18446744073709551616 ∧ h2 = D % 18446744073709551616 := ⟨_, _, rfl, rfl⟩
  have sub : (bits_Sub64.f 0 lo (if cut = true then 1 else 0)).bind (fun t => (bits_Sub64.f am hi t.2).bind fun u => some (t.1, u.1)) = some (h2, h1) := by
    unfold bits_Sub64.f
    cases cut
    · simp only [Bool.false_eq_true, if_false] at hD ⊢
      rw [if_pos ⟨by decide, l0, l1, by decide, by decide⟩, Option.bind_some]
      by_cases z : 0 < lo + 0
      · simp only [if_pos z]
        rw [if_pos ⟨by omega, i0, i1, by decide, by decide⟩, Option.bind_some]
        congr 2 <;> omega
      · simp only [if_neg z]
        rw [if_pos ⟨by omega, i0, i1, by decide, by decide⟩, Option.bind_some]
        congr 2 <;> omega
    · simp only [if_true] at hD ⊢
      rw [if_pos ⟨by decide, l0, l1, by decide, by decide⟩, Option.bind_some]
      have z : 0 < lo + 1 := by omega
      simp only [if_pos z]
      rw [if_pos ⟨by omega, i0, i1, by decide, by decide⟩, Option.bind_some]
      congr 2 <;> omega
  have g0 : 0 ≤ h1 ∧ h1 < 18446744073709551616 := by omega
  have g1 : 0 ≤ h2 ∧ h2 < 18446744073709551616 := by omega
  have gD : D = h1 * 18446744073709551616 + h2 := by omega
  -- what comes behind them
  have tail : ∀ (v' e' x1 x0 E : Int), 0 < x1 → x1 < 18446744073709551616 → 0 ≤ x0 → x0 < 18446744073709551616 → v' * 18446744073709551616 = (x1 * 18446744073709551616 + x0) * 2 ^ d + r → E = e' + d → -4194304 ≤ E → E ≤ 4194304 → ∀ i m w, arith_minus.j1 (k + 1) up x0 x1 E i an m w hi lo cut = some (rnd an v' e' (up != an)) := by
    intro v' e' x1 x0 E p0 p1 p2 p3 pv pe pE0 pE1 i m w
    have b0 := bl_pos p0
    have b1 := bl_le (n := x1) (m := 64) (by rw [p64]; exact p1)
    obtain ⟨j, hj⟩ : ∃ j : Nat, bl x1 = j := ⟨(bl x1).toNat, by omega⟩
    obtain ⟨b, hb⟩ : ∃ b : Nat, b + j = 64 := ⟨64 - j, by omega⟩
    obtain ⟨n1, n2, n3, n4, n5, n6⟩ := norm128 hb p0 hj p2 p3
    have f : ∀ cc : Bool, (cc = true ↔ (x0 * 2 ^ b) % 18446744073709551616 ≠ 0 ∨ r ≠ 0) → num_Grow.f k an (x1 * 2 ^ b + x0 / 2 ^ j) (E - b) cc (up != an) = some (rnd an v' e' (up != an)) := fun cc h => by
      rw [grw_eq k (by omega) _ _ _ _ _ n1 n2 (by omega) (by omega), rnd_fit (diff_fit n1 n2 pv hr0 hr1 n3 n5 n4 (show e' - b = (E - b) - d by omega) h)]
    simp only [arith_minus.j1]
    rw [lz64 (by omega) p1 k (by omega), Option.bind_some, hj, show (64 : Int) - (j : Int) = (b : Int) by omega]
    have s1 : shl .u64 x1 (b : Int) = (x1 * 2 ^ b) % 18446744073709551616 := shl64 (by omega)
    have s2 : shl .u64 x0 (b : Int) = (x0 * 2 ^ b) % 18446744073709551616 := shl64 (by omega)
    have s3 : wrap64 (64 - (b : Int)) = (j : Int) := by rw [w64 (by omega) (by omega)]; omega
    have s4 : shr .u64 x0 (j : Int) = x0 / 2 ^ j := shr_eq (by omega)
    have s5 : wrap64 (E - (b : Int)) = E - b := w64 (by omega) (by omega)
    by_cases z : (b : Int) > 0
    · rw [if_pos z, if_pos (by omega), s3, if_pos (by omega), s1, s2, s4, s5, n6]
      cases hcut : cut
      · rw [if_neg (by decide), f _ (by rw [← hcr, hcut]; simp), Option.bind_some]
      · rw [if_pos rfl, f true (by rw [← hcr, hcut]; simp), Option.bind_some]
    · have zb : b = 0 := by omega
      subst zb
      have zj : j = 64 := by omega
      subst zj
      have e1 : x0 / 2 ^ 64 = 0 := by rw [p64]; omega
      rw [e1, Int.pow_zero, Int.mul_one, Int.mul_one, Int.add_zero, Int.emod_eq_of_lt p2 p3, show E - ((0 : Nat) : Int) = E by omega] at f
      rw [if_neg z]
      cases hcut : cut
      · rw [if_neg (by decide), f _ (by rw [← hcr, hcut]; simp), Option.bind_some]
      · rw [if_pos rfl, f true (by rw [← hcr, hcut]; simp), Option.bind_some]
  -- joined
  have j0 : arith_minus.j0 (k + 2) up (if cut = true then 1 else 0) q1 an am ae hi lo cut = some (rnd an (am * 2 ^ d - bm) be (up != an)) := by
    cases hs1 : bits_Sub64.f 0 lo (if cut = true then 1 else 0) with
    | none => rw [hs1] at sub; exact absurd sub (by simp)
    | some t1 =>
      rw [hs1, Option.bind_some] at sub
      cases hs2 : bits_Sub64.f am hi t1.2 with
      | none => rw [hs2] at sub; exact absurd sub (by simp)
      | some t2 =>
        rw [hs2, Option.bind_some] at sub
        obtain ⟨g2, g3⟩ := Prod.mk.inj (Option.some.inj sub)
        simp only [arith_minus.j0]
        rw [hs1, Option.bind_some, hs2, Option.bind_some, g2, g3]
        by_cases z : h1 = 0
        · rw [if_pos z]
          have Dpos : 0 < h2 := by
            by_cases z2 : 0 < h2
            · exact z2
            · have : D = 0 := by omega
              rw [this, Int.zero_mul] at hDv
              omega
          -- so far down the difference is only where nothing is behind the 128 bits
          have hr : r = 0 := by
            have t1 : (am * 2 ^ d - bm) * 18446744073709551616 < 18446744073709551616 * 2 ^ d := by
              have := mul_le_p d (show D + 1 ≤ 18446744073709551616 by omega)
              rw [Int.add_mul, Int.one_mul] at this
              omega
            have t2 : (9223372036854775808 - 1) * 2 ^ d ≤ (am - 1) * 2 ^ d := mul_le_p d (by omega)
            rw [Int.sub_mul] at t2
            rw [Int.sub_mul am] at t2
            have t3 : d < 2 := by
              by_cases z3 : d < 2
              · exact z3
              · have := p2_mono (i := 2) (j := d) (by omega)
                omega
            by_cases z4 : r = 0
            · exact z4
            · have t4 := hcr.2 z4
              have t5 := hc.1 t4
              have : d = 0 ∨ d = 1 := by omega
              rcases this with rfl | rfl <;> omega
          have w : wrap64 (ae - 64) = ae - 64 := w64 (by omega) (by omega)
          rw [w, tail ((am * 2 ^ d - bm) * 2 ^ 64) (be - 64) h2 0 (ae - 64) Dpos g1.2 (by decide) (by decide) (by rw [p64, hDv, hr, gD, z]; simp [Int.mul_right_comm]) (by omega) (by omega) (by omega), rnd_scale hv, show be - 64 + ((64 : Nat) : Int) = be by omega]
        · rw [if_neg z]
          exact tail _ be h1 h2 ae (by omega) g0.2 g1.1 g1.2 (by rw [hDv, gD]) hd (by omega) (by omega) _ _ _
  unfold arith_minus.f
  rw [e, hl, Option.bind_some]
  cases hcut : cut
  · rw [hcut] at j0
    exact j0
  · rw [hcut] at j0
    exact j0

theorem rnz_sg {v : Int} (hv : 0 < v) (n : Bool) (e : Int) (up : Bool) : rnz (sg n v) e up = rnd n v e (up != n) := by
  unfold rnz sg
  cases n
  · simp only [Bool.false_eq_true, if_false]
    rw [if_neg (by omega), decide_eq_false (by omega), Int.natAbs_of_nonneg (by omega)]
  · simp only [if_true]
    rw [if_neg (by omega), decide_eq_true (by omega), Int.natAbs_neg, Int.natAbs_of_nonneg (by omega)]
/-- The sum of two finite ones, of which the first one is not the nearer to nought. -/
theorem add3 (k : Nat) (hk : 6 ≤ k) {am ae bm be : Int} (an bn up : Bool) (a0 : 9223372036854775808 ≤ am) (a1 : am < 18446744073709551616) (b0 : 9223372036854775808 ≤ bm) (b1 : bm < 18446744073709551616) (e0 : -1048576 ≤ be) (e1 : ae ≤ 1048576) (hle : be < ae ∨ be = ae ∧ bm ≤ am) :
    arith_Add.j3 k up 1 an am ae 1 bn bm be = some (rnz (exs (1, an, am, ae) (1, bn, bm, be) be) be up) := by
  obtain ⟨k, rfl⟩ : ∃ i, k = i + 1 := ⟨k - 1, by omega⟩
  obtain ⟨d, hd⟩ : ∃ d : Nat, ae = be + d := ⟨(ae - be).toNat, by omega⟩
  have pd := p2_pos d
  have ex : exs (1, an, am, ae) (1, bn, bm, be) be = sg an am * 2 ^ d + sg bn bm := by
    unfold exs
    simp only [show (ae - be).toNat = d by omega, show (be - be).toNat = 0 by omega, Int.pow_zero, Int.mul_one]
  have ad := mul_le_p d a0
  simp only [arith_Add.j3]
  by_cases h : an = bn
  · subst h
    have vp : 0 < am * 2 ^ d + bm := by omega
    have es : sg an am * 2 ^ d + sg an bm = sg an (am * 2 ^ d + bm) := by
      unfold sg
      cases an
      · simp
      · simp only [if_true]; rw [Int.neg_mul]; omega
    rw [if_pos (by simp), plus_eq k (by omega) _ _ _ _ _ a0 a1 b0 b1 e0 e1 hd, Option.bind_some, ex, es, rnz_sg vp]
  · have hn : bn = !an := by cases an <;> cases bn <;> simp_all
    subst hn
    have es : sg an am * 2 ^ d + sg (!an) bm = sg an (am * 2 ^ d - bm) := by
      unfold sg
      cases an
      · simp only [Bool.not_false, if_true, Bool.false_eq_true, if_false]; omega
      · simp only [if_true, Bool.not_true, Bool.false_eq_true, if_false]; rw [Int.neg_mul]; omega
    rw [if_neg (by simp)]
    have m : 0 < am * 2 ^ d - bm → arith_minus.f k 1 an am ae 1 (!an) bm be up = some (rnz (exs (1, an, am, ae) (1, !an, bm, be) be) be up) := fun hv => by
      rw [minus_eq k (by omega) _ _ _ _ _ a0 a1 b0 b1 e0 e1 hd hv, ex, es, rnz_sg hv]
    by_cases h2 : ae = be
    · have d0 : d = 0 := by omega
      subst d0
      simp only [Int.pow_zero, Int.mul_one] at m es
      rw [if_pos h2]
      by_cases h3 : am = bm
      · rw [if_pos h3, ex, Int.pow_zero, Int.mul_one, es, h3, Int.sub_self]
        unfold rnz sg
        simp
      · rw [if_neg h3, m (by omega), Option.bind_some]
    · rw [if_neg h2, m, Option.bind_some]
      have := p2_mono (i := 1) (j := d) (by omega)
      rw [Int.pow_one] at this
      have := Int.mul_le_mul_of_nonneg_left this (show 0 ≤ am by omega)
      omega
theorem addv_fin {a b : Nm} (ha : a.1 = 1) (hb : b.1 = 1) (up : Bool) : addv a b up = rnz (exs a b (min a.2.2.2 b.2.2.2)) (min a.2.2.2 b.2.2.2) up := by
  unfold addv
  rw [ha, hb]
  simp
theorem mulv_fin {a b : Nm} (ha : a.1 = 1) (hb : b.1 = 1) (up : Bool) : mulv a b up = rnd (a.2.1 != b.2.1) (a.2.2.1 * b.2.2.1) (a.2.2.2 + b.2.2.2) (up != (a.2.1 != b.2.1)) := by
  unfold mulv
  rw [ha, hb]
  simp
theorem add_eq (k : Nat) (hk : 9 ≤ k) (a1 : Int) (a2 : Bool) (a3 a4 b1 : Int) (b2 : Bool) (b3 b4 : Int) (up : Bool) (ha : a3 < 18446744073709551616) (hb : b3 < 18446744073709551616) :
    arith_Add.f k a1 a2 a3 a4 b1 b2 b3 b4 up = some (addv (fairv (a1, a2, a3, a4)) (fairv (b1, b2, b3, b4)) up) := by
  obtain ⟨k, rfl⟩ : ∃ i, k = i + 3 := ⟨k - 3, by omega⟩
  unfold arith_Add.f
  rw [afair_eq a1 a2 a3 a4 ha, Option.bind_some, afair_eq b1 b2 b3 b4 hb, Option.bind_some]
  have ma := fairv_may (a1, a2, a3, a4)
  have mb := fairv_may (b1, b2, b3, b4)
  generalize fairv (a1, a2, a3, a4) = a at ma
  generalize fairv (b1, b2, b3, b4) = b at mb
  clear ha hb a1 a2 a3 a4 b1 b2 b3 b4
  obtain ⟨a1, a2, a3, a4⟩ := a
  obtain ⟨b1, b2, b3, b4⟩ := b
  rcases ma with ⟨h1, h2, h3, h4⟩ | ⟨h1, h2, h3, h4, h5⟩ | ⟨h1, h2, h3⟩ <;> rcases mb with ⟨g1, g2, g3, g4⟩ | ⟨g1, g2, g3, g4, g5⟩ | ⟨g1, g2, g3⟩ <;> simp only at h1 g1 <;> subst h1 g1
  case inr.inl.inr.inl =>
    simp only at h2 h3 h4 h5 g2 g3 g4 g5
    have c2 : ¬ ((1 : Int) = 2) := by decide
    have c0 : ¬ ((1 : Int) = 0) := by decide
    rw [addv_fin rfl rfl]
    simp only [if_neg c2, arith_Add.j0, arith_Add.j1, Bool.false_eq_true, if_false, show ((1 : Int) == 0) = false from rfl, if_neg c0]
    by_cases z : b4 > a4
    · rw [if_pos z]
      simp only [arith_Add.j2, if_true]
      rw [add3 k (by omega) _ _ _ g2 g3 h2 h3 (by omega) (by omega) (.inl z), exs_comm, Int.min_eq_left (by omega)]
    · rw [if_neg z]
      by_cases z2 : b4 = a4
      · rw [if_pos z2]
        by_cases z3 : b3 > a3
        · simp only [arith_Add.j2, decide_eq_true z3, if_true]
          rw [add3 k (by omega) _ _ _ g2 g3 h2 h3 (by omega) (by omega) (.inr ⟨z2.symm, by omega⟩), exs_comm, Int.min_eq_left (by omega)]
        · simp only [arith_Add.j2, decide_eq_false z3, Bool.false_eq_true, if_false]
          rw [add3 k (by omega) _ _ _ h2 h3 g2 g3 (by omega) (by omega) (.inr ⟨z2, by omega⟩), Int.min_eq_right (by omega)]
      · rw [if_neg z2]
        simp only [arith_Add.j2, Bool.false_eq_true, if_false]
        rw [add3 k (by omega) _ _ _ h2 h3 g2 g3 (by omega) (by omega) (.inl (by omega)), Int.min_eq_right (by omega)]
  all_goals simp only at h2 h3 g2 g3
  all_goals simp [arith_Add.j0, arith_Add.j1, addv, num_Infinite.f]
  all_goals (cases a2 <;> cases b2 <;> simp_all)
/-! products -/
theorem mul64_eq {x y : Int} (x0 : 0 ≤ x) (x1 : x < 18446744073709551616) (y0 : 0 ≤ y) (y1 : y < 18446744073709551616) : bits_Mul64.f x y = some (x * y / 18446744073709551616, x * y % 18446744073709551616) := by
  have bd : ∀ a b : Int, 0 ≤ a → a < 4294967296 → 0 ≤ b → b < 4294967296 → 0 ≤ a * b ∧ a * b ≤ 18446744065119617025 := fun a b ha ha' hb hb' => mul_bound ⟨ha, ha'⟩ ⟨hb, hb'⟩
  unfold bits_Mul64.f
  rw [and_low x0 x1, and_low y0 y1]
  obtain ⟨xh, xl, hx, xh0, xh1, xl0, xl1⟩ : ∃ xh xl : Int, x = xh * 4294967296 + xl ∧ 0 ≤ xh ∧ xh < 4294967296 ∧ 0 ≤ xl ∧ xl < 4294967296 := ⟨x / 4294967296, x % 4294967296, by omega, by omega, by omega, by omega, by omega⟩
  obtain ⟨yh, yl, hy, yh0, yh1, yl0, yl1⟩ : ∃ yh yl : Int, y = yh * 4294967296 + yl ∧ 0 ≤ yh ∧ yh < 4294967296 ∧ 0 ≤ yl ∧ yl < 4294967296 := ⟨y / 4294967296, y % 4294967296, by omega, by omega, by omega, by omega, by omega⟩
  rw [show x / 4294967296 = xh by omega, show x % 4294967296 = xl by omega, show y / 4294967296 = yh by omega, show y % 4294967296 = yl by omega]
  have hp : x * y = xh * yh * 18446744073709551616 + (xh * yl + xl * yh) * 4294967296 + xl * yl := by rw [hx, hy]; grind
  obtain ⟨p1, p2⟩ := bd xh yh xh0 xh1 yh0 yh1
  obtain ⟨p3, p4⟩ := bd xh yl xh0 xh1 yl0 yl1
  obtain ⟨p5, p6⟩ := bd xl yh xl0 xl1 yh0 yh1
  obtain ⟨p7, p8⟩ := bd xl yl xl0 xl1 yl0 yl1
  rw [hp]
  generalize xh * yh = A at *
  generalize xh * yl = B at *
  generalize xl * yh = C at *
  generalize xl * yl = D at *
  clear hp hx hy x0 x1 y0 y1 xh0 xh1 xl0 xl1 yh0 yh1 yl0 yl1 bd
  rw [u64w (x := D) (by omega) (by omega), u64w (x := B) (by omega) (by omega), u64w (x := B + D / 4294967296) (by omega) (by omega), u64w (x := C) (by omega) (by omega), u64w (x := A) (by omega) (by omega), and_low (x := B + D / 4294967296) (by omega) (by omega)]
  rw [u64w (x := A + (B + D / 4294967296) / 4294967296) (by omega) (by omega), u64w (x := (B + D / 4294967296) % 4294967296 + C) (by omega) (by omega), u64w (by omega) (by omega), wrap_u64]
  congr 2
  omega
theorem mul_eq (k : Nat) (hk : 4 ≤ k) (a1 : Int) (a2 : Bool) (a3 a4 b1 : Int) (b2 : Bool) (b3 b4 : Int) (up : Bool) (ha : a3 < 18446744073709551616) (hb : b3 < 18446744073709551616) :
    arith_Mul.f k a1 a2 a3 a4 b1 b2 b3 b4 up = some (mulv (fairv (a1, a2, a3, a4)) (fairv (b1, b2, b3, b4)) up) := by
  obtain ⟨k, rfl⟩ : ∃ i, k = i + 1 := ⟨k - 1, by omega⟩
  unfold arith_Mul.f
  rw [afair_eq a1 a2 a3 a4 ha, Option.bind_some, afair_eq b1 b2 b3 b4 hb, Option.bind_some]
  have ma := fairv_may (a1, a2, a3, a4)
  have mb := fairv_may (b1, b2, b3, b4)
  generalize fairv (a1, a2, a3, a4) = a at ma
  generalize fairv (b1, b2, b3, b4) = b at mb
  clear ha hb a1 a2 a3 a4 b1 b2 b3 b4
  obtain ⟨a1, a2, a3, a4⟩ := a
  obtain ⟨b1, b2, b3, b4⟩ := b
  rcases ma with ⟨h1, h2, h3, h4⟩ | ⟨h1, h2, h3, h4, h5⟩ | ⟨h1, h2, h3⟩ <;> rcases mb with ⟨g1, g2, g3, g4⟩ | ⟨g1, g2, g3, g4, g5⟩ | ⟨g1, g2, g3⟩ <;> simp only at h1 g1 <;> subst h1 g1
  case inr.inl.inr.inl =>
    simp only at h2 h3 h4 h5 g2 g3 g4 g5
    have c2 : ¬ ((1 : Int) = 2) := by decide
    have c0 : ¬ ((1 : Int) = 0) := by decide
    rw [mulv_fin rfl rfl]
    simp only [if_neg c2, arith_Mul.j0, Bool.false_eq_true, if_false, show ((1 : Int) == 0) = false from rfl, if_neg c0]
    rw [mul64_eq (by omega) h3 (by omega) g3, Option.bind_some]
    have q1 : 9223372036854775808 * 9223372036854775808 ≤ a3 * b3 := Int.mul_le_mul h2 g2 (by decide) (by omega)
    have q2 : a3 * b3 ≤ 18446744073709551615 * 18446744073709551615 := Int.mul_le_mul (by omega) (by omega) (by omega) (by decide)
    generalize a3 * b3 = P at q1 q2
    have w1 : wrap64 (a4 + b4) = a4 + b4 := w64 (by omega) (by omega)
    have w2 : wrap64 (a4 + b4 + 64) = a4 + b4 + 64 := w64 (by omega) (by omega)
    have w3 : wrap64 (a4 + b4 + 64 - 1) = a4 + b4 + (63 : Nat) := by rw [w64 (by omega) (by omega)]; omega
    simp only [w1, w2, w3]
    by_cases z : P / 18446744073709551616 < 9223372036854775808
    · rw [if_pos z]
      have o := (or_sum (h := P / 18446744073709551616) (l := P % 18446744073709551616 / 9223372036854775808) (b := 1) (j := 63) rfl (by omega) (by rw [p63]; exact z) (by omega) (by rw [Int.pow_one]; omega)).1
      rw [Int.pow_one] at o
      rw [u64w (by omega) (by omega), o, wrap_u64, grw_eq k (by omega) _ _ _ _ _ (by omega) (by omega) (by omega) (by omega), Option.bind_some]
      congr 1
      refine (rnd_fit (div_fit (d := 63) (by omega) (by omega) (by rw [p63]; omega) ?_) _ _).symm
      rw [p63, bne_iff_ne]
      omega
    · rw [if_neg z, grw_eq k (by omega) _ _ _ _ _ (by omega) (by omega) (by omega) (by omega), Option.bind_some]
      congr 1
      refine (rnd_fit (e := a4 + b4) (div_fit (d := 64) (by omega) (by omega) (by rw [p64]) ?_) _ _).symm
      rw [p64, bne_iff_ne]
  all_goals simp only at h2 h3 g2 g3
  all_goals simp [arith_Mul.j0, mulv, num_Infinite.f]
/-! whole numbers, and the next one -/
/-- A whole number. -/
def ofv (a : Int) : Nm := if a = 0 then (0, false, 0, 0) else (1, decide (a < 0), (a.natAbs : Int) * 2 ^ (64 - bl a.natAbs).toNat, bl a.natAbs - 64)
theorem of_eq (k : Nat) (hk : 1 ≤ k) (a : Int) (h0 : -9223372036854775808 ≤ a) (h1 : a ≤ 9223372036854775807) : num_Of.f k a = some (ofv a) := by
  have key : ∀ u : Int, u = a.natAbs → (bits_LeadingZeros64.f k u).bind (fun t => if u = 0 then some (0, false, 0, 0) else if 0 ≤ t then some ((1 : Int), decide (a < 0), shl .u64 u t, wrap64 (-t)) else none) = some (ofv a) := by
    intro u hu
    rw [lz64 (by omega) (by omega) k hk, Option.bind_some]
    unfold ofv
    by_cases z : a = 0
    · rw [if_pos (by omega), if_pos z]
    · rw [if_neg (by omega), if_neg z, ← hu]
      have b0 := bl_pos (n := u) (by omega)
      have b1 := bl_le (n := u) (m := 64) (by rw [p64]; omega)
      have b2 := bl_lt (n := u) (by omega)
      obtain ⟨b, hb⟩ : ∃ b : Nat, 64 - bl u = b := ⟨(64 - bl u).toNat, by omega⟩
      have c := mul_lt_p b b2
      rw [← p2_add, show (bl u).toNat + b = 64 by omega, p64] at c
      have c0 := Int.mul_nonneg (show 0 ≤ u by omega) (show (0 : Int) ≤ 2 ^ b by have := p2_pos b; omega)
      rw [hb, if_pos (by omega), shl64 (by omega), Int.emod_eq_of_lt c0 c, w64 (by omega) (by omega), Int.toNat_natCast, show -(b : Int) = bl u - 64 by omega]
  unfold num_Of.f
  by_cases z : a < 0
  · have e : IntKind.u64.wrap (-(IntKind.u64.wrap a)) = a.natAbs := by rw [wrap_u64, wrap_u64]; omega
    rw [if_pos z]
    exact key _ e
  · have e : IntKind.u64.wrap a = a.natAbs := by rw [wrap_u64]; omega
    rw [if_neg z]
    exact key _ e
/-- The next number above, or below, of one that may be. -/
def nextv (n : Nm) (up : Bool) : Nm :=
  if n.1 = 0 then (1, !up, 9223372036854775808, -1048576)
  else if n.1 = 2 then (if n.2.1 = up then (1, n.2.1, 18446744073709551615, 1048576) else n)
  else if n.2.1 ≠ up then grw n.2.1 n.2.2.1 n.2.2.2 true true
  else if n.2.2.1 = 9223372036854775808 then bnd n.2.1 18446744073709551615 (n.2.2.2 - 1) false
  else (n.1, n.2.1, n.2.2.1 - 1, n.2.2.2)
theorem next_eq (k : Nat) (hk : 4 ≤ k) (a1 : Int) (a2 : Bool) (a3 a4 : Int) (up : Bool) (ha : a3 < 18446744073709551616) : num_Next.f k a1 a2 a3 a4 up = some (nextv (fairv (a1, a2, a3, a4)) up) := by
  obtain ⟨k, rfl⟩ : ∃ i, k = i + 1 := ⟨k - 1, by omega⟩
  unfold num_Next.f
  rw [nfair_eq a1 a2 a3 a4 ha, Option.bind_some]
  have ma := fairv_may (a1, a2, a3, a4)
  generalize fairv (a1, a2, a3, a4) = a at ma
  clear ha a1 a2 a3 a4
  obtain ⟨a1, a2, a3, a4⟩ := a
  unfold nextv
  rcases ma with ⟨h1, h2, h3, h4⟩ | ⟨h1, h2, h3, h4, h5⟩ | ⟨h1, h2, h3⟩ <;> simp only at h1 <;> subst h1
  · rfl
  · simp only at h2 h3 h4 h5
    have c2 : ¬ ((1 : Int) = 2) := by decide
    have c0 : ¬ ((1 : Int) = 0) := by decide
    simp only [if_neg c2, if_neg c0, num_Next.j0, Bool.false_eq_true, if_false, bne_iff_ne]
    by_cases z : a2 ≠ up
    · rw [if_pos z, if_pos z, grw_eq k (by omega) _ _ _ _ _ h2 h3 (by omega) (by omega), Option.bind_some]
    · rw [if_neg z, if_neg z]
      by_cases z2 : a3 = 9223372036854775808
      · rw [if_pos z2, if_pos z2, w64 (by omega) (by omega), bnd_eq k (by omega), Option.bind_some]
      · rw [if_neg z2, if_neg z2, u64w (by omega) (by omega)]
  · simp only at h2 h3
    subst h2 h3
    simp only [show ¬ ((2 : Int) = 0) by decide, if_false, if_true, num_Next.j0, num_huge.f, Option.bind_some]
    by_cases z : a2 = up
    · rw [if_pos z, if_pos (by simpa using z)]
    · rw [if_neg z, if_neg (by simpa using z)]

theorem may_lt {n : Nm} (h : mayP n) : n.2.2.1 < 18446744073709551616 := by
  rcases h with ⟨_, _, h3, _⟩ | ⟨_, _, h3, _⟩ | ⟨_, h2, _⟩ <;> omega
theorem add_g (k : Nat) (hk : 9 ≤ k) (p q : Nm) (up : Bool) (hp : mayP p) (hq : mayP q) : arith_Add.f k p.1 p.2.1 p.2.2.1 p.2.2.2 q.1 q.2.1 q.2.2.1 q.2.2.2 up = some (addv p q up) := by
  rw [add_eq k hk _ _ _ _ _ _ _ _ _ (may_lt hp) (may_lt hq)]
  simp only [tup, fairv_of hp, fairv_of hq]
theorem mul_g (k : Nat) (hk : 4 ≤ k) (p q : Nm) (up : Bool) (hp : mayP p) (hq : mayP q) : arith_Mul.f k p.1 p.2.1 p.2.2.1 p.2.2.2 q.1 q.2.1 q.2.2.1 q.2.2.2 up = some (mulv p q up) := by
  rw [mul_eq k hk _ _ _ _ _ _ _ _ _ (may_lt hp) (may_lt hq)]
  simp only [tup, fairv_of hp, fairv_of hq]
theorem neg_g (p : Nm) (hp : mayP p) : num_Neg.f p.1 p.2.1 p.2.2.1 p.2.2.2 = some (ngv p) := by
  rw [nneg_eq _ _ _ _ (may_lt hp)]
  simp only [tup, fairv_of hp]
theorem next_g (k : Nat) (hk : 4 ≤ k) (p : Nm) (up : Bool) (hp : mayP p) : num_Next.f k p.1 p.2.1 p.2.2.1 p.2.2.2 up = some (nextv p up) := by
  rw [next_eq k hk _ _ _ _ _ (may_lt hp)]
  simp only [tup, fairv_of hp]
theorem nm_beq {a b : Nm} (h : a = b) : (a.1 == b.1 && (a.2.1 == b.2.1 && (a.2.2.1 == b.2.2.1 && (a.2.2.2 == b.2.2.2)))) = true := by subst h; simp
theorem of1 : ofv 1 = (1, false, 9223372036854775808, -63) := by decide +kernel
theorem of2 : ofv 2 = (1, false, 9223372036854775808, -62) := by decide +kernel
theorem ofm2 : ofv (-2) = (1, true, 9223372036854775808, -62) := by decide +kernel
theorem awake_ev (k : Nat) (hk : 9 ≤ k) : peloruslaw06_awake.f k = some true := by
  have m1 : mayP (ofv 1) := by decide +kernel
  have m2 : mayP (ofv (-2)) := by decide +kernel
  have m3 : mayP (1, false, 9223372036854775808, -133) := by decide +kernel
  have m4 : mayP (2, false, 0, 0) := by decide +kernel
  have e1 : addv (ofv 1) (1, false, 9223372036854775808, -133) true = nextv (ofv 1) true := by decide +kernel
  have e2 : addv (ofv 1) (1, false, 9223372036854775808, -133) false = ofv 1 := by decide +kernel
  have e3 : mulv (2, false, 0, 0) (ofv (-2)) true = (2, true, 0, 0) := by decide +kernel
  have a1 := add_g k hk (ofv 1) (1, false, 9223372036854775808, -133) true m1 m3
  have a2 := add_g k hk (ofv 1) (1, false, 9223372036854775808, -133) false m1 m3
  have a3 := mul_g k (by omega) (2, false, 0, 0) (ofv (-2)) true m4 m2
  have a4 := next_g k (by omega) (ofv 1) true m1
  simp only at a1 a2 a3
  unfold peloruslaw06_awake.f
  rw [of_eq k (by omega) 1 (by decide) (by decide), Option.bind_some, a1, Option.bind_some, a4, Option.bind_some, if_pos (nm_beq e1), a2, Option.bind_some, if_pos (nm_beq e2), if_pos (by decide +kernel)]
  simp only [num_Infinite.f, Option.bind_some]
  rw [of_eq k (by omega) (-2) (by decide) (by decide), Option.bind_some, a3, Option.bind_some, e3]
  rfl
theorem m_lt {x : Int} (h : (Lit.int .u64 x).wf = true) : x < 18446744073709551616 := by have := u64_of_wf h; omega
/-- What a parameter counts as. -/
def nm (x : S24) : Nm := fairv (x.f0, x.f1, x.f2, x.f3)
theorem nm_may (x : S24) : mayP (nm x) := fairv_may _
theorem add_ss (k : Nat) (hk : 9 ≤ k) {x y : S24} (up : Bool) (hx : ok24 x) (hy : ok24 y) : arith_Add.f k x.f0 x.f1 x.f2 x.f3 y.f0 y.f1 y.f2 y.f3 up = some (addv (nm x) (nm y) up) := add_eq k hk _ _ _ _ _ _ _ _ _ (m_lt hx.2.2.1) (m_lt hy.2.2.1)
theorem mul_ss (k : Nat) (hk : 4 ≤ k) {x y : S24} (up : Bool) (hx : ok24 x) (hy : ok24 y) : arith_Mul.f k x.f0 x.f1 x.f2 x.f3 y.f0 y.f1 y.f2 y.f3 up = some (mulv (nm x) (nm y) up) := mul_eq k hk _ _ _ _ _ _ _ _ _ (m_lt hx.2.2.1) (m_lt hy.2.2.1)
theorem add_sn (k : Nat) (hk : 9 ≤ k) {x : S24} {q : Nm} (up : Bool) (hx : ok24 x) (hq : mayP q) : arith_Add.f k x.f0 x.f1 x.f2 x.f3 q.1 q.2.1 q.2.2.1 q.2.2.2 up = some (addv (nm x) q up) := by
  rw [add_eq k hk _ _ _ _ _ _ _ _ _ (m_lt hx.2.2.1) (may_lt hq), tup, fairv_of hq]; rfl
theorem mul_ns (k : Nat) (hk : 4 ≤ k) {p : Nm} {y : S24} (up : Bool) (hp : mayP p) (hy : ok24 y) : arith_Mul.f k p.1 p.2.1 p.2.2.1 p.2.2.2 y.f0 y.f1 y.f2 y.f3 up = some (mulv p (nm y) up) := by
  rw [mul_eq k hk _ _ _ _ _ _ _ _ _ (may_lt hp) (m_lt hy.2.2.1), tup, fairv_of hp]; rfl
theorem mul_sn (k : Nat) (hk : 4 ≤ k) {x : S24} {q : Nm} (up : Bool) (hx : ok24 x) (hq : mayP q) : arith_Mul.f k x.f0 x.f1 x.f2 x.f3 q.1 q.2.1 q.2.2.1 q.2.2.2 up = some (mulv (nm x) q up) := by
  rw [mul_eq k hk _ _ _ _ _ _ _ _ _ (m_lt hx.2.2.1) (may_lt hq), tup, fairv_of hq]; rfl
theorem neg_s {x : S24} (hx : ok24 x) : num_Neg.f x.f0 x.f1 x.f2 x.f3 = some (ngv (nm x)) := nneg_eq _ _ _ _ (m_lt hx.2.2.1)
theorem next_s (k : Nat) (hk : 4 ≤ k) {x : S24} (up : Bool) (hx : ok24 x) : num_Next.f k x.f0 x.f1 x.f2 x.f3 up = some (nextv (nm x) up) := next_eq k hk _ _ _ _ _ (m_lt hx.2.2.1)
theorem may_s {x : S24} (hx : ok24 x) : num_May.f x.f0 x.f1 x.f2 x.f3 = some (decide (mayP (x.f0, x.f1, x.f2, x.f3))) := may_eq _ _ _ _ (m_lt hx.2.2.1)
theorem sub_ss (k : Nat) (hk : 9 ≤ k) {x y : S24} (up : Bool) (hx : ok24 x) (hy : ok24 y) : arith_Sub.f k x.f0 x.f1 x.f2 x.f3 y.f0 y.f1 y.f2 y.f3 up = some (addv (nm x) (ngv (nm y)) up) := by
  unfold arith_Sub.f
  rw [neg_s hy, Option.bind_some, add_sn k hk up hx (ngv_may (nm_may y)), Option.bind_some]
theorem twice_s (k : Nat) (hk : 4 ≤ k) {x : S24} (up : Bool) (hx : ok24 x) : arith_Twice.f k x.f0 x.f1 x.f2 x.f3 up = some (mulv (nm x) (ofv 2) up) := by
  unfold arith_Twice.f
  rw [of_eq k (by omega) 2 (by decide) (by decide), Option.bind_some, mul_sn k hk up hx (by decide +kernel), Option.bind_some]
/-- A half. -/
def halfn : Nm := (1, false, 9223372036854775808, -64)
theorem halfn_may : mayP halfn := by decide +kernel
theorem half_s (k : Nat) (hk : 4 ≤ k) {x : S24} (up : Bool) (hx : ok24 x) : arith_Half.f k x.f0 x.f1 x.f2 x.f3 up = some (mulv (nm x) halfn up) := by
  unfold arith_Half.f
  rw [of_eq k (by omega) 1 (by decide) (by decide), Option.bind_some, of1]
  have h := mul_sn k hk up hx halfn_may
  simp only [halfn] at h
  simp only [show wrap64 (-63 - 1) = -64 by decide +kernel]
  rw [h]
  rfl
theorem half_n (k : Nat) (hk : 4 ≤ k) {p : Nm} (up : Bool) (hp : mayP p) : arith_Half.f k p.1 p.2.1 p.2.2.1 p.2.2.2 up = some (mulv p halfn up) := by
  unfold arith_Half.f
  rw [of_eq k (by omega) 1 (by decide) (by decide), Option.bind_some, of1]
  have h := mul_g k hk p halfn up hp halfn_may
  simp only [halfn] at h
  simp only [show wrap64 (-63 - 1) = -64 by decide +kernel]
  rw [h]
  rfl
end Go.Proofs.Ythlhogcnfaiphaa.T
