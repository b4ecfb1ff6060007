/- What the sums and products of layer 6, and what they use of layer 5, compute. -/
import Derived.Test.YthlhogcnfaiphaaPAx2
import Derived.Test.YthlhogcnfaiphaaTS
namespace Go.Proofs.Ythlhogcnfaiphaa.T
set_option linter.unusedVariables false
set_option linter.unusedSimpArgs false
open Go.RowKit Go.Proofs.YthlhogcnfaiphaaW.PrintWords Go.Proofs.YthlhogcnfaiphaaW.PrintMore Go.Proofs.Ythlhogcnfaiphaa.PA

instance (n : Nm) : Decidable (mayP n) := by unfold mayP; infer_instance
/-- One that may be. -/
def fairv (n : Nm) : Nm := if mayP n then n else (0, false, 0, 0)
theorem fairv_may (n : Nm) : mayP (fairv n) := by
  unfold fairv
  split
  · assumption
  · exact .inl ⟨rfl, rfl, rfl, rfl⟩
theorem fairv_of {n : Nm} (h : mayP n) : fairv n = n := if_pos h
theorem may_eq (a : Int) (b : Bool) (c d : Int) (h1 : c < 18446744073709551616) : num_May.f a b c d = some (decide (mayP (a, b, c, d))) := by
  unfold num_May.f mayP
  by_cases h0 : a = 0
  · subst h0; cases b <;> simp <;> rfl
  · rw [if_neg h0]
    by_cases h2 : a = 1
    · subst h2; simp [h1]
      by_cases q1 : 9223372036854775808 ≤ c
      · rw [if_pos q1]
        by_cases q2 : -1048576 ≤ d
        · rw [if_pos q2]; simp [q1, q2]
        · rw [if_neg q2]; simp [q2]
      · rw [if_neg q1]; simp [q1]
    · rw [if_neg h2]
      by_cases h3 : a = 2
      · subst h3; simp
        by_cases q1 : c = 0
        · rw [if_pos q1]; simp [q1]; rfl
        · rw [if_neg q1]; simp [q1]
      · rw [if_neg h3]; simp [h0, h2, h3]
theorem afair_eq (a : Int) (b : Bool) (c d : Int) (h1 : c < 18446744073709551616) : arith_fair.f a b c d = some (fairv (a, b, c, d)) := by
  unfold arith_fair.f fairv
  rw [may_eq a b c d h1, Option.bind_some]
  by_cases h : mayP (a, b, c, d)
  · rw [if_pos h, decide_eq_true h, if_pos rfl]
  · rw [if_neg h, decide_eq_false h]; rfl
theorem nfair_eq (a : Int) (b : Bool) (c d : Int) (h1 : c < 18446744073709551616) : num_fair.f a b c d = some (fairv (a, b, c, d)) := afair_eq a b c d h1
theorem nneg_eq (a : Int) (b : Bool) (c d : Int) (h1 : c < 18446744073709551616) : num_Neg.f a b c d = some (ngv (fairv (a, b, c, d))) := by
  unfold num_Neg.f
  rw [nfair_eq a b c d h1, Option.bind_some]
  have h := fairv_may (a, b, c, d)
  generalize fairv (a, b, c, d) = n at h
  obtain ⟨n1, n2, n3, n4⟩ := n
  unfold ngv
  rcases h with ⟨h1, h2, h3, h4⟩ | ⟨h1, h2⟩ | ⟨h1, h2⟩ <;> simp only at h1
  · simp only at h2 h3 h4; subst h1 h2 h3 h4; rfl
  · subst h1; rfl
  · subst h1; rfl
theorem bnd_eq (k : Nat) (hk : 2 ≤ k) (neg : Bool) (m e : Int) (away : Bool) : num_Bound.f k neg m e away = some (bnd neg m e away) := by
  obtain ⟨k, rfl⟩ : ∃ i, k = i + 2 := ⟨k - 2, by omega⟩
  unfold num_Bound.f bnd
  by_cases h : e > 1048576
  · rw [if_pos h, if_pos h]
    cases away
    · simp only [num_Bound.j0, Bool.false_eq_true, if_false, if_pos h, num_huge.f, Option.bind_some]
    · simp only [num_Bound.j0, if_true, num_Infinite.f, Option.bind_some]
  · rw [if_neg h, if_neg h]
    simp only [num_Bound.j0, num_Bound.j1, Bool.false_eq_true, if_false, if_neg h]
    by_cases h2 : e < -1048576
    · simp only [if_pos h2]
      cases away
      · simp only [Bool.false_eq_true, if_false, if_pos h2]
      · simp only [if_true, num_tiny.f, Option.bind_some]
    · simp only [if_neg h2]
theorem grw_eq (k : Nat) (hk : 3 ≤ k) (neg : Bool) (m e : Int) (cut away : Bool) (m0 : 9223372036854775808 ≤ m) (m1 : m < 18446744073709551616) (e0 : -9223372036854775808 ≤ e) (e1 : e < 9223372036854775807) : num_Grow.f k neg m e cut away = some (grw neg m e cut away) := by
  obtain ⟨k, rfl⟩ : ∃ i, k = i + 1 := ⟨k - 1, by omega⟩
  unfold num_Grow.f grw
  have q : num_Grow.j0 (k + 1) neg m e away false = some (bnd neg m e away) := by
    simp only [num_Grow.j0, Bool.false_eq_true, if_false, bnd_eq k (by omega), Option.bind_some]
  cases cut
  · rw [if_neg (by decide), if_neg (by simp)]; exact q
  · rw [if_pos rfl]
    cases away
    · rw [if_neg (by simp)]; exact q
    · rw [if_pos ⟨rfl, rfl⟩]
      simp only [num_Grow.j0, if_true, bnd_eq k (by omega), Option.bind_some]
      by_cases h : m + 1 = 18446744073709551616
      · have h2 : IntKind.u64.wrap (m + 1) = 0 := by rw [h]; rfl
        rw [if_pos h, if_pos h2, w64 (by omega) (by omega)]
      · have h2 : IntKind.u64.wrap (m + 1) = m + 1 := u64w (by omega) (by omega)
        rw [if_neg h, h2, if_neg (by omega)]
/-! 64 bits moved down, as 128 bits and whether more was cut off -/
theorem wrap_u64 (x : Int) : IntKind.u64.wrap x = x % 18446744073709551616 := by rw [IntKind.wrap_u64]
theorem shl64 {x : Int} {s : Nat} (hs : s ≤ 64) : shl .u64 x (s : Int) = (x * 2 ^ s) % 18446744073709551616 := by
  unfold shl
  have hmn : min (s : Int).toNat IntKind.u64.bits = s := by
    have : IntKind.u64.bits = 64 := rfl
    rw [this, Int.toNat_natCast]
    omega
  rw [hmn, wrap_u64]
theorem low_a {m : Int} {n j : Nat} (h : n + j = 64) : m * 18446744073709551616 / 2 ^ n = m * 2 ^ j ∧ m * 18446744073709551616 % 2 ^ n = 0 ∧ m / 2 ^ n = m * 2 ^ j / 18446744073709551616 := by
  have hW : (18446744073709551616 : Int) = 2 ^ j * 2 ^ n := by rw [← p2_add, Nat.add_comm, h, p64]
  have hn := p2_pos n
  have hj := p2_pos j
  rw [hW, ← Int.mul_assoc, Int.mul_ediv_cancel _ (by omega), Int.mul_emod_left]
  refine ⟨rfl, rfl, ?_⟩
  rw [Int.mul_comm (2 ^ j) (2 ^ n), Int.mul_ediv_mul_of_pos_left _ _ hj]
theorem em_mul (m a : Int) {b : Int} (hb : 0 < b) : (m * b) % (a * b) = (m % a) * b := by rw [Int.mul_comm m, Int.mul_comm a, Int.mul_emod_mul_of_pos _ _ hb, Int.mul_comm]
theorem low_b {m : Int} {n i : Nat} (h : n = i + 64) : m * 18446744073709551616 / 2 ^ n = m / 2 ^ i ∧ m * 18446744073709551616 % 2 ^ n = (m % 2 ^ i) * 18446744073709551616 := by
  subst h
  rw [p2_add, p64, Int.mul_ediv_mul_of_pos_left _ _ (by decide), em_mul _ _ (by decide)]
  exact ⟨rfl, rfl⟩
theorem low_c {m : Int} {i j : Nat} (h : i + j = 64) : (m * 2 ^ j) % 18446744073709551616 = (m % 2 ^ i) * 2 ^ j := by
  have hW : (18446744073709551616 : Int) = 2 ^ i * 2 ^ j := by rw [← p2_add, h, p64]
  rw [hW, em_mul _ _ (p2_pos j)]
theorem lower_eq {m : Int} {n : Nat} (m0 : 9223372036854775808 ≤ m) (m1 : m < 18446744073709551616) (hn : n ≤ 4194304) :
    ∃ hi lo cut, arith_lower.f m (n : Int) = some (hi, lo, cut) ∧ 0 ≤ hi ∧ hi < 18446744073709551616 ∧ 0 ≤ lo ∧ lo < 18446744073709551616 ∧ hi * 18446744073709551616 + lo = m * 18446744073709551616 / 2 ^ n ∧ (cut = true ↔ m * 18446744073709551616 % 2 ^ n ≠ 0) := by
  have hp := p2_pos n
  have d0 : ∀ i : Nat, 0 ≤ m / 2 ^ i ∧ m / 2 ^ i ≤ m := fun i => by
    have := p2_pos i
    exact ⟨Int.ediv_nonneg (by omega) (by omega), Int.ediv_le_self _ (by omega)⟩
  unfold arith_lower.f
  by_cases h : n < 64
  · obtain ⟨j, hj⟩ : ∃ j, n + j = 64 := ⟨64 - n, by omega⟩
    obtain ⟨a1, a2, a3⟩ := low_a (m := m) hj
    have w : wrap64 (64 - (n : Int)) = (j : Int) := by rw [w64 (by omega) (by omega)]; omega
    rw [if_pos (by omega), if_pos (by omega), w, if_pos (by omega), shr_eq (by omega), shl64 (by omega), a1, a2, a3]
    refine ⟨_, _, _, rfl, ?_, ?_, Int.emod_nonneg _ (by decide), Int.emod_lt_of_pos _ (by decide), ?_, ?_⟩
    · rw [← a3]; exact (d0 n).1
    · rw [← a3]; have := (d0 n).2; omega
    · have := Int.mul_ediv_add_emod (m * 2 ^ j) 18446744073709551616
      omega
    · simp
  · rw [if_neg (by omega)]
    by_cases h2 : n < 128
    · obtain ⟨i, hi⟩ : ∃ i, n = i + 64 := ⟨n - 64, by omega⟩
      obtain ⟨j, hj⟩ : ∃ j, i + j = 64 := ⟨64 - i, by omega⟩
      obtain ⟨b1, b2⟩ := low_b (m := m) hi
      have w : wrap64 ((n : Int) - 64) = (i : Int) := by rw [w64 (by omega) (by omega)]; omega
      have w2 : wrap64 (64 - (i : Int)) = (j : Int) := by rw [w64 (by omega) (by omega)]; omega
      rw [if_pos (by omega), w, if_pos (by omega), w2, if_pos (by omega), shr_eq (by omega), shl64 (by omega), b1, b2, low_c hj]
      refine ⟨_, _, _, rfl, by decide, by decide, (d0 i).1, by have := (d0 i).2; omega, by omega, ?_⟩
      have hpj := p2_pos j
      have hm := Int.emod_nonneg m (b := 2 ^ i) (by have := p2_pos i; omega)
      simp only [bne_iff_ne, ne_eq]
      constructor
      · intro q1 q2; exact q1 (by rw [show m % 2 ^ i = 0 by omega]; omega)
      · intro q1 q2
        have := Int.mul_eq_zero.1 q2
        rcases this with h3 | h3
        · exact q1 (by rw [h3]; rfl)
        · omega
    · rw [if_neg (by omega)]
      obtain ⟨i, rfl⟩ : ∃ i, n = 128 + i := ⟨n - 128, by omega⟩
      have hb := p2_mono (i := 128) (j := 128 + i) (by omega)
      have e128 : (2 : Int) ^ 128 = 340282366920938463463374607431768211456 := by decide
      have l1 : m * 18446744073709551616 < 2 ^ (128 + i) := by omega
      refine ⟨0, 0, true, rfl, by decide, by decide, by decide, by decide, ?_, ?_⟩
      · rw [Int.ediv_eq_zero_of_lt (by omega) l1]; rfl
      · rw [Int.emod_eq_of_lt (by omega) l1]
        simp
        omega
end Go.Proofs.Ythlhogcnfaiphaa.T
