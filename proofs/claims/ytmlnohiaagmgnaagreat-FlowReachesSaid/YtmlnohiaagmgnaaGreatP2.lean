/- Plain laws: what the functions answer, without the program's memory (part 2). No condition. -/
import Derived.Test.YtmlnohiaagmgnaaGreatP1
import Derived.KernelRfl
import Derived.DataShut
import Derived.Laws.BitsLemmas
import Derived.Lib.EndianBits
namespace Go.Proofs.YtmlnohiaagmgnaaGreat.Rf.Pl
open Go Go.Proofs
set_option linter.unusedVariables false
set_option linter.unusedSimpArgs false
/-! ### bits, rounding, sums and products of numbers -/
/-- How many bits a number has. -/
def bl (n : Int) : Int := if n ≤ 0 then 0 else (Nat.log2 n.toNat : Int) + 1
theorem bl_zero : bl 0 = 0 := rfl
theorem p2_pos (i : Nat) : (0 : Int) < 2 ^ i := Int.pow_pos (by decide)
theorem p2_succ (i : Nat) : (2 : Int) ^ (i + 1) = 2 * 2 ^ i := by rw [Int.pow_succ, Int.mul_comm]
theorem p2_add (i j : Nat) : (2 : Int) ^ (i + j) = 2 ^ i * 2 ^ j := Int.pow_add _ _ _
theorem p2_mono {i j : Nat} (h : i ≤ j) : (2 : Int) ^ i ≤ 2 ^ j := by
  obtain ⟨d, rfl⟩ := Nat.le.dest h
  rw [p2_add]
  have h1 := p2_pos i
  have h2 : (1 : Int) ≤ 2 ^ d := by have := p2_pos d; omega
  have := Int.mul_le_mul_of_nonneg_left h2 (c := 2 ^ i) (by omega)
  omega
theorem p2_lt {i j : Nat} (h : (2 : Int) ^ i < 2 ^ j) : i < j := by
  by_cases hq : i < j
  · exact hq
  · have := p2_mono (i := j) (j := i) (by omega)
    omega
theorem bl_pos {n : Int} (h : 0 < n) : 0 < bl n := by unfold bl; rw [if_neg (by omega)]; omega
theorem bl_nonneg (n : Int) : 0 ≤ bl n := by unfold bl; split <;> omega
theorem bl_ge {n : Int} (h : 0 < n) : (2 : Int) ^ (bl n - 1).toNat ≤ n := by
  obtain ⟨m, rfl⟩ : ∃ m : Nat, n = m := ⟨n.toNat, by omega⟩
  unfold bl
  rw [if_neg (by omega)]
  have := Nat.log2_self_le (n := m) (by omega)
  rw [Int.add_sub_cancel, Int.toNat_natCast, Int.toNat_natCast]
  exact_mod_cast this
theorem bl_lt {n : Int} (h : 0 ≤ n) : n < (2 : Int) ^ (bl n).toNat := by
  obtain ⟨m, rfl⟩ : ∃ m : Nat, n = m := ⟨n.toNat, by omega⟩
  unfold bl
  by_cases hm : m = 0
  · subst hm; decide
  · rw [if_neg (by omega)]
    have := Nat.lt_log2_self (n := m)
    have e : ((Nat.log2 (m : Int).toNat : Int) + 1).toNat = m.log2 + 1 := by rw [Int.toNat_natCast]; omega
    rw [e]
    exact_mod_cast this
theorem bl_eq {n : Int} {m : Nat} (h0 : (2 : Int) ^ m ≤ n) (h1 : n < 2 ^ (m + 1)) : bl n = (m : Int) + 1 := by
  have hp := p2_pos m
  have a := bl_ge (n := n) (by omega)
  have b := bl_lt (n := n) (by omega)
  have c := bl_pos (n := n) (by omega)
  have d := p2_lt (Int.lt_of_le_of_lt a h1)
  have e := p2_lt (Int.lt_of_le_of_lt h0 b)
  omega
theorem bl_le {n : Int} {m : Nat} (h1 : n < 2 ^ m) : bl n ≤ m := by
  by_cases h : 0 < n
  · have a := bl_ge h
    have d := p2_lt (Int.lt_of_le_of_lt a h1)
    omega
  · unfold bl; rw [if_pos (by omega)]; omega
theorem bl_shift {x : Int} (j : Nat) (h : 0 < x / 2 ^ j) : bl x = j + bl (x / 2 ^ j) := by
  have a := bl_ge h
  have b := bl_lt (n := x / 2 ^ j) (by omega)
  have c := bl_pos h
  have p := p2_pos j
  have h1 : (2 : Int) ^ (j + (bl (x / 2 ^ j) - 1).toNat) ≤ x := by
    rw [p2_add]
    have := Int.mul_le_mul_of_nonneg_left a (c := 2 ^ j) (by omega)
    have e := Int.mul_ediv_add_emod x (2 ^ j)
    have f := Int.emod_nonneg x (b := 2 ^ j) (by omega)
    omega
  have h2 : x < (2 : Int) ^ (j + (bl (x / 2 ^ j) - 1).toNat + 1) := by
    rw [show j + (bl (x / 2 ^ j) - 1).toNat + 1 = j + (bl (x / 2 ^ j)).toNat by omega, p2_add]
    have h3 : x / 2 ^ j + 1 ≤ 2 ^ (bl (x / 2 ^ j)).toNat := b
    have := Int.mul_le_mul_of_nonneg_left h3 (c := 2 ^ j) (by omega)
    have e := Int.mul_ediv_add_emod x (2 ^ j)
    have f := Int.emod_lt_of_pos x p
    rw [Int.mul_add] at this
    omega
  have := bl_eq h1 h2
  omega
theorem mul_bound {x y : Int} (hx : 0 ≤ x ∧ x < 4294967296) (hy : 0 ≤ y ∧ y < 4294967296) : 0 ≤ x * y ∧ x * y ≤ 18446744065119617025 := by
  refine ⟨Int.mul_nonneg hx.1 hy.1, ?_⟩
  have h1 := Int.mul_le_mul (a := x) (b := y) (c := 4294967295) (d := 4294967295) (by omega) (by omega) hy.1 (by omega)
  omega
theorem bl_mul {v : Int} (h : 0 < v) (n : Nat) : bl (v * 2 ^ n) = bl v + n := by
  have hp := p2_pos n
  have e : v * 2 ^ n / 2 ^ n = v := Int.mul_ediv_cancel _ (by omega)
  have := bl_shift (x := v * 2 ^ n) n (by rw [e]; exact h)
  rw [this, e, Int.add_comm]
theorem bits_or_comm (k : IntKind) (x y : Int) : Go.bits .or k x y = Go.bits .or k y x := by simp only [Go.bits, BitVec.or_comm]
theorem u64w {x : Int} (h0 : 0 ≤ x) (h1 : x < 18446744073709551616) : IntKind.u64.wrap x = x := wraps_u64 x h0 h1
theorem wrap_u64 (x : Int) : IntKind.u64.wrap x = x % 18446744073709551616 := by rw [IntKind.wrap_u64]
/-- A number of a sign, 64 bits of which the highest is 1, and an exponent, kept within the bounds. -/
def bnd (neg : Bool) (m e : Int) (away : Bool) : Nm :=
  if e > 1048576 then (if away = true then (2, neg, 0, 0) else (1, neg, 18446744073709551615, 1048576))
  else if e < -1048576 then (if away = true then (1, neg, 9223372036854775808, -1048576) else (0, false, 0, 0))
  else (1, neg, m, e)
/-- Such a number, one farther if something was cut off, and away. -/
def grw (neg : Bool) (m e : Int) (cut away : Bool) : Nm :=
  if cut = true ∧ away = true then (if m + 1 = 18446744073709551616 then bnd neg 9223372036854775808 (e + 1) away else bnd neg (m + 1) e away) else bnd neg m e away
/-- v * 2^e, above nought, rounded away from nought or not. -/
def rnd (neg : Bool) (v e : Int) (away : Bool) : Nm :=
  if bl v ≤ 64 then bnd neg (v * 2 ^ (64 - bl v).toNat) (e + bl v - 64) away
  else grw neg (v / 2 ^ (bl v - 64).toNat) (e + bl v - 64) (decide (v % 2 ^ (bl v - 64).toNat ≠ 0)) away

theorem p63 : (2 : Int) ^ 63 = 9223372036854775808 := by decide
theorem p64 : (2 : Int) ^ 64 = 18446744073709551616 := by decide
theorem mul_le_p {a b : Int} (t : Nat) (h : a ≤ b) : a * 2 ^ t ≤ b * 2 ^ t := Int.mul_le_mul_of_nonneg_right h (by have := p2_pos t; omega)
theorem mul_lt_p {a b : Int} (t : Nat) (h : a < b) : a * 2 ^ t < b * 2 ^ t := Int.mul_lt_mul_of_pos_right h (p2_pos t)
theorem le_of_p {a b : Int} (t : Nat) (h : a * 2 ^ t ≤ b * 2 ^ t) : a ≤ b := Int.le_of_mul_le_mul_right h (p2_pos t)
theorem lt_of_p {a b : Int} (t : Nat) (h : a * 2 ^ t < b * 2 ^ t) : a < b := Int.lt_of_mul_lt_mul_right h (by have := p2_pos t; omega)
theorem eq_of_p {a b : Int} (t : Nat) (h : a * 2 ^ t = b * 2 ^ t) : a = b := by
  have h1 := le_of_p t (Int.le_of_eq h)
  have h2 := le_of_p t (Int.le_of_eq h.symm)
  omega
theorem pos_of_p {a : Int} (t : Nat) (h : 0 < a * 2 ^ t) : 0 < a := by
  refine lt_of_p (a := 0) t ?_
  omega
/-- How many bits a number has that lies so. -/
theorem bl_in {x q : Int} {t : Nat} (q0 : 9223372036854775808 ≤ q) (q1 : q < 18446744073709551616) (h1 : q * 2 ^ t ≤ x) (h2 : x < (q + 1) * 2 ^ t) : bl x = 64 + t := by
  have a := mul_le_p t q0
  have b := mul_le_p (a := q + 1) (b := 18446744073709551616) t (by omega)
  rw [← p63, ← p2_add] at a
  rw [← p64, ← p2_add] at b
  have := bl_eq (n := x) (m := 63 + t) (by omega) (by rw [show 63 + t + 1 = 64 + t by omega]; omega)
  omega
theorem blp {v : Int} (h : 0 < v) (n : Nat) : bl (v * 2 ^ n) = bl v + n := bl_mul h n
/-- q * 2^E is what is left of v * 2^e, if what is behind the 64 bits is cut off; c: was there something? -/
def Fit (v e q E : Int) (c : Bool) : Prop :=
  9223372036854775808 ≤ q ∧ q < 18446744073709551616 ∧ ∃ s t : Nat, e - s = E - t ∧ q * 2 ^ t ≤ v * 2 ^ s ∧ v * 2 ^ s < (q + 1) * 2 ^ t ∧ (c = true ↔ q * 2 ^ t ≠ v * 2 ^ s)
theorem rnd_fit {v e q E : Int} {c : Bool} (h : Fit v e q E c) (neg away : Bool) : rnd neg v e away = grw neg q E c away := by
  obtain ⟨q0, q1, s, t, he, h1, h2, hc⟩ := h
  have hv : 0 < v := by
    have := Int.mul_pos (show 0 < q by omega) (p2_pos t)
    exact pos_of_p s (by omega)
  have hb := bl_in q0 q1 h1 h2
  rw [blp hv] at hb
  unfold rnd
  by_cases hts : t ≤ s
  · obtain ⟨d, rfl⟩ := Nat.le.dest hts
    rw [if_pos (by omega)]
    rw [show (64 - bl v).toNat = d by omega, show e + bl v - 64 = E by omega]
    rw [Nat.add_comm t d, p2_add, ← Int.mul_assoc] at h1 h2 hc
    have e1 := le_of_p t h1
    have e2 := lt_of_p t h2
    have e3 : v * 2 ^ d = q := by omega
    rw [e3] at hc ⊢
    unfold grw
    rw [if_neg (fun hh => hc.1 hh.1 rfl)]
  · obtain ⟨d, rfl⟩ := Nat.le.dest (show s ≤ t by omega)
    rw [if_neg (by omega)]
    rw [show (bl v - 64).toNat = d by omega, show e + bl v - 64 = E by omega]
    rw [Nat.add_comm s d, p2_add, ← Int.mul_assoc] at h1 hc
    rw [Nat.add_comm s d, p2_add, ← Int.mul_assoc] at h2
    have e1 := le_of_p s h1
    have e2 := lt_of_p s h2
    have e4 : (v - q * 2 ^ d) = v - 2 ^ d * q := by rw [Int.mul_comm q]
    have hp := p2_pos d
    rw [Int.add_mul, Int.one_mul] at e2
    have e5 : v = (v - q * 2 ^ d) + 2 ^ d * q := by omega
    have e6 : v / 2 ^ d = q := by
      rw [e5, Int.add_mul_ediv_left _ _ (by omega), Int.ediv_eq_zero_of_lt (by omega) (by omega)]
      omega
    have e7 : v % 2 ^ d = v - q * 2 ^ d := by
      conv => lhs; rw [e5]
      rw [Int.add_mul_emod_self_left, Int.emod_eq_of_lt (by omega) (by omega)]
    rw [e6, e7]
    congr 1
    rw [Bool.eq_iff_iff, decide_eq_true_iff, hc]
    constructor
    · intro h3 h4; exact h3 (by have := eq_of_p s h4; omega)
    · intro h3 h4; exact h3 (by rw [show v = q * 2 ^ d by omega])
theorem fit_ex {v : Int} (e : Int) (hv : 0 < v) : ∃ q E c, Fit v e q E c := by
  have hb := bl_pos hv
  have hg := bl_ge hv
  have hl := bl_lt (n := v) (by omega)
  by_cases h : bl v ≤ 64
  · obtain ⟨d, hd⟩ : ∃ d : Nat, bl v = 64 - d := ⟨(64 - bl v).toNat, by omega⟩
    refine ⟨v * 2 ^ d, e - d, false, ?_, ?_, d, 0, by omega, by simp, ?_, by simp⟩
    · have := mul_le_p d hg
      rw [← p2_add, show (bl v - 1).toNat + d = 63 by omega, p63] at this
      exact this
    · have := mul_lt_p d hl
      rw [← p2_add, show (bl v).toNat + d = 64 by omega, p64] at this
      exact this
    · rw [Int.pow_zero, Int.mul_one]; omega
  · obtain ⟨d, hd⟩ : ∃ d : Nat, bl v = 64 + d := ⟨(bl v - 64).toNat, by omega⟩
    have hp := p2_pos d
    have e1 := Int.mul_ediv_add_emod v (2 ^ d)
    have e2 := Int.emod_nonneg v (b := 2 ^ d) (by omega)
    have e3 := Int.emod_lt_of_pos v hp
    rw [Int.mul_comm] at e1
    rw [show (bl v - 1).toNat = 63 + d by omega, p2_add, p63] at hg
    rw [show (bl v).toNat = 64 + d by omega, p2_add, p64] at hl
    refine ⟨v / 2 ^ d, e + d, decide (v % 2 ^ d ≠ 0), ?_, ?_, 0, d, by omega, by rw [Int.pow_zero, Int.mul_one]; omega, ?_, ?_⟩
    · exact Int.le_ediv_of_mul_le hp hg
    · exact Int.ediv_lt_of_lt_mul hp hl
    · rw [Int.pow_zero, Int.mul_one, Int.add_mul, Int.one_mul]; omega
    · rw [Int.pow_zero, Int.mul_one, decide_eq_true_iff]
      constructor
      · intro h3 h4; omega
      · intro h3 h4; exact h3 (by omega)
theorem Fit.pos {v e q E : Int} {c : Bool} (h : Fit v e q E c) : 0 < v := by
  obtain ⟨q0, q1, s, t, he, h1, h2, hc⟩ := h
  have := Int.mul_pos (show 0 < q by omega) (p2_pos t)
  exact pos_of_p s (by omega)
/-- A common factor plays no part. -/
theorem Fit.scale {v e q E : Int} {c : Bool} (j : Nat) (h : Fit v (e + j) q E c) : Fit (v * 2 ^ j) e q E c := by
  obtain ⟨q0, q1, s, t, he, h1, h2, hc⟩ := h
  have r : ∀ x : Int, x * 2 ^ (t + j) = x * 2 ^ t * 2 ^ j := fun x => by rw [p2_add, Int.mul_assoc]
  have r2 : v * 2 ^ j * 2 ^ s = v * 2 ^ s * 2 ^ j := by rw [Int.mul_right_comm]
  refine ⟨q0, q1, s, t + j, by omega, ?_, ?_, ?_⟩
  · rw [r, r2]; exact mul_le_p j h1
  · rw [r, r2]; exact mul_lt_p j h2
  · rw [r, r2, hc]
    constructor
    · intro h3 h4; exact h3 (eq_of_p j h4)
    · intro h3 h4; exact h3 (by rw [h4])
theorem rnd_scale {v : Int} (hv : 0 < v) (e : Int) (j : Nat) (neg away : Bool) : rnd neg (v * 2 ^ j) e away = rnd neg v (e + j) away := by
  obtain ⟨q, E, c, h⟩ := fit_ex (e + j) hv
  rw [rnd_fit h, rnd_fit h.scale]
theorem div_fit {v e S : Int} {d : Nat} {c : Bool} (s0 : 9223372036854775808 ≤ S) (s1 : S < 18446744073709551616) (hs : v / 2 ^ d = S) (hc : c = true ↔ v % 2 ^ d ≠ 0) : Fit v e S (e + d) c := by
  have hp := p2_pos d
  have e1 := Int.mul_ediv_add_emod v (2 ^ d)
  have e2 := Int.emod_nonneg v (b := 2 ^ d) (by omega)
  have e3 := Int.emod_lt_of_pos v hp
  rw [hs, Int.mul_comm] at e1
  refine ⟨s0, s1, 0, d, by omega, by rw [Int.pow_zero, Int.mul_one]; omega, by rw [Int.pow_zero, Int.mul_one, Int.add_mul, Int.one_mul]; omega, ?_⟩
  rw [Int.pow_zero, Int.mul_one, hc]
  constructor
  · intro h3 h4; omega
  · intro h3 h4; exact h3 (by omega)
theorem rnd_self {m : Int} (m0 : 9223372036854775808 ≤ m) (m1 : m < 18446744073709551616) (neg : Bool) (e : Int) (away : Bool) : rnd neg m e away = bnd neg m e away := by
  rw [rnd_fit (q := m) (E := e) (c := false) ⟨m0, m1, 0, 0, by omega, Int.le_refl _, by rw [Int.pow_zero]; omega, by simp⟩]
  unfold grw
  rw [if_neg (by simp)]
theorem bnd_in {e : Int} (e0 : -1048576 ≤ e) (e1 : e ≤ 1048576) (neg : Bool) (m : Int) (away : Bool) : bnd neg m e away = (1, neg, m, e) := by
  unfold bnd
  rw [if_neg (by omega), if_neg (by omega)]
def mayP (n : Nm) : Prop := (n.1 = 0 ∧ n.2.1 = false ∧ n.2.2.1 = 0 ∧ n.2.2.2 = 0) ∨ (n.1 = 1 ∧ 9223372036854775808 ≤ n.2.2.1 ∧ n.2.2.1 < 18446744073709551616 ∧ -1048576 ≤ n.2.2.2 ∧ n.2.2.2 ≤ 1048576) ∨ (n.1 = 2 ∧ n.2.2.1 = 0 ∧ n.2.2.2 = 0)
theorem may_fin {n : Nm} (h : mayP n) (h1 : n.1 = 1) : 9223372036854775808 ≤ n.2.2.1 ∧ n.2.2.1 < 18446744073709551616 ∧ -1048576 ≤ n.2.2.2 ∧ n.2.2.2 ≤ 1048576 := by
  rcases h with ⟨h2, _⟩ | ⟨_, h2⟩ | ⟨h2, _⟩
  · omega
  · exact h2
  · omega
theorem bnd_may {neg : Bool} {m e : Int} {away : Bool} (h0 : 9223372036854775808 ≤ m) (h1 : m < 18446744073709551616) : mayP (bnd neg m e away) := by
  unfold bnd
  split
  · split
    · exact .inr (.inr ⟨rfl, rfl, rfl⟩)
    · exact .inr (.inl ⟨rfl, by simp, by simp, by simp, by simp⟩)
  · split
    · split
      · exact .inr (.inl ⟨rfl, by simp, by simp, by simp, by simp⟩)
      · exact .inl ⟨rfl, rfl, rfl, rfl⟩
    · exact .inr (.inl ⟨rfl, h0, h1, by simp only; omega, by simp only; omega⟩)
theorem grw_may {neg : Bool} {m e : Int} {cut away : Bool} (h0 : 9223372036854775808 ≤ m) (h1 : m < 18446744073709551616) : mayP (grw neg m e cut away) := by
  unfold grw
  split
  · split
    · exact bnd_may (by omega) (by omega)
    · exact bnd_may (by omega) (by omega)
  · exact bnd_may h0 h1
theorem rnd_may {neg : Bool} {v e : Int} {away : Bool} (hv : 0 < v) : mayP (rnd neg v e away) := by
  obtain ⟨q, E, c, h⟩ := fit_ex e hv
  rw [rnd_fit h]
  exact grw_may h.1 h.2.1
def ngv (n : Nm) : Nm := if n.1 = 0 then (0, false, 0, 0) else (n.1, !n.2.1, n.2.2.1, n.2.2.2)
theorem bnd_neg (neg : Bool) (m e : Int) (away : Bool) : ngv (bnd neg m e away) = bnd (!neg) m e away := by
  unfold bnd
  split
  · split <;> rfl
  · split
    · split <;> rfl
    · rfl
theorem grw_neg (neg : Bool) (m e : Int) (cut away : Bool) : ngv (grw neg m e cut away) = grw (!neg) m e cut away := by
  unfold grw
  split
  · split <;> exact bnd_neg _ _ _ _
  · exact bnd_neg _ _ _ _
theorem rnd_neg (neg : Bool) (v e : Int) (away : Bool) : ngv (rnd neg v e away) = rnd (!neg) v e away := by
  unfold rnd
  split
  · exact bnd_neg _ _ _ _
  · exact grw_neg _ _ _ _ _
theorem ngv_ngv {n : Nm} (h : mayP n) : ngv (ngv n) = n := by
  obtain ⟨a, b, c, d⟩ := n
  rcases h with ⟨h1, h2, h3, h4⟩ | ⟨h1, _⟩ | ⟨h1, _⟩ <;> simp only at h1
  · simp only at h2 h3 h4; subst h1 h2 h3 h4; rfl
  · subst h1; simp [ngv]
  · subst h1; simp [ngv]
theorem ngv_may {n : Nm} (h : mayP n) : mayP (ngv n) := by
  obtain ⟨a, b, c, d⟩ := n
  rcases h with ⟨h1, h2, h3, h4⟩ | ⟨h1, h2⟩ | ⟨h1, h2⟩ <;> simp only at h1
  · subst h1; exact .inl ⟨rfl, rfl, rfl, rfl⟩
  · subst h1; exact .inr (.inl ⟨rfl, h2⟩)
  · subst h1; exact .inr (.inr ⟨rfl, h2⟩)
/-- With the sign. -/
def sg (neg : Bool) (m : Int) : Int := if neg = true then -m else m
/-- An exact number, a whole one times a power of two, rounded. -/
def rnz (s e : Int) (up : Bool) : Nm := if s = 0 then (0, false, 0, 0) else rnd (decide (s < 0)) s.natAbs e (up != decide (s < 0))
/-- The exact sum of two finite ones, of which f is not above the exponents. -/
def exs (a b : Nm) (f : Int) : Int := sg a.2.1 a.2.2.1 * 2 ^ (a.2.2.2 - f).toNat + sg b.2.1 b.2.2.1 * 2 ^ (b.2.2.2 - f).toNat
/-- The sum of two that may be. -/
def addv (a b : Nm) (up : Bool) : Nm :=
  if a.1 = 2 ∧ b.1 = 2 ∧ a.2.1 ≠ b.2.1 then (2, !up, 0, 0)
  else if a.1 = 2 ∨ b.1 = 0 then a
  else if b.1 = 2 ∨ a.1 = 0 then b
  else rnz (exs a b (min a.2.2.2 b.2.2.2)) (min a.2.2.2 b.2.2.2) up
/-- The product of two that may be. -/
def mulv (a b : Nm) (up : Bool) : Nm :=
  if a.1 = 0 ∨ b.1 = 0 then (0, false, 0, 0)
  else if a.1 = 2 ∨ b.1 = 2 then (2, a.2.1 != b.2.1, 0, 0)
  else rnd (a.2.1 != b.2.1) (a.2.2.1 * b.2.2.1) (a.2.2.2 + b.2.2.2) (up != (a.2.1 != b.2.1))
theorem rnz_may (s e : Int) (up : Bool) : mayP (rnz s e up) := by
  unfold rnz
  split
  · exact .inl ⟨rfl, rfl, rfl, rfl⟩
  · exact rnd_may (by omega)
theorem rnz_neg (s e : Int) (up : Bool) : ngv (rnz s e up) = rnz (-s) e (!up) := by
  unfold rnz
  by_cases h : s = 0
  · rw [if_pos h, if_pos (by omega)]; rfl
  · rw [if_neg h, if_neg (by omega), rnd_neg, Int.natAbs_neg]
    have : decide (-s < 0) = !decide (s < 0) := by
      by_cases h2 : s < 0
      · rw [decide_eq_true h2, decide_eq_false (by omega)]; rfl
      · rw [decide_eq_false h2, decide_eq_true (by omega)]; rfl
    rw [this]
    cases up <;> cases decide (s < 0) <;> rfl
theorem rnz_scale (s e : Int) (j : Nat) (up : Bool) : rnz (s * 2 ^ j) e up = rnz s (e + j) up := by
  have hp := p2_pos j
  unfold rnz
  by_cases h : s = 0
  · rw [if_pos h, if_pos (by rw [h]; omega)]
  · have h1 : s * 2 ^ j ≠ 0 := Int.mul_ne_zero h (by omega)
    have h2 : decide (s * 2 ^ j < 0) = decide (s < 0) := by
      by_cases h2 : s < 0
      · rw [decide_eq_true h2, decide_eq_true (Int.mul_neg_of_neg_of_pos h2 hp)]
      · rw [decide_eq_false h2, decide_eq_false]
        have := Int.mul_pos (show 0 < s by omega) hp
        omega
    have h3 : ((s * 2 ^ j).natAbs : Int) = (s.natAbs : Int) * 2 ^ j := by
      rw [Int.natAbs_mul, Int.natCast_mul]
      rw [show ((((2 : Int) ^ j).natAbs : Nat) : Int) = 2 ^ j from Int.natAbs_of_nonneg (by omega)]
    rw [if_neg h1, if_neg h, h2, h3, rnd_scale (by omega)]
theorem exs_scale (a b : Nm) (f : Int) (j : Nat) (ha : f ≤ a.2.2.2) (hb : f ≤ b.2.2.2) : exs a b (f - j) = exs a b f * 2 ^ j := by
  unfold exs
  rw [show (a.2.2.2 - (f - j)).toNat = (a.2.2.2 - f).toNat + j by omega, show (b.2.2.2 - (f - j)).toNat = (b.2.2.2 - f).toNat + j by omega, p2_add, p2_add, Int.add_mul, Int.mul_assoc, Int.mul_assoc]
theorem exs_comm (a b : Nm) (f : Int) : exs a b f = exs b a f := by unfold exs; rw [Int.add_comm]
theorem addv_comm (a b : Nm) (up : Bool) (ha : mayP a) (hb : mayP b) : addv a b up = addv b a up := by
  obtain ⟨a1, a2, a3, a4⟩ := a
  obtain ⟨b1, b2, b3, b4⟩ := b
  unfold addv
  rw [exs_comm, Int.min_comm]
  rcases ha with ⟨h1, h2, h3, h4⟩ | ⟨h1, h2⟩ | ⟨h1, h2, h3⟩ <;> rcases hb with ⟨g1, g2, g3, g4⟩ | ⟨g1, g2⟩ | ⟨g1, g2, g3⟩ <;> simp only at h1 g1 <;> subst h1 g1 <;> simp_all
  all_goals (cases a2 <;> cases b2 <;> simp)
theorem sg_neg (n : Bool) (m : Int) : sg (!n) m = -sg n m := by cases n <;> simp [sg]
theorem addv_may {a b : Nm} (up : Bool) (ha : mayP a) (hb : mayP b) : mayP (addv a b up) := by
  unfold addv
  split
  · exact .inr (.inr ⟨rfl, rfl, rfl⟩)
  split
  · exact ha
  split
  · exact hb
  exact rnz_may _ _ _
theorem addv_neg (a b : Nm) (up : Bool) (ha : mayP a) (hb : mayP b) : ngv (addv a b up) = addv (ngv a) (ngv b) (!up) := by
  have e : ∀ f, a.1 = 1 → b.1 = 1 → exs (ngv a) (ngv b) f = -exs a b f := fun f h1 h2 => by
    unfold exs ngv
    rw [if_neg (by omega), if_neg (by omega), sg_neg, sg_neg]
    simp only [Int.neg_mul]
    omega
  obtain ⟨a1, a2, a3, a4⟩ := a
  obtain ⟨b1, b2, b3, b4⟩ := b
  unfold addv
  rcases ha with ⟨h1, h2, h3, h4⟩ | ⟨h1, h2⟩ | ⟨h1, h2, h3⟩ <;> rcases hb with ⟨g1, g2, g3, g4⟩ | ⟨g1, g2⟩ | ⟨g1, g2, g3⟩ <;> simp only at h1 g1 <;> subst h1 g1 <;> simp_all [ngv]
  · exact rnz_neg _ _ _
  · cases a2 <;> cases b2 <;> simp
theorem mulv_comm (a b : Nm) (up : Bool) : mulv a b up = mulv b a up := by
  unfold mulv
  rw [Int.mul_comm, Int.add_comm a.2.2.2]
  have e : (a.2.1 != b.2.1) = (b.2.1 != a.2.1) := by cases a.2.1 <;> cases b.2.1 <;> rfl
  rw [e]
  simp only [or_comm]
theorem mulv_may {a b : Nm} (up : Bool) (ha : mayP a) (hb : mayP b) : mayP (mulv a b up) := by
  unfold mulv
  split
  · exact .inl ⟨rfl, rfl, rfl, rfl⟩
  split
  · exact .inr (.inr ⟨rfl, rfl, rfl⟩)
  rcases ha with ⟨h1, h2, h3, h4⟩ | ⟨h1, h2, h3⟩ | ⟨h1, h2, h3⟩ <;> rcases hb with ⟨g1, g2, g3, g4⟩ | ⟨g1, g2, g3⟩ | ⟨g1, g2, g3⟩ <;> try omega
  exact rnd_may (Int.mul_pos (by omega) (by omega))
theorem mulv_neg (a b : Nm) (up : Bool) (ha : mayP a) (hb : mayP b) : ngv (mulv a b up) = mulv (ngv a) b (!up) := by
  obtain ⟨a1, a2, a3, a4⟩ := a
  obtain ⟨b1, b2, b3, b4⟩ := b
  unfold mulv
  rcases ha with ⟨h1, h2, h3, h4⟩ | ⟨h1, h2⟩ | ⟨h1, h2, h3⟩ <;> rcases hb with ⟨g1, g2, g3, g4⟩ | ⟨g1, g2⟩ | ⟨g1, g2, g3⟩ <;> simp only at h1 g1 <;> subst h1 g1 <;> simp [ngv]
  · cases a2 <;> cases b2 <;> cases up <;> exact rnd_neg _ _ _ _
  all_goals cases a2 <;> cases b2 <;> rfl
theorem low_a {m : Int} {n j : Nat} (h : n + j = 64) : m * 18446744073709551616 / 2 ^ n = m * 2 ^ j ∧ m * 18446744073709551616 % 2 ^ n = 0 ∧ m / 2 ^ n = m * 2 ^ j / 18446744073709551616 := by
  have hW : (18446744073709551616 : Int) = 2 ^ j * 2 ^ n := by rw [← p2_add, Nat.add_comm, h, p64]
  have hn := p2_pos n
  have hj := p2_pos j
  rw [hW, ← Int.mul_assoc, Int.mul_ediv_cancel _ (by omega), Int.mul_emod_left]
  refine ⟨rfl, rfl, ?_⟩
  rw [Int.mul_comm (2 ^ j) (2 ^ n), Int.mul_ediv_mul_of_pos_left _ _ hj]
theorem em_mul (m a : Int) {b : Int} (hb : 0 < b) : (m * b) % (a * b) = (m % a) * b := by rw [Int.mul_comm m, Int.mul_comm a, Int.mul_emod_mul_of_pos _ _ hb, Int.mul_comm]
theorem low_b {m : Int} {n i : Nat} (h : n = i + 64) : m * 18446744073709551616 / 2 ^ n = m / 2 ^ i ∧ m * 18446744073709551616 % 2 ^ n = (m % 2 ^ i) * 18446744073709551616 := by
  subst h
  rw [p2_add, p64, Int.mul_ediv_mul_of_pos_left _ _ (by decide), em_mul _ _ (by decide)]
  exact ⟨rfl, rfl⟩
theorem low_c {m : Int} {i j : Nat} (h : i + j = 64) : (m * 2 ^ j) % 18446744073709551616 = (m % 2 ^ i) * 2 ^ j := by
  have hW : (18446744073709551616 : Int) = 2 ^ i * 2 ^ j := by rw [← p2_add, h, p64]
  rw [hW, em_mul _ _ (p2_pos j)]
theorem low_hi {hi lo m : Int} {n : Nat} (m0 : 0 ≤ m) (l0 : 0 ≤ lo) (l1 : lo < 18446744073709551616) (h : hi * 18446744073709551616 + lo = m * 18446744073709551616 / 2 ^ n) :
    m / 2 ^ n = hi ∧ (m % 2 ^ n ≠ 0 ↔ lo ≠ 0 ∨ m * 18446744073709551616 % 2 ^ n ≠ 0) := by
  have hp := p2_pos n
  have a1 : m / 2 ^ n = hi := by
    have : m * 18446744073709551616 / 2 ^ n / 18446744073709551616 = m / 2 ^ n := by
      rw [Int.ediv_ediv_of_nonneg (by omega), Int.mul_ediv_mul_of_pos_left _ _ (by decide)]
    rw [← this, ← h]
    omega
  have a2 := Int.mul_ediv_add_emod m (2 ^ n)
  have a3 := Int.mul_ediv_add_emod (m * 18446744073709551616) (2 ^ n)
  rw [← h] at a3
  rw [a1] at a2
  have r0 := Int.emod_nonneg (m * 18446744073709551616) (b := 2 ^ n) (by omega)
  have t0 := Int.emod_nonneg m (b := 2 ^ n) (by omega)
  rw [Int.mul_add, ← Int.mul_assoc] at a3
  have b0 := Int.mul_nonneg (show (0 : Int) ≤ 2 ^ n by omega) l0
  have key : (m % 2 ^ n) * 18446744073709551616 = 2 ^ n * lo + m * 18446744073709551616 % 2 ^ n := by omega
  refine ⟨a1, ?_⟩
  constructor
  · intro q1
    by_cases q2 : lo = 0
    · refine .inr fun q3 => q1 ?_
      rw [q2, q3] at key
      omega
    · exact .inl q2
  · rintro (q | q) q1
    · rw [q1] at key
      have := Int.mul_pos hp (show 0 < lo by omega)
      omega
    · rw [q1] at key
      omega
theorem sum_div {am bm : Int} {d : Nat} : (am * 2 ^ d + bm) / 2 ^ d = am + bm / 2 ^ d ∧ (am * 2 ^ d + bm) % 2 ^ d = bm % 2 ^ d := by
  have hp := p2_pos d
  rw [Int.mul_comm am, Int.add_comm]
  rw [Int.add_mul_ediv_left _ _ (by omega), Int.add_mul_emod_self_left, Int.add_comm]
  exact ⟨rfl, rfl⟩
theorem div_succ (v : Int) (d : Nat) : v / 2 ^ (d + 1) = v / 2 ^ d / 2 ∧ (v % 2 ^ (d + 1) ≠ 0 ↔ v / 2 ^ d % 2 ≠ 0 ∨ v % 2 ^ d ≠ 0) := by
  have hp := p2_pos d
  have e1 : v / 2 ^ (d + 1) = v / 2 ^ d / 2 := by
    rw [Int.ediv_ediv_of_nonneg (by omega), Int.pow_succ]
  refine ⟨e1, ?_⟩
  have a1 := Int.mul_ediv_add_emod v (2 ^ (d + 1))
  have a2 := Int.mul_ediv_add_emod v (2 ^ d)
  have a3 := Int.mul_ediv_add_emod (v / 2 ^ d) 2
  have r0 := Int.emod_nonneg v (b := 2 ^ d) (by omega)
  have r1 := Int.emod_nonneg (v / 2 ^ d) (b := 2) (by omega)
  rw [e1, p2_succ] at a1
  rw [p2_succ]
  generalize v / 2 ^ d / 2 = Q at *
  generalize v / 2 ^ d % 2 = R at *
  generalize v / 2 ^ d = q at *
  subst a3
  have b := Int.mul_nonneg (show (0 : Int) ≤ 2 ^ d by omega) r1
  have key : v % (2 * 2 ^ d) = 2 ^ d * R + v % 2 ^ d := by
    rw [Int.mul_add, ← Int.mul_assoc, Int.mul_comm (2 ^ d) 2] at a2
    omega
  rw [key]
  constructor
  · intro q1
    by_cases q2 : R = 0
    · refine .inr fun q3 => q1 (by rw [q2, q3]; omega)
    · exact .inl q2
  · rintro (q | q) q1
    · have := Int.mul_pos hp (show 0 < R by omega)
      omega
    · omega
theorem and_one {x : Int} (h0 : 0 ≤ x) (h1 : x < 18446744073709551616) : Go.bits .and .u64 x 1 = x % 2 := by
  have := bits_mask .u64 64 (by decide) wraps_u64 1 (by decide) x h0 (by rw [p64]; exact h1)
  simpa using this
theorem and_low {x : Int} (h0 : 0 ≤ x) (h1 : x < 18446744073709551616) : Go.bits .and .u64 x 4294967295 = x % 4294967296 := by
  have := bits_mask .u64 64 (by decide) wraps_u64 32 (by decide) x h0 (by rw [p64]; exact h1)
  simpa using this
theorem or_top {x : Int} (h0 : 0 ≤ x) (h1 : x < 9223372036854775808) : Go.bits .or .u64 x 9223372036854775808 = x + 9223372036854775808 := by
  rw [bits_or_comm, bits_join .u64 64 (by decide) wraps_u64 63 9223372036854775808 x (by decide) (by decide) (by decide) h0 (by rw [p63]; exact h1) (by rw [p64]; omega), Int.add_comm]
theorem or_sum {h l : Int} {b j : Nat} (hb : b + j = 64) (h0 : 0 ≤ h) (h1 : h < 2 ^ j) (l0 : 0 ≤ l) (l1 : l < 2 ^ b) : Go.bits .or .u64 (h * 2 ^ b) l = h * 2 ^ b + l ∧ h * 2 ^ b < 18446744073709551616 := by
  have hp := p2_pos b
  have hW : (18446744073709551616 : Int) = 2 ^ j * 2 ^ b := by rw [← p2_add, Nat.add_comm, hb, p64]
  have a1 := mul_lt_p b h1
  rw [← hW] at a1
  have a2 := Int.mul_nonneg h0 (show (0 : Int) ≤ 2 ^ b by omega)
  have a3 := p2_mono (i := b) (j := 64) (by omega)
  rw [p64] at a3
  refine ⟨?_, a1⟩
  exact bits_join .u64 64 (by decide) wraps_u64 b _ _ a2 (Int.mul_emod_left _ _) (by rw [p64]; exact a1) l0 l1 (by rw [p64]; omega)
/-- Two words, moved up so that the highest bit is 1. -/
theorem norm128 {hi lo : Int} {b j : Nat} (hb : b + j = 64) (h0 : 0 < hi) (hbl : bl hi = j) (l0 : 0 ≤ lo) (l1 : lo < 18446744073709551616) :
    9223372036854775808 ≤ hi * 2 ^ b + lo / 2 ^ j ∧ hi * 2 ^ b + lo / 2 ^ j < 18446744073709551616 ∧ (hi * 2 ^ b + lo / 2 ^ j) * 18446744073709551616 + (lo * 2 ^ b) % 18446744073709551616 = (hi * 18446744073709551616 + lo) * 2 ^ b ∧
    (lo * 2 ^ b) % 18446744073709551616 + 2 ^ b ≤ 18446744073709551616 ∧ 0 ≤ (lo * 2 ^ b) % 18446744073709551616 ∧
    Go.bits .or .u64 ((hi * 2 ^ b) % 18446744073709551616) (lo / 2 ^ j) = hi * 2 ^ b + lo / 2 ^ j := by
  have hW : (18446744073709551616 : Int) = 2 ^ j * 2 ^ b := by rw [← p2_add, Nat.add_comm, hb, p64]
  have pb := p2_pos b
  have pj := p2_pos j
  have g := bl_ge h0
  have l := bl_lt (n := hi) (by omega)
  rw [hbl] at g l
  rw [Int.toNat_natCast] at l
  have hj : 1 ≤ j := by have := bl_pos h0; omega
  rw [show ((j : Int) - 1).toNat = j - 1 by omega] at g
  have g2 := mul_le_p b g
  rw [← p2_add, show j - 1 + b = 63 by omega, p63] at g2
  have d0 : 0 ≤ lo / 2 ^ j := Int.ediv_nonneg l0 (by omega)
  have d1 : lo / 2 ^ j < 2 ^ b := Int.ediv_lt_of_lt_mul pj (by rw [Int.mul_comm, ← hW]; exact l1)
  obtain ⟨o1, o2⟩ := or_sum hb (by omega) l d0 d1
  have m1 : (lo * 2 ^ b) % 18446744073709551616 = (lo % 2 ^ j) * 2 ^ b := by rw [hW, em_mul _ _ pb]
  have r0 := Int.emod_nonneg lo (b := 2 ^ j) (by omega)
  have r1 : lo % 2 ^ j + 1 ≤ 2 ^ j := Int.emod_lt_of_pos lo pj
  have r2 := mul_le_p b r1
  rw [← hW, Int.add_mul, Int.one_mul] at r2
  have r3 := Int.mul_nonneg r0 (show (0 : Int) ≤ 2 ^ b by omega)
  have a5 : (hi + 1) * 2 ^ b ≤ 2 ^ j * 2 ^ b := mul_le_p b (by omega)
  rw [← hW, Int.add_mul, Int.one_mul] at a5
  have a6 := Int.mul_nonneg (show 0 ≤ hi by omega) (show (0 : Int) ≤ 2 ^ b by omega)
  refine ⟨by omega, by omega, ?_, by rw [m1]; exact r2, by rw [m1]; exact r3, by rw [Int.emod_eq_of_lt a6 o2]; exact o1⟩
  have e1 := Int.mul_ediv_add_emod lo (2 ^ j)
  rw [m1]
  have e2 : lo * 2 ^ b = (lo / 2 ^ j) * 18446744073709551616 + lo % 2 ^ j * 2 ^ b := by
    rw [hW, ← Int.mul_assoc, ← Int.add_mul]
    congr 1
    rw [Int.mul_comm (lo / 2 ^ j)]
    exact e1.symm
  rw [Int.add_mul, Int.add_mul, e2, Int.mul_right_comm hi]
  omega
/-- What is left of a difference, of which 128 bits are known. -/
theorem diff_fit {v e D q E r l : Int} {d b : Nat} {c : Bool} (q0 : 9223372036854775808 ≤ q) (q1 : q < 18446744073709551616) (hv : v * 18446744073709551616 = D * 2 ^ d + r) (r0 : 0 ≤ r) (r1 : r < 2 ^ d) (hq : q * 18446744073709551616 + l = D * 2 ^ b) (l0 : 0 ≤ l) (l1 : l + 2 ^ b ≤ 18446744073709551616) (he : e - b = E - d) (hc : c = true ↔ l ≠ 0 ∨ r ≠ 0) : Fit v e q E c := by
  have pb := p2_pos b
  have pd := p2_pos d
  have a1 : v * 2 ^ b * 18446744073709551616 = q * 2 ^ d * 18446744073709551616 + (l * 2 ^ d + r * 2 ^ b) := by
    have h1 : v * 18446744073709551616 * 2 ^ b = (D * 2 ^ d + r) * 2 ^ b := by rw [hv]
    have h2 : (q * 18446744073709551616 + l) * 2 ^ d = D * 2 ^ b * 2 ^ d := by rw [hq]
    rw [Int.add_mul] at h1 h2
    rw [Int.mul_right_comm D] at h2
    rw [Int.mul_right_comm v, ← h2] at h1
    rw [Int.mul_right_comm q] at h1
    omega
  have a2 := Int.mul_nonneg l0 (show (0 : Int) ≤ 2 ^ d by omega)
  have a3 := Int.mul_nonneg r0 (show (0 : Int) ≤ 2 ^ b by omega)
  have a4 : l * 2 ^ d + r * 2 ^ b < 2 ^ d * 18446744073709551616 := by
    have b1 := mul_le_p d l1
    rw [Int.add_mul] at b1
    have b2 : r * 2 ^ b < 2 ^ b * 2 ^ d := by
      have := mul_lt_p b r1
      rw [Int.mul_comm (2 ^ b) (2 ^ d)]
      exact this
    rw [Int.mul_comm (2 ^ d)]
    omega
  refine ⟨q0, q1, b, d, he, ?_, ?_, ?_⟩
  · refine le_of_p 64 ?_
    rw [p64]
    omega
  · refine lt_of_p 64 ?_
    rw [p64, Int.add_mul, Int.one_mul, Int.add_mul]
    omega
  · rw [hc]
    constructor
    · intro h1 h2
      rw [h2] at a1
      rcases h1 with h1 | h1
      · have := Int.mul_pos (show 0 < l by omega) pd
        omega
      · have := Int.mul_pos (show 0 < r by omega) pb
        omega
    · intro h1
      by_cases z : l = 0
      · refine .inr fun z2 => h1 ?_
        rw [z, z2] at a1
        refine eq_of_p 64 ?_
        rw [p64]
        omega
      · exact .inl z
theorem rnz_sg {v : Int} (hv : 0 < v) (n : Bool) (e : Int) (up : Bool) : rnz (sg n v) e up = rnd n v e (up != n) := by
  unfold rnz sg
  cases n
  · simp only [Bool.false_eq_true, if_false]
    rw [if_neg (by omega), decide_eq_false (by omega), Int.natAbs_of_nonneg (by omega)]
  · simp only [if_true]
    rw [if_neg (by omega), decide_eq_true (by omega), Int.natAbs_neg, Int.natAbs_of_nonneg (by omega)]
theorem addv_fin {a b : Nm} (ha : a.1 = 1) (hb : b.1 = 1) (up : Bool) : addv a b up = rnz (exs a b (min a.2.2.2 b.2.2.2)) (min a.2.2.2 b.2.2.2) up := by
  unfold addv
  rw [ha, hb]
  simp
theorem mulv_fin {a b : Nm} (ha : a.1 = 1) (hb : b.1 = 1) (up : Bool) : mulv a b up = rnd (a.2.1 != b.2.1) (a.2.2.1 * b.2.2.1) (a.2.2.2 + b.2.2.2) (up != (a.2.1 != b.2.1)) := by
  unfold mulv
  rw [ha, hb]
  simp
/-! ### what the functions of layers 5 and 6 on numbers answer -/
theorem shrR {x : Int} {s : Nat} (hs : s ≤ 64) : Int.fdiv x (2 ^ min (Int.toNat (s : Int)) IntKind.u64.bits) = x / 2 ^ s := by
  rw [Int.toNat_natCast, show IntKind.u64.bits = 64 from rfl, Nat.min_eq_left hs, Int.fdiv_eq_ediv_of_nonneg _ (by have := p2_pos s; omega)]
theorem shlR {x : Int} {s : Nat} (hs : s ≤ 64) : IntKind.u64.wrap (x * 2 ^ min (Int.toNat (s : Int)) IntKind.u64.bits) = (x * 2 ^ s) % 18446744073709551616 := by
  rw [Int.toNat_natCast, show IntKind.u64.bits = 64 from rfl, Nat.min_eq_left hs, wrap_u64]
theorem shr1 (x : Int) : Int.fdiv x (2 ^ min (Int.toNat 1) IntKind.u64.bits) = x / 2 := (shrR (s := 1) (by decide)).trans (by rw [Int.pow_one])
theorem shr8 (x : Int) : Int.fdiv x (2 ^ min (Int.toNat 8) IntKind.u64.bits) = x / 256 := shrR (s := 8) (by decide)
theorem shr16 (x : Int) : Int.fdiv x (2 ^ min (Int.toNat 16) IntKind.u64.bits) = x / 65536 := shrR (s := 16) (by decide)
theorem shr32 (x : Int) : Int.fdiv x (2 ^ min (Int.toNat 32) IntKind.u64.bits) = x / 4294967296 := shrR (s := 32) (by decide)
theorem shr63 (x : Int) : Int.fdiv x (2 ^ min (Int.toNat 63) IntKind.u64.bits) = x / 9223372036854775808 := shrR (s := 63) (by decide)
theorem shl1 (x : Int) : IntKind.u64.wrap (x * 2 ^ min (Int.toNat 1) IntKind.u64.bits) = (x * 2) % 18446744073709551616 := (shlR (s := 1) (by decide)).trans (by rw [Int.pow_one])
theorem orR (a b : Int) : IntKind.u64.wrap (BitVec.toNat (BitVec.ofInt IntKind.u64.bits a ||| BitVec.ofInt IntKind.u64.bits b)) = Go.bits .or .u64 a b := rfl
theorem andR (a b : Int) : IntKind.u64.wrap (BitVec.toNat (BitVec.ofInt IntKind.u64.bits a &&& BitVec.ofInt IntKind.u64.bits b)) = Go.bits .and .u64 a b := rfl
theorem w64 {x : Int} (h : -9223372036854775808 ≤ x) (h' : x < 9223372036854775808) : IntKind.i64.wrap x = x := wrap_small h (by omega)

theorem arith_fair_eq (k : Nat) (n : Nm) : arith_fair k n = some (fair n, ()) := by
  simp only [arith_fair, num_May_eq, Option.bind_some, fair]
  cases may n <;> rfl
theorem mayP_of {n : Nm} (h : may n = true) (h1 : n.2.2.1 < 18446744073709551616) : mayP n := by
  rcases may_cases h with rfl | h | h
  · exact .inl ⟨rfl, rfl, rfl, rfl⟩
  · exact .inr (.inl ⟨h.1, h.2.1, h1, h.2.2.1, h.2.2.2⟩)
  · exact .inr (.inr h)
theorem may_of {n : Nm} (h : mayP n) : may n = true := by
  obtain ⟨a, b, c, d⟩ := n
  rcases h with ⟨h1, h2, h3, h4⟩ | ⟨h1, h2, h3, h4, h5⟩ | ⟨h1, h2, h3⟩ <;> simp only at h1 h2 h3
  · simp only at h4; subst h1 h2 h3 h4; rfl
  · simp only at h4 h5; subst h1; simp [may, h2, h4, h5]
  · subst h1 h2 h3; simp [may]
theorem fair_wf {n : Nm} (h : n.2.2.1 < 18446744073709551616) : mayP (fair n) := by
  refine mayP_of (may_fair n) ?_
  unfold fair
  split
  · exact h
  · decide
theorem fairP {n : Nm} (h : mayP n) : fair n = n := fair_may (may_of h)
theorem neg_eq {n : Nm} (h : mayP n) : neg n = ngv n := by
  obtain ⟨a, b, c, d⟩ := n
  unfold neg ngv
  rw [fairP h]
  rcases h with ⟨h1, h2, h3, h4⟩ | ⟨h1, _⟩ | ⟨h1, _⟩ <;> simp only at h1
  · simp only at h2 h3 h4; subst h1 h2 h3 h4; rfl
  · subst h1; rfl
  · subst h1; rfl
theorem bnd_eq (k : Nat) (neg : Bool) (m e : Int) (away : Bool) : num_Bound k neg m e away = some (bnd neg m e away, ()) := by
  simp only [num_Bound, num_Inf_eq, num_huge, num_tiny, Option.bind_some, bnd, cond_eq_ite, decide_eq_true_eq]
  by_cases h : e > 1048576
  · cases away <;> simp [h]
  · by_cases h2 : e < -1048576
    · cases away <;> simp [h, h2]
    · simp [h, h2]
theorem grw_eq (k : Nat) (neg : Bool) (m e : Int) (cut away : Bool) (m0 : 9223372036854775808 ≤ m) (m1 : m < 18446744073709551616) (e0 : -9223372036854775808 ≤ e) (e1 : e < 9223372036854775807) : num_Grow k neg m e cut away = some (grw neg m e cut away, ()) := by
  simp only [num_Grow, bnd_eq, Option.bind_some, grw]
  cases cut
  · simp
  · cases away
    · simp
    · by_cases h : m + 1 = 18446744073709551616
      · have h2 : IntKind.u64.wrap (m + 1) = 0 := by rw [h]; rfl
        rw [h2, w64 (by omega) (by omega)]
        simp [h]
      · have h2 : IntKind.u64.wrap (m + 1) = m + 1 := u64w (by omega) (by omega)
        have h3 : ¬ m + 1 = 0 := by omega
        rw [h2, beq_f h3]
        simp [h]
theorem lower_eq (k : Nat) {m : Int} {n : Nat} (m0 : 9223372036854775808 ≤ m) (m1 : m < 18446744073709551616) (hn : n ≤ 4194304) :
    ∃ (hi lo : Int) (cut : Bool), arith_lower k m (n : Int) = some ((hi, lo, cut), ()) ∧ 0 ≤ hi ∧ hi < 18446744073709551616 ∧ 0 ≤ lo ∧ lo < 18446744073709551616 ∧ hi * 18446744073709551616 + lo = m * 18446744073709551616 / 2 ^ n ∧ (cut = true ↔ m * 18446744073709551616 % 2 ^ n ≠ 0) := by
  have hp := p2_pos n
  have d0 : ∀ i : Nat, 0 ≤ m / 2 ^ i ∧ m / 2 ^ i ≤ m := fun i => by
    have := p2_pos i
    exact ⟨Int.ediv_nonneg (by omega) (by omega), Int.ediv_le_self _ (by omega)⟩
  simp only [arith_lower, cond_eq_ite, decide_eq_true_eq]
  by_cases h : n < 64
  · obtain ⟨j, hj⟩ : ∃ j, n + j = 64 := ⟨64 - n, by omega⟩
    obtain ⟨a1, a2, a3⟩ := low_a (m := m) hj
    have w : IntKind.i64.wrap (64 - (n : Int)) = (j : Int) := by rw [w64 (by omega) (by omega)]; omega
    rw [if_pos (show (n : Int) < 64 by omega), if_neg (show ¬ (n : Int) < 0 by omega), w, if_neg (show ¬ (j : Int) < 0 by omega), shrR (by omega), shlR (by omega), a1, a2, a3]
    refine ⟨_, _, _, rfl, ?_, ?_, Int.emod_nonneg _ (by decide), Int.emod_lt_of_pos _ (by decide), ?_, ?_⟩
    · rw [← a3]; exact (d0 n).1
    · rw [← a3]; have := (d0 n).2; omega
    · have := Int.mul_ediv_add_emod (m * 2 ^ j) 18446744073709551616
      omega
    · simp
  · rw [if_neg (show ¬ (n : Int) < 64 by omega)]
    by_cases h2 : n < 128
    · obtain ⟨i, hi⟩ : ∃ i, n = i + 64 := ⟨n - 64, by omega⟩
      obtain ⟨j, hj⟩ : ∃ j, i + j = 64 := ⟨64 - i, by omega⟩
      obtain ⟨b1, b2⟩ := low_b (m := m) hi
      have w : IntKind.i64.wrap ((n : Int) - 64) = (i : Int) := by rw [w64 (by omega) (by omega)]; omega
      have w2 : IntKind.i64.wrap (64 - (i : Int)) = (j : Int) := by rw [w64 (by omega) (by omega)]; omega
      rw [if_pos (show (n : Int) < 128 by omega), w, if_neg (show ¬ (i : Int) < 0 by omega), w2, if_neg (show ¬ (j : Int) < 0 by omega), shrR (by omega), shlR (by omega), b1, b2, low_c hj]
      refine ⟨_, _, _, rfl, by decide, by decide, (d0 i).1, by have := (d0 i).2; omega, by omega, ?_⟩
      have hpj := p2_pos j
      have hm := Int.emod_nonneg m (b := 2 ^ i) (by have := p2_pos i; omega)
      simp only [bne_iff_ne, ne_eq]
      constructor
      · intro q1 q2; exact q1 (by rw [show m % 2 ^ i = 0 by omega]; omega)
      · intro q1 q2
        have := Int.mul_eq_zero.1 q2
        rcases this with h3 | h3
        · exact q1 (by rw [h3]; rfl)
        · omega
    · rw [if_neg (show ¬ (n : Int) < 128 by omega)]
      obtain ⟨i, rfl⟩ : ∃ i, n = 128 + i := ⟨n - 128, by omega⟩
      have hb := p2_mono (i := 128) (j := 128 + i) (by omega)
      have e128 : (2 : Int) ^ 128 = 340282366920938463463374607431768211456 := by decide
      have l1 : m * 18446744073709551616 < 2 ^ (128 + i) := by omega
      refine ⟨0, 0, true, rfl, by decide, by decide, by decide, by decide, ?_, ?_⟩
      · rw [Int.ediv_eq_zero_of_lt (by omega) l1]; rfl
      · rw [Int.emod_eq_of_lt (by omega) l1]
        simp
        omega
/-! how many bits 64 bits have -/
theorem tab_fin : ∀ i : Fin 256, (bytes0[i.val]?).map (fun y => (y.toNat : Int)) = some (bl (i.val : Int)) := by decide +kernel
theorem tab_get {z : Int} (h0 : 0 ≤ z) (h1 : z < 256) : ∃ y : UInt8, bytes0[Int.toNat z]? = some y ∧ (y.toNat : Int) = bl z := by
  obtain ⟨n, rfl⟩ := Int.eq_ofNat_of_zero_le h0
  have := tab_fin ⟨n, by omega⟩
  rw [Int.toNat_natCast]
  cases hq : bytes0[n]? with
  | none => simp only at this; rw [hq] at this; cases this
  | some y =>
    simp only at this
    rw [hq] at this
    exact ⟨y, rfl, by simpa using this⟩
theorem u8w {z : Int} (h0 : 0 ≤ z) (h1 : z < 256) : IntKind.u8.wrap z = z := by
  simp only [IntKind.wrap, IntKind.bits, IntKind.signed]
  simp
  omega
theorem len64 (k : Nat) {x : Int} (h0 : 0 ≤ x) (h1 : x < 18446744073709551616) : bits_Len64 k x = some (bl x, ()) := by
  have b8 : ∀ y : Int, 0 ≤ y → y < 256 → 0 ≤ bl y ∧ bl y ≤ 8 := fun y _ hy => ⟨bl_nonneg y, bl_le (m := 8) hy⟩
  simp only [bits_Len64, shr8, shr16, shr32, cond_eq_ite, decide_eq_true_eq]
  have look : ∀ (z c : Int) (j : Nat), 0 ≤ z → z < 256 → c = j → j ≤ 56 → x / 2 ^ j = z → (j = 0 ∨ 0 < z) →
      (if 0 ≤ IntKind.u8.wrap z then (bytes0[Int.toNat (IntKind.u8.wrap z)]?).bind fun y1 => (some (IntKind.i64.wrap (c + IntKind.i64.wrap (y1.toNat : Int)), ()) : Option (HL [(.int .i64)])) else none) = some (bl x, ()) := by
    intro z c j z0 z1 hc hj hx hp
    obtain ⟨y, hy, e⟩ := tab_get z0 z1
    have hb := b8 z z0 z1
    rw [u8w z0 z1, if_pos z0, hy, Option.bind_some, e, w64 (x := bl z) (by omega) (by omega), w64 (by omega) (by omega), hc]
    have ee : (j : Int) + bl z = bl x := by
      rcases hp with rfl | hp
      · rw [Int.pow_zero, Int.ediv_one] at hx; rw [hx]; simp
      · rw [bl_shift (x := x) j (by rw [hx]; exact hp), hx]
    rw [ee]
  by_cases c1 : x ≥ 4294967296
  · rw [if_pos c1]
    by_cases c2 : x / 4294967296 ≥ 65536
    · rw [if_pos c2]
      by_cases c3 : x / 4294967296 / 65536 ≥ 256
      · rw [if_pos c3]; exact look _ _ 56 (by omega) (by omega) (by decide) (by omega) (by omega) (.inr (by omega))
      · rw [if_neg c3]; exact look _ _ 48 (by omega) (by omega) (by decide) (by omega) (by omega) (.inr (by omega))
    · rw [if_neg c2]
      by_cases c3 : x / 4294967296 ≥ 256
      · rw [if_pos c3]; exact look _ _ 40 (by omega) (by omega) (by decide) (by omega) (by omega) (.inr (by omega))
      · rw [if_neg c3]; exact look _ _ 32 (by omega) (by omega) (by decide) (by omega) (by omega) (.inr (by omega))
  · rw [if_neg c1]
    by_cases c2 : x ≥ 65536
    · rw [if_pos c2]
      by_cases c3 : x / 65536 ≥ 256
      · rw [if_pos c3]; exact look _ _ 24 (by omega) (by omega) (by decide) (by omega) (by omega) (.inr (by omega))
      · rw [if_neg c3]; exact look _ _ 16 (by omega) (by omega) (by decide) (by omega) (by omega) (.inr (by omega))
    · rw [if_neg c2]
      by_cases c3 : x ≥ 256
      · rw [if_pos c3]; exact look _ _ 8 (by omega) (by omega) (by decide) (by omega) (by omega) (.inr (by omega))
      · rw [if_neg c3]; exact look _ _ 0 (by omega) (by omega) (by decide) (by omega) (by omega) (.inl rfl)
theorem lz64 (k : Nat) {x : Int} (h0 : 0 ≤ x) (h1 : x < 18446744073709551616) : bits_LeadingZeros64 k x = some (64 - bl x, ()) := by
  have e3 := bl_le (n := x) (m := 64) (by rw [p64]; exact h1)
  have e4 := bl_nonneg x
  simp only [bits_LeadingZeros64]
  rw [len64 k h0 h1, Option.bind_some, w64 (by omega) (by omega)]
theorem add64R {x y : Int} (x0 : 0 ≤ x) (y0 : 0 ≤ y) : add64F (x, y, 0, ()) = some ((x + y) % 18446744073709551616, (x + y) / 18446744073709551616, ()) := by
  simp only [add64F]
  rw [if_pos ⟨x0, y0, by decide, by decide⟩, Int.add_zero]
theorem plus_eq (k : Nat) {am ae bm be : Int} (q1 q2 : Int) (an bn up : Bool) {d : Nat} (a0 : 9223372036854775808 ≤ am) (a1 : am < 18446744073709551616) (b0 : 9223372036854775808 ≤ bm) (b1 : bm < 18446744073709551616) (e0 : -1048576 ≤ be) (e1 : ae ≤ 1048576) (hd : ae = be + d) :
    arith_plus k (q1, an, am, ae) (q2, bn, bm, be) up = some (rnd an (am * 2 ^ d + bm) be (up != an), ()) := by
  obtain ⟨hi, lo, cut, hl, i0, i1, l0, l1, hv, hc⟩ := lower_eq k b0 b1 (n := d) (by omega)
  obtain ⟨hh, hr⟩ := low_hi (by omega) l0 l1 hv
  obtain ⟨s1, s2⟩ := sum_div (am := am) (bm := bm) (d := d)
  obtain ⟨s3, s4⟩ := div_succ (am * 2 ^ d + bm) d
  rw [hh] at s1
  rw [s1] at s3 s4
  rw [← hc] at hr
  rw [s2, hr] at s4
  have e : IntKind.i64.wrap (ae - be) = (d : Int) := by rw [w64 (by omega) (by omega)]; omega
  have ne : (!(up == an)) = (up != an) := rfl
  simp only [arith_plus, e, hl, Option.bind_some, add64R (show 0 ≤ am by omega) i0, shr1, orR, andR, ne]
  by_cases c : am + hi < 18446744073709551616
  · have m1 : (am + hi) % 18446744073709551616 = am + hi := by omega
    have m2 : (am + hi) / 18446744073709551616 = 0 := by omega
    have f : ∀ cc : Bool, (cc = true ↔ bm % 2 ^ d ≠ 0) → num_Grow k an (am + hi) ae cc (up != an) = some (rnd an (am * 2 ^ d + bm) be (up != an), ()) := fun cc h => by
      rw [grw_eq k _ _ _ _ _ (by omega) c (by omega) (by omega), rnd_fit (div_fit (c := cc) (by omega) c s1 (by rw [s2]; exact h)), hd]
    rw [m1, m2]
    cases cut
    · have := f (lo != 0) (by rw [hr]; simp)
      simp only [cond_false, this, Option.bind_some, bne_self_eq_false]
    · have := f true (by rw [hr]; simp)
      simp only [cond_true, cond_false, this, Option.bind_some, bne_self_eq_false]
  · have m1 : (am + hi) % 18446744073709551616 = am + hi - 18446744073709551616 := by omega
    have m2 : (am + hi) / 18446744073709551616 = 1 := by omega
    have w : IntKind.i64.wrap (ae + 1) = ae + 1 := w64 (by omega) (by omega)
    have o : Go.bits .or .u64 ((am + hi - 18446744073709551616) / 2) 9223372036854775808 = (am + hi) / 2 := by
      rw [or_top (by omega) (by omega)]; omega
    have f : ∀ cc : Bool, (cc = true ↔ (am * 2 ^ d + bm) % 2 ^ (d + 1) ≠ 0) → num_Grow k an ((am + hi) / 2) (ae + 1) cc (up != an) = some (rnd an (am * 2 ^ d + bm) be (up != an), ()) := fun cc h => by
      rw [grw_eq k _ _ _ _ _ (by omega) (by omega) (by omega) (by omega), rnd_fit (div_fit (c := cc) (by omega) (by omega) s3 h), hd, show be + (d : Int) + 1 = be + ((d + 1 : Nat) : Int) by omega]
    have n1 : ((1 : Int) != 0) = true := rfl
    have a1' : Go.bits .and .u64 (am + hi - 18446744073709551616) 1 = (am + hi - 18446744073709551616) % 2 := and_one (by omega) (by omega)
    rw [m1, m2]
    simp only [o, w, a1']
    cases cut
    · by_cases z : lo = 0
      · have := f ((am + hi - 18446744073709551616) % 2 != 0) (by rw [s4]; simp [z]; omega)
        have z2 : (lo != 0) = false := by simp [z]
        simp only [cond_false, n1, cond_true, z2]
        erw [this]
        rfl
      · have := f true (by rw [s4]; simp [z])
        have z2 : (lo != 0) = true := by simp [z]
        simp only [cond_false, n1, cond_true, z2]
        erw [this]
        rfl
    · have := f true (by rw [s4]; simp)
      simp only [cond_true, n1]
      erw [this]
      rfl
theorem sub64R {x y b : Int} (x0 : 0 ≤ x) (y0 : 0 ≤ y) (y1 : y < 18446744073709551616) (b0 : 0 ≤ b) (b1 : b ≤ 1) : sub64F (x, y, b, ()) = some ((x - y - b) % 18446744073709551616, (if x < y + b then 1 else 0), ()) := by
  simp only [sub64F]
  rw [if_pos ⟨x0, y0, y1, b0, b1⟩]
/-- What the words of a difference come to, moved up: the tail of minus. -/
theorem minus_tail (k : Nat) (an away cut : Bool) {v' e' x1 x0 E r : Int} {d : Nat} (p0 : 0 < x1) (p1 : x1 < 18446744073709551616) (p2 : 0 ≤ x0) (p3 : x0 < 18446744073709551616) (pv : v' * 18446744073709551616 = (x1 * 18446744073709551616 + x0) * 2 ^ d + r) (hr0 : 0 ≤ r) (hr1 : r < 2 ^ d) (hcr : cut = true ↔ r ≠ 0) (pe : E = e' + d) (pE0 : -4194304 ≤ E) (pE1 : E ≤ 4194304) :
    (bits_LeadingZeros64 k x1).bind (fun r4 =>
     (bif (decide (r4.1 > 0)) then
      if r4.1 < 0 then none else
      if (IntKind.i64.wrap (64 - r4.1)) < 0 then none else
      if r4.1 < 0 then none else
      bif cut then
       (num_Grow k an (IntKind.u64.wrap (BitVec.toNat (BitVec.ofInt IntKind.u64.bits (IntKind.u64.wrap (x1 * 2 ^ min (Int.toNat r4.1) IntKind.u64.bits)) ||| BitVec.ofInt IntKind.u64.bits (Int.fdiv x0 (2 ^ min (Int.toNat (IntKind.i64.wrap (64 - r4.1))) IntKind.u64.bits))))) (IntKind.i64.wrap (E - r4.1)) true away).bind fun r10 =>
       some (r10.1, ())
      else
       (num_Grow k an (IntKind.u64.wrap (BitVec.toNat (BitVec.ofInt IntKind.u64.bits (IntKind.u64.wrap (x1 * 2 ^ min (Int.toNat r4.1) IntKind.u64.bits)) ||| BitVec.ofInt IntKind.u64.bits (Int.fdiv x0 (2 ^ min (Int.toNat (IntKind.i64.wrap (64 - r4.1))) IntKind.u64.bits))))) (IntKind.i64.wrap (E - r4.1)) ((IntKind.u64.wrap (x0 * 2 ^ min (Int.toNat r4.1) IntKind.u64.bits)) != 0) away).bind fun r11 =>
       some (r11.1, ())
     else
      bif cut then
       (num_Grow k an x1 E true away).bind fun r12 =>
       some (r12.1, ())
      else
       (num_Grow k an x1 E (x0 != 0) away).bind fun r13 =>
       some (r13.1, ()) : Option (HL [TNm]))) = some (rnd an v' e' away, ()) := by
  have b0 := bl_pos p0
  have b1 := bl_le (n := x1) (m := 64) (by rw [p64]; exact p1)
  obtain ⟨j, hj⟩ : ∃ j : Nat, bl x1 = j := ⟨(bl x1).toNat, by omega⟩
  obtain ⟨b, hb⟩ : ∃ b : Nat, b + j = 64 := ⟨64 - j, by omega⟩
  obtain ⟨n1, n2, n3, n4, n5, n6⟩ := norm128 hb p0 hj p2 p3
  have f : ∀ cc : Bool, (cc = true ↔ (x0 * 2 ^ b) % 18446744073709551616 ≠ 0 ∨ r ≠ 0) → num_Grow k an (x1 * 2 ^ b + x0 / 2 ^ j) (E - b) cc away = some (rnd an v' e' away, ()) := fun cc h => by
    rw [grw_eq k _ _ _ _ _ n1 n2 (by omega) (by omega), rnd_fit (diff_fit n1 n2 pv hr0 hr1 n3 n5 n4 (show e' - b = (E - b) - d by omega) h)]
  rw [lz64 k (by omega) p1, Option.bind_some, hj, show (64 : Int) - (j : Int) = (b : Int) by omega]
  have s3 : IntKind.i64.wrap (64 - (b : Int)) = (j : Int) := by rw [w64 (by omega) (by omega)]; omega
  have s5 : IntKind.i64.wrap (E - (b : Int)) = E - b := w64 (by omega) (by omega)
  have s1 : IntKind.u64.wrap (x1 * 2 ^ min (Int.toNat (b : Int)) IntKind.u64.bits) = (x1 * 2 ^ b) % 18446744073709551616 := shlR (by omega)
  have s2 : IntKind.u64.wrap (x0 * 2 ^ min (Int.toNat (b : Int)) IntKind.u64.bits) = (x0 * 2 ^ b) % 18446744073709551616 := shlR (by omega)
  have s4 : Int.fdiv x0 (2 ^ min (Int.toNat (j : Int)) IntKind.u64.bits) = x0 / 2 ^ j := shrR (by omega)
  simp only [s3, s5, orR, s1, s2, s4, n6]
  by_cases z : (b : Int) > 0
  · rw [cond_t z, if_neg (show ¬ (b : Int) < 0 by omega), if_neg (show ¬ (j : Int) < 0 by omega), if_neg (show ¬ (b : Int) < 0 by omega)]
    cases hcut : cut
    · have := f ((x0 * 2 ^ b) % 18446744073709551616 != 0) (by rw [← hcr, hcut]; simp)
      rw [cond_false]
      erw [this]; rfl
    · have := f true (by rw [← hcr, hcut]; simp)
      rw [cond_true, this]; rfl
  · have zb : b = 0 := by omega
    subst zb
    have zj : j = 64 := by omega
    subst zj
    have e1 : x0 / 2 ^ 64 = 0 := by rw [p64]; omega
    rw [e1, Int.pow_zero, Int.mul_one, Int.mul_one, Int.add_zero, Int.emod_eq_of_lt p2 p3, show E - ((0 : Nat) : Int) = E by omega] at f
    rw [cond_f z]
    cases hcut : cut
    · have := f (x0 != 0) (by rw [← hcr, hcut]; simp)
      rw [cond_false]
      erw [this]; rfl
    · have := f true (by rw [← hcr, hcut]; simp)
      rw [cond_true, this]; rfl
theorem minus_eq (k : Nat) {am ae bm be : Int} (q1 q2 : Int) (an bn up : Bool) {d : Nat} (a0 : 9223372036854775808 ≤ am) (a1 : am < 18446744073709551616) (b0 : 9223372036854775808 ≤ bm) (b1 : bm < 18446744073709551616) (e0 : -1048576 ≤ be) (e1 : ae ≤ 1048576) (hd : ae = be + d) (hv : 0 < am * 2 ^ d - bm) :
    arith_minus k (q1, an, am, ae) (q2, bn, bm, be) up = some (rnd an (am * 2 ^ d - bm) be (up != an), ()) := by
  obtain ⟨hi, lo, cut, hl, i0, i1, l0, l1, hX, hc⟩ := lower_eq k b0 b1 (n := d) (by omega)
  obtain ⟨hh, -⟩ := low_hi (by omega) l0 l1 hX
  have pd := p2_pos d
  have x1 := Int.mul_ediv_add_emod (bm * 18446744073709551616) (2 ^ d)
  have x2 := Int.emod_nonneg (bm * 18446744073709551616) (b := 2 ^ d) (by omega)
  have x3 := Int.emod_lt_of_pos (bm * 18446744073709551616) pd
  rw [← hX] at x1
  have e : IntKind.i64.wrap (ae - be) = (d : Int) := by rw [w64 (by omega) (by omega)]; omega
  -- the 128 bits of the difference, and what is behind them
  obtain ⟨D, r, hD, hr0, hr1, hDv, hcr⟩ : ∃ D r : Int, D = am * 18446744073709551616 - (hi * 18446744073709551616 + lo) - (if cut = true then 1 else 0) ∧ 0 ≤ r ∧ r < 2 ^ d ∧ (am * 2 ^ d - bm) * 18446744073709551616 = D * 2 ^ d + r ∧ (cut = true ↔ r ≠ 0) := by
    have y1 : (am * 2 ^ d - bm) * 18446744073709551616 = (am * 18446744073709551616 - (hi * 18446744073709551616 + lo)) * 2 ^ d - bm * 18446744073709551616 % 2 ^ d := by
      rw [Int.sub_mul, Int.sub_mul, Int.mul_right_comm am, Int.mul_comm _ (2 ^ d)] at *
      have : 2 ^ d * (hi * 18446744073709551616 + lo) = (hi * 18446744073709551616 + lo) * 2 ^ d := Int.mul_comm _ _
      omega
    cases hcut : cut
    · have z : bm * 18446744073709551616 % 2 ^ d = 0 := by
        by_cases z : bm * 18446744073709551616 % 2 ^ d = 0
        · exact z
        · rw [hc.2 z] at hcut; exact absurd hcut (by decide)
      refine ⟨_, 0, rfl, by decide, pd, ?_, by simp⟩
      rw [y1, z]
      simp
    · have z := hc.1 hcut
      refine ⟨_, 2 ^ d - bm * 18446744073709551616 % 2 ^ d, rfl, by omega, by omega, ?_, ?_⟩
      · rw [y1, if_pos rfl, Int.sub_mul (am * 18446744073709551616 - (hi * 18446744073709551616 + lo)) 1, Int.one_mul]
        omega
      · simp; omega
  have D0 : 0 ≤ D := by
    have := Int.mul_pos hv (show (0 : Int) < 18446744073709551616 by decide)
    by_cases z : 0 ≤ D
    · exact z
    · have := mul_le_p d (show D ≤ -1 by omega)
      omega
  have D1 : D < 340282366920938463463374607431768211456 := by
    split at hD <;> omega
  -- the two words
  obtain ⟨h1, h2, hw1, hw2⟩ : ∃ h1 h2 : Int, h1 = D / 18446744073709551616 ∧ h2 = D % 18446744073709551616 := ⟨_, _, rfl, rfl⟩
  have g0 : 0 ≤ h1 ∧ h1 < 18446744073709551616 := by omega
  have g1 : 0 ≤ h2 ∧ h2 < 18446744073709551616 := by omega
  have gD : D = h1 * 18446744073709551616 + h2 := by omega
  have ne : (!(up == an)) = (up != an) := rfl
  have low : h1 = 0 → 0 < h2 ∧ r = 0 := by
    intro z
    have Dpos : 0 < h2 := by
      by_cases z2 : 0 < h2
      · exact z2
      · have : D = 0 := by omega
        rw [this, Int.zero_mul] at hDv
        have vW : 2 ^ d ≤ (am * 2 ^ d - bm) * 18446744073709551616 := by
          by_cases z : d ≤ 64
          · have := p2_mono z
            rw [p64] at this
            omega
          · have h1 := p2_mono (i := 64) (j := d) (by omega)
            rw [p64] at h1
            have h2 := mul_le_p d a0
            omega
        omega
    refine ⟨Dpos, ?_⟩
    -- so far down the difference is only where nothing is behind the 128 bits
    have t1 : (am * 2 ^ d - bm) * 18446744073709551616 < 18446744073709551616 * 2 ^ d := by
      have := mul_le_p d (show D + 1 ≤ 18446744073709551616 by omega)
      rw [Int.add_mul, Int.one_mul] at this
      omega
    have t2 : (9223372036854775808 - 1) * 2 ^ d ≤ (am - 1) * 2 ^ d := mul_le_p d (by omega)
    rw [Int.sub_mul] at t2
    rw [Int.sub_mul am] at t2
    have t3 : d < 2 := by
      by_cases z3 : d < 2
      · exact z3
      · have := p2_mono (i := 2) (j := d) (by omega)
        omega
    by_cases z4 : r = 0
    · exact z4
    · have t4 := hcr.2 z4
      have t5 := hc.1 t4
      have : d = 0 ∨ d = 1 := by omega
      rcases this with rfl | rfl <;> omega
  have wE : IntKind.i64.wrap (ae - 64) = ae - 64 := w64 (by omega) (by omega)
  have T1 : 0 < h1 → _ := fun p => minus_tail k an (up != an) cut (v' := am * 2 ^ d - bm) (e' := be) (E := ae) (r := r) (d := d) p g0.2 g1.1 g1.2 (by rw [hDv, gD]) hr0 hr1 hcr hd (by omega) (by omega)
  have T2 : h1 = 0 → _ := fun z => minus_tail k an (up != an) cut (v' := (am * 2 ^ d - bm) * 2 ^ 64) (e' := be - 64) (x0 := 0) (E := ae - 64) (r := r) (d := d) (low z).1 g1.2 (by decide) (by decide) (by rw [p64, hDv, (low z).2, gD, z]; simp [Int.mul_right_comm]) hr0 hr1 hcr (by omega) (by omega) (by omega)
  rw [rnd_scale hv, show be - 64 + ((64 : Nat) : Int) = be by omega] at T2
  have fin : ∀ (o : Option (HL [.int .u64, .int .u64])) (c2 : Int), o = some (h2, c2, ()) → sub64F (am, hi, c2, ()) = some (h1, (if am < hi + c2 then 1 else 0), ()) → True := fun _ _ _ _ => trivial
  cases hcut : cut
  · rw [hcut] at hD hl T1 T2
    simp only [Bool.false_eq_true, if_false] at hD
    obtain ⟨c2, hc2, c20, c21⟩ : ∃ c2 : Int, c2 = (if 0 < lo + 0 then 1 else 0) ∧ 0 ≤ c2 ∧ c2 ≤ 1 := ⟨_, rfl, by split <;> decide, by split <;> decide⟩
    have S1 : sub64F (0, lo, 0, ()) = some (h2, c2, ()) := by
      rw [sub64R (by decide) l0 l1 (by decide) (by decide), ← hc2]
      congr 2; omega
    have S2 : sub64F (am, hi, c2, ()) = some (h1, (if am < hi + c2 then 1 else 0), ()) := by
      rw [sub64R (by omega) i0 i1 c20 c21]
      congr 2
      split at hc2 <;> omega
    simp only [arith_minus, e, hl, Option.bind_some, cond_false, S1, S2, ne]
    by_cases z : h1 = 0
    · rw [beq_t z, cond_true, ← T2 z, wE]
      rfl
    · rw [beq_f z, cond_false, ← T1 (by omega)]
      rfl
  · rw [hcut] at hD hl T1 T2
    simp only [if_true] at hD
    obtain ⟨c2, hc2, c20, c21⟩ : ∃ c2 : Int, c2 = (if 0 < lo + 1 then 1 else 0) ∧ 0 ≤ c2 ∧ c2 ≤ 1 := ⟨_, rfl, by split <;> decide, by split <;> decide⟩
    have S1 : sub64F (0, lo, 1, ()) = some (h2, c2, ()) := by
      rw [sub64R (by decide) l0 l1 (by decide) (by decide), ← hc2]
      congr 2; omega
    have S2 : sub64F (am, hi, c2, ()) = some (h1, (if am < hi + c2 then 1 else 0), ()) := by
      rw [sub64R (by omega) i0 i1 c20 c21]
      congr 2
      split at hc2 <;> omega
    simp only [arith_minus, e, hl, Option.bind_some, cond_true, S1, S2, ne]
    by_cases z : h1 = 0
    · rw [beq_t z, cond_true, ← T2 z, wE]
      rfl
    · rw [beq_f z, cond_false, ← T1 (by omega)]
      rfl
/-- The sum of two finite ones, of which the first one is not the nearer to nought. -/
theorem add3 (k : Nat) {am ae bm be : Int} (an bn up : Bool) (a0 : 9223372036854775808 ≤ am) (a1 : am < 18446744073709551616) (b0 : 9223372036854775808 ≤ bm) (b1 : bm < 18446744073709551616) (e0 : -1048576 ≤ be) (e1 : ae ≤ 1048576) (hle : be < ae ∨ be = ae ∧ bm ≤ am) :
    (bif (an == bn) then (arith_plus k (1, an, am, ae) (1, bn, bm, be) up).bind fun r => some (r.1, ())
     else bif (ae == be) then bif (am == bm) then some ((0, false, 0, 0), ()) else (arith_minus k (1, an, am, ae) (1, bn, bm, be) up).bind fun r => some (r.1, ())
     else (arith_minus k (1, an, am, ae) (1, bn, bm, be) up).bind fun r => some (r.1, ()) : Option (HL [TNm])) = some (rnz (exs (1, an, am, ae) (1, bn, bm, be) be) be up, ()) := by
  obtain ⟨d, hd⟩ : ∃ d : Nat, ae = be + d := ⟨(ae - be).toNat, by omega⟩
  have pd := p2_pos d
  have ex : exs (1, an, am, ae) (1, bn, bm, be) be = sg an am * 2 ^ d + sg bn bm := by
    unfold exs
    simp only [show (ae - be).toNat = d by omega, show (be - be).toNat = 0 by omega, Int.pow_zero, Int.mul_one]
  have ad := mul_le_p d a0
  by_cases h : an = bn
  · subst h
    have vp : 0 < am * 2 ^ d + bm := by omega
    have es : sg an am * 2 ^ d + sg an bm = sg an (am * 2 ^ d + bm) := by
      unfold sg
      cases an
      · simp
      · simp only [if_true]; rw [Int.neg_mul]; omega
    rw [plus_eq k _ _ _ _ _ a0 a1 b0 b1 e0 e1 hd, ex, es, rnz_sg vp, show (an == an) = true by simp, cond_true]
    rfl
  · have hn : bn = !an := by cases an <;> cases bn <;> simp_all
    subst hn
    have es : sg an am * 2 ^ d + sg (!an) bm = sg an (am * 2 ^ d - bm) := by
      unfold sg
      cases an
      · simp only [Bool.not_false, if_true, Bool.false_eq_true, if_false]; omega
      · simp only [if_true, Bool.not_true, Bool.false_eq_true, if_false]; rw [Int.neg_mul]; omega
    have m : 0 < am * 2 ^ d - bm → arith_minus k (1, an, am, ae) (1, !an, bm, be) up = some (rnz (exs (1, an, am, ae) (1, !an, bm, be) be) be up, ()) := fun hv => by
      rw [minus_eq k _ _ _ _ _ a0 a1 b0 b1 e0 e1 hd hv, ex, es, rnz_sg hv]
    rw [show (an == !an) = false by cases an <;> rfl, cond_false]
    by_cases h2 : ae = be
    · have d0 : d = 0 := by omega
      subst d0
      simp only [Int.pow_zero, Int.mul_one] at m es
      rw [beq_t h2, cond_true]
      by_cases h3 : am = bm
      · rw [beq_t h3, cond_true, ex, Int.pow_zero, Int.mul_one, es, h3, Int.sub_self]
        unfold rnz sg
        simp
      · rw [beq_f h3, cond_false, m (by omega)]; rfl
    · rw [beq_f h2, cond_false, m]
      · rfl
      · have := p2_mono (i := 1) (j := d) (by omega)
        rw [Int.pow_one] at this
        have := Int.mul_le_mul_of_nonneg_left this (show 0 ≤ am by omega)
        omega
theorem i12 : ((1 : Int) == 2) = false := rfl
theorem i10 : ((1 : Int) == 0) = false := rfl
theorem i02 : ((0 : Int) == 2) = false := rfl
theorem i00 : ((0 : Int) == 0) = true := rfl
theorem i22 : ((2 : Int) == 2) = true := rfl
theorem i20 : ((2 : Int) == 0) = false := rfl
theorem arith_Add_eq (k : Nat) (a b : Nm) (up : Bool) (ha : a.2.2.1 < 18446744073709551616) (hb : b.2.2.1 < 18446744073709551616) :
    arith_Add k a b up = some (addv (fair a) (fair b) up, ()) := by
  simp only [arith_Add, arith_fair_eq, Option.bind_some]
  have ma := fair_wf ha
  have mb := fair_wf hb
  generalize fair a = x at ma
  generalize fair b = y at mb
  clear ha hb a b
  obtain ⟨a1, a2, a3, a4⟩ := x
  obtain ⟨b1, b2, b3, b4⟩ := y
  rcases ma with ⟨h1, h2, h3, h4⟩ | ⟨h1, h2, h3, h4, h5⟩ | ⟨h1, h2, h3⟩ <;> rcases mb with ⟨g1, g2, g3, g4⟩ | ⟨g1, g2, g3, g4, g5⟩ | ⟨g1, g2, g3⟩ <;> simp only at h1 g1 <;> subst h1 g1
  case inr.inl.inr.inl =>
    simp only at h2 h3 h4 h5 g2 g3 g4 g5
    rw [addv_fin rfl rfl]
    simp only [i12, i10, cond_false]
    by_cases z : b4 > a4
    · rw [cond_t z, add3 k _ _ _ g2 g3 h2 h3 (by omega) (by omega) (.inl z), exs_comm, Int.min_eq_left (by omega)]
    · rw [cond_f z]
      by_cases z2 : b4 = a4
      · rw [beq_t z2, cond_true]
        by_cases z3 : b3 > a3
        · have := add3 k (ae := b4) (be := a4) b2 a2 up g2 g3 h2 h3 (by omega) (by omega) (.inr ⟨z2.symm, by omega⟩)
          rw [beq_t z2] at this
          rw [cond_t z3]
          erw [this]
          rw [exs_comm, Int.min_eq_left (by omega)]
        · have := add3 k (ae := a4) (be := b4) a2 b2 up h2 h3 g2 g3 (by omega) (by omega) (.inr ⟨z2, by omega⟩)
          rw [cond_f z3]
          erw [this]
          rw [Int.min_eq_right (by omega)]
      · rw [beq_f z2, cond_false]
        have := add3 k (ae := a4) (be := b4) a2 b2 up h2 h3 g2 g3 (by omega) (by omega) (.inl (by omega))
        erw [this]
        rw [Int.min_eq_right (by omega)]
  all_goals simp only at h2 h3 g2 g3
  all_goals simp only [i12, i10, i02, i00, i20, i22, cond_false, cond_true, addv, num_Inf_eq, Option.bind_some]
  all_goals (cases a2 <;> cases b2 <;> simp_all)
theorem mul64_eq (k : Nat) {x y : Int} (x0 : 0 ≤ x) (x1 : x < 18446744073709551616) (y0 : 0 ≤ y) (y1 : y < 18446744073709551616) : bits_Mul64 k x y = some (x * y / 18446744073709551616, x * y % 18446744073709551616, ()) := by
  have bd : ∀ a b : Int, 0 ≤ a → a < 4294967296 → 0 ≤ b → b < 4294967296 → 0 ≤ a * b ∧ a * b ≤ 18446744065119617025 := fun a b ha ha' hb hb' => mul_bound ⟨ha, ha'⟩ ⟨hb, hb'⟩
  simp only [bits_Mul64, shr32, andR]
  rw [and_low x0 x1, and_low y0 y1]
  obtain ⟨xh, xl, hx, xh0, xh1, xl0, xl1⟩ : ∃ xh xl : Int, x = xh * 4294967296 + xl ∧ 0 ≤ xh ∧ xh < 4294967296 ∧ 0 ≤ xl ∧ xl < 4294967296 := ⟨x / 4294967296, x % 4294967296, by omega, by omega, by omega, by omega, by omega⟩
  obtain ⟨yh, yl, hy, yh0, yh1, yl0, yl1⟩ : ∃ yh yl : Int, y = yh * 4294967296 + yl ∧ 0 ≤ yh ∧ yh < 4294967296 ∧ 0 ≤ yl ∧ yl < 4294967296 := ⟨y / 4294967296, y % 4294967296, by omega, by omega, by omega, by omega, by omega⟩
  rw [show x / 4294967296 = xh by omega, show x % 4294967296 = xl by omega, show y / 4294967296 = yh by omega, show y % 4294967296 = yl by omega]
  have hp : x * y = xh * yh * 18446744073709551616 + (xh * yl + xl * yh) * 4294967296 + xl * yl := by rw [hx, hy]; grind
  obtain ⟨p1, p2⟩ := bd xh yh xh0 xh1 yh0 yh1
  obtain ⟨p3, p4⟩ := bd xh yl xh0 xh1 yl0 yl1
  obtain ⟨p5, p6⟩ := bd xl yh xl0 xl1 yh0 yh1
  obtain ⟨p7, p8⟩ := bd xl yl xl0 xl1 yl0 yl1
  rw [hp]
  generalize xh * yh = A at *
  generalize xh * yl = B at *
  generalize xl * yh = C at *
  generalize xl * yl = D at *
  clear hp hx hy x0 x1 y0 y1 xh0 xh1 xl0 xl1 yh0 yh1 yl0 yl1 bd
  rw [u64w (x := D) (by omega) (by omega), u64w (x := B) (by omega) (by omega), u64w (x := B + D / 4294967296) (by omega) (by omega), u64w (x := C) (by omega) (by omega), u64w (x := A) (by omega) (by omega), and_low (x := B + D / 4294967296) (by omega) (by omega)]
  rw [u64w (x := A + (B + D / 4294967296) / 4294967296) (by omega) (by omega), u64w (x := (B + D / 4294967296) % 4294967296 + C) (by omega) (by omega), u64w (by omega) (by omega), wrap_u64]
  have e1 : A + (B + D / 4294967296) / 4294967296 + ((B + D / 4294967296) % 4294967296 + C) / 4294967296 = (A * 18446744073709551616 + (B + C) * 4294967296 + D) / 18446744073709551616 := by omega
  exact congrArg some (Prod.ext e1 rfl)
theorem arith_Mul_eq (k : Nat) (a b : Nm) (up : Bool) (ha : a.2.2.1 < 18446744073709551616) (hb : b.2.2.1 < 18446744073709551616) :
    arith_Mul k a b up = some (mulv (fair a) (fair b) up, ()) := by
  simp only [arith_Mul, arith_fair_eq, Option.bind_some]
  have ma := fair_wf ha
  have mb := fair_wf hb
  generalize fair a = x at ma
  generalize fair b = y at mb
  clear ha hb a b
  obtain ⟨a1, a2, a3, a4⟩ := x
  obtain ⟨b1, b2, b3, b4⟩ := y
  rcases ma with ⟨h1, h2, h3, h4⟩ | ⟨h1, h2, h3, h4, h5⟩ | ⟨h1, h2, h3⟩ <;> rcases mb with ⟨g1, g2, g3, g4⟩ | ⟨g1, g2, g3, g4, g5⟩ | ⟨g1, g2, g3⟩ <;> simp only at h1 g1 <;> subst h1 g1
  case inr.inl.inr.inl =>
    simp only at h2 h3 h4 h5 g2 g3 g4 g5
    rw [mulv_fin rfl rfl]
    have ne : (!(a2 == b2)) = (a2 != b2) := rfl
    have ne2 : ∀ c : Bool, (!(up == c)) = (up != c) := fun _ => rfl
    simp only [i12, i10, cond_false]
    rw [mul64_eq k (by omega) h3 (by omega) g3]
    have q1 : 9223372036854775808 * 9223372036854775808 ≤ a3 * b3 := Int.mul_le_mul h2 g2 (by decide) (by omega)
    have q2 : a3 * b3 ≤ 18446744073709551615 * 18446744073709551615 := Int.mul_le_mul (by omega) (by omega) (by omega) (by decide)
    generalize a3 * b3 = P at q1 q2
    have w1 : IntKind.i64.wrap (a4 + b4) = a4 + b4 := w64 (by omega) (by omega)
    have w2 : IntKind.i64.wrap (a4 + b4 + 64) = a4 + b4 + 64 := w64 (by omega) (by omega)
    have w3 : IntKind.i64.wrap (a4 + b4 + 64 - 1) = a4 + b4 + (63 : Nat) := by rw [w64 (by omega) (by omega)]; omega
    simp only [Option.bind_some, w1, w2, w3, shl1, shr63, orR, ne, ne2]
    by_cases z : P / 18446744073709551616 < 9223372036854775808
    · rw [cond_t z]
      have o := (or_sum (h := P / 18446744073709551616) (l := P % 18446744073709551616 / 9223372036854775808) (b := 1) (j := 63) rfl (by omega) (by rw [p63]; exact z) (by omega) (by rw [Int.pow_one]; omega)).1
      rw [Int.pow_one] at o
      have s : P / 18446744073709551616 * 2 % 18446744073709551616 = P / 18446744073709551616 * 2 := by omega
      rw [s, o, grw_eq k _ _ _ _ _ (by omega) (by omega) (by omega) (by omega), Option.bind_some]
      congr 2
      refine (rnd_fit (div_fit (d := 63) (by omega) (by omega) (by rw [p63]; omega) ?_) _ _).symm
      rw [p63, bne_iff_ne]
      omega
    · rw [cond_f z, grw_eq k _ _ _ _ _ (by omega) (by omega) (by omega) (by omega), Option.bind_some]
      congr 2
      refine (rnd_fit (e := a4 + b4) (div_fit (d := 64) (by omega) (by omega) (by rw [p64]) ?_) _ _).symm
      rw [p64, bne_iff_ne]
  all_goals simp only at h2 h3 g2 g3
  all_goals simp only [i12, i10, i02, i00, i20, i22, cond_false, cond_true, mulv, num_Inf_eq, Option.bind_some]
  all_goals (cases a2 <;> cases b2 <;> simp_all)
/-! ### sums, products and opposites of intervals; the time of a step -/
def wfN (n : Nm) : Prop := n.2.2.1 < 18446744073709551616
def wfI (x : Iv) : Prop := wfN x.2.1 ∧ wfN x.2.2
def wfS (s : Sl) : Prop := wfN s.1 ∧ wfI s.2.1 ∧ wfI s.2.2
def wfT (t : Tb) : Prop := wfN t.1 ∧ wfI t.2.1 ∧ ∀ s ∈ t.2.2, wfS s
theorem wfN_zN : wfN zN := by unfold wfN; decide
theorem wfN_inf (b : Bool) : wfN (inf b) := show (0 : Int) < 18446744073709551616 by decide
theorem wfN_fair {n : Nm} (h : wfN n) : wfN (fair n) := by unfold fair; split; exact h; exact wfN_zN
theorem wfN_mayP {n : Nm} (h : mayP n) : wfN n := by
  obtain ⟨a, b, c, d⟩ := n
  rcases h with ⟨_, _, h, _⟩ | ⟨_, _, h, _⟩ | ⟨_, h, _⟩ <;> simp only [wfN] at * <;> omega
theorem wfN_neg {n : Nm} (h : wfN n) : wfN (neg n) := by have := wfN_fair h; exact this
theorem wfI_none : wfI noneI := ⟨wfN_zN, wfN_zN⟩
theorem wfI_mkI {a b : Nm} (ha : wfN a) (hb : wfN b) : wfI (mkI a b) := by
  rcases mkI_cases a b with e | ⟨e, _⟩ <;> rw [e]
  · exact wfI_none
  · exact ⟨wfN_fair ha, wfN_fair hb⟩
theorem wfN_least {l : List Nm} (h : ∀ n ∈ l, wfN n) : wfN (least l) := by
  rcases least_mem l with e | ⟨n, hn, e⟩ <;> rw [e]
  · exact wfN_inf _
  · exact wfN_fair (h n hn)
theorem wfN_most {l : List Nm} (h : ∀ n ∈ l, wfN n) : wfN (most l) := by
  rcases most_mem l with e | ⟨n, hn, e⟩ <;> rw [e]
  · exact wfN_inf _
  · exact wfN_fair (h n hn)
theorem wfI_fair {x : Iv} (h : wfI x) : wfI (fairI x) := by unfold fairI; split; exact h; exact wfI_none
theorem wfI_two {a b : Iv} (ha : wfI a) (hb : wfI b) : wfI (two a b) := by
  unfold two
  split
  · exact wfI_none
  · refine wfI_mkI (wfN_most fun n hn => ?_) (wfN_least fun n hn => ?_)
    · simp only [List.mem_cons, List.not_mem_nil, or_false] at hn
      rcases hn with rfl | rfl
      · exact (wfI_fair ha).1
      · exact (wfI_fair hb).1
    · simp only [List.mem_cons, List.not_mem_nil, or_false] at hn
      rcases hn with rfl | rfl
      · exact (wfI_fair ha).2
      · exact (wfI_fair hb).2

def bad (x : Iv) : Bool := x.1 || !mayI x
def addI (x y : Iv) : Iv := if bad x || bad y then noneI else mkI (addv (fair x.2.1) (fair y.2.1) false) (addv (fair x.2.2) (fair y.2.2) true)
def negI (x : Iv) : Iv := if bad x then noneI else mkI (neg x.2.2) (neg x.2.1)
def subI (x y : Iv) : Iv := addI x (negI y)
def mulI (x y : Iv) : Iv := if bad x || bad y then noneI else
  mkI (least [mulv (fair x.2.1) (fair y.2.1) false, mulv (fair x.2.1) (fair y.2.2) false, mulv (fair x.2.2) (fair y.2.1) false, mulv (fair x.2.2) (fair y.2.2) false])
    (most [mulv (fair x.2.1) (fair y.2.1) true, mulv (fair x.2.1) (fair y.2.2) true, mulv (fair x.2.2) (fair y.2.1) true, mulv (fair x.2.2) (fair y.2.2) true])
theorem addP {a b : Nm} (ha : wfN a) (hb : wfN b) (up : Bool) : mayP (addv (fair a) (fair b) up) := addv_may up (fair_wf ha) (fair_wf hb)
theorem mulP {a b : Nm} (ha : wfN a) (hb : wfN b) (up : Bool) : mayP (mulv (fair a) (fair b) up) := mulv_may up (fair_wf ha) (fair_wf hb)
theorem wfI_addI {x y : Iv} (hx : wfI x) (hy : wfI y) : wfI (addI x y) := by
  unfold addI
  split
  · exact wfI_none
  · exact wfI_mkI (wfN_mayP (addP hx.1 hy.1 _)) (wfN_mayP (addP hx.2 hy.2 _))
theorem wfI_negI {x : Iv} (hx : wfI x) : wfI (negI x) := by
  unfold negI
  split
  · exact wfI_none
  · exact wfI_mkI (wfN_neg hx.2) (wfN_neg hx.1)
theorem wfI_subI {x y : Iv} (hx : wfI x) (hy : wfI y) : wfI (subI x y) := wfI_addI hx (wfI_negI hy)
theorem wfI_mulI {x y : Iv} (hx : wfI x) (hy : wfI y) : wfI (mulI x y) := by
  unfold mulI
  split
  · exact wfI_none
  · refine wfI_mkI (wfN_least fun n hn => ?_) (wfN_most fun n hn => ?_)
    all_goals
      simp only [List.mem_cons, List.not_mem_nil, or_false] at hn
      rcases hn with rfl | rfl | rfl | rfl
      · exact wfN_mayP (mulP hx.1 hy.1 _)
      · exact wfN_mayP (mulP hx.1 hy.2 _)
      · exact wfN_mayP (mulP hx.2 hy.1 _)
      · exact wfN_mayP (mulP hx.2 hy.2 _)
theorem none_loop (k : Nat) : ∀ (s pre : List Iv) (m : Nat), s.length < m → pre.length + s.length ≤ 1000000 →
    ivop_none_l0 k m ((pre ++ s, ((pre ++ s).length : Int), (pre.length : Int), ()), ()) = some (bif s.any bad then Sum.inl ((true, ()), ()) else Sum.inr (Sum.inl ((), ())))
  | [], pre, m + 1, hm, hl => by simp [ivop_none_l0]
  | x :: s, pre, m + 1, hm, hl => by
    simp only [List.length_cons] at hm hl
    have ih := none_loop k s (pre ++ [x]) m (by omega) (by simp; omega)
    rw [mid_eq, len_snoc] at ih
    simp only [ivop_none_l0, cond_t (len_lt pre x s), if_pos (Int.natCast_nonneg pre.length), at_mid, Option.bind_some, iv_May_eq, wrap_succ (show pre.length ≤ 1000000000 by omega)]
    rw [ih]
    simp only [List.any_cons, bad]
    cases x.1 <;> cases mayI x <;> simp
theorem ivop_none_eq (k : Nat) (l : List Iv) (h : l.length < k) (h' : l.length ≤ 1000000) : ivop_none k l = some (l.any bad, ()) := by
  have := none_loop k l [] k h (by simpa using h')
  simp only [List.nil_append, List.length_nil] at this
  simp only [ivop_none]
  rw [show ((0 : Nat) : Int) = 0 from rfl] at this
  rw [this]
  cases l.any bad <;> rfl
theorem ivop_Add_eq (k : Nat) (hk : 100 ≤ k) {x y : Iv} (hx : wfI x) (hy : wfI y) : ivop_Add k [x, y] = some (addI x y, ()) := by
  simp only [ivop_Add, ivop_none_eq k [x, y] (by simp; omega) (by simp), Option.bind_some, iv_None_eq, addI]
  simp only [List.any_cons, List.any_nil, Bool.or_false]
  cases hb : (bad x || bad y)
  · rw [cond_false]
    obtain ⟨m, rfl⟩ : ∃ m, k = m + 1 + 1 + 1 := ⟨k - 3, by omega⟩
    have c0 : (0 : Int) < (([x, y] : List Iv).length : Int) := by simp
    have c1 : (1 : Int) < (([x, y] : List Iv).length : Int) := by simp
    have c2 : ¬ (2 : Int) < (([x, y] : List Iv).length : Int) := by simp
    have w1 : IntKind.i64.wrap (0 + 1) = 1 := by decide
    have w2 : IntKind.i64.wrap (1 + 1) = 2 := by decide
    have g0 : ([x, y] : List Iv)[Int.toNat 0]? = some x := rfl
    have g1 : ([x, y] : List Iv)[Int.toNat 1]? = some y := rfl
    have z0 : (0 : Int) ≤ 0 := by decide
    have z1 : (0 : Int) ≤ 1 := by decide
    have step : ∀ Z, ivop_Add_l0 (m + 1 + 1 + 1) (m + 1 + 1 + 1) (((), (), (), [x, y], (([x, y] : List Iv).length : Int), 0, ()), Z) = some (Sum.inl (((), (), (), ()), (Z.1, addv (fair x.2.1) (fair y.2.1) false, addv (fair x.2.2) (fair y.2.2) true, ()))) := by
      intro Z
      rw [ivop_Add_l0]
      simp only [cond_t c0, if_pos z0, g0, Option.bind_some, i00, cond_true, w1]
      rw [ivop_Add_l0]
      simp only [cond_t c1, if_pos z1, g1, Option.bind_some, i10, cond_false, w2, arith_Add_eq _ _ _ _ hx.1 hy.1, arith_Add_eq _ _ _ _ hx.2 hy.2]
      rw [ivop_Add_l0]
      simp only [cond_f c2]
    rw [step]
    simp only [Option.bind_some, Sum.elim_inl, iv_Make_eq]
    simp
  · rw [cond_true]; simp
theorem ivop_Neg_eq (k : Nat) (hk : 100 ≤ k) (x : Iv) : ivop_Neg k x = some (negI x, ()) := by
  simp only [ivop_Neg, ivop_none_eq k [x] (by simp; omega) (by simp), Option.bind_some, iv_None_eq, negI, num_Neg_eq, iv_Make_eq]
  simp only [List.any_cons, List.any_nil, Bool.or_false]
  cases bad x <;> simp
theorem ivop_Sub_eq (k : Nat) (hk : 100 ≤ k) {x y : Iv} (hx : wfI x) (hy : wfI y) : ivop_Sub k x y = some (subI x y, ()) := by
  simp only [ivop_Sub, ivop_Neg_eq k hk, Option.bind_some, ivop_Add_eq k hk hx (wfI_negI hy), subI]
theorem ivop_Mul_eq (k : Nat) (hk : 100 ≤ k) {x y : Iv} (hx : wfI x) (hy : wfI y) : ivop_Mul k x y = some (mulI x y, ()) := by
  simp only [ivop_Mul, ivop_none_eq k [x, y] (by simp; omega) (by simp), Option.bind_some, iv_None_eq, mulI, arith_Mul_eq _ _ _ _ hx.1 hy.1, arith_Mul_eq _ _ _ _ hx.1 hy.2, arith_Mul_eq _ _ _ _ hx.2 hy.1, arith_Mul_eq _ _ _ _ hx.2 hy.2,
    num_Least_eq k [_, _, _, _] (by simp; omega) (by simp), num_Most_eq k [_, _, _, _] (by simp; omega) (by simp), iv_Make_eq]
  simp only [List.any_cons, List.any_nil, Bool.or_false]
  cases (bad x || bad y) <;> simp
theorem arith_Sub_eq (k : Nat) {a b : Nm} (ha : wfN a) (hb : wfN b) (up : Bool) : arith_Sub k a b up = some (addv (fair a) (neg b) up, ()) := by
  simp only [arith_Sub, num_Neg_eq, Option.bind_some, arith_Add_eq k a (neg b) up ha (wfN_neg hb), fair_may (may_neg b)]
/-! the steps of a tube, by number -/
def slG (l : List Sl) (i : Nat) : Sl := l[i]?.getD (zN, noneI, noneI)
def timeN (t : Tb) : Nat → Nm
  | 0 => t.1
  | i + 1 => (slG t.2.2 i).1
def gtN (t : Tb) : Nat → Iv
  | 0 => t.2.1
  | i + 1 => (slG t.2.2 i).2.2
def dtI (t : Tb) (i : Nat) : Iv := mkI (addv (fair (timeN t (i + 1))) (neg (timeN t i)) false) (addv (fair (timeN t (i + 1))) (neg (timeN t i)) true)
theorem slG_eq {l : List Sl} {i : Nat} (h : i < l.length) : l[i]? = some (slG l i) := by unfold slG; rw [List.getElem?_eq_getElem h]; rfl
theorem slG_mem {l : List Sl} {i : Nat} (h : i < l.length) : slG l i ∈ l := List.mem_of_getElem? (slG_eq h)
theorem wfN_time {t : Tb} (h : wfT t) {i : Nat} (hi : i ≤ t.2.2.length) : wfN (timeN t i) := by
  cases i with
  | zero => exact h.1
  | succ i => exact (h.2.2 _ (slG_mem hi)).1
theorem wfI_gt {t : Tb} (h : wfT t) {i : Nat} (hi : i ≤ t.2.2.length) : wfI (gtN t i) := by
  cases i with
  | zero => exact h.2.1
  | succ i => exact (h.2.2 _ (slG_mem hi)).2.2
theorem flow_when_eq (k : Nat) (t : Tb) (i : Nat) (hi : i ≤ t.2.2.length) (hl : i ≤ 1000) : flow_when k t (i : Int) = some (timeN t i, ()) := by
  cases i with
  | zero => rfl
  | succ i =>
    simp only [flow_when]
    rw [beq_f (by omega), cond_false, wrap_pred (by omega), if_pos (Int.natCast_nonneg i), Int.toNat_natCast, slG_eq hi]
    rfl
theorem flow_Time_eq (k : Nat) (hk : 100 ≤ k) (t : Tb) (i : Nat) (hm : mayT t = true) (hw : wfT t) (hi : i < t.2.2.length) : flow_Time k t (i : Int) = some (dtI t i, ()) := by
  have hl := mayT_len hm
  have c1 : ¬ (i : Int) < 0 := by omega
  have c2 : ¬ (i : Int) ≥ (t.2.2.length : Int) := by omega
  simp only [flow_Time, tube_May_eq k hk, hm, Option.bind_some, Bool.not_true, cond_false, cond_f c1, cond_f c2, wrap_succ (show i ≤ 1000000000 by omega),
    flow_when_eq k t i (by omega) (by omega), flow_when_eq k t (i + 1) (by omega) (by omega), arith_Sub_eq k (wfN_time hw (show i + 1 ≤ _ by omega)) (wfN_time hw (show i ≤ _ by omega)), iv_Make_eq, dtI]
theorem wfI_dt {t : Tb} (hw : wfT t) {i : Nat} (hi : i < t.2.2.length) : wfI (dtI t i) := by
  have h1 := wfN_time hw (show i + 1 ≤ t.2.2.length by omega)
  have h2 := wfN_time hw (show i ≤ t.2.2.length by omega)
  have p : ∀ up, mayP (addv (fair (timeN t (i + 1))) (neg (timeN t i)) up) := fun up => addv_may up (fair_wf h1) (by have := fair_wf (wfN_neg h2); rwa [fair_may (may_neg _)] at this)
  exact wfI_mkI (wfN_mayP (p _)) (wfN_mayP (p _))
/-! ### the passes of Contract -/
def rtG (r : List Iv) (i : Nat) : Iv := r[i]?.getD noneI
theorem rtG_eq {r : List Iv} {i : Nat} (h : i < r.length) : r[i]? = some (rtG r i) := by unfold rtG; rw [List.getElem?_eq_getElem h]; rfl
theorem rtG_mem {r : List Iv} {i : Nat} (h : i < r.length) : rtG r i ∈ r := List.mem_of_getElem? (rtG_eq h)
def runA (r : List Iv) (t : Tb) (i : Nat) : Iv := mulI (rtG r i) (dtI t i)
def runB (r : List Iv) (t : Tb) (i : Nat) : Iv := mulI (rtG r i) (mkI zN (dtI t i).2.2)
def fwd (r : List Iv) (t : Tb) (i : Nat) : Tb :=
  (t.1, t.2.1, t.2.2.set i ((slG t.2.2 i).1, two (slG t.2.2 i).2.1 (addI (gtN t i) (runB r t i)), two (slG t.2.2 i).2.2 (addI (gtN t i) (runA r t i))))
def setG (t : Tb) (x : Iv) : Nat → Tb
  | 0 => (t.1, x, t.2.2)
  | i + 1 => (t.1, t.2.1, t.2.2.set i ((slG t.2.2 i).1, (slG t.2.2 i).2.1, x))
def bwd (r : List Iv) (t : Tb) (i : Nat) : Tb :=
  let t' := setG t (two (gtN t i) (subI (gtN t (i + 1)) (runA r t i))) i
  (t'.1, t'.2.1, t'.2.2.set i ((slG t.2.2 i).1, two (slG t.2.2 i).2.1 (subI (gtN t (i + 1)) (runB r t i)), (slG t.2.2 i).2.2))
theorem fwd_len (r : List Iv) (t : Tb) (i : Nat) : (fwd r t i).2.2.length = t.2.2.length := by simp [fwd]
theorem bwd_len (r : List Iv) (t : Tb) (i : Nat) : (bwd r t i).2.2.length = t.2.2.length := by cases i <;> simp [bwd, setG]
/-- The first pass, from a step on; the second one, down from a step. -/
def fwds (r : List Iv) : Nat → Nat → Tb → Tb
  | 0, _, t => t
  | j + 1, i, t => fwds r j (i + 1) (fwd r t i)
def bwds (r : List Iv) : Nat → Tb → Tb
  | 0, t => t
  | j + 1, t => bwds r j (bwd r t j)
theorem fwds_len (r : List Iv) : ∀ j i t, (fwds r j i t).2.2.length = t.2.2.length
  | 0, _, _ => rfl
  | j + 1, i, t => by rw [fwds, fwds_len r j, fwd_len]
theorem bwds_len (r : List Iv) : ∀ j t, (bwds r j t).2.2.length = t.2.2.length
  | 0, _ => rfl
  | j + 1, t => by rw [bwds, bwds_len r j, bwd_len]

/-! what the steps keep -/
theorem slG_set_self {l : List Sl} {i : Nat} (h : i < l.length) (s : Sl) : slG (l.set i s) i = s := by unfold slG; rw [List.getElem?_set_self h]; rfl
theorem slG_set_ne {l : List Sl} {i j : Nat} (h : i ≠ j) (s : Sl) : slG (l.set i s) j = slG l j := by unfold slG; rw [List.getElem?_set_ne h]
theorem ends_set' {l : List Sl} {i : Nat} {s : Sl} (h : s.1 = (slG l i).1) : ends (l.set i s) = ends l := by
  apply List.ext_getElem?
  intro n
  simp only [ends, List.getElem?_map, List.getElem?_set]
  split
  · rename_i e
    subst e
    split
    · rename_i hl
      rw [slG_eq hl]; simp [h]
    · rename_i hl
      rw [List.getElem?_eq_none (by omega)]
  · rfl
theorem okS_set' : ∀ {l : List Sl} {w : Nm} {i : Nat} {s : Sl}, okS w l = true → s.1 = (slG l i).1 → mayI s.2.1 = true → mayI s.2.2 = true → okS w (l.set i s) = true
  | [], _, _, _, _, _, _, _ => by simp [okS]
  | x :: l, w, 0, s, h, h1, h2, h3 => by
    have h1 : s.1 = x.1 := h1
    simp only [List.set_cons_zero, okS, Bool.and_eq_true] at h ⊢
    rw [h1]
    exact ⟨⟨⟨h.1.1.1, h2⟩, h3⟩, h.2⟩
  | x :: l, w, i + 1, s, h, h1, h2, h3 => by
    simp only [List.set_cons_succ, okS, Bool.and_eq_true] at h ⊢
    exact ⟨h.1, okS_set' h.2 h1 h2 h3⟩
theorem okS_mem {l : List Sl} : ∀ {w : Nm}, okS w l = true → ∀ s ∈ l, mayI s.2.1 = true ∧ mayI s.2.2 = true := by
  induction l with
  | nil => intro w h s hs; cases hs
  | cons x l ih =>
    intro w h s hs
    simp only [okS, Bool.and_eq_true] at h
    rcases List.mem_cons.1 hs with rfl | hs
    · exact ⟨h.1.1.2, h.1.2⟩
    · exact ih h.2 s hs
theorem mayT_iff {t : Tb} : mayT t = true ↔ finite t.1 = true ∧ mayI t.2.1 = true ∧ t.2.2.length ≤ 64 ∧ okS t.1 t.2.2 = true := by
  simp only [mayT, Bool.and_eq_true, decide_eq_true_eq, and_assoc]
theorem mayT_set {t : Tb} {i : Nat} {s : Sl} (h : mayT t = true) (h1 : s.1 = (slG t.2.2 i).1) (h2 : mayI s.2.1 = true) (h3 : mayI s.2.2 = true) : mayT (t.1, t.2.1, t.2.2.set i s) = true := by
  rw [mayT_iff] at *
  exact ⟨h.1, h.2.1, by simpa using h.2.2.1, okS_set' h.2.2.2 h1 h2 h3⟩
theorem mayT_sl {t : Tb} (h : mayT t = true) {i : Nat} (hi : i < t.2.2.length) : mayI (slG t.2.2 i).2.1 = true ∧ mayI (slG t.2.2 i).2.2 = true := okS_mem (mayT_iff.1 h).2.2.2 _ (slG_mem hi)
theorem mayT_fwd {r : List Iv} {t : Tb} {i : Nat} (h : mayT t = true) : mayT (fwd r t i) = true := mayT_set h rfl (mayI_two _ _) (mayI_two _ _)
theorem mayT_setG {t : Tb} {x : Iv} {i : Nat} (h : mayT t = true) (hx : mayI x = true) (hi : i ≤ t.2.2.length) : mayT (setG t x i) = true := by
  cases i with
  | zero =>
    rw [mayT_iff] at *
    exact ⟨h.1, hx, h.2.2⟩
  | succ i => exact mayT_set h rfl (mayT_sl h hi).1 hx
theorem slG_setG {t : Tb} {x : Iv} (i : Nat) : slG (setG t x i).2.2 i = slG t.2.2 i := by
  cases i with
  | zero => rfl
  | succ i => exact slG_set_ne (by omega) _
theorem mayT_bwd {r : List Iv} {t : Tb} {i : Nat} (h : mayT t = true) (hi : i < t.2.2.length) : mayT (bwd r t i) = true := by
  refine mayT_set (t := setG t _ i) (mayT_setG h (mayI_two _ _) (by omega)) ?_ (mayI_two _ _) (mayT_sl h hi).2
  rw [slG_setG]
theorem wfT_set {t : Tb} {i : Nat} {s : Sl} (h : wfT t) (hs : wfS s) : wfT (t.1, t.2.1, t.2.2.set i s) := by
  refine ⟨h.1, h.2.1, fun x hx => ?_⟩
  rcases List.mem_or_eq_of_mem_set hx with hx | rfl
  · exact h.2.2 x hx
  · exact hs
theorem wfI_runA {r : List Iv} {t : Tb} {i : Nat} (hr : ∀ x ∈ r, wfI x) (hi : i < r.length) (h : wfT t) (hi' : i < t.2.2.length) : wfI (runA r t i) := wfI_mulI (hr _ (rtG_mem hi)) (wfI_dt h hi')
theorem wfI_runB {r : List Iv} {t : Tb} {i : Nat} (hr : ∀ x ∈ r, wfI x) (hi : i < r.length) (h : wfT t) (hi' : i < t.2.2.length) : wfI (runB r t i) := wfI_mulI (hr _ (rtG_mem hi)) (wfI_mkI wfN_zN (wfI_dt h hi').2)
theorem wfT_fwd {r : List Iv} {t : Tb} {i : Nat} (hr : ∀ x ∈ r, wfI x) (hi : i < r.length) (h : wfT t) (hi' : i < t.2.2.length) : wfT (fwd r t i) := by
  have hs := h.2.2 _ (slG_mem hi')
  have hg := wfI_gt h (show i ≤ t.2.2.length by omega)
  exact wfT_set h ⟨hs.1, wfI_two hs.2.1 (wfI_addI hg (wfI_runB hr hi h hi')), wfI_two hs.2.2 (wfI_addI hg (wfI_runA hr hi h hi'))⟩
theorem wfT_setG {t : Tb} {x : Iv} {i : Nat} (h : wfT t) (hx : wfI x) (hi : i ≤ t.2.2.length) : wfT (setG t x i) := by
  cases i with
  | zero => exact ⟨h.1, hx, h.2.2⟩
  | succ i =>
    have hs := h.2.2 _ (slG_mem (show i < t.2.2.length from hi))
    exact wfT_set h ⟨hs.1, hs.2.1, hx⟩
theorem wfT_bwd {r : List Iv} {t : Tb} {i : Nat} (hr : ∀ x ∈ r, wfI x) (hi : i < r.length) (h : wfT t) (hi' : i < t.2.2.length) : wfT (bwd r t i) := by
  have hs := h.2.2 _ (slG_mem hi')
  have hg := wfI_gt h (show i ≤ t.2.2.length by omega)
  have hg2 : wfI (gtN t (i + 1)) := hs.2.2
  exact wfT_set (t := setG t _ i) (wfT_setG h (wfI_two hg (wfI_subI hg2 (wfI_runA hr hi h hi'))) (by omega)) ⟨hs.1, wfI_two hs.2.1 (wfI_subI hg2 (wfI_runB hr hi h hi')), hs.2.2⟩
/-! the code's passes -/
theorem set_self {l : List Sl} {i : Nat} (h : i < l.length) (s : Sl) : (l.set i s)[i]? = some s := List.getElem?_set_self h
theorem fwd_loop (k : Nat) (hk : 200 ≤ k) (r : List Iv) (hr : ∀ x ∈ r, wfI x) (D : Nm × Iv × List Sl) : ∀ (j m i : Nat) (t : Tb) (n : Nat), j < m → i + j = n → n = t.2.2.length → n = r.length → mayT t = true → wfT t →
    flow_Contract_l4 k m ((r, (), (), (), (), (), (), (n : Int), (i : Int), ()), ((t.1, (t.2.1, ())), D, t.2.2, (), r, true, ())) = some (Sum.inl ((r, (), (), ()), (((fwds r j i t).1, ((fwds r j i t).2.1, ())), D, (fwds r j i t).2.2, ()))) := by
  intro j
  induction j with
  | zero =>
    intro m i t n hm hi hn hr2 ht hw
    cases m with
    | zero => omega
    | succ m =>
      have : ¬ (i : Int) < (n : Int) := by omega
      simp only [flow_Contract_l4, cond_f this, fwds]
  | succ j ih =>
    intro m i t n hm hi hn hr2 ht hw
    cases m with
    | zero => omega
    | succ m =>
      have hlt : (i : Int) < (n : Int) := by omega
      have hit : i < t.2.2.length := by omega
      have hir : i < r.length := by omega
      have h64 := mayT_len ht
      have next := ih m (i + 1) (fwd r t i) n (by omega) (by omega) (by rw [fwd_len]; exact hn) hr2 (mayT_fwd ht) (wfT_fwd hr hir hw hit)
      have hT := flow_Time_eq k (by omega) t i ht hw hit
      have hg := wfI_gt hw (show i ≤ t.2.2.length by omega)
      have hA := ivop_Mul_eq k (by omega) (hr _ (rtG_mem hir)) (wfI_dt hw hit)
      have hB := ivop_Mul_eq k (by omega) (hr _ (rtG_mem hir)) (wfI_mkI wfN_zN (wfI_dt hw hit).2)
      have sA := ivop_Add_eq k (by omega) hg (wfI_runA hr hir hw hit)
      have sB := ivop_Add_eq k (by omega) hg (wfI_runB hr hir hw hit)
      rw [fwds, ← next]
      obtain ⟨st, inn, l⟩ := t
      simp only at hit hT hA hB hn h64
      simp only [flow_Contract_l4, cond_t hlt, Bool.not_true, cond_false, hT, Option.bind_some, if_pos (Int.natCast_nonneg i), Int.toNat_natCast, slG_eq hit, rtG_eq hir, hA, hB, iv_Make_eq, set_self hit, List.set_set, wrap_succ (show i ≤ 1000000000 by omega)]
      cases i with
      | zero =>
        have c : ¬ ((0 : Nat) : Int) > 0 := by decide
        simp only [cond_f c]
        erw [sA]
        simp only [Option.bind_some, iv_Meet2 k _ _ (show 3 ≤ k by omega)]
        erw [sB]
        simp only [Option.bind_some, iv_Meet2 k _ _ (show 3 ≤ k by omega)]
        rfl
      | succ i =>
        have c : ((i + 1 : Nat) : Int) > 0 := by omega
        have hi1 : i < l.length := by omega
        have e : ∀ s : Sl, (l.set (i + 1) s)[i]? = some (slG l i) := fun s => by rw [List.getElem?_set_ne (by omega)]; exact slG_eq hi1
        simp only [cond_t c, wrap_pred (show i ≤ 1000000000 by omega), if_pos (Int.natCast_nonneg i), Int.toNat_natCast, slG_eq hi1, Option.bind_some, e]
        erw [sA]
        simp only [Option.bind_some, iv_Meet2 k _ _ (show 3 ≤ k by omega), set_self hit, e]
        erw [sB]
        simp only [Option.bind_some, iv_Meet2 k _ _ (show 3 ≤ k by omega), List.set_set]
        rfl
theorem bwd_loop (k : Nat) (hk : 200 ≤ k) (r : List Iv) (hr : ∀ x ∈ r, wfI x) (D : Nm × Iv × List Sl) : ∀ (j m i : Nat) (t : Tb) (n : Nat), j < m → i + j = n → n = t.2.2.length → n = r.length → mayT t = true → wfT t →
    flow_Contract_l5 k m (((), (), (), (), (), (), (n : Int), (i : Int), ()), ((t.1, (t.2.1, ())), D, t.2.2, (), r, false, ())) = some (Sum.inl (((), (), ()), (((bwds r j t).1, ((bwds r j t).2.1, ())), D, (bwds r j t).2.2, ()))) := by
  intro j
  induction j with
  | zero =>
    intro m i t n hm hi hn hr2 ht hw
    cases m with
    | zero => omega
    | succ m =>
      have : ¬ (i : Int) < (n : Int) := by omega
      simp only [flow_Contract_l5, cond_f this, bwds]
  | succ j ih =>
    intro m i t n hm hi hn hr2 ht hw
    cases m with
    | zero => omega
    | succ m =>
      have hlt : (i : Int) < (n : Int) := by omega
      have hit : j < t.2.2.length := by omega
      have hir : j < r.length := by omega
      have h64 := mayT_len ht
      have next := ih m (i + 1) (bwd r t j) n (by omega) (by omega) (by rw [bwd_len]; exact hn) hr2 (mayT_bwd ht hit) (wfT_bwd hr hir hw hit)
      have hT := flow_Time_eq k (by omega) t j ht hw hit
      have hg : wfI (slG t.2.2 j).2.2 := (hw.2.2 _ (slG_mem hit)).2.2
      have hA := ivop_Mul_eq k (by omega) (hr _ (rtG_mem hir)) (wfI_dt hw hit)
      have hB := ivop_Mul_eq k (by omega) (hr _ (rtG_mem hir)) (wfI_mkI wfN_zN (wfI_dt hw hit).2)
      have sA := ivop_Sub_eq k (by omega) hg (wfI_runA hr hir hw hit)
      have sB := ivop_Sub_eq k (by omega) hg (wfI_runB hr hir hw hit)
      rw [bwds, ← next]
      obtain ⟨st, inn, l⟩ := t
      simp only at hit hT hA hB hn h64 sA sB
      have ix : IntKind.i64.wrap (IntKind.i64.wrap ((l.length : Int) - 1) - (i : Int)) = (j : Int) := by
        rw [wrap_small (x := (l.length : Int) - 1) (by omega) (by omega), wrap_small (by omega) (by omega)]; omega
      simp only [flow_Contract_l5, cond_t hlt, Bool.not_false, cond_true, ix, hT, Option.bind_some, if_pos (Int.natCast_nonneg j), Int.toNat_natCast, slG_eq hit, rtG_eq hir, hA, hB, iv_Make_eq, List.set_set, wrap_succ (show i ≤ 1000000000 by omega)]
      cases j with
      | zero =>
        have c : ¬ ((0 : Nat) : Int) > 0 := by decide
        simp only [cond_f c]
        erw [sA]
        simp only [Option.bind_some, iv_Meet2 k _ _ (show 3 ≤ k by omega)]
        erw [sB]
        simp only [Option.bind_some, iv_Meet2 k _ _ (show 3 ≤ k by omega)]
        rfl
      | succ j =>
        have c : ((j + 1 : Nat) : Int) > 0 := by omega
        have hi1 : j < l.length := by omega
        have e : ∀ s : Sl, (l.set j s)[j + 1]? = some (slG l (j + 1)) := fun s => by rw [List.getElem?_set_ne (by omega)]; exact slG_eq hit
        simp only [cond_t c, wrap_pred (show j ≤ 1000000000 by omega), if_pos (Int.natCast_nonneg j), Int.toNat_natCast, slG_eq hi1, Option.bind_some]
        erw [sA]
        simp only [Option.bind_some, iv_Meet2 k _ _ (show 3 ≤ k by omega), e]
        erw [sB]
        simp only [Option.bind_some, iv_Meet2 k _ _ (show 3 ≤ k by omega)]
        rfl
/-! ### the loops of Contract before its passes -/
theorem cfit_loop (k : Nat) (hk : 3 ≤ k) (r : List Iv) (T : Tb) (D2 D : Nm × Iv × List Sl) (st : Nm) (inn : Iv) : ∀ (m : Nat) (s pre : List Sl) (g : Nm × Iv) (I : Nm × Iv × Unit) (A : List Sl), s.length + 1 < m → pre.length + s.length ≤ 1000000 →
    (A = match pre.getLast? with | none => s | some p => fitN pre.dropLast (some p) ++ p :: s) → ∃ g', 
    flow_Contract_l2 k m ((r, (), (), (), (), (), (((pre ++ s).length + 1 : Nat) : Int), (pre.length : Int), (), (), ()), (T, D2, g, D, I, A, (st, inn, pre ++ s), ())) =
      some (Sum.inl ((r, (), (), (), (), ()), (T, D2, D, ((I.1, (if pre = [] then nx g.2 s else I.2.1), ()), g', ())))) ∧ g' = fitN (pre ++ s) none := by
  intro m
  induction m with
  | zero => intro s pre g I A hm; omega
  | succ m IH =>
    intro s pre g I A hm hl hA
    have hlt : (pre.length : Int) < (((pre ++ s).length + 1 : Nat) : Int) := by simp; omega
    have next : ∀ (g2' : Nm × Iv) (I2 : Nm × Iv × Unit) (A2 : List Sl), (s = [] → A2 = fitN pre none) → (∀ x q, s = x :: q → A2 = fitN pre (some x) ++ x :: q) → ∃ g', flow_Contract_l2 k m ((r, (), (), (), (), (), (((pre ++ s).length + 1 : Nat) : Int), ((pre.length + 1 : Nat) : Int), (), (), ()), (T, D2, g2', D, I2, A2, (st, inn, pre ++ s), ())) =
      some (Sum.inl ((r, (), (), (), (), ()), (T, D2, D, ((I2.1, I2.2.1, ()), g', ())))) ∧ g' = fitN (pre ++ s) none := by
      intro g2' I2 A2 h1 h2
      cases s with
      | nil =>
        cases m with
        | zero => simp at hm
        | succ m =>
          have h3 : ¬ ((pre.length + 1 : Nat) : Int) < (((pre ++ []).length + 1 : Nat) : Int) := by simp
          refine ⟨A2, ?_, by simpa using h1 rfl⟩
          simp only [flow_Contract_l2]
          rw [cond_f h3]
      | cons y q =>
        simp only [List.length_cons] at hm hl
        obtain ⟨g', ih, e⟩ := IH q (pre ++ [y]) g2' I2 A2 (by omega) (by simp; omega) (by simpa using h2 y q rfl)
        rw [mid_eq, len_snoc] at ih
        rw [mid_eq] at e
        exact ⟨g', by rw [ih]; simp, e⟩
    simp only [flow_Contract_l2]
    rw [cond_t hlt, wrap_succ (show pre.length ≤ 1000000000 by omega)]
    rcases List.eq_nil_or_concat pre with rfl | ⟨pre, p, rfl⟩
    · simp only [List.getLast?_nil] at hA
      subst hA
      have h0 : ¬ (([] : List Sl).length : Int) > 0 := by simp
      have h00 : ((([] : List Sl).length : Int) == 0) = true := rfl
      simp only [cond_f h0, h00, cond_true, if_true]
      cases A with
      | nil =>
        have h1 : ¬ (([] : List Sl).length : Int) < (([] ++ [] : List Sl).length : Int) := by simp
        simp only [cond_f h1, nx]
        exact next _ (I.1, g.2, ()) _ (fun _ => rfl) (fun _ _ h => by cases h)
      | cons y q =>
        have h1 : (([] : List Sl).length : Int) < (([] ++ y :: q : List Sl).length : Int) := by simp
        rw [cond_t h1, if_pos (Int.natCast_nonneg _), at_mid]
        simp only [Option.bind_some, nx, iv_Meet2 k _ _ hk]
        exact next _ (I.1, two g.2 y.2.1, ()) _ (fun h => by cases h) (fun x q h => by cases h; rfl)
    · simp only [List.concat_eq_append] at *
      rw [len_snoc] at hl
      simp only [List.getLast?_append, List.getLast?_singleton, Option.some_or, List.dropLast_concat] at hA
      subst hA
      have h0 : (((pre ++ [p]).length : Nat) : Int) > 0 := by simp
      have h00 : (((pre ++ [p]).length : Int) == 0) = false := by rw [len_snoc]; exact beq_f (by omega)
      have hne : ¬ (pre ++ [p] = []) := by simp
      have e1 : IntKind.i64.wrap (((pre ++ [p]).length : Int) - 1) = (pre.length : Int) := by rw [len_snoc]; exact wrap_pred (by omega)
      have e2 : (pre ++ [p] ++ s)[Int.toNat (pre.length : Int)]? = some p := by rw [mid_eq]; exact at_mid _ _ _
      simp only [cond_t h0, h00, cond_false, e1, e2, if_pos (Int.natCast_nonneg pre.length), Option.bind_some, iv_Meet2 k _ _ hk, get_mid _ p s _ (fitN_len pre (some p)), set_mid _ p _ s _ (fitN_len pre (some p)), hne, if_false]
      cases s with
      | nil =>
        have h1 : ¬ ((pre ++ [p]).length : Int) < ((pre ++ [p] ++ [] : List Sl).length : Int) := by simp
        simp only [cond_f h1]
        exact next _ (I.1, I.2.1, ()) _ (fun _ => by rw [fitN_snoc]; rfl) (fun _ _ h => by cases h)
      | cons y q =>
        have h1 : ((pre ++ [p]).length : Int) < ((pre ++ [p] ++ y :: q : List Sl).length : Int) := by simp; omega
        simp only [cond_t h1, if_pos (Int.natCast_nonneg (pre ++ [p]).length), at_mid, Option.bind_some]
        exact next _ (I.1, I.2.1, ()) _ (fun h => by cases h) (fun x q h => by cases h; rw [fitN_snoc]; simp [g2])
theorem cvoid_loop (k : Nat) (r : List Iv) (T : Tb) (D2 D3 D : Nm × Iv × List Sl) (I : Nm × Iv × Unit) : ∀ (m : Nat) (s pre : List Sl), s.length < m → pre.length + s.length ≤ 1000000 →
    flow_Contract_l3 k m ((r, (), (), (), (), (), (), (((pre ++ s).length : Nat) : Int), (pre.length : Int), ()), (T, D2, D3, I, D, noneI, pre.map voidS ++ s, ())) = some (Sum.inl ((r, (), (), (), (), (), ()), (T, D2, D3, I, D, (pre ++ s).map voidS, ()))) := by
  intro m
  induction m with
  | zero => intro s pre hm; omega
  | succ m IH =>
    intro s pre hm hl
    cases s with
    | nil => simp [flow_Contract_l3]
    | cons y s =>
      simp only [List.length_cons] at hm hl
      have ih := IH s (pre ++ [y]) (by omega) (by simp; omega)
      simp only [mid_eq, len_snoc] at ih
      simp only [flow_Contract_l3, cond_t (len_lt pre y s), if_pos (Int.natCast_nonneg pre.length), Option.bind_some, get_mid _ _ s pre.length (show (pre.map voidS).length = pre.length by simp), set_mid _ _ _ s pre.length (show (pre.map voidS).length = pre.length by simp), wrap_succ (show pre.length ≤ 1000000000 by omega)]
      rw [show pre.map voidS ++ (y.1, noneI, noneI) :: s = (pre ++ [y]).map voidS ++ s by simp [voidS], ih]
theorem rates_loop (k : Nat) (r : List Iv) (T : Tb) (D : Nm × Iv × List Sl) : ∀ (s pre : List Iv) (m : Nat), s.length < m → pre.length + s.length ≤ 1000000 → ∃ i : Nat,
    flow_Contract_l0 k m ((r, (), (), false, pre ++ s, (), ((pre ++ s).length : Int), (pre.length : Int), ()), (T, D, ())) = some (bif s.all mayI then Sum.inr (Sum.inl ((r, (), (), false, ()), (T, D, ()))) else Sum.inl ((r, (), (), false, (i : Int), ()), (T, D, ())))
  | [], pre, m + 1, hm, hl => ⟨0, by simp [flow_Contract_l0]⟩
  | x :: s, pre, m + 1, hm, hl => by
    simp only [List.length_cons] at hm hl
    obtain ⟨i, ih⟩ := rates_loop k r T D s (pre ++ [x]) m (by omega) (by simp; omega)
    rw [mid_eq, len_snoc] at ih
    cases hx : mayI x
    · refine ⟨pre.length, ?_⟩
      simp only [flow_Contract_l0, cond_t (len_lt pre x s), if_pos (Int.natCast_nonneg pre.length), at_mid, Option.bind_some, flow_Contract_1, iv_May_eq, hx, List.all_cons, Bool.false_and, Bool.not_false, cond_true, cond_false]
    · refine ⟨i, ?_⟩
      simp only [flow_Contract_l0, cond_t (len_lt pre x s), if_pos (Int.natCast_nonneg pre.length), at_mid, Option.bind_some, flow_Contract_1, iv_May_eq, hx, List.all_cons, Bool.true_and, Bool.not_true, cond_false, wrap_succ (show pre.length ≤ 1000000000 by omega)]
      exact ih
/-! ### Contract -/
def contractT (t : Tb) (r : List Iv) : Tb × Int :=
  if mayT t && decide (r.length = t.2.2.length) && r.all mayI then (fitT (bwds r t.2.2.length (fwds r t.2.2.length 0 (fitT t))), 0) else (zT, 1)
theorem wfI_g2 {s : Sl} (h : wfS s) {n : Option Sl} (hn : ∀ x, n = some x → wfS x) : wfI (g2 s n) := by
  cases n with
  | none => exact wfI_two h.2.2 h.2.1
  | some x => exact wfI_two (wfI_two h.2.2 h.2.1) (hn x rfl).2.1
theorem wfS_fitN : ∀ (l : List Sl) (n : Option Sl), (∀ s ∈ l, wfS s) → (∀ x, n = some x → wfS x) → ∀ s ∈ fitN l n, wfS s
  | [], n, h, hn, s, hs => by simp [fitN] at hs
  | y :: l, n, h, hn, s, hs => by
    rw [fitN_cons] at hs
    rcases List.mem_cons.1 hs with rfl | hs
    · have hy := h y (by simp)
      refine ⟨hy.1, hy.2.1, wfI_g2 hy fun x hx => ?_⟩
      cases l with
      | nil => exact hn x (by simpa using hx)
      | cons z l =>
        have : z = x := by simpa using hx
        exact this ▸ h z (by simp)
    · exact wfS_fitN l n (fun s hs => h s (by simp [hs])) hn s hs
theorem wfT_fitU {t : Tb} (h : wfT t) : wfT (fitU t) := by
  refine ⟨h.1, ?_, wfS_fitN _ _ h.2.2 (fun x hx => by cases hx)⟩
  show wfI (nx t.2.1 t.2.2)
  cases hl : t.2.2 with
  | nil => exact h.2.1
  | cons s l => exact wfI_two h.2.1 (h.2.2 s (by rw [hl]; simp)).2.1
theorem wfT_fitT {t : Tb} (h : wfT t) : wfT (fitT t) := by
  unfold fitT
  split
  · split
    · refine ⟨h.1, wfI_none, fun s hs => ?_⟩
      obtain ⟨x, hx, rfl⟩ := List.mem_map.1 hs
      exact ⟨(h.2.2 x hx).1, wfI_none, wfI_none⟩
    · exact wfT_fitU h
  · exact h
theorem mayT_fwds {r : List Iv} : ∀ {j i : Nat} {t : Tb}, mayT t = true → mayT (fwds r j i t) = true
  | 0, _, _, h => h
  | j + 1, i, t, h => mayT_fwds (j := j) (mayT_fwd h)
theorem wfT_fwds {r : List Iv} (hr : ∀ x ∈ r, wfI x) : ∀ {j i : Nat} {t : Tb}, i + j ≤ r.length → r.length = t.2.2.length → wfT t → wfT (fwds r j i t)
  | 0, _, _, _, _, h => h
  | j + 1, i, t, h1, h2, h => wfT_fwds hr (j := j) (by omega) (by rw [fwd_len]; exact h2) (wfT_fwd hr (by omega) h (by omega))
theorem flow_Contract_eq (k : Nat) (hk : 200 ≤ k) (t : Tb) (r : List Iv) (hw : wfT t) (hr : ∀ x ∈ r, wfI x) : flow_Contract k t r = some ((contractT t r).1, (contractT t r).2, ()) := by
  simp only [flow_Contract, tube_May_eq k (show 100 ≤ k by omega), Option.bind_some, contractT]
  cases hm : mayT t
  · rfl
  have hl := mayT_len hm
  rw [Bool.not_true, cond_false]
  by_cases hlen : r.length = t.2.2.length
  · have e : ((r.length : Int) != (t.2.2.length : Int)) = false := by simp [hlen]
    rw [e, cond_false]
    obtain ⟨i, h0⟩ := rates_loop k r t (zN, (false, zN, zN), []) r [] k (by omega) (by simp; omega)
    simp only [List.nil_append, List.length_nil] at h0
    rw [show ((0 : Nat) : Int) = 0 from rfl] at h0
    erw [h0]
    cases ha : r.all mayI
    · simp
    · simp only [cond_true, Option.bind_some, Sum.elim_inr, Sum.elim_inl, cond_false, hm, Bool.not_true, hlen, decide_true, Bool.and_self, if_true]
      have g1 : t.2.2.length * 176 ≤ 140737488355328 := by omega
      rw [if_pos g1, wrap_succ (show t.2.2.length ≤ 1000000000 by omega)]
      have hmU := mayT_fitU hm
      have hwU := wfT_fitU hw
      have hmF := mayT_fitT hm
      have hwF := wfT_fitT hw
      have hlF := fitT_len t
      obtain ⟨g', h2, rfl⟩ := cfit_loop k (by omega) r t (zN, (false, zN, zN), []) (zN, (false, zN, zN), []) t.1 t.2.1 k t.2.2 [] (t.1, t.2.1) (t.1, (t.2.1, ())) t.2.2 (by omega) (by simp; omega) rfl
      simp only [List.nil_append, List.length_nil, if_true] at h2
      rw [show ((0 : Nat) : Int) = 0 from rfl] at h2
      erw [h2]
      simp only [Option.bind_some, Sum.elim_inl, tube_Empty_eq k (show 100 ≤ k by omega)]
      have hU : (t.1, nx t.2.1 t.2.2, fitN t.2.2 none) = fitU t := rfl
      have tail : ∀ u : Tb, u = fitT t → (flow_Contract_l4 k k ((r, (), (), (), (), (), (), (u.2.2.length : Int), 0, ()), ((u.1, (u.2.1, ())), (zN, (false, zN, zN), []), u.2.2, (), r, true, ()))).bind (fun q95 =>
            Sum.elim (fun z156 =>
              (flow_Contract_l5 k k (((), (), (), (), (), (), (z156.2.2.2.1.length : Int), 0, ()), ((z156.2.1.1, (z156.2.1.2.1, ())), (z156.2.2.1.1, (z156.2.2.1.2.1, z156.2.2.1.2.2)), z156.2.2.2.1, (), z156.1.1, false, ()))).bind fun q157 =>
              Sum.elim (fun z158 =>
                (tube_Fit k (z158.2.1.1, z158.2.1.2.1, z158.2.2.2.1)).bind fun r159 =>
                some (r159.1, 0, ()))
               (fun q157' =>
                none) q157)
             (fun q95' =>
              none) q95) = (some (fitT (bwds r t.2.2.length (fwds r t.2.2.length 0 (fitT t))), 0, ()) : Option (HL [(.pair TNm (.pair TIv (.list TSl))), (.int .i64)])) := by
        intro u hu
        subst hu
        have f1 := fwd_loop k hk r hr (zN, (false, zN, zN), []) t.2.2.length k 0 (fitT t) t.2.2.length (by omega) (by omega) hlF.symm hlen.symm hmF hwF
        rw [hlF]
        rw [show ((0 : Nat) : Int) = 0 from rfl] at f1
        rw [f1]
        have l1 := fwds_len r t.2.2.length 0 (fitT t)
        have f2 := bwd_loop k hk r hr (zN, (false, zN, zN), []) t.2.2.length k 0 (fwds r t.2.2.length 0 (fitT t)) t.2.2.length (by omega) (by omega) (by rw [l1, hlF]) hlen.symm (mayT_fwds hmF) (wfT_fwds hr (by omega) (by rw [hlF]; exact hlen) hwF)
        rw [show ((0 : Nat) : Int) = 0 from rfl] at f2
        simp only [Option.bind_some, Sum.elim_inl, l1, hlF]
        erw [f2]
        simp only [Option.bind_some, Sum.elim_inl, tube_Fit_eq k hk]
      rw [hU, hmU]
      cases he : emptyT (fitU t)
      · have hF : fitT t = (t.1, nx t.2.1 t.2.2, fitN t.2.2 none) := by unfold fitT; rw [if_pos hm, if_neg (by rw [he]; decide)]; rfl
        have := tail _ hF.symm
        simp only [Bool.not_true, Bool.or_self, cond_false]
        exact this
      · have hF : fitT t = (t.1, noneI, t.2.2.map voidS) := by unfold fitT; rw [if_pos hm, if_pos he]
        have fl : (fitN t.2.2 none).length = t.2.2.length := fitN_len _ _
        have g2' : (fitN t.2.2 none).length * 176 ≤ 140737488355328 := by rw [fl]; exact g1
        have h3 := cvoid_loop k r t (zN, (false, zN, zN), []) (zN, (false, zN, zN), []) (zN, (false, zN, zN), []) (t.1, (noneI, ())) k (fitN t.2.2 none) [] (by rw [fl]; omega) (by rw [fl]; simp; omega)
        simp only [List.nil_append, List.length_nil, List.map_nil] at h3
        rw [show ((0 : Nat) : Int) = 0 from rfl] at h3
        simp only [Bool.not_true, Bool.false_or, cond_true, iv_None_eq, Option.bind_some, if_pos g2']
        erw [h3]
        simp only [Option.bind_some, Sum.elim_inl]
        rw [fitN_ends]
        have := tail _ hF.symm
        exact this
  · have e : ((r.length : Int) != (t.2.2.length : Int)) = true := by simp; omega
    rw [e, cond_true]
    simp [hlen]
/-! ### what may be handed in: its numbers are of 64 bits -/
theorem okN {x : Nm} (h : okU TNm x) : wfN x := by
  have h1 : (Lit.int .u64 x.2.2.1).wf = true := h.2.2.1
  have := ((Lit.wf_int_iff .u64 x.2.2.1).1 h1).2
  have e : IntKind.max .u64 = 18446744073709551615 := by decide
  rw [e] at this
  unfold wfN
  omega
theorem okI {x : Iv} (h : okU TIv x) : wfI x := ⟨okN h.2.1, okN h.2.2⟩
theorem okIs {l : List Iv} (h : okU (.list TIv) l) : ∀ x ∈ l, wfI x := fun x hx => okI (h.2 x hx)
theorem okS' {x : Sl} (h : okU TSl x) : wfS x := ⟨okN h.1, okI h.2.1, okI h.2.2⟩
theorem okT {t : Tb} (h : okU (.pair TNm (.pair TIv (.list TSl))) t) : wfT t := ⟨okN h.1, okI h.2.1, fun s hs => okS' (h.2.2.2 s hs)⟩
end Go.Proofs.YtmlnohiaagmgnaaGreat.Rf.Pl
