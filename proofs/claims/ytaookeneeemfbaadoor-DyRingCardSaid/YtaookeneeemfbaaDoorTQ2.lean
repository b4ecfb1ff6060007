/- Rounding to 64 bits and a power of two: what it is, and when something is it. Plain, no program in sight. What the sums and products of layer 6, and what they use of layer 5, compute: the exact ones, rounded. What wakes the statements; the calls of numbers that may be. What the document's answers for layer 1 are (pelorusref01), in terms of values and limbs. What the document's answers for layer 1 are (second part: products, bits, quotients, roots). What the document's answers for layers 2, 3, 5 and 6 are, as far as layer 6 needs them: exact numbers, as a sign, limbs and a power of two; the exact sum, the exact product, rounded. What the functions of package whole, and the document's answers for layer 2, compute: numbers with a sign. What the products, quotients and conversions of layer 2 compute; what wakes its statements. -/
import Derived.Test.YtaookeneeemfbaaDoorPAx1
import Derived.Test.YtaookeneeemfbaaDoorTQ1
import Derived.Lib.Mul64
namespace Go.Proofs.YtaookeneeemfbaaDoor.T
set_option linter.unusedVariables false
set_option linter.unusedSimpArgs false
open Go.RowKit Go.Proofs.YtaookeneeemfbaaDoorW.PrintWords Go.Proofs.YtaookeneeemfbaaDoorW.PrintMore

/-- A number: its kind, sign, 64 bits, exponent. -/
abbrev Nm := Int × Bool × Int × Int
/-- A number of a sign, 64 bits of which the highest is 1, and an exponent, kept within the bounds. -/
def bnd (neg : Bool) (m e : Int) (away : Bool) : Nm :=
  if e > 1048576 then (if away = true then (2, neg, 0, 0) else (1, neg, 18446744073709551615, 1048576))
  else if e < -1048576 then (if away = true then (1, neg, 9223372036854775808, -1048576) else (0, false, 0, 0))
  else (1, neg, m, e)
/-- Such a number, one farther if something was cut off, and away. -/
def grw (neg : Bool) (m e : Int) (cut away : Bool) : Nm :=
  if cut = true ∧ away = true then (if m + 1 = 18446744073709551616 then bnd neg 9223372036854775808 (e + 1) away else bnd neg (m + 1) e away) else bnd neg m e away
/-- v * 2^e, above nought, rounded away from nought or not. -/
def rnd (neg : Bool) (v e : Int) (away : Bool) : Nm :=
  if bl v ≤ 64 then bnd neg (v * 2 ^ (64 - bl v).toNat) (e + bl v - 64) away
  else grw neg (v / 2 ^ (bl v - 64).toNat) (e + bl v - 64) (decide (v % 2 ^ (bl v - 64).toNat ≠ 0)) away

theorem p63 : (2 : Int) ^ 63 = 9223372036854775808 := by decide
theorem p64 : (2 : Int) ^ 64 = 18446744073709551616 := by decide
theorem mul_le_p {a b : Int} (t : Nat) (h : a ≤ b) : a * 2 ^ t ≤ b * 2 ^ t := Int.mul_le_mul_of_nonneg_right h (by have := p2_pos t; omega)
theorem mul_lt_p {a b : Int} (t : Nat) (h : a < b) : a * 2 ^ t < b * 2 ^ t := Int.mul_lt_mul_of_pos_right h (p2_pos t)
theorem le_of_p {a b : Int} (t : Nat) (h : a * 2 ^ t ≤ b * 2 ^ t) : a ≤ b := Int.le_of_mul_le_mul_right h (p2_pos t)
theorem lt_of_p {a b : Int} (t : Nat) (h : a * 2 ^ t < b * 2 ^ t) : a < b := Int.lt_of_mul_lt_mul_right h (by have := p2_pos t; omega)
theorem eq_of_p {a b : Int} (t : Nat) (h : a * 2 ^ t = b * 2 ^ t) : a = b := by
  have h1 := le_of_p t (Int.le_of_eq h)
  have h2 := le_of_p t (Int.le_of_eq h.symm)
  omega
theorem pos_of_p {a : Int} (t : Nat) (h : 0 < a * 2 ^ t) : 0 < a := by
  refine lt_of_p (a := 0) t ?_
  omega
/-- How many bits a number has that lies so. -/
theorem bl_in {x q : Int} {t : Nat} (q0 : 9223372036854775808 ≤ q) (q1 : q < 18446744073709551616) (h1 : q * 2 ^ t ≤ x) (h2 : x < (q + 1) * 2 ^ t) : bl x = 64 + t := by
  have a := mul_le_p t q0
  have b := mul_le_p (a := q + 1) (b := 18446744073709551616) t (by omega)
  rw [← p63, ← p2_add] at a
  rw [← p64, ← p2_add] at b
  have := bl_eq (n := x) (m := 63 + t) (by omega) (by rw [show 63 + t + 1 = 64 + t by omega]; omega)
  omega
theorem blp {v : Int} (h : 0 < v) (n : Nat) : bl (v * 2 ^ n) = bl v + n := bl_mul h n
/-- q * 2^E is what is left of v * 2^e, if what is behind the 64 bits is cut off; c: was there something? -/
def Fit (v e q E : Int) (c : Bool) : Prop :=
  9223372036854775808 ≤ q ∧ q < 18446744073709551616 ∧ ∃ s t : Nat, e - s = E - t ∧ q * 2 ^ t ≤ v * 2 ^ s ∧ v * 2 ^ s < (q + 1) * 2 ^ t ∧ (c = true ↔ q * 2 ^ t ≠ v * 2 ^ s)
theorem rnd_fit {v e q E : Int} {c : Bool} (h : Fit v e q E c) (neg away : Bool) : rnd neg v e away = grw neg q E c away := by
  obtain ⟨q0, q1, s, t, he, h1, h2, hc⟩ := h
  have hv : 0 < v := by
    have := Int.mul_pos (show 0 < q by omega) (p2_pos t)
    exact pos_of_p s (by omega)
  have hb := bl_in q0 q1 h1 h2
  rw [blp hv] at hb
  unfold rnd
  by_cases hts : t ≤ s
  · obtain ⟨d, rfl⟩ := Nat.le.dest hts
    rw [if_pos (by omega)]
    rw [show (64 - bl v).toNat = d by omega, show e + bl v - 64 = E by omega]
    rw [Nat.add_comm t d, p2_add, ← Int.mul_assoc] at h1 h2 hc
    have e1 := le_of_p t h1
    have e2 := lt_of_p t h2
    have e3 : v * 2 ^ d = q := by omega
    rw [e3] at hc ⊢
    unfold grw
    rw [if_neg (fun hh => hc.1 hh.1 rfl)]
  · obtain ⟨d, rfl⟩ := Nat.le.dest (show s ≤ t by omega)
    rw [if_neg (by omega)]
    rw [show (bl v - 64).toNat = d by omega, show e + bl v - 64 = E by omega]
    rw [Nat.add_comm s d, p2_add, ← Int.mul_assoc] at h1 hc
    rw [Nat.add_comm s d, p2_add, ← Int.mul_assoc] at h2
    have e1 := le_of_p s h1
    have e2 := lt_of_p s h2
    have e4 : (v - q * 2 ^ d) = v - 2 ^ d * q := by rw [Int.mul_comm q]
    have hp := p2_pos d
    rw [Int.add_mul, Int.one_mul] at e2
    have e5 : v = (v - q * 2 ^ d) + 2 ^ d * q := by omega
    have e6 : v / 2 ^ d = q := by
      rw [e5, Int.add_mul_ediv_left _ _ (by omega), Int.ediv_eq_zero_of_lt (by omega) (by omega)]
      omega
    have e7 : v % 2 ^ d = v - q * 2 ^ d := by
      conv => lhs; rw [e5]
      rw [Int.add_mul_emod_self_left, Int.emod_eq_of_lt (by omega) (by omega)]
    rw [e6, e7]
    congr 1
    rw [Bool.eq_iff_iff, decide_eq_true_iff, hc]
    constructor
    · intro h3 h4; exact h3 (by have := eq_of_p s h4; omega)
    · intro h3 h4; exact h3 (by rw [show v = q * 2 ^ d by omega])
theorem fit_ex {v : Int} (e : Int) (hv : 0 < v) : ∃ q E c, Fit v e q E c := by
  have hb := bl_pos hv
  have hg := bl_ge hv
  have hl := bl_lt (n := v) (by omega)
  by_cases h : bl v ≤ 64
  · obtain ⟨d, hd⟩ : ∃ d : Nat, bl v = 64 - d := ⟨(64 - bl v).toNat, by omega⟩
    refine ⟨v * 2 ^ d, e - d, false, ?_, ?_, d, 0, by omega, by simp, ?_, by simp⟩
    · have := mul_le_p d hg
      rw [← p2_add, show (bl v - 1).toNat + d = 63 by omega, p63] at this
      exact this
    · have := mul_lt_p d hl
      rw [← p2_add, show (bl v).toNat + d = 64 by omega, p64] at this
      exact this
    · rw [Int.pow_zero, Int.mul_one]; omega
  · obtain ⟨d, hd⟩ : ∃ d : Nat, bl v = 64 + d := ⟨(bl v - 64).toNat, by omega⟩
    have hp := p2_pos d
    have e1 := Int.mul_ediv_add_emod v (2 ^ d)
    have e2 := Int.emod_nonneg v (b := 2 ^ d) (by omega)
    have e3 := Int.emod_lt_of_pos v hp
    rw [Int.mul_comm] at e1
    rw [show (bl v - 1).toNat = 63 + d by omega, p2_add, p63] at hg
    rw [show (bl v).toNat = 64 + d by omega, p2_add, p64] at hl
    refine ⟨v / 2 ^ d, e + d, decide (v % 2 ^ d ≠ 0), ?_, ?_, 0, d, by omega, by rw [Int.pow_zero, Int.mul_one]; omega, ?_, ?_⟩
    · exact Int.le_ediv_of_mul_le hp hg
    · exact Int.ediv_lt_of_lt_mul hp hl
    · rw [Int.pow_zero, Int.mul_one, Int.add_mul, Int.one_mul]; omega
    · rw [Int.pow_zero, Int.mul_one, decide_eq_true_iff]
      constructor
      · intro h3 h4; omega
      · intro h3 h4; exact h3 (by omega)
theorem Fit.pos {v e q E : Int} {c : Bool} (h : Fit v e q E c) : 0 < v := by
  obtain ⟨q0, q1, s, t, he, h1, h2, hc⟩ := h
  have := Int.mul_pos (show 0 < q by omega) (p2_pos t)
  exact pos_of_p s (by omega)
/-- A common factor plays no part. -/
theorem Fit.scale {v e q E : Int} {c : Bool} (j : Nat) (h : Fit v (e + j) q E c) : Fit (v * 2 ^ j) e q E c := by
  obtain ⟨q0, q1, s, t, he, h1, h2, hc⟩ := h
  have r : ∀ x : Int, x * 2 ^ (t + j) = x * 2 ^ t * 2 ^ j := fun x => by rw [p2_add, Int.mul_assoc]
  have r2 : v * 2 ^ j * 2 ^ s = v * 2 ^ s * 2 ^ j := by rw [Int.mul_right_comm]
  refine ⟨q0, q1, s, t + j, by omega, ?_, ?_, ?_⟩
  · rw [r, r2]; exact mul_le_p j h1
  · rw [r, r2]; exact mul_lt_p j h2
  · rw [r, r2, hc]
    constructor
    · intro h3 h4; exact h3 (eq_of_p j h4)
    · intro h3 h4; exact h3 (by rw [h4])
theorem rnd_scale {v : Int} (hv : 0 < v) (e : Int) (j : Nat) (neg away : Bool) : rnd neg (v * 2 ^ j) e away = rnd neg v (e + j) away := by
  obtain ⟨q, E, c, h⟩ := fit_ex (e + j) hv
  rw [rnd_fit h, rnd_fit h.scale]
/-! what is left of a number that is moved down -/
theorem div_fit {v e S : Int} {d : Nat} {c : Bool} (s0 : 9223372036854775808 ≤ S) (s1 : S < 18446744073709551616) (hs : v / 2 ^ d = S) (hc : c = true ↔ v % 2 ^ d ≠ 0) : Fit v e S (e + d) c := by
  have hp := p2_pos d
  have e1 := Int.mul_ediv_add_emod v (2 ^ d)
  have e2 := Int.emod_nonneg v (b := 2 ^ d) (by omega)
  have e3 := Int.emod_lt_of_pos v hp
  rw [hs, Int.mul_comm] at e1
  refine ⟨s0, s1, 0, d, by omega, by rw [Int.pow_zero, Int.mul_one]; omega, by rw [Int.pow_zero, Int.mul_one, Int.add_mul, Int.one_mul]; omega, ?_⟩
  rw [Int.pow_zero, Int.mul_one, hc]
  constructor
  · intro h3 h4; omega
  · intro h3 h4; exact h3 (by omega)
theorem rnd_self {m : Int} (m0 : 9223372036854775808 ≤ m) (m1 : m < 18446744073709551616) (neg : Bool) (e : Int) (away : Bool) : rnd neg m e away = bnd neg m e away := by
  rw [rnd_fit (q := m) (E := e) (c := false) ⟨m0, m1, 0, 0, by omega, Int.le_refl _, by rw [Int.pow_zero]; omega, by simp⟩]
  unfold grw
  rw [if_neg (by simp)]
theorem bnd_in {e : Int} (e0 : -1048576 ≤ e) (e1 : e ≤ 1048576) (neg : Bool) (m : Int) (away : Bool) : bnd neg m e away = (1, neg, m, e) := by
  unfold bnd
  rw [if_neg (by omega), if_neg (by omega)]
/-! what is a number that may be -/
def mayP (n : Nm) : Prop := (n.1 = 0 ∧ n.2.1 = false ∧ n.2.2.1 = 0 ∧ n.2.2.2 = 0) ∨ (n.1 = 1 ∧ 9223372036854775808 ≤ n.2.2.1 ∧ n.2.2.1 < 18446744073709551616 ∧ -1048576 ≤ n.2.2.2 ∧ n.2.2.2 ≤ 1048576) ∨ (n.1 = 2 ∧ n.2.2.1 = 0 ∧ n.2.2.2 = 0)
theorem may_fin {n : Nm} (h : mayP n) (h1 : n.1 = 1) : 9223372036854775808 ≤ n.2.2.1 ∧ n.2.2.1 < 18446744073709551616 ∧ -1048576 ≤ n.2.2.2 ∧ n.2.2.2 ≤ 1048576 := by
  rcases h with ⟨h2, _⟩ | ⟨_, h2⟩ | ⟨h2, _⟩
  · omega
  · exact h2
  · omega
theorem bnd_may {neg : Bool} {m e : Int} {away : Bool} (h0 : 9223372036854775808 ≤ m) (h1 : m < 18446744073709551616) : mayP (bnd neg m e away) := by
  unfold bnd
  split
  · split
    · exact .inr (.inr ⟨rfl, rfl, rfl⟩)
    · exact .inr (.inl ⟨rfl, by simp, by simp, by simp, by simp⟩)
  · split
    · split
      · exact .inr (.inl ⟨rfl, by simp, by simp, by simp, by simp⟩)
      · exact .inl ⟨rfl, rfl, rfl, rfl⟩
    · exact .inr (.inl ⟨rfl, h0, h1, by simp only; omega, by simp only; omega⟩)
theorem grw_may {neg : Bool} {m e : Int} {cut away : Bool} (h0 : 9223372036854775808 ≤ m) (h1 : m < 18446744073709551616) : mayP (grw neg m e cut away) := by
  unfold grw
  split
  · split
    · exact bnd_may (by omega) (by omega)
    · exact bnd_may (by omega) (by omega)
  · exact bnd_may h0 h1
theorem rnd_may {neg : Bool} {v e : Int} {away : Bool} (hv : 0 < v) : mayP (rnd neg v e away) := by
  obtain ⟨q, E, c, h⟩ := fit_ex e hv
  rw [rnd_fit h]
  exact grw_may h.1 h.2.1
/-! the opposite -/
def ngv (n : Nm) : Nm := if n.1 = 0 then (0, false, 0, 0) else (n.1, !n.2.1, n.2.2.1, n.2.2.2)
theorem bnd_neg (neg : Bool) (m e : Int) (away : Bool) : ngv (bnd neg m e away) = bnd (!neg) m e away := by
  unfold bnd
  split
  · split <;> rfl
  · split
    · split <;> rfl
    · rfl
theorem grw_neg (neg : Bool) (m e : Int) (cut away : Bool) : ngv (grw neg m e cut away) = grw (!neg) m e cut away := by
  unfold grw
  split
  · split <;> exact bnd_neg _ _ _ _
  · exact bnd_neg _ _ _ _
theorem rnd_neg (neg : Bool) (v e : Int) (away : Bool) : ngv (rnd neg v e away) = rnd (!neg) v e away := by
  unfold rnd
  split
  · exact bnd_neg _ _ _ _
  · exact grw_neg _ _ _ _ _
theorem ngv_ngv {n : Nm} (h : mayP n) : ngv (ngv n) = n := by
  obtain ⟨a, b, c, d⟩ := n
  rcases h with ⟨h1, h2, h3, h4⟩ | ⟨h1, _⟩ | ⟨h1, _⟩ <;> simp only at h1
  · simp only at h2 h3 h4; subst h1 h2 h3 h4; rfl
  · subst h1; simp [ngv]
  · subst h1; simp [ngv]
theorem ngv_may {n : Nm} (h : mayP n) : mayP (ngv n) := by
  obtain ⟨a, b, c, d⟩ := n
  rcases h with ⟨h1, h2, h3, h4⟩ | ⟨h1, h2⟩ | ⟨h1, h2⟩ <;> simp only at h1
  · subst h1; exact .inl ⟨rfl, rfl, rfl, rfl⟩
  · subst h1; exact .inr (.inl ⟨rfl, h2⟩)
  · subst h1; exact .inr (.inr ⟨rfl, h2⟩)
/-! sums and products -/
/-- With the sign. -/
def sg (neg : Bool) (m : Int) : Int := if neg = true then -m else m
/-- An exact number, a whole one times a power of two, rounded. -/
def rnz (s e : Int) (up : Bool) : Nm := if s = 0 then (0, false, 0, 0) else rnd (decide (s < 0)) s.natAbs e (up != decide (s < 0))
/-- The exact sum of two finite ones, of which f is not above the exponents. -/
def exs (a b : Nm) (f : Int) : Int := sg a.2.1 a.2.2.1 * 2 ^ (a.2.2.2 - f).toNat + sg b.2.1 b.2.2.1 * 2 ^ (b.2.2.2 - f).toNat
/-- The sum of two that may be. -/
def addv (a b : Nm) (up : Bool) : Nm :=
  if a.1 = 2 ∧ b.1 = 2 ∧ a.2.1 ≠ b.2.1 then (2, !up, 0, 0)
  else if a.1 = 2 ∨ b.1 = 0 then a
  else if b.1 = 2 ∨ a.1 = 0 then b
  else rnz (exs a b (min a.2.2.2 b.2.2.2)) (min a.2.2.2 b.2.2.2) up
/-- The product of two that may be. -/
def mulv (a b : Nm) (up : Bool) : Nm :=
  if a.1 = 0 ∨ b.1 = 0 then (0, false, 0, 0)
  else if a.1 = 2 ∨ b.1 = 2 then (2, a.2.1 != b.2.1, 0, 0)
  else rnd (a.2.1 != b.2.1) (a.2.2.1 * b.2.2.1) (a.2.2.2 + b.2.2.2) (up != (a.2.1 != b.2.1))
theorem rnz_may (s e : Int) (up : Bool) : mayP (rnz s e up) := by
  unfold rnz
  split
  · exact .inl ⟨rfl, rfl, rfl, rfl⟩
  · exact rnd_may (by omega)
theorem rnz_neg (s e : Int) (up : Bool) : ngv (rnz s e up) = rnz (-s) e (!up) := by
  unfold rnz
  by_cases h : s = 0
  · rw [if_pos h, if_pos (by omega)]; rfl
  · rw [if_neg h, if_neg (by omega), rnd_neg, Int.natAbs_neg]
    have : decide (-s < 0) = !decide (s < 0) := by
      by_cases h2 : s < 0
      · rw [decide_eq_true h2, decide_eq_false (by omega)]; rfl
      · rw [decide_eq_false h2, decide_eq_true (by omega)]; rfl
    rw [this]
    cases up <;> cases decide (s < 0) <;> rfl
theorem rnz_scale (s e : Int) (j : Nat) (up : Bool) : rnz (s * 2 ^ j) e up = rnz s (e + j) up := by
  have hp := p2_pos j
  unfold rnz
  by_cases h : s = 0
  · rw [if_pos h, if_pos (by rw [h]; omega)]
  · have h1 : s * 2 ^ j ≠ 0 := Int.mul_ne_zero h (by omega)
    have h2 : decide (s * 2 ^ j < 0) = decide (s < 0) := by
      by_cases h2 : s < 0
      · rw [decide_eq_true h2, decide_eq_true (Int.mul_neg_of_neg_of_pos h2 hp)]
      · rw [decide_eq_false h2, decide_eq_false]
        have := Int.mul_pos (show 0 < s by omega) hp
        omega
    have h3 : ((s * 2 ^ j).natAbs : Int) = (s.natAbs : Int) * 2 ^ j := by
      rw [Int.natAbs_mul, Int.natCast_mul]
      rw [show ((((2 : Int) ^ j).natAbs : Nat) : Int) = 2 ^ j from Int.natAbs_of_nonneg (by omega)]
    rw [if_neg h1, if_neg h, h2, h3, rnd_scale (by omega)]
theorem exs_scale (a b : Nm) (f : Int) (j : Nat) (ha : f ≤ a.2.2.2) (hb : f ≤ b.2.2.2) : exs a b (f - j) = exs a b f * 2 ^ j := by
  unfold exs
  rw [show (a.2.2.2 - (f - j)).toNat = (a.2.2.2 - f).toNat + j by omega, show (b.2.2.2 - (f - j)).toNat = (b.2.2.2 - f).toNat + j by omega, p2_add, p2_add, Int.add_mul, Int.mul_assoc, Int.mul_assoc]
theorem exs_comm (a b : Nm) (f : Int) : exs a b f = exs b a f := by unfold exs; rw [Int.add_comm]
theorem addv_comm (a b : Nm) (up : Bool) (ha : mayP a) (hb : mayP b) : addv a b up = addv b a up := by
  obtain ⟨a1, a2, a3, a4⟩ := a
  obtain ⟨b1, b2, b3, b4⟩ := b
  unfold addv
  rw [exs_comm, Int.min_comm]
  rcases ha with ⟨h1, h2, h3, h4⟩ | ⟨h1, h2⟩ | ⟨h1, h2, h3⟩ <;> rcases hb with ⟨g1, g2, g3, g4⟩ | ⟨g1, g2⟩ | ⟨g1, g2, g3⟩ <;> simp only at h1 g1 <;> subst h1 g1 <;> simp_all
  all_goals (cases a2 <;> cases b2 <;> simp)
theorem sg_neg (n : Bool) (m : Int) : sg (!n) m = -sg n m := by cases n <;> simp [sg]
theorem addv_may {a b : Nm} (up : Bool) (ha : mayP a) (hb : mayP b) : mayP (addv a b up) := by
  unfold addv
  split
  · exact .inr (.inr ⟨rfl, rfl, rfl⟩)
  split
  · exact ha
  split
  · exact hb
  exact rnz_may _ _ _
theorem addv_neg (a b : Nm) (up : Bool) (ha : mayP a) (hb : mayP b) : ngv (addv a b up) = addv (ngv a) (ngv b) (!up) := by
  have e : ∀ f, a.1 = 1 → b.1 = 1 → exs (ngv a) (ngv b) f = -exs a b f := fun f h1 h2 => by
    unfold exs ngv
    rw [if_neg (by omega), if_neg (by omega), sg_neg, sg_neg]
    simp only [Int.neg_mul]
    omega
  obtain ⟨a1, a2, a3, a4⟩ := a
  obtain ⟨b1, b2, b3, b4⟩ := b
  unfold addv
  rcases ha with ⟨h1, h2, h3, h4⟩ | ⟨h1, h2⟩ | ⟨h1, h2, h3⟩ <;> rcases hb with ⟨g1, g2, g3, g4⟩ | ⟨g1, g2⟩ | ⟨g1, g2, g3⟩ <;> simp only at h1 g1 <;> subst h1 g1 <;> simp_all [ngv]
  · exact rnz_neg _ _ _
  · cases a2 <;> cases b2 <;> simp
theorem mulv_comm (a b : Nm) (up : Bool) : mulv a b up = mulv b a up := by
  unfold mulv
  rw [Int.mul_comm, Int.add_comm a.2.2.2]
  have e : (a.2.1 != b.2.1) = (b.2.1 != a.2.1) := by cases a.2.1 <;> cases b.2.1 <;> rfl
  rw [e]
  simp only [or_comm]
theorem mulv_may {a b : Nm} (up : Bool) (ha : mayP a) (hb : mayP b) : mayP (mulv a b up) := by
  unfold mulv
  split
  · exact .inl ⟨rfl, rfl, rfl, rfl⟩
  split
  · exact .inr (.inr ⟨rfl, rfl, rfl⟩)
  rcases ha with ⟨h1, h2, h3, h4⟩ | ⟨h1, h2, h3⟩ | ⟨h1, h2, h3⟩ <;> rcases hb with ⟨g1, g2, g3, g4⟩ | ⟨g1, g2, g3⟩ | ⟨g1, g2, g3⟩ <;> try omega
  exact rnd_may (Int.mul_pos (by omega) (by omega))
theorem mulv_neg (a b : Nm) (up : Bool) (ha : mayP a) (hb : mayP b) : ngv (mulv a b up) = mulv (ngv a) b (!up) := by
  obtain ⟨a1, a2, a3, a4⟩ := a
  obtain ⟨b1, b2, b3, b4⟩ := b
  unfold mulv
  rcases ha with ⟨h1, h2, h3, h4⟩ | ⟨h1, h2⟩ | ⟨h1, h2, h3⟩ <;> rcases hb with ⟨g1, g2, g3, g4⟩ | ⟨g1, g2⟩ | ⟨g1, g2, g3⟩ <;> simp only at h1 g1 <;> subst h1 g1 <;> simp [ngv]
  · cases a2 <;> cases b2 <;> cases up <;> exact rnd_neg _ _ _ _
  all_goals cases a2 <;> cases b2 <;> rfl
end Go.Proofs.YtaookeneeemfbaaDoor.T

namespace Go.Proofs.YtaookeneeemfbaaDoor.T
set_option linter.unusedVariables false
set_option linter.unusedSimpArgs false
open Go.RowKit Go.Proofs.YtaookeneeemfbaaDoorW.PrintWords Go.Proofs.YtaookeneeemfbaaDoorW.PrintMore Go.Proofs.YtaookeneeemfbaaDoor.PA

instance (n : Nm) : Decidable (mayP n) := by unfold mayP; infer_instance
/-- One that may be. -/
def fairv (n : Nm) : Nm := if mayP n then n else (0, false, 0, 0)
theorem fairv_may (n : Nm) : mayP (fairv n) := by
  unfold fairv
  split
  · assumption
  · exact .inl ⟨rfl, rfl, rfl, rfl⟩
theorem fairv_of {n : Nm} (h : mayP n) : fairv n = n := if_pos h
/-! 64 bits moved down, as 128 bits and whether more was cut off -/
theorem wrap_u64 (x : Int) : IntKind.u64.wrap x = x % 18446744073709551616 := by rw [IntKind.wrap_u64]
theorem shl64 {x : Int} {s : Nat} (hs : s ≤ 64) : shl .u64 x (s : Int) = (x * 2 ^ s) % 18446744073709551616 := by
  unfold shl
  have hmn : min (s : Int).toNat IntKind.u64.bits = s := by
    have : IntKind.u64.bits = 64 := rfl
    rw [this, Int.toNat_natCast]
    omega
  rw [hmn, wrap_u64]
theorem low_a {m : Int} {n j : Nat} (h : n + j = 64) : m * 18446744073709551616 / 2 ^ n = m * 2 ^ j ∧ m * 18446744073709551616 % 2 ^ n = 0 ∧ m / 2 ^ n = m * 2 ^ j / 18446744073709551616 := by
  have hW : (18446744073709551616 : Int) = 2 ^ j * 2 ^ n := by rw [← p2_add, Nat.add_comm, h, p64]
  have hn := p2_pos n
  have hj := p2_pos j
  rw [hW, ← Int.mul_assoc, Int.mul_ediv_cancel _ (by omega), Int.mul_emod_left]
  refine ⟨rfl, rfl, ?_⟩
  rw [Int.mul_comm (2 ^ j) (2 ^ n), Int.mul_ediv_mul_of_pos_left _ _ hj]
theorem em_mul (m a : Int) {b : Int} (hb : 0 < b) : (m * b) % (a * b) = (m % a) * b := by rw [Int.mul_comm m, Int.mul_comm a, Int.mul_emod_mul_of_pos _ _ hb, Int.mul_comm]
theorem low_b {m : Int} {n i : Nat} (h : n = i + 64) : m * 18446744073709551616 / 2 ^ n = m / 2 ^ i ∧ m * 18446744073709551616 % 2 ^ n = (m % 2 ^ i) * 18446744073709551616 := by
  subst h
  rw [p2_add, p64, Int.mul_ediv_mul_of_pos_left _ _ (by decide), em_mul _ _ (by decide)]
  exact ⟨rfl, rfl⟩
theorem low_c {m : Int} {i j : Nat} (h : i + j = 64) : (m * 2 ^ j) % 18446744073709551616 = (m % 2 ^ i) * 2 ^ j := by
  have hW : (18446744073709551616 : Int) = 2 ^ i * 2 ^ j := by rw [← p2_add, h, p64]
  rw [hW, em_mul _ _ (p2_pos j)]
/-! the sum of two of one sign -/
theorem low_hi {hi lo m : Int} {n : Nat} (m0 : 0 ≤ m) (l0 : 0 ≤ lo) (l1 : lo < 18446744073709551616) (h : hi * 18446744073709551616 + lo = m * 18446744073709551616 / 2 ^ n) :
    m / 2 ^ n = hi ∧ (m % 2 ^ n ≠ 0 ↔ lo ≠ 0 ∨ m * 18446744073709551616 % 2 ^ n ≠ 0) := by
  have hp := p2_pos n
  have a1 : m / 2 ^ n = hi := by
    have : m * 18446744073709551616 / 2 ^ n / 18446744073709551616 = m / 2 ^ n := by
      rw [Int.ediv_ediv_of_nonneg (by omega), Int.mul_ediv_mul_of_pos_left _ _ (by decide)]
    rw [← this, ← h]
    omega
  have a2 := Int.mul_ediv_add_emod m (2 ^ n)
  have a3 := Int.mul_ediv_add_emod (m * 18446744073709551616) (2 ^ n)
  rw [← h] at a3
  rw [a1] at a2
  have r0 := Int.emod_nonneg (m * 18446744073709551616) (b := 2 ^ n) (by omega)
  have t0 := Int.emod_nonneg m (b := 2 ^ n) (by omega)
  rw [Int.mul_add, ← Int.mul_assoc] at a3
  have b0 := Int.mul_nonneg (show (0 : Int) ≤ 2 ^ n by omega) l0
  have key : (m % 2 ^ n) * 18446744073709551616 = 2 ^ n * lo + m * 18446744073709551616 % 2 ^ n := by omega
  refine ⟨a1, ?_⟩
  constructor
  · intro q1
    by_cases q2 : lo = 0
    · refine .inr fun q3 => q1 ?_
      rw [q2, q3] at key
      omega
    · exact .inl q2
  · rintro (q | q) q1
    · rw [q1] at key
      have := Int.mul_pos hp (show 0 < lo by omega)
      omega
    · rw [q1] at key
      omega
theorem sum_div {am bm : Int} {d : Nat} : (am * 2 ^ d + bm) / 2 ^ d = am + bm / 2 ^ d ∧ (am * 2 ^ d + bm) % 2 ^ d = bm % 2 ^ d := by
  have hp := p2_pos d
  rw [Int.mul_comm am, Int.add_comm]
  rw [Int.add_mul_ediv_left _ _ (by omega), Int.add_mul_emod_self_left, Int.add_comm]
  exact ⟨rfl, rfl⟩
theorem div_succ (v : Int) (d : Nat) : v / 2 ^ (d + 1) = v / 2 ^ d / 2 ∧ (v % 2 ^ (d + 1) ≠ 0 ↔ v / 2 ^ d % 2 ≠ 0 ∨ v % 2 ^ d ≠ 0) := by
  have hp := p2_pos d
  have e1 : v / 2 ^ (d + 1) = v / 2 ^ d / 2 := by
    rw [Int.ediv_ediv_of_nonneg (by omega), Int.pow_succ]
  refine ⟨e1, ?_⟩
  have a1 := Int.mul_ediv_add_emod v (2 ^ (d + 1))
  have a2 := Int.mul_ediv_add_emod v (2 ^ d)
  have a3 := Int.mul_ediv_add_emod (v / 2 ^ d) 2
  have r0 := Int.emod_nonneg v (b := 2 ^ d) (by omega)
  have r1 := Int.emod_nonneg (v / 2 ^ d) (b := 2) (by omega)
  rw [e1, p2_succ] at a1
  rw [p2_succ]
  generalize v / 2 ^ d / 2 = Q at *
  generalize v / 2 ^ d % 2 = R at *
  generalize v / 2 ^ d = q at *
  subst a3
  have b := Int.mul_nonneg (show (0 : Int) ≤ 2 ^ d by omega) r1
  have key : v % (2 * 2 ^ d) = 2 ^ d * R + v % 2 ^ d := by
    rw [Int.mul_add, ← Int.mul_assoc, Int.mul_comm (2 ^ d) 2] at a2
    omega
  rw [key]
  constructor
  · intro q1
    by_cases q2 : R = 0
    · refine .inr fun q3 => q1 (by rw [q2, q3]; omega)
    · exact .inl q2
  · rintro (q | q) q1
    · have := Int.mul_pos hp (show 0 < R by omega)
      omega
    · omega
theorem and_one {x : Int} (h0 : 0 ≤ x) (h1 : x < 18446744073709551616) : Go.bits .and .u64 x 1 = x % 2 := by
  have := bits_mask .u64 64 (by decide) wraps_u64 1 (by decide) x h0 (by rw [p64]; exact h1)
  simpa using this
theorem and_low {x : Int} (h0 : 0 ≤ x) (h1 : x < 18446744073709551616) : Go.bits .and .u64 x 4294967295 = x % 4294967296 := by
  have := bits_mask .u64 64 (by decide) wraps_u64 32 (by decide) x h0 (by rw [p64]; exact h1)
  simpa using this
theorem or_top {x : Int} (h0 : 0 ≤ x) (h1 : x < 9223372036854775808) : Go.bits .or .u64 x 9223372036854775808 = x + 9223372036854775808 := by
  rw [bits_or_comm, bits_join .u64 64 (by decide) wraps_u64 63 9223372036854775808 x (by decide) (by decide) (by decide) h0 (by rw [p63]; exact h1) (by rw [p64]; omega), Int.add_comm]
theorem tup {α β γ δ : Type} (p : α × β × γ × δ) : (p.1, p.2.1, p.2.2.1, p.2.2.2) = p := rfl
theorem or_sum {h l : Int} {b j : Nat} (hb : b + j = 64) (h0 : 0 ≤ h) (h1 : h < 2 ^ j) (l0 : 0 ≤ l) (l1 : l < 2 ^ b) : Go.bits .or .u64 (h * 2 ^ b) l = h * 2 ^ b + l ∧ h * 2 ^ b < 18446744073709551616 := by
  have hp := p2_pos b
  have hW : (18446744073709551616 : Int) = 2 ^ j * 2 ^ b := by rw [← p2_add, Nat.add_comm, hb, p64]
  have a1 := mul_lt_p b h1
  rw [← hW] at a1
  have a2 := Int.mul_nonneg h0 (show (0 : Int) ≤ 2 ^ b by omega)
  have a3 := p2_mono (i := b) (j := 64) (by omega)
  rw [p64] at a3
  refine ⟨?_, a1⟩
  exact bits_join .u64 64 (by decide) wraps_u64 b _ _ a2 (Int.mul_emod_left _ _) (by rw [p64]; exact a1) l0 l1 (by rw [p64]; omega)
/-- Two words, moved up so that the highest bit is 1. -/
theorem norm128 {hi lo : Int} {b j : Nat} (hb : b + j = 64) (h0 : 0 < hi) (hbl : bl hi = j) (l0 : 0 ≤ lo) (l1 : lo < 18446744073709551616) :
    9223372036854775808 ≤ hi * 2 ^ b + lo / 2 ^ j ∧ hi * 2 ^ b + lo / 2 ^ j < 18446744073709551616 ∧ (hi * 2 ^ b + lo / 2 ^ j) * 18446744073709551616 + (lo * 2 ^ b) % 18446744073709551616 = (hi * 18446744073709551616 + lo) * 2 ^ b ∧
    (lo * 2 ^ b) % 18446744073709551616 + 2 ^ b ≤ 18446744073709551616 ∧ 0 ≤ (lo * 2 ^ b) % 18446744073709551616 ∧
    Go.bits .or .u64 ((hi * 2 ^ b) % 18446744073709551616) (lo / 2 ^ j) = hi * 2 ^ b + lo / 2 ^ j := by
  have hW : (18446744073709551616 : Int) = 2 ^ j * 2 ^ b := by rw [← p2_add, Nat.add_comm, hb, p64]
  have pb := p2_pos b
  have pj := p2_pos j
  have g := bl_ge h0
  have l := bl_lt (n := hi) (by omega)
  rw [hbl] at g l
  rw [Int.toNat_natCast] at l
  have hj : 1 ≤ j := by have := bl_pos h0; omega
  rw [show ((j : Int) - 1).toNat = j - 1 by omega] at g
  have g2 := mul_le_p b g
  rw [← p2_add, show j - 1 + b = 63 by omega, p63] at g2
  have d0 : 0 ≤ lo / 2 ^ j := Int.ediv_nonneg l0 (by omega)
  have d1 : lo / 2 ^ j < 2 ^ b := Int.ediv_lt_of_lt_mul pj (by rw [Int.mul_comm, ← hW]; exact l1)
  obtain ⟨o1, o2⟩ := or_sum hb (by omega) l d0 d1
  have m1 : (lo * 2 ^ b) % 18446744073709551616 = (lo % 2 ^ j) * 2 ^ b := by rw [hW, em_mul _ _ pb]
  have r0 := Int.emod_nonneg lo (b := 2 ^ j) (by omega)
  have r1 : lo % 2 ^ j + 1 ≤ 2 ^ j := Int.emod_lt_of_pos lo pj
  have r2 := mul_le_p b r1
  rw [← hW, Int.add_mul, Int.one_mul] at r2
  have r3 := Int.mul_nonneg r0 (show (0 : Int) ≤ 2 ^ b by omega)
  have a5 : (hi + 1) * 2 ^ b ≤ 2 ^ j * 2 ^ b := mul_le_p b (by omega)
  rw [← hW, Int.add_mul, Int.one_mul] at a5
  have a6 := Int.mul_nonneg (show 0 ≤ hi by omega) (show (0 : Int) ≤ 2 ^ b by omega)
  refine ⟨by omega, by omega, ?_, by rw [m1]; exact r2, by rw [m1]; exact r3, by rw [Int.emod_eq_of_lt a6 o2]; exact o1⟩
  have e1 := Int.mul_ediv_add_emod lo (2 ^ j)
  rw [m1]
  have e2 : lo * 2 ^ b = (lo / 2 ^ j) * 18446744073709551616 + lo % 2 ^ j * 2 ^ b := by
    rw [hW, ← Int.mul_assoc, ← Int.add_mul]
    congr 1
    rw [Int.mul_comm (lo / 2 ^ j)]
    exact e1.symm
  rw [Int.add_mul, Int.add_mul, e2, Int.mul_right_comm hi]
  omega
/-- What is left of a difference, of which 128 bits are known. -/
theorem diff_fit {v e D q E r l : Int} {d b : Nat} {c : Bool} (q0 : 9223372036854775808 ≤ q) (q1 : q < 18446744073709551616) (hv : v * 18446744073709551616 = D * 2 ^ d + r) (r0 : 0 ≤ r) (r1 : r < 2 ^ d) (hq : q * 18446744073709551616 + l = D * 2 ^ b) (l0 : 0 ≤ l) (l1 : l + 2 ^ b ≤ 18446744073709551616) (he : e - b = E - d) (hc : c = true ↔ l ≠ 0 ∨ r ≠ 0) : Fit v e q E c := by
  have pb := p2_pos b
  have pd := p2_pos d
  have a1 : v * 2 ^ b * 18446744073709551616 = q * 2 ^ d * 18446744073709551616 + (l * 2 ^ d + r * 2 ^ b) := by
    have h1 : v * 18446744073709551616 * 2 ^ b = (D * 2 ^ d + r) * 2 ^ b := by rw [hv]
    have h2 : (q * 18446744073709551616 + l) * 2 ^ d = D * 2 ^ b * 2 ^ d := by rw [hq]
    rw [Int.add_mul] at h1 h2
    rw [Int.mul_right_comm D] at h2
    rw [Int.mul_right_comm v, ← h2] at h1
    rw [Int.mul_right_comm q] at h1
    omega
  have a2 := Int.mul_nonneg l0 (show (0 : Int) ≤ 2 ^ d by omega)
  have a3 := Int.mul_nonneg r0 (show (0 : Int) ≤ 2 ^ b by omega)
  have a4 : l * 2 ^ d + r * 2 ^ b < 2 ^ d * 18446744073709551616 := by
    have b1 := mul_le_p d l1
    rw [Int.add_mul] at b1
    have b2 : r * 2 ^ b < 2 ^ b * 2 ^ d := by
      have := mul_lt_p b r1
      rw [Int.mul_comm (2 ^ b) (2 ^ d)]
      exact this
    rw [Int.mul_comm (2 ^ d)]
    omega
  refine ⟨q0, q1, b, d, he, ?_, ?_, ?_⟩
  · refine le_of_p 64 ?_
    rw [p64]
    omega
  · refine lt_of_p 64 ?_
    rw [p64, Int.add_mul, Int.one_mul, Int.add_mul]
    omega
  · rw [hc]
    constructor
    · intro h1 h2
      rw [h2] at a1
      rcases h1 with h1 | h1
      · have := Int.mul_pos (show 0 < l by omega) pd
        omega
      · have := Int.mul_pos (show 0 < r by omega) pb
        omega
    · intro h1
      by_cases z : l = 0
      · refine .inr fun z2 => h1 ?_
        rw [z, z2] at a1
        refine eq_of_p 64 ?_
        rw [p64]
        omega
      · exact .inl z
theorem rnz_sg {v : Int} (hv : 0 < v) (n : Bool) (e : Int) (up : Bool) : rnz (sg n v) e up = rnd n v e (up != n) := by
  unfold rnz sg
  cases n
  · simp only [Bool.false_eq_true, if_false]
    rw [if_neg (by omega), decide_eq_false (by omega), Int.natAbs_of_nonneg (by omega)]
  · simp only [if_true]
    rw [if_neg (by omega), decide_eq_true (by omega), Int.natAbs_neg, Int.natAbs_of_nonneg (by omega)]
theorem addv_fin {a b : Nm} (ha : a.1 = 1) (hb : b.1 = 1) (up : Bool) : addv a b up = rnz (exs a b (min a.2.2.2 b.2.2.2)) (min a.2.2.2 b.2.2.2) up := by
  unfold addv
  rw [ha, hb]
  simp
theorem mulv_fin {a b : Nm} (ha : a.1 = 1) (hb : b.1 = 1) (up : Bool) : mulv a b up = rnd (a.2.1 != b.2.1) (a.2.2.1 * b.2.2.1) (a.2.2.2 + b.2.2.2) (up != (a.2.1 != b.2.1)) := by
  unfold mulv
  rw [ha, hb]
  simp
/-! whole numbers, and the next one -/
/-- A whole number. -/
def ofv (a : Int) : Nm := if a = 0 then (0, false, 0, 0) else (1, decide (a < 0), (a.natAbs : Int) * 2 ^ (64 - bl a.natAbs).toNat, bl a.natAbs - 64)
/-- The next number above, or below, of one that may be. -/
def nextv (n : Nm) (up : Bool) : Nm :=
  if n.1 = 0 then (1, !up, 9223372036854775808, -1048576)
  else if n.1 = 2 then (if n.2.1 = up then (1, n.2.1, 18446744073709551615, 1048576) else n)
  else if n.2.1 ≠ up then grw n.2.1 n.2.2.1 n.2.2.2 true true
  else if n.2.2.1 = 9223372036854775808 then bnd n.2.1 18446744073709551615 (n.2.2.2 - 1) false
  else (n.1, n.2.1, n.2.2.1 - 1, n.2.2.2)
theorem may_lt {n : Nm} (h : mayP n) : n.2.2.1 < 18446744073709551616 := by
  rcases h with ⟨_, _, h3, _⟩ | ⟨_, _, h3, _⟩ | ⟨_, h2, _⟩ <;> omega
theorem nm_beq {a b : Nm} (h : a = b) : (a.1 == b.1 && (a.2.1 == b.2.1 && (a.2.2.1 == b.2.2.1 && (a.2.2.2 == b.2.2.2)))) = true := by subst h; simp
theorem of1 : ofv 1 = (1, false, 9223372036854775808, -63) := by decide +kernel
theorem of2 : ofv 2 = (1, false, 9223372036854775808, -62) := by decide +kernel
theorem ofm2 : ofv (-2) = (1, true, 9223372036854775808, -62) := by decide +kernel
theorem m_lt {x : Int} (h : (Lit.int .u64 x).wf = true) : x < 18446744073709551616 := by have := u64_of_wf h; omega
/-- A half. -/
def halfn : Nm := (1, false, 9223372036854775808, -64)
theorem halfn_may : mayP halfn := by decide +kernel
end Go.Proofs.YtaookeneeemfbaaDoor.T

namespace Go.Proofs.YtaookeneeemfbaaDoor.T
set_option linter.unusedVariables false
set_option linter.unusedSimpArgs false
open Go.RowKit Go.Proofs.YtaookeneeemfbaaDoorW.PrintWords Go.Proofs.YtaookeneeemfbaaDoorW.PrintMore Go.Proofs.YtaookeneeemfbaaDoor.PA

theorem rtrim_l0 (l : List Int) (h : U l) (hb : l.length ≤ 1073741824) (n : Nat) (hn : n ≤ l.length) (hv : val (l.take n) = val l) : ∃ K, ∀ k, K ≤ k → pelorusref01_Trim.l0 k l (n : Int) = some (lim (val l)) := by
  induction n with
  | zero =>
    refine ⟨1, fun k hk => ?_⟩
    obtain ⟨k, rfl⟩ : ∃ m, k = m + 1 := ⟨k - 1, by omega⟩
    simp only [pelorusref01_Trim.l0, Int.natCast_zero]
    rw [if_neg (by omega), if_pos (by omega), if_pos (by omega), if_pos (by simp)]
    rw [List.take_zero, val_nil] at hv
    rw [← hv, lim_zero]
    simp
  | succ n ih =>
    by_cases hz : l.getD n 0 = 0
    · obtain ⟨K, hK⟩ := ih (by omega) (by rw [val_take_succ', hz] at hv; omega)
      refine ⟨K + 1, fun k hk => ?_⟩
      obtain ⟨k, rfl⟩ : ∃ m, k = m + 1 := ⟨k - 1, by omega⟩
      simp only [pelorusref01_Trim.l0, w64_pred (show 0 < n + 1 by omega) (show n + 1 < 9223372036854775808 by omega), Nat.add_sub_cancel, Int.toNat_natCast, rd_eq]
      rw [if_pos (by omega), if_pos (by omega), if_pos (by omega), if_pos hz]
      exact hK k (by omega)
    · have hl : lim (val l) = l.take (n + 1) := by
        rw [← hv]
        refine lim_of_norm (U_take h _) (fun _ => ?_)
        rw [List.length_take, Nat.min_eq_left hn, Nat.add_sub_cancel, List.getD_eq_getElem?_getD, List.getElem?_take, if_pos (by omega), ← List.getD_eq_getElem?_getD]
        exact hz
      have hlen : (l.take (n + 1)).length = n + 1 := by rw [List.length_take, Nat.min_eq_left hn]
      refine ⟨1, fun k hk => ?_⟩
      obtain ⟨k, rfl⟩ : ∃ m, k = m + 1 := ⟨k - 1, by omega⟩
      simp only [pelorusref01_Trim.l0, w64_pred (show 0 < n + 1 by omega) (show n + 1 < 9223372036854775808 by omega), Nat.add_sub_cancel, Int.toNat_natCast, rd_eq]
      rw [if_pos (by omega), if_pos (by omega), if_pos (by omega), if_neg hz, if_pos (by omega), if_pos (by omega), if_pos (by rw [hlen]; simp; omega), hl, List.nil_append]
theorem rtrim_ev (l : List Int) (h : U l) (hb : l.length ≤ 1073741824) : ∃ K, ∀ k, K ≤ k → pelorusref01_Trim.f k l = some (lim (val l)) :=
  rtrim_l0 l h hb l.length (Nat.le_refl _) (by rw [List.take_length])
theorem rcmp_l0 (a b : List Int) (ha : U a) (hb : U b) (hl : a.length = b.length) (hc : a.length ≤ 1073741824) (n : Nat) :
    n ≤ a.length → a.drop n = b.drop n → ∃ K, ∀ k, K ≤ k → pelorusref01_Cmp.l0 k a b ((n : Int) - 1) = some (sgn (val a - val b)) := by
  induction n with
  | zero =>
    intro hi he
    refine ⟨1, fun k hk => ?_⟩
    obtain ⟨k, rfl⟩ : ∃ m, k = m + 1 := ⟨k - 1, by omega⟩
    simp only [pelorusref01_Cmp.l0]
    rw [if_neg (by omega)]
    rw [List.drop_zero, List.drop_zero] at he
    rw [he, Int.sub_self, sgn_zero]
  | succ n ih =>
    intro hi he
    have ht : ((n + 1 : Nat) : Int) - 1 = (n : Int) := by omega
    rcases Int.lt_trichotomy (a.getD n 0) (b.getD n 0) with hlt | heq | hgt
    · refine ⟨1, fun k hk => ?_⟩
      obtain ⟨k, rfl⟩ : ∃ m, k = m + 1 := ⟨k - 1, by omega⟩
      have := val_lt_top ha hb (k := n) (by omega) (by omega) he hlt
      simp only [pelorusref01_Cmp.l0, ht, rd_eq, Int.toNat_natCast]
      rw [if_pos (by omega), if_pos (by omega), if_pos (by omega), if_pos (by omega), if_pos hlt, sgn_neg (by omega)]
    · obtain ⟨K, hK⟩ := ih (by omega) (by rw [drop_eq (by omega), drop_eq (l := b) (by omega), heq, he])
      refine ⟨K + 1, fun k hk => ?_⟩
      obtain ⟨k, rfl⟩ : ∃ m, k = m + 1 := ⟨k - 1, by omega⟩
      simp only [pelorusref01_Cmp.l0, ht, rd_eq, Int.toNat_natCast, w64 (show -9223372036854775808 ≤ (n : Int) - 1 by omega) (show (n : Int) - 1 < 9223372036854775808 by omega)]
      rw [if_pos (by omega), if_pos (by omega), if_pos (by omega), if_pos (by omega), if_neg (by omega), if_neg (by omega)]
      exact hK k (by omega)
    · refine ⟨1, fun k hk => ?_⟩
      obtain ⟨k, rfl⟩ : ∃ m, k = m + 1 := ⟨k - 1, by omega⟩
      have := val_lt_top hb ha (k := n) (by omega) (by omega) he.symm hgt
      simp only [pelorusref01_Cmp.l0, ht, rd_eq, Int.toNat_natCast]
      rw [if_pos (by omega), if_pos (by omega), if_pos (by omega), if_pos (by omega), if_neg (by omega), if_pos (by omega), sgn_pos (by omega)]
theorem rcmp_ev (a b : List Int) (ha : U a) (hb : U b) (hla : a.length ≤ 1073741824) (hlb : b.length ≤ 1073741824) : ∃ K, ∀ k, K ≤ k → pelorusref01_Cmp.f k a b = some (sgn (val a - val b)) := by
  obtain ⟨K1, h1⟩ := rtrim_ev a ha hla
  obtain ⟨K2, h2⟩ := rtrim_ev b hb hlb
  have na := val_nonneg ha
  have nb := val_nonneg hb
  have la := lim_len na a.length (val_lt ha)
  have lb := lim_len nb b.length (val_lt hb)
  rcases Nat.lt_trichotomy (lim (val a)).length (lim (val b)).length with hlt | heq | hgt
  · refine ⟨K1 + K2, fun k hk => ?_⟩
    have := lim_len_lt na hlt
    unfold pelorusref01_Cmp.f
    rw [h1 k (by omega), Option.bind_some, h2 k (by omega), Option.bind_some, if_neg (by omega), if_pos (by omega), sgn_neg (by omega)]
  · obtain ⟨K3, h3⟩ := rcmp_l0 (lim (val a)) (lim (val b)) (U_lim na) (U_lim nb) heq (by omega) _ (Nat.le_refl _) (by rw [List.drop_length, heq, List.drop_length])
    refine ⟨K1 + K2 + K3, fun k hk => ?_⟩
    have h4 := h3 k (by omega)
    rw [val_lim na, val_lim nb] at h4
    unfold pelorusref01_Cmp.f
    rw [h1 k (by omega), Option.bind_some, h2 k (by omega), Option.bind_some, if_pos (by omega), w64 (by omega) (by omega)]
    exact h4
  · refine ⟨K1 + K2, fun k hk => ?_⟩
    have := lim_len_lt nb hgt
    unfold pelorusref01_Cmp.f
    rw [h1 k (by omega), Option.bind_some, h2 k (by omega), Option.bind_some, if_neg (by omega), if_neg (by omega), sgn_pos (by omega)]
theorem rat (l : List Int) (h : U l) (i : Nat) : pelorusref01_at.f l (i : Int) = some (l.getD i 0) := by
  have hu := U_getD h i
  unfold pelorusref01_at.f
  by_cases hi : i < l.length
  · rw [if_neg (by omega), if_pos (by omega), if_pos (by omega), rd_eq, Int.toNat_natCast, u64w hu.1 (by omega)]
  · rw [if_pos (by omega), getD_out l i (by omega)]
theorem snoc_val (l : List Int) (x : Int) : val (l ++ [x]) = val l + pw l.length * x := by rw [val_append]; simp
theorem U_snoc {l : List Int} (h : U l) {x : Int} (h0 : 0 ≤ x) (h1 : x < 4294967296) : U (l ++ [x]) := U_append.2 ⟨h, U_single h0 h1⟩
theorem radd_l0 (a b : List Int) (ha : U a) (hb : U b) (hla : a.length ≤ 1073741823) (hlb : b.length ≤ 1073741823) (d : Nat) :
    ∀ (i : Nat) (o : List Int) (c : Int), max a.length b.length + 1 - i = d → i ≤ max a.length b.length + 1 → o.length = i → U o → 0 ≤ c ∧ c ≤ 1 → (i = max a.length b.length + 1 → c = 0) → val o + pw i * c = val (a.take i) + val (b.take i) →
      ∃ K, ∀ k, K ≤ k → pelorusref01_Add.l0 k a b o c (i : Int) = some (lim (val a + val b)) := by
  induction d with
  | zero =>
    intro i o c hd hi hol ho hc hz he
    have hc0 := hz (by omega)
    subst hc0
    obtain ⟨K, hK⟩ := rtrim_ev o ho (by omega)
    rw [take_out a i (by omega), take_out b i (by omega), Int.mul_zero, Int.add_zero] at he
    rw [he] at hK
    refine ⟨K + 2, fun k hk => ?_⟩
    obtain ⟨k, rfl⟩ : ∃ m, k = m + 1 + 1 := ⟨k - 2, by omega⟩
    simp only [pelorusref01_Add.l0, pelorusref01_Add.j1]
    rw [if_neg (by omega), if_neg (by omega), decide_eq_false (by omega), if_neg (by simp), hK k (by omega), Option.bind_some]
  | succ d ih =>
    intro i o c hd hi hol ho hc hz he
    have hai := U_getD ha i
    have hbi := U_getD hb i
    obtain ⟨n, hn⟩ : ∃ n, n = a.getD i 0 + b.getD i 0 + c := ⟨_, rfl⟩
    have hround : ∀ k, pelorusref01_Add.j1 (k + 1) a b o c (i : Int) true = pelorusref01_Add.l0 k a b (o ++ [n % 4294967296]) (n / 4294967296) ((i + 1 : Nat) : Int) := by
      intro k
      simp only [pelorusref01_Add.j1]
      rw [if_pos trivial, rat a ha, Option.bind_some, rat b hb, Option.bind_some, if_pos (by omega), u64w (x := a.getD i 0 + b.getD i 0) (by omega) (by omega), ← hn, u64w (x := n) (by omega) (by omega), Int.tmod_eq_emod_of_nonneg (by omega), Int.tdiv_eq_ediv_of_nonneg (by omega), u64w (x := n / 4294967296) (by omega) (by omega), w64_succ (by omega), show n % 4294967296 % 4294967296 = n % 4294967296 by omega]
    by_cases hgo : i < a.length ∨ i < b.length ∨ 0 < c
    · have key : val (o ++ [n % 4294967296]) + pw (i + 1) * (n / 4294967296) = val (a.take (i + 1)) + val (b.take (i + 1)) := by
        rw [snoc_val, hol, val_take_succ', val_take_succ', pw_succ]
        exact step_add (by rw [← hn]; exact Int.emod_add_mul_ediv n 4294967296) he
      have hlast : i + 1 = max a.length b.length + 1 → n / 4294967296 = 0 := by
        intro hq
        have e1 := getD_out a i (by omega)
        have e2 := getD_out b i (by omega)
        omega
      obtain ⟨K, hK⟩ := ih (i + 1) (o ++ [n % 4294967296]) (n / 4294967296) (by omega) (by omega) (by rw [List.length_append]; simp; omega) (U_snoc ho (by omega) (by omega)) (by omega) hlast key
      refine ⟨K + 2, fun k hk => ?_⟩
      obtain ⟨k, rfl⟩ : ∃ m, k = m + 1 + 1 := ⟨k - 2, by omega⟩
      simp only [pelorusref01_Add.l0]
      by_cases g1 : i < a.length
      · rw [if_pos (by omega), hround]
        exact hK k (by omega)
      · rw [if_neg (by omega)]
        by_cases g2 : i < b.length
        · rw [if_pos (by omega), hround]
          exact hK k (by omega)
        · rw [if_neg (by omega), decide_eq_true (by omega), hround]
          exact hK k (by omega)
    · have hc0 : c = 0 := by omega
      subst hc0
      obtain ⟨K, hK⟩ := rtrim_ev o ho (by omega)
      rw [take_out a i (by omega), take_out b i (by omega), Int.mul_zero, Int.add_zero] at he
      rw [he] at hK
      refine ⟨K + 2, fun k hk => ?_⟩
      obtain ⟨k, rfl⟩ : ∃ m, k = m + 1 + 1 := ⟨k - 2, by omega⟩
      simp only [pelorusref01_Add.l0, pelorusref01_Add.j1]
      rw [if_neg (by omega), if_neg (by omega), decide_eq_false (by omega), if_neg (by simp), hK k (by omega), Option.bind_some]
theorem radd_ev (a b : List Int) (ha : U a) (hb : U b) (hla : a.length ≤ 1073741823) (hlb : b.length ≤ 1073741823) : ∃ K, ∀ k, K ≤ k → pelorusref01_Add.f k a b = some (lim (val a + val b)) :=
  radd_l0 a b ha hb hla hlb _ 0 [] 0 rfl (by omega) rfl U_nil (by omega) (fun h => by omega) (by simp)
theorem rsub_l0 (a b : List Int) (ha : U a) (hb : U b) (hla : a.length ≤ 1073741823) (hv : val b ≤ val a) (d : Nat) :
    ∀ (i : Nat) (o : List Int) (c : Int), a.length - i = d → i ≤ a.length → o.length = i → U o → 0 ≤ c ∧ c ≤ 1 → val o - pw i * c = val (a.take i) - val (b.take i) →
      ∃ K, ∀ k, K ≤ k → pelorusref01_Sub.l0 k a b o c (i : Int) = some (lim (val a - val b), true) := by
  induction d with
  | zero =>
    intro i o c hd hi hol ho hc he
    obtain rfl : i = a.length := by omega
    obtain ⟨K, hK⟩ := rtrim_ev o ho (by omega)
    have hbl : val (b.take a.length) = val b := val_take_of_lt hb (Int.lt_of_le_of_lt hv (val_lt ha))
    rw [List.take_length, hbl] at he
    have hlt := val_lt ho
    have hp := pw_pos o.length
    have hc0 : c = 0 := by
      rcases (show c = 0 ∨ c = 1 by omega) with h | h
      · exact h
      · subst h
        rw [hol] at hlt hp
        omega
    subst hc0
    have hvo : val o = val a - val b := by omega
    rw [hvo] at hK
    refine ⟨K + 1, fun k hk => ?_⟩
    obtain ⟨k, rfl⟩ : ∃ m, k = m + 1 := ⟨k - 1, by omega⟩
    simp only [pelorusref01_Sub.l0]
    rw [if_neg (by omega), hK k (by omega), Option.bind_some]
  | succ d ih =>
    intro i o c hd hi hol ho hc he
    have hai := U_getD ha i
    have hbi := U_getD hb i
    obtain ⟨n, hn⟩ : ∃ n, n = 4294967296 + a.getD i 0 - b.getD i 0 - c := ⟨_, rfl⟩
    have key : val (o ++ [n % 4294967296]) - pw (i + 1) * (1 - n / 4294967296) = val (a.take (i + 1)) - val (b.take (i + 1)) := by
      rw [snoc_val, hol, val_take_succ', val_take_succ', pw_succ]
      have := step_sub (P := pw i) (A := val o) (q := n / 4294967296 - 1) (r := n % 4294967296) (x := a.getD i 0) (y := b.getD i 0) (c := c) (by omega) he
      rw [show -(n / 4294967296 - 1) = 1 - n / 4294967296 by omega] at this
      exact this
    obtain ⟨K, hK⟩ := ih (i + 1) (o ++ [n % 4294967296]) (1 - n / 4294967296) (by omega) (by omega) (by rw [List.length_append]; simp; omega) (U_snoc ho (by omega) (by omega)) (by omega) key
    refine ⟨K + 1, fun k hk => ?_⟩
    obtain ⟨k, rfl⟩ : ∃ m, k = m + 1 := ⟨k - 1, by omega⟩
    simp only [pelorusref01_Sub.l0]
    rw [if_pos (by omega), rat a ha, Option.bind_some, rat b hb, Option.bind_some, if_pos (by omega), u64w (x := 4294967296 + a.getD i 0) (by omega) (by omega), u64w (x := 4294967296 + a.getD i 0 - b.getD i 0) (by omega) (by omega), ← hn, u64w (x := n) (by omega) (by omega), Int.tmod_eq_emod_of_nonneg (by omega), Int.tdiv_eq_ediv_of_nonneg (by omega), u64w (x := n / 4294967296) (by omega) (by omega), u64w (x := 1 - n / 4294967296) (by omega) (by omega), w64_succ (by omega), show n % 4294967296 % 4294967296 = n % 4294967296 by omega]
    exact hK k (by omega)
theorem rsub_ev (a b : List Int) (ha : U a) (hb : U b) (hla : a.length ≤ 1073741823) (hlb : b.length ≤ 1073741823) : ∃ K, ∀ k, K ≤ k → pelorusref01_Sub.f k a b = some (if val a < val b then ([], false) else (lim (val a - val b), true)) := by
  obtain ⟨K1, h1⟩ := rcmp_ev a b ha hb (by omega) (by omega)
  by_cases hlt : val a < val b
  · refine ⟨K1, fun k hk => ?_⟩
    unfold pelorusref01_Sub.f
    rw [h1 k hk, Option.bind_some, sgn_neg (by omega), if_pos (by omega), if_pos hlt]
  · obtain ⟨K2, h2⟩ := rsub_l0 a b ha hb hla (by omega) _ 0 [] 0 rfl (by omega) rfl U_nil (by omega) (by simp)
    have hs : ¬ sgn (val a - val b) < 0 := by unfold sgn; split <;> (try split) <;> omega
    refine ⟨K1 + K2, fun k hk => ?_⟩
    unfold pelorusref01_Sub.f
    rw [h1 k (by omega), Option.bind_some, if_neg hs, if_neg hlt]
    exact h2 k (by omega)
theorem rsame_l0 (a : List Int) (hl : a.length ≤ 4611686018427387903) (d : Nat) : ∀ i : Nat, a.length - i = d → i ≤ a.length → ∃ K, ∀ k, K ≤ k → pelorusref01_Same.l0 k a a (i : Int) = some true := by
  induction d with
  | zero =>
    intro i hd hi
    refine ⟨1, fun k hk => ?_⟩
    obtain ⟨k, rfl⟩ : ∃ m, k = m + 1 := ⟨k - 1, by omega⟩
    simp only [pelorusref01_Same.l0]
    rw [if_neg (by omega)]
  | succ d ih =>
    intro i hd hi
    obtain ⟨K, hK⟩ := ih (i + 1) (by omega) (by omega)
    refine ⟨K + 1, fun k hk => ?_⟩
    obtain ⟨k, rfl⟩ : ∃ m, k = m + 1 := ⟨k - 1, by omega⟩
    simp only [pelorusref01_Same.l0, w64_succ (show i < 4611686018427387904 by omega)]
    rw [if_pos (by omega), if_pos (by omega), if_pos (by omega), if_pos trivial]
    exact hK k (by omega)
theorem rsame_ev (a : List Int) (hl : a.length ≤ 4611686018427387903) : ∃ K, ∀ k, K ≤ k → pelorusref01_Same.f k a a = some true := by
  obtain ⟨K, hK⟩ := rsame_l0 a hl _ 0 rfl (by omega)
  refine ⟨K, fun k hk => ?_⟩
  unfold pelorusref01_Same.f
  rw [if_pos rfl]
  exact hK k hk
end Go.Proofs.YtaookeneeemfbaaDoor.T

namespace Go.Proofs.YtaookeneeemfbaaDoor.T
set_option linter.unusedVariables false
set_option linter.unusedSimpArgs false
open Go.RowKit Go.Proofs.YtaookeneeemfbaaDoorW.PrintWords Go.Proofs.YtaookeneeemfbaaDoorW.PrintMore Go.Proofs.YtaookeneeemfbaaDoor.PA

/-! products -/
theorem step_row {V P S x y c r q : Int} (e : r + 4294967296 * q = x * y + c) (h : V + P * c = S * y) : V + P * r + 4294967296 * P * q = (S + P * x) * y := by
  have h1 : P * (r + 4294967296 * q) = P * (x * y + c) := by rw [e]
  grind
theorem rmul_l1 (a b : List Int) (ha : U a) (i : Nat) (hi : i < b.length) (hb : U b) (hla : a.length ≤ 1073741822) (o : List Int) (d : Nat) :
    ∀ (j : Nat) (row : List Int) (c : Int), a.length - j = d → j ≤ a.length → row.length = j → U row → 0 ≤ c ∧ c < 4294967296 → val row + pw j * c = val (a.take j) * b.getD i 0 →
      ∃ row', U row' ∧ row'.length = a.length + 1 ∧ val row' = val a * b.getD i 0 ∧ ∀ k, pelorusref01_Mul.l1 (k + d + 1) a b o (i : Int) row c (j : Int) = (pelorusref01_Add.f k o row').bind fun t => pelorusref01_Mul.l0 k a b t (wrap64 ((i : Int) - 1)) := by
  induction d with
  | zero =>
    intro j row c hd hj hl hr hc he
    obtain rfl : j = a.length := by omega
    refine ⟨row ++ [c], U_snoc hr hc.1 hc.2, by simp [hl], by rw [snoc_val, hl, he, List.take_length], fun k => ?_⟩
    simp only [pelorusref01_Mul.l1]
    rw [if_neg (by omega), if_pos (by omega), Int.emod_eq_of_lt hc.1 hc.2]
  | succ d ih =>
    intro j row c hd hj hl hr hc he
    have hx := U_getD ha j
    have hy := U_getD hb i
    have hm := mul_bound hx hy
    obtain ⟨n, hn⟩ : ∃ n, n = a.getD j 0 * b.getD i 0 + c := ⟨_, rfl⟩
    obtain ⟨row', h1, h2, h3, h4⟩ := ih (j + 1) (row ++ [n % 4294967296]) (n / 4294967296) (by omega) (by omega) (by simp [hl]) (U_snoc hr (by omega) (by omega)) (by omega)
      (by
        rw [snoc_val, hl, val_take_succ', pw_succ]
        exact step_row (by rw [← hn]; exact Int.emod_add_mul_ediv n 4294967296) he)
    refine ⟨row', h1, h2, h3, fun k => ?_⟩
    rw [← h4 k]
    simp only [pelorusref01_Mul.l1, rd_eq, Int.toNat_natCast, u64w hx.1 (show a.getD j 0 < 18446744073709551616 by omega), u64w hy.1 (show b.getD i 0 < 18446744073709551616 by omega), u64w hm.1 (show a.getD j 0 * b.getD i 0 < 18446744073709551616 by omega), ← hn, u64w (show 0 ≤ n by omega) (show n < 18446744073709551616 by omega), Int.tmod_eq_emod_of_nonneg (show 0 ≤ n by omega), Int.tdiv_eq_ediv_of_nonneg (show 0 ≤ n by omega), u64w (show 0 ≤ n / 4294967296 by omega) (show n / 4294967296 < 18446744073709551616 by omega), show n % 4294967296 % 4294967296 = n % 4294967296 by omega, w64_succ (show j < 4611686018427387904 by omega)]
    rw [if_pos (by omega), if_pos (by omega), if_pos (by omega), if_pos (by omega), if_pos (by omega)]
    rfl
theorem rmul_l0 (a b : List Int) (ha : U a) (hb : U b) (hl : a.length + b.length ≤ 1073741820) (n : Nat) :
    ∀ (o : List Int), n ≤ b.length → U o → o.length ≤ a.length + (b.length - n) + 1 → val o = val a * val (b.drop n) →
      ∃ K, ∀ k, K ≤ k → pelorusref01_Mul.l0 k a b o ((n : Int) - 1) = some (lim (val a * val b)) := by
  induction n with
  | zero =>
    intro o hn ho hol hv
    obtain ⟨K, hK⟩ := rtrim_ev o ho (by omega)
    rw [hv, List.drop_zero] at hK
    refine ⟨K + 1, fun k hk => ?_⟩
    obtain ⟨k, rfl⟩ : ∃ m, k = m + 1 := ⟨k - 1, by omega⟩
    simp only [pelorusref01_Mul.l0]
    rw [if_neg (by omega), hK k (by omega), Option.bind_some]
  | succ n ih =>
    intro o hn ho hol hv
    have hon : U ([0] ++ o) := U_append.2 ⟨U_single (by omega) (by omega), ho⟩
    have hov : val ([0] ++ o) = 4294967296 * val o := by simp
    obtain ⟨row, h1, h2, h3, h4⟩ := rmul_l1 a b ha n (by omega) hb (by omega) ([0] ++ o) _ 0 [] 0 rfl (by omega) rfl U_nil (by omega) (by simp)
    obtain ⟨K1, h5⟩ := radd_ev ([0] ++ o) row hon h1 (by simp; omega) (by omega)
    have hsum : val ([0] ++ o) + val row = val a * val (b.drop n) := by
      rw [hov, h3, hv, val_drop (l := b) (i := n) (by omega)]
      grind
    rw [hsum] at h5
    have na := val_nonneg ha
    have nd := val_nonneg (U_drop hb n)
    have hp0 := Int.mul_nonneg na nd
    have hlen : (lim (val a * val (b.drop n))).length ≤ a.length + (b.length - n) := by
      refine lim_len hp0 _ ?_
      have l1 := val_lt ha
      have l2 := val_lt (U_drop hb n)
      rw [List.length_drop] at l2
      rw [pw_add]
      have hpa := pw_pos a.length
      have e1 := Int.mul_le_mul_of_nonneg_right (show val a ≤ pw a.length by omega) nd
      have e2 := Int.mul_lt_mul_of_pos_left l2 hpa
      omega
    obtain ⟨K2, h6⟩ := ih (lim (val a * val (b.drop n))) (by omega) (U_lim hp0) (by omega) (by rw [val_lim hp0])
    refine ⟨K1 + K2 + a.length + 2, fun k hk => ?_⟩
    obtain ⟨k, rfl⟩ : ∃ m, k = m + (a.length - 0) + 1 + 1 := ⟨k - a.length - 2, by omega⟩
    have e : ((n + 1 : Nat) : Int) - 1 = (n : Int) := by omega
    simp only [pelorusref01_Mul.l0, Option.bind_some]
    rw [if_pos (by omega), if_pos (by simp; omega), e]
    rw [show pelorusref01_Mul.l1 (k + (a.length - 0) + 1) a b ([0] ++ o) (n : Int) [] 0 0 = _ from h4 k, h5 k (by omega), Option.bind_some, w64 (by omega) (by omega)]
    exact h6 k (by omega)
theorem rmul_ev (a b : List Int) (ha : U a) (hb : U b) (hl : a.length + b.length ≤ 1073741820) : ∃ K, ∀ k, K ≤ k → pelorusref01_Mul.f k a b = some (lim (val a * val b)) := by
  obtain ⟨K, hK⟩ := rmul_l0 a b ha hb hl b.length [] (Nat.le_refl _) U_nil (by simp) (by rw [List.drop_length]; simp)
  refine ⟨K, fun k hk => ?_⟩
  unfold pelorusref01_Mul.f
  rw [w64 (by omega) (by omega)]
  exact hK k hk

/-! bits -/
theorem rlen_l0 (m : Nat) : ∀ (x n : Int), x = (m : Int) → x < 4294967296 → 0 ≤ n → n + bl x ≤ 4611686018427387904 → ∃ K, ∀ k, K ≤ k → pelorusref01_Len.l0 k n x = some (n + bl x) := by
  induction m using Nat.strongRecOn with
  | _ m ih =>
    intro x n hx hx1 hn hn1
    by_cases h0 : x = 0
    · refine ⟨1, fun k hk => ?_⟩
      obtain ⟨k, rfl⟩ : ∃ m, k = m + 1 := ⟨k - 1, by omega⟩
      simp only [pelorusref01_Len.l0]
      rw [if_neg (by omega), h0, bl_zero, Int.add_zero]
    · have hb : bl x = 1 + bl (x / 2) := by
        by_cases h1 : x = 1
        · subst h1; rfl
        · have := bl_shift (x := x) 1 (by omega)
          exact this
      have hb0 := bl_nonneg (x / 2)
      obtain ⟨K, hK⟩ := ih (x / 2).toNat (by omega) (x / 2) (n + 1) (by omega) (by omega) (by omega) (by omega)
      refine ⟨K + 1, fun k hk => ?_⟩
      obtain ⟨k, rfl⟩ : ∃ m, k = m + 1 := ⟨k - 1, by omega⟩
      simp only [pelorusref01_Len.l0]
      rw [if_pos (by omega), w64 (by omega) (by omega), Int.tdiv_eq_ediv_of_nonneg (by omega), Int.emod_eq_of_lt (by omega) (by omega), hK k (by omega), hb, Int.add_assoc]
theorem rlen_ev (l : List Int) (h : U l) (hb : l.length ≤ 1073741824) : ∃ K, ∀ k, K ≤ k → pelorusref01_Len.f k l = some (bl (val l)) := by
  obtain ⟨K, hK⟩ := rtrim_ev l h hb
  have hn := val_nonneg h
  have hl := lim_len hn l.length (val_lt h)
  by_cases h0 : val l = 0
  · refine ⟨K, fun k hk => ?_⟩
    unfold pelorusref01_Len.f
    rw [hK k hk, Option.bind_some, h0, lim_zero, if_pos (by simp)]
    rfl
  · have hpos : 0 < val l := by omega
    have h1 : 0 < (lim (val l)).length := by
      by_cases hq : (lim (val l)).length = 0
      · exact absurd ((lim_nil_iff hn).1 hq) h0
      · omega
    have hu := U_getD (U_lim hn) ((lim (val l)).length - 1)
    have hlast := lim_last hpos
    have e1 := val_top hpos
    have e2 := bl_shift (x := val l) (32 * ((lim (val l)).length - 1)) (by rw [← p2_limb, e1]; omega)
    rw [← p2_limb, e1] at e2
    have e3 := bl_le (n := (lim (val l)).getD ((lim (val l)).length - 1) 0) (m := 32) hu.2
    have e4 := bl_nonneg ((lim (val l)).getD ((lim (val l)).length - 1) 0)
    obtain ⟨K2, h2⟩ := rlen_l0 ((lim (val l)).getD ((lim (val l)).length - 1) 0).toNat _ (32 * (((lim (val l)).length - 1 : Nat) : Int)) (by omega) hu.2 (by omega) (by omega)
    refine ⟨K + K2, fun k hk => ?_⟩
    unfold pelorusref01_Len.f
    rw [hK k (by omega), Option.bind_some, if_neg (by omega)]
    simp only [w64_pred h1 (show (lim (val l)).length < 9223372036854775808 by omega), rd_eq, Int.toNat_natCast]
    rw [if_pos (by omega), if_pos (by omega), w64 (by omega) (by omega), h2 k (by omega), e2]
    congr 1
theorem shl1 {s : Nat} (hs : s < 32) : shl .u32 1 (s : Int) = 2 ^ s := by
  unfold shl
  have hmn : min (s : Int).toNat IntKind.u32.bits = s := by
    have : IntKind.u32.bits = 32 := rfl
    rw [this, Int.toNat_natCast]
    omega
  have h1 := p2_pos s
  have h2 := p2_mono (show s ≤ 31 by omega)
  have e : (2 : Int) ^ 31 = 2147483648 := rfl
  rw [hmn, Int.one_mul, IntKind.wrap_u32, Int.emod_eq_of_lt (by omega) (by omega)]
theorem p2_31 {s : Nat} (hs : s < 32) : 0 < (2 : Int) ^ s ∧ (2 : Int) ^ s ≤ 2147483648 := by
  have h2 := p2_mono (show s ≤ 31 by omega)
  have e : (2 : Int) ^ 31 = 2147483648 := rfl
  exact ⟨p2_pos s, by omega⟩
theorem rshl_ev (a : List Int) (n : Int) (ha : U a) (hl : a.length ≤ 268435456) : ∃ K, ∀ k, K ≤ k → pelorusref01_Shl.f k a n = some (lim (shlv (val a) n)) := by
  unfold shlv pelorusref01_Shl.f
  by_cases c1 : n < 1
  · obtain ⟨K, hK⟩ := rtrim_ev a ha (by omega)
    refine ⟨K, fun k hk => ?_⟩
    rw [if_pos c1, if_pos c1, hK k hk, Option.bind_some]
  · by_cases c2 : n > 16777216
    · exact ⟨0, fun k _ => by rw [if_neg c1, if_neg c1, if_pos c2, if_pos c2, lim_zero]⟩
    · obtain ⟨m, rfl⟩ : ∃ m : Nat, n = m := ⟨n.toNat, by omega⟩
      have hp := p2_31 (s := m % 32) (by omega)
      obtain ⟨K, hK⟩ := rmul_ev (List.replicate (m / 32) 0 ++ a) [2 ^ (m % 32)] (U_append.2 ⟨U_replicate _, ha⟩) (U_single (by omega) (by omega)) (by simp; omega)
      have hv : val (List.replicate (m / 32) 0 ++ a) * val [2 ^ (m % 32)] = val a * 2 ^ m := by
        rw [val_append, val_replicate, List.length_replicate, p2_limb]
        simp only [val_cons, val_nil, Int.mul_zero, Int.add_zero, Int.zero_add]
        have e : (2 : Int) ^ m = 2 ^ (32 * (m / 32)) * 2 ^ (m % 32) := by rw [← p2_add]; congr 1; omega
        rw [e]
        grind
      rw [hv] at hK
      refine ⟨K, fun k hk => ?_⟩
      rw [if_neg c1, if_neg c1, if_neg c2, if_neg c2]
      simp only [Int.tdiv_eq_ediv_of_nonneg (show (0 : Int) ≤ (m : Int) by omega), Int.tmod_eq_emod_of_nonneg (show (0 : Int) ≤ (m : Int) by omega), show (m : Int) / 32 = ((m / 32 : Nat) : Int) by omega, show (m : Int) % 32 = ((m % 32 : Nat) : Int) by omega, w64_nat (show m / 32 < 9223372036854775808 by omega), u64w (show 0 ≤ ((m % 32 : Nat) : Int) by omega) (show ((m % 32 : Nat) : Int) < 18446744073709551616 by omega), Int.toNat_natCast, Option.bind_some, shl1 (show m % 32 < 32 by omega)]
      rw [if_pos (by omega), if_pos (by omega), if_pos (by rw [List.length_replicate]; omega), if_pos (by omega), hK k hk, Option.bind_some]
theorem val_div' {l : List Int} (h : U l) (i : Nat) : val l / pw i = val (l.drop i) := by
  by_cases hi : i ≤ l.length
  · exact val_div h hi
  · have h1 := val_lt h
    have h2 := pw_mono (show l.length ≤ i by omega)
    rw [List.drop_of_length_le (by omega), val_nil, Int.ediv_eq_zero_of_lt (val_nonneg h) (by omega)]
theorem bit_eq {l : List Int} (h : U l) (i : Nat) : (val l / 2 ^ i) % 2 = (l.getD (i / 32) 0 / 2 ^ (i % 32)) % 2 := by
  have hp := p2_pos (i % 32)
  have e1 : val l / 2 ^ i = val (l.drop (i / 32)) / 2 ^ (i % 32) := by
    rw [← val_div' h, p2_limb, Int.ediv_ediv_of_nonneg (by have := p2_pos (32 * (i / 32)); omega), ← p2_add, show 32 * (i / 32) + i % 32 = i by omega]
  have e2 : (4294967296 : Int) = 2 ^ (i % 32) * (2 * 2 ^ (31 - i % 32)) := by
    rw [← p2_succ, ← p2_add, show i % 32 + (31 - i % 32 + 1) = 32 by omega]
    rfl
  rw [e1, val_drop', e2, Int.mul_assoc, Int.add_mul_ediv_left _ _ (by omega), Int.mul_assoc, Int.add_mul_emod_self_left]
theorem rbit_eq (l : List Int) (h : U l) (i : Nat) (hi : i < 4611686018427387904) : pelorusref01_bit.f l (i : Int) = some ((val l / 2 ^ i) % 2 == 1) := by
  have hu := U_getD h (i / 32)
  have hp := p2_pos (i % 32)
  have hd := Int.ediv_nonneg hu.1 (show (0 : Int) ≤ 2 ^ (i % 32) by omega)
  unfold pelorusref01_bit.f
  simp only [Int.tdiv_eq_ediv_of_nonneg (show (0 : Int) ≤ (i : Int) by omega), Int.tmod_eq_emod_of_nonneg (show (0 : Int) ≤ (i : Int) by omega), show (i : Int) / 32 = ((i / 32 : Nat) : Int) by omega, show (i : Int) % 32 = ((i % 32 : Nat) : Int) by omega, w64_nat (show i / 32 < 9223372036854775808 by omega), u64w (show 0 ≤ ((i % 32 : Nat) : Int) by omega) (show ((i % 32 : Nat) : Int) < 18446744073709551616 by omega)]
  rw [rat l h, Option.bind_some, if_pos (by omega), shr_eq (by omega), Int.tmod_eq_emod_of_nonneg hd, bit_eq h]
theorem rset_l0 (i : Nat) (hi : i < 4611686018427387904) (d : Nat) : ∀ (l : List Int), U l → i / 32 + 1 - l.length = d → l.length ≤ 1073741824 → i / 32 < 1073741824 → (val l / 2 ^ i) % 2 = 0 →
    ∃ r, (∃ K, ∀ k, K ≤ k → pelorusref01_set.l0 k (i : Int) l = some r) ∧ U r ∧ val r = val l + 2 ^ i ∧ r.length = max l.length (i / 32 + 1) := by
  induction d with
  | zero =>
    intro l hu hd hl hi2 hbit
    have hp := p2_31 (s := i % 32) (by omega)
    have hx := U_getD hu (i / 32)
    rw [bit_eq hu] at hbit
    have hsum : l.getD (i / 32) 0 + 2 ^ (i % 32) < 4294967296 := by
      have e2 : (4294967296 : Int) = 2 ^ (i % 32) * (2 * 2 ^ (31 - i % 32)) := by
        rw [← p2_succ, ← p2_add, show i % 32 + (31 - i % 32 + 1) = 32 by omega]
        rfl
      have e3 := Int.mul_ediv_add_emod (l.getD (i / 32) 0) (2 ^ (i % 32))
      have e4 := Int.emod_lt_of_pos (l.getD (i / 32) 0) hp.1
      have e5 := Int.emod_nonneg (l.getD (i / 32) 0) (show (2 : Int) ^ (i % 32) ≠ 0 by omega)
      have h1 : 2 ^ (i % 32) * (l.getD (i / 32) 0 / 2 ^ (i % 32)) < 2 ^ (i % 32) * (2 * 2 ^ (31 - i % 32)) := by omega
      have h2 := Int.lt_of_mul_lt_mul_left h1 (by omega)
      have h3 := Int.mul_le_mul_of_nonneg_left (show l.getD (i / 32) 0 / 2 ^ (i % 32) + 2 ≤ 2 * 2 ^ (31 - i % 32) by omega) (show (0 : Int) ≤ 2 ^ (i % 32) by omega)
      rw [Int.mul_add] at h3
      omega
    refine ⟨l.set (i / 32) (l.getD (i / 32) 0 + 2 ^ (i % 32)), ⟨1, fun k hk => ?_⟩, U_set hu _ (by omega) hsum, ?_, by simp; omega⟩
    · obtain ⟨k, rfl⟩ : ∃ m, k = m + 1 := ⟨k - 1, by omega⟩
      simp only [pelorusref01_set.l0, Int.tdiv_eq_ediv_of_nonneg (show (0 : Int) ≤ (i : Int) by omega), Int.tmod_eq_emod_of_nonneg (show (0 : Int) ≤ (i : Int) by omega), show (i : Int) / 32 = ((i / 32 : Nat) : Int) by omega, show (i : Int) % 32 = ((i % 32 : Nat) : Int) by omega, w64_nat (show i / 32 < 9223372036854775808 by omega), u64w (show 0 ≤ ((i % 32 : Nat) : Int) by omega) (show ((i % 32 : Nat) : Int) < 18446744073709551616 by omega), Int.toNat_natCast, rd_eq, shl1 (show i % 32 < 32 by omega)]
      rw [if_neg (by omega), if_pos (by omega), if_pos (by omega), if_pos (by omega), Int.emod_eq_of_lt (by omega) hsum]
    · rw [val_set (by omega), show l.getD (i / 32) 0 + 2 ^ (i % 32) - l.getD (i / 32) 0 = 2 ^ (i % 32) by omega, p2_limb, ← p2_add, show 32 * (i / 32) + i % 32 = i by omega]
  | succ d ih =>
    intro l hu hd hl hi2 hbit
    have hu2 := U_snoc hu (show (0 : Int) ≤ 0 by omega) (show (0 : Int) < 4294967296 by omega)
    have hv2 : val (l ++ [0]) = val l := by rw [snoc_val, Int.mul_zero, Int.add_zero]
    obtain ⟨r, ⟨K, hK⟩, h1, h2, h3⟩ := ih (l ++ [0]) hu2 (by simp; omega) (by simp; omega) hi2 (by rw [hv2]; exact hbit)
    refine ⟨r, ⟨K + 1, fun k hk => ?_⟩, h1, by rw [h2, hv2], by rw [h3]; simp; omega⟩
    obtain ⟨k, rfl⟩ : ∃ m, k = m + 1 := ⟨k - 1, by omega⟩
    simp only [pelorusref01_set.l0, Int.tdiv_eq_ediv_of_nonneg (show (0 : Int) ≤ (i : Int) by omega), show (i : Int) / 32 = ((i / 32 : Nat) : Int) by omega, w64_nat (show i / 32 < 9223372036854775808 by omega)]
    rw [if_pos (by omega), if_pos (by omega)]
    exact hK k (by omega)
theorem rset_ev (l : List Int) (i : Nat) (hu : U l) (hi : i / 32 < 1073741824) (hl : l.length ≤ 1073741824) (hbit : (val l / 2 ^ i) % 2 = 0) :
    ∃ r, (∃ K, ∀ k, K ≤ k → pelorusref01_set.f k l (i : Int) = some r) ∧ U r ∧ val r = val l + 2 ^ i ∧ r.length = max l.length (i / 32 + 1) := by
  obtain ⟨r, ⟨K, hK⟩, h⟩ := rset_l0 i (by omega) _ l hu rfl hl hi hbit
  refine ⟨r, ⟨K, fun k hk => ?_⟩, h⟩
  unfold pelorusref01_set.f
  rw [if_pos (by simp; omega), List.nil_append]
  exact hK k hk

/-! quotients, bit by bit -/
theorem div_unique {v D Q R : Int} (h : v = D * Q + R) (h0 : 0 ≤ R) (h1 : R < D) : v / D = Q ∧ v % D = R := by
  subst h
  rw [Int.add_comm]
  exact ⟨by rw [Int.add_mul_ediv_left _ _ (by omega), Int.ediv_eq_zero_of_lt h0 h1, Int.zero_add], by rw [Int.add_mul_emod_self_left, Int.emod_eq_of_lt h0 h1]⟩
theorem rdiv_l0 (a : List Int) (D : Int) (ha : U a) (hD : 0 < D) (L : Nat) (hL : L ≤ 268435456) (hDl : (lim D).length ≤ L) (hal : a.length ≤ L) (n : Nat) :
    ∀ (q : List Int) (R Q : Int), n ≤ 32 * a.length → U q → q.length ≤ L + 1 → 0 ≤ R → R < D → val q = 2 ^ n * Q → val a / 2 ^ n = D * Q + R →
      ∃ K, ∀ k, K ≤ k → pelorusref01_Div.l0 k a (lim D) q (lim R) ((n : Int) - 1) = some (lim (val a / D), lim (val a % D), true) := by
  induction n with
  | zero =>
    intro q R Q hn hq hql h0 h1 hv he
    rw [show (2 : Int) ^ 0 = 1 from rfl, Int.ediv_one] at he
    rw [show (2 : Int) ^ 0 = 1 from rfl, Int.one_mul] at hv
    obtain ⟨e1, e2⟩ := div_unique he h0 h1
    have hRl : (lim R).length ≤ L := Nat.le_trans (lim_len_mono h0 (by omega)) hDl
    obtain ⟨K1, c1⟩ := rtrim_ev q hq (by omega)
    obtain ⟨K2, c2⟩ := rtrim_ev (lim R) (U_lim h0) (by omega)
    rw [val_lim h0] at c2
    refine ⟨K1 + K2 + 1, fun k hk => ?_⟩
    obtain ⟨k, rfl⟩ : ∃ m, k = m + 1 := ⟨k - 1, by omega⟩
    simp only [pelorusref01_Div.l0]
    rw [if_neg (by omega), c1 k (by omega), Option.bind_some, c2 k (by omega), Option.bind_some, e1, e2, hv]
  | succ n ih =>
    intro q R Q hn hq hql h0 h1 hv he
    have hp := p2_pos n
    have hD0 : 0 ≤ D := by omega
    have hRl : (lim R).length ≤ L := Nat.le_trans (lim_len_mono h0 (by omega)) hDl
    obtain ⟨b, hb⟩ : ∃ b, b = (val a / 2 ^ n) % 2 := ⟨_, rfl⟩
    have hb2 : 0 ≤ b ∧ b ≤ 1 := by omega
    have hva : val a / 2 ^ n = 2 * (D * Q + R) + b := by
      have e : val a / 2 ^ (n + 1) = val a / 2 ^ n / 2 := by rw [Int.ediv_ediv_of_nonneg (by omega), p2_succ, Int.mul_comm]
      omega
    have hqbit : (val q / 2 ^ n) % 2 = 0 := by
      rw [hv, p2_succ, Int.mul_comm 2, Int.mul_assoc, Int.mul_ediv_cancel_left _ (by omega)]
      omega
    have l2 : (lim (2 * R)).length ≤ L + 1 := by
      refine lim_len (by omega) _ ?_
      have := val_lt (U_lim h0)
      rw [val_lim h0] at this
      have := pw_mono hRl
      rw [pw_succ]
      omega
    have l3 : (lim (2 * R + b)).length ≤ L + 1 := by
      refine lim_len (by omega) _ ?_
      have := val_lt (U_lim h0)
      rw [val_lim h0] at this
      have := pw_mono hRl
      rw [pw_succ]
      omega
    obtain ⟨K1, c1⟩ := radd_ev (lim R) (lim R) (U_lim h0) (U_lim h0) (by omega) (by omega)
    rw [val_lim h0, show R + R = 2 * R by omega] at c1
    obtain ⟨K2, c2⟩ := radd_ev (lim (2 * R)) [1] (U_lim (by omega)) (U_single (by omega) (by omega)) (by omega) (by simp)
    rw [val_lim (by omega), show val [1] = 1 by simp] at c2
    obtain ⟨K3, c3⟩ := rsub_ev (lim (2 * R + b)) (lim D) (U_lim (by omega)) (U_lim hD0) (by omega) (by omega)
    rw [val_lim (by omega), val_lim hD0] at c3
    -- the step behind the bit
    have hj : ∃ K, ∀ k, K ≤ k → pelorusref01_Div.j1 k a (lim D) q (lim (2 * R + b)) (n : Int) = some (lim (val a / D), lim (val a % D), true) := by
      by_cases hlt : 2 * R + b < D
      · obtain ⟨K4, c4⟩ := ih q (2 * R + b) (2 * Q) (by omega) hq hql (by omega) hlt (by rw [hv, p2_succ]; grind) (by rw [hva]; grind)
        refine ⟨K3 + K4 + 1, fun k hk => ?_⟩
        obtain ⟨k, rfl⟩ : ∃ m, k = m + 1 := ⟨k - 1, by omega⟩
        simp only [pelorusref01_Div.j1]
        rw [c3 k (by omega), Option.bind_some, if_pos hlt]
        simp only [Bool.false_eq_true, if_false]
        rw [w64 (by omega) (by omega)]
        exact c4 k (by omega)
      · obtain ⟨q', ⟨K5, c5⟩, hq', hv', hl'⟩ := rset_ev q n hq (by omega) (by omega) hqbit
        obtain ⟨K4, c4⟩ := ih q' (2 * R + b - D) (2 * Q + 1) (by omega) hq' (by omega) (by omega) (by omega) (by rw [hv', hv, p2_succ]; grind) (by rw [hva]; grind)
        refine ⟨K3 + K4 + K5 + 1, fun k hk => ?_⟩
        obtain ⟨k, rfl⟩ : ∃ m, k = m + 1 := ⟨k - 1, by omega⟩
        simp only [pelorusref01_Div.j1]
        rw [c3 k (by omega), Option.bind_some, if_neg hlt]
        simp only [if_true]
        rw [c5 k (by omega), Option.bind_some, w64 (by omega) (by omega)]
        exact c4 k (by omega)
    obtain ⟨K6, c6⟩ := hj
    refine ⟨K1 + K2 + K6 + 1, fun k hk => ?_⟩
    obtain ⟨k, rfl⟩ : ∃ m, k = m + 1 := ⟨k - 1, by omega⟩
    have e : ((n + 1 : Nat) : Int) - 1 = (n : Int) := by omega
    simp only [pelorusref01_Div.l0, e]
    rw [if_pos (by omega), c1 k (by omega), Option.bind_some, rbit_eq a ha n (by omega), Option.bind_some, ← hb]
    rcases (show b = 0 ∨ b = 1 by omega) with hb0 | hb1
    · rw [hb0] at c6 ⊢
      rw [if_neg (by decide)]
      rw [Int.add_zero] at c6
      exact c6 k (by omega)
    · rw [hb1] at c6 ⊢
      rw [if_pos (by decide), c2 k (by omega), Option.bind_some]
      exact c6 k (by omega)
theorem rdiv_ev (a b : List Int) (ha : U a) (hb : U b) (hla : a.length ≤ 134217728) (hlb : b.length ≤ 134217728) :
    ∃ K, ∀ k, K ≤ k → pelorusref01_Div.f k a b = some (if val b = 0 then ([], [], false) else (lim (val a / val b), lim (val a % val b), true)) := by
  have na := val_nonneg ha
  have nb := val_nonneg hb
  have lb := lim_len nb b.length (val_lt hb)
  obtain ⟨K1, h1⟩ := rtrim_ev b hb (by omega)
  by_cases c0 : val b = 0
  · refine ⟨K1, fun k hk => ?_⟩
    unfold pelorusref01_Div.f
    rw [h1 k hk, Option.bind_some, c0, lim_zero, if_pos (by simp), if_pos rfl]
  · have hne : ((lim (val b)).length : Int) ≠ 0 := fun h => c0 ((lim_nil_iff nb).1 (by omega))
    obtain ⟨K2, h2⟩ := rlen_ev a ha (by omega)
    have hb1 := bl_nonneg (val a)
    have hb2 := bl_le (n := val a) (m := 32 * a.length) (by rw [← p2_limb]; exact val_lt ha)
    obtain ⟨n, hn⟩ : ∃ n : Nat, bl (val a) = (n : Int) := ⟨(bl (val a)).toNat, by omega⟩
    have hlt := bl_lt na
    rw [hn, Int.toNat_natCast] at hlt
    obtain ⟨K3, h3⟩ := rdiv_l0 a (val b) ha (by omega) (max a.length b.length) (by omega) (by omega) (by omega) n [] 0 0 (by omega) U_nil (by simp) (by omega) (by omega) (by simp) (by rw [Int.ediv_eq_zero_of_lt na hlt]; simp)
    rw [lim_zero] at h3
    refine ⟨K1 + K2 + K3, fun k hk => ?_⟩
    unfold pelorusref01_Div.f
    rw [h1 k (by omega), Option.bind_some, if_neg hne, h2 k (by omega), Option.bind_some, hn, w64 (by omega) (by omega), if_neg c0]
    exact h3 k (by omega)
theorem rshr_ev (a : List Int) (n : Int) (ha : U a) (hl : a.length ≤ 134217728) : ∃ K, ∀ k, K ≤ k → pelorusref01_Shr.f k a n = some (lim (shrv (val a) n)) := by
  have na := val_nonneg ha
  unfold shrv pelorusref01_Shr.f
  by_cases c1 : n < 1
  · obtain ⟨K, hK⟩ := rtrim_ev a ha (by omega)
    refine ⟨K, fun k hk => ?_⟩
    rw [if_pos c1, if_pos c1, hK k hk, Option.bind_some]
  · obtain ⟨m, rfl⟩ : ∃ m : Nat, n = m := ⟨n.toNat, by omega⟩
    by_cases c2 : m ≥ 32 * a.length
    · have hlt := val_lt ha
      rw [p2_limb] at hlt
      have hm := p2_mono c2
      refine ⟨0, fun k _ => ?_⟩
      rw [if_neg c1, if_neg c1, w64 (by omega) (by omega), if_pos (by omega), Int.toNat_natCast, Int.ediv_eq_zero_of_lt na (by omega), lim_zero]
    · have hud := U_drop ha (m / 32)
      have nd := val_nonneg hud
      obtain ⟨K1, h1⟩ := rtrim_ev (a.drop (m / 32)) hud (by rw [List.length_drop]; omega)
      have hp := p2_31 (s := m % 32) (by omega)
      have ld := lim_len nd (a.drop (m / 32)).length (val_lt hud)
      rw [List.length_drop] at ld
      obtain ⟨K2, h2⟩ := rdiv_ev (lim (val (a.drop (m / 32)))) [2 ^ (m % 32)] (U_lim nd) (U_single (by omega) (by omega)) (by omega) (by simp)
      have e1 : val [(2 : Int) ^ (m % 32)] = 2 ^ (m % 32) := by simp
      rw [val_lim nd, e1, if_neg (by omega), ← val_div' ha, p2_limb, Int.ediv_ediv_of_nonneg (by have := p2_pos (32 * (m / 32)); omega), ← p2_add, show 32 * (m / 32) + m % 32 = m by omega] at h2
      refine ⟨K1 + K2, fun k hk => ?_⟩
      have e2 := h2 k (by omega)
      rw [if_neg c1, if_neg c1, w64 (by omega) (by omega), if_neg (by omega)]
      simp only [Int.tdiv_eq_ediv_of_nonneg (show (0 : Int) ≤ (m : Int) by omega), Int.tmod_eq_emod_of_nonneg (show (0 : Int) ≤ (m : Int) by omega), show (m : Int) / 32 = ((m / 32 : Nat) : Int) by omega, show (m : Int) % 32 = ((m % 32 : Nat) : Int) by omega, w64_nat (show m / 32 < 9223372036854775808 by omega), u64w (show 0 ≤ ((m % 32 : Nat) : Int) by omega) (show ((m % 32 : Nat) : Int) < 18446744073709551616 by omega), Int.toNat_natCast, shl1 (show m % 32 < 32 by omega)]
      rw [if_pos (by omega), if_pos (by omega), h1 k (by omega), Option.bind_some, if_pos (by omega), ← val_div' ha, p2_limb, e2, Option.bind_some]

/-! roots, bit by bit -/
theorem sq_mono {a b : Int} (ha : 0 ≤ a) (h : a ≤ b) : a * a ≤ b * b := Int.mul_le_mul h h ha (by omega)
end Go.Proofs.YtaookeneeemfbaaDoor.T

namespace Go.Proofs.YtaookeneeemfbaaDoor.T
set_option linter.unusedVariables false
set_option linter.unusedSimpArgs false
open Go.RowKit Go.Proofs.YtaookeneeemfbaaDoorW.PrintWords Go.Proofs.YtaookeneeemfbaaDoorW.PrintMore Go.Proofs.YtaookeneeemfbaaDoor.PA

theorem make2_ev (neg : Bool) (l : List Int) (h : U l) (hb : l.length ≤ 1073741824) : ∃ K, ∀ k, K ≤ k → pelorusref02_Make.f k neg l = some (neg && decide (val l ≠ 0), lim (val l)) := by
  obtain ⟨K, hK⟩ := rtrim_ev l h hb
  refine ⟨K, fun k hk => ?_⟩
  unfold pelorusref02_Make.f
  rw [hK k hk, Option.bind_some]
  have hn := val_nonneg h
  cases neg
  · rfl
  · rw [if_pos rfl]
    congr 2
    rw [Bool.true_and, decide_eq_decide]
    have := lim_nil_iff hn
    omega
theorem even_eq {v : Int} (hv : 0 ≤ v) : pelorusref03_even.f (lim v) = some (decide (v ≠ 0 ∧ v % 2 = 0)) := by
  unfold pelorusref03_even.f
  by_cases h : v = 0
  · subst h
    have : lim 0 = [] := limN_zero
    rw [this]; rfl
  · have hl := lim_pos (n := v) (by omega)
    have hlen : 0 < ((lim v).length : Int) := by rw [hl]; simp
    rw [if_pos (by omega), if_pos (by omega), rd_eq, hl]
    simp only [Int.toNat_zero, List.getD_cons_zero]
    congr 1
    rw [Int.tmod_eq_emod_of_nonneg (by omega), Bool.eq_iff_iff, beq_iff_eq, decide_eq_true_iff]
    omega
theorem len_lim {v : Int} (hv : 0 ≤ v) (n : Nat) (h : v < 2 ^ n) : (lim v).length ≤ n / 32 + 1 := by
  refine lim_len hv _ ?_
  rw [p2_limb]
  exact Int.lt_of_lt_of_le h (p2_mono (by omega))
theorem bl_half {v : Int} (hv : 0 < v) (he : v % 2 = 0) : bl v = bl (v / 2) + 1 := by
  have := blp (v := v / 2) (by omega) 1
  rw [Int.pow_one, show v / 2 * 2 = v by omega] at this
  exact this
/-- Halved as often as that goes. -/
theorem m3_loop (neg : Bool) (n : Nat) : ∀ (v e i : Int), 0 < v → bl v = n → 0 ≤ i → i + n ≤ 4000000 → n ≤ 100000 → -4194304 ≤ e → e + n ≤ 4194304 →
    ∃ (o : Int) (t : Nat), 0 < o ∧ o % 2 = 1 ∧ v = o * 2 ^ t ∧ ∃ K, ∀ k, K ≤ k → pelorusref03_Make.l0 k e i neg (lim v) = some (neg, lim o, e + t) := by
  induction n with
  | zero => intro v e i hv hb; have := bl_pos hv; omega
  | succ n ih =>
    intro v e i hv hb i0 i1 hn e0 e1
    have ev := even_eq (v := v) (by omega)
    by_cases h2 : v % 2 = 0
    · have hb2 := bl_half hv h2
      obtain ⟨o, t, o0, o1, ho, hE⟩ := ih (v / 2) (e + 1) (i + 1) (by omega) (by omega) (by omega) (by omega) (by omega) (by omega) (by omega)
      refine ⟨o, t + 1, o0, o1, ?_, ?_⟩
      · rw [p2_succ, ← Int.mul_assoc, Int.mul_comm o 2, Int.mul_assoc, ← ho]; omega
      · have hl := len_lim (v := v) (by omega) (bl v).toNat (bl_lt (by omega))
        have s := rshr_ev (lim v) 1 (U_lim (by omega)) (by omega)
        rw [val_lim (by omega)] at s
        have sv : shrv v 1 = v / 2 := by unfold shrv; rw [if_neg (by decide)]; rfl
        rw [sv] at s
        obtain ⟨K1, s⟩ := s
        obtain ⟨K2, hE⟩ := hE
        refine ⟨K1 + K2 + 1, fun k hk => ?_⟩
        obtain ⟨k, rfl⟩ : ∃ m, k = m + 1 := ⟨k - 1, by omega⟩
        simp only [pelorusref03_Make.l0]
        rw [if_pos (by omega), ev, Option.bind_some, decide_eq_true ⟨by omega, h2⟩, if_pos rfl, s k (by omega), Option.bind_some, w64 (by omega) (by omega), w64 (by omega) (by omega), hE k (by omega)]
        congr 3
        omega
    · refine ⟨v, 0, hv, by omega, by simp, 1, fun k hk => ?_⟩
      obtain ⟨k, rfl⟩ : ∃ m, k = m + 1 := ⟨k - 1, by omega⟩
      simp only [pelorusref03_Make.l0]
      rw [if_pos (by omega), ev, Option.bind_some, decide_eq_false (fun h => h2 h.2), if_neg (by decide), if_neg (by omega)]
      congr 3
      omega
abbrev Dd := Bool × List Int × Int
/-- Which number s * 2^f is, its limbs odd. -/
def Rep (d : Dd) (s f : Int) : Prop := (s = 0 ∧ d = (false, [], 0)) ∨ ∃ (o : Int) (t : Nat), 0 < o ∧ o % 2 = 1 ∧ s ≠ 0 ∧ (s.natAbs : Int) = o * 2 ^ t ∧ d = (decide (s < 0), lim o, f + t)
theorem Rep.scale {d : Dd} {s f : Int} (j : Nat) (h : Rep d s (f + j)) : Rep d (s * 2 ^ j) f := by
  have hp := p2_pos j
  rcases h with ⟨rfl, h⟩ | ⟨o, t, o0, o1, s0, hs, hd⟩
  · exact .inl ⟨by omega, h⟩
  · refine .inr ⟨o, t + j, o0, o1, Int.mul_ne_zero s0 (by omega), ?_, ?_⟩
    · rw [Int.natAbs_mul, Int.natCast_mul, show ((((2 : Int) ^ j).natAbs : Nat) : Int) = 2 ^ j from Int.natAbs_of_nonneg (by omega), hs, p2_add, Int.mul_assoc]
    · rw [hd]
      have : decide (s * 2 ^ j < 0) = decide (s < 0) := by
        by_cases h2 : s < 0
        · rw [decide_eq_true h2, decide_eq_true (Int.mul_neg_of_neg_of_pos h2 hp)]
        · rw [decide_eq_false h2, decide_eq_false]
          have := Int.mul_pos (show 0 < s by omega) hp
          omega
      rw [this]
      congr 2
      omega
theorem sg_abs (neg : Bool) {v : Int} (hv : 0 ≤ v) : ((sg neg v).natAbs : Int) = v := by
  unfold sg
  cases neg
  · simp only [Bool.false_eq_true, if_false]; exact Int.natAbs_of_nonneg hv
  · simp only [if_true, Int.natAbs_neg]; exact Int.natAbs_of_nonneg hv
theorem sg_lt (neg : Bool) {v : Int} (hv : 0 < v) : decide (sg neg v < 0) = neg := by
  unfold sg
  cases neg
  · simp only [Bool.false_eq_true, if_false]; exact decide_eq_false (by omega)
  · simp only [if_true]; exact decide_eq_true (by omega)
theorem sg_ne (neg : Bool) {v : Int} (hv : 0 < v) : sg neg v ≠ 0 := by
  unfold sg
  cases neg
  · simp only [Bool.false_eq_true, if_false]; omega
  · simp only [if_true]; omega
theorem sg_of (s : Int) : sg (decide (s < 0)) s.natAbs = s := by
  unfold sg
  by_cases h : s < 0
  · rw [decide_eq_true h, if_pos rfl]; omega
  · rw [decide_eq_false h, if_neg (by decide)]; omega
theorem make3_ev (neg : Bool) (l : List Int) (e : Int) (h : U l) (hb : l.length ≤ 1073741824) (hl : bl (val l) ≤ 100000) (e0 : -4194304 ≤ e) (e1 : e + bl (val l) ≤ 4194304) :
    ∃ d, Rep d (sg neg (val l)) e ∧ ∃ K, ∀ k, K ≤ k → pelorusref03_Make.f k neg l e = some d := by
  have hn := val_nonneg h
  obtain ⟨K, hK⟩ := make2_ev neg l h hb
  by_cases hz : val l = 0
  · refine ⟨(false, [], 0), .inl ⟨by rw [hz]; cases neg <;> rfl, rfl⟩, K + 1, fun k hk => ?_⟩
    obtain ⟨k, rfl⟩ : ∃ m, k = m + 1 := ⟨k - 1, by omega⟩
    unfold pelorusref03_Make.f
    rw [hK (k + 1) (by omega), Option.bind_some, hz, show lim 0 = [] from limN_zero]
    rfl
  · have bp := bl_pos (n := val l) (by omega)
    obtain ⟨o, t, o0, o1, ho, K2, hE⟩ := m3_loop neg (bl (val l)).toNat (val l) e 0 (by omega) (by omega) (by decide) (by omega) (by omega) e0 (by omega)
    refine ⟨(neg, lim o, e + t), .inr ⟨o, t, o0, o1, sg_ne neg (by omega), by rw [sg_abs neg hn]; exact ho, by rw [sg_lt neg (by omega)]⟩, K + K2 + 1, fun k hk => ?_⟩
    obtain ⟨k, rfl⟩ : ∃ m, k = m + 1 := ⟨k - 1, by omega⟩
    unfold pelorusref03_Make.f
    rw [hK (k + 1) (by omega), Option.bind_some]
    simp only
    have := lim_nil_iff hn
    rw [if_neg (by omega), if_neg (by omega), decide_eq_false (show ¬ e > 4194304 by omega), decide_eq_true hz, Bool.and_true]
    simp only [pelorusref03_Make.j0, Bool.false_eq_true, if_false]
    exact hE k (by omega)
/-- Made once more it is the same number. -/
theorem rep_make {d : Dd} {s f : Int} (h : Rep d s f) (hb : bl s.natAbs ≤ 100000) (f0 : -4194304 ≤ f) (f1 : f + bl s.natAbs ≤ 4194304) : ∃ d', Rep d' s f ∧ ∃ K, ∀ k, K ≤ k → pelorusref03_Make.f k d.1 d.2.1 d.2.2 = some d' := by
  rcases h with ⟨rfl, rfl⟩ | ⟨o, t, o0, o1, s0, hs, rfl⟩
  · obtain ⟨d', h1, h2⟩ := make3_ev false [] 0 U_nil (by simp) (by decide) (by decide) (by decide)
    refine ⟨d', ?_, h2⟩
    rcases h1 with ⟨_, h1⟩ | ⟨_, _, _, _, h1, _⟩
    · exact .inl ⟨rfl, h1⟩
    · exact absurd rfl h1
  · have bs := blp o0 t
    rw [← hs] at bs
    have bo := bl_nonneg o
    have hl := len_lim (v := o) (by omega) (bl o).toNat (bl_lt (by omega))
    have v := val_lim (n := o) (by omega)
    obtain ⟨d', h1, h2⟩ := make3_ev (decide (s < 0)) (lim o) (f + t) (U_lim (by omega)) (by omega) (by rw [v]; omega) (by omega) (by rw [v]; omega)
    rw [v] at h1
    refine ⟨d', ?_, h2⟩
    have h3 := h1.scale
    have e : sg (decide (s < 0)) o * 2 ^ t = s := by
      conv => rhs; rw [← sg_of s, hs]
      unfold sg
      split
      · rw [Int.neg_mul]
      · rfl
    rwa [e] at h3
/-- The sum of two with signs. -/
theorem add2_ev (na nb : Bool) {x y : Int} (x0 : 0 ≤ x) (y0 : 0 ≤ y) (n : Nat) (hn : n ≤ 200000) (hx : x < 2 ^ n) (hy : y < 2 ^ n) :
    ∃ neg, (∃ K, ∀ k, K ≤ k → pelorusref02_Add.f k na (lim x) nb (lim y) = some (neg, lim (sg na x + sg nb y).natAbs)) ∧ (sg na x + sg nb y ≠ 0 → neg = decide (sg na x + sg nb y < 0)) := by
  have lx := len_lim x0 n hx
  have ly := len_lim y0 n hy
  have vx := val_lim x0
  have vy := val_lim y0
  have ux := U_lim x0
  have uy := U_lim y0
  by_cases h : na = nb
  · subst h
    obtain ⟨K1, a⟩ := radd_ev (lim x) (lim y) ux uy (by omega) (by omega)
    rw [vx, vy] at a
    have hp := p2_succ n
    have l2 := len_lim (v := x + y) (by omega) (n + 1) (by omega)
    obtain ⟨K2, b⟩ := make2_ev na (lim (x + y)) (U_lim (by omega)) (by omega)
    rw [val_lim (n := x + y) (by omega)] at b
    have e : sg na x + sg na y = sg na (x + y) := by unfold sg; split <;> omega
    rw [e]
    refine ⟨na && decide (x + y ≠ 0), ⟨K1 + K2, fun k hk => ?_⟩, ?_⟩
    · unfold pelorusref02_Add.f
      rw [if_pos (by simp), a k (by omega), Option.bind_some, b k (by omega), Option.bind_some, sg_abs na (by omega)]
    · intro h
      by_cases z : x + y = 0
      · rw [z] at h; exact absurd (by unfold sg; split <;> rfl) h
      · rw [sg_lt na (by omega), decide_eq_true z, Bool.and_true]
  · have hq : ¬ (na == nb) = true := by simpa using h
    have hnb : nb = !na := by cases na <;> cases nb <;> simp_all
    obtain ⟨K1, a⟩ := rsub_ev (lim x) (lim y) ux uy (by omega) (by omega)
    rw [vx, vy] at a
    by_cases hlt : x < y
    · obtain ⟨K2, b⟩ := rsub_ev (lim y) (lim x) uy ux (by omega) (by omega)
      rw [vx, vy, if_neg (by omega)] at b
      rw [if_pos hlt] at a
      have l2 := len_lim (v := y - x) (by omega) n (by omega)
      obtain ⟨K3, c⟩ := make2_ev nb (lim (y - x)) (U_lim (by omega)) (by omega)
      rw [val_lim (n := y - x) (by omega)] at c
      have e : sg na x + sg nb y = sg nb (y - x) := by subst hnb; unfold sg; cases na <;> simp <;> omega
      rw [e]
      refine ⟨nb && decide (y - x ≠ 0), ⟨K1 + K2 + K3, fun k hk => ?_⟩, ?_⟩
      · unfold pelorusref02_Add.f
        rw [if_neg hq, a k (by omega), Option.bind_some, if_neg (by decide), b k (by omega), Option.bind_some]
        simp only
        rw [c k (by omega), Option.bind_some, sg_abs nb (by omega)]
      · intro _
        rw [sg_lt nb (by omega), decide_eq_true (by omega), Bool.and_true]
    · rw [if_neg hlt] at a
      have l2 := len_lim (v := x - y) (by omega) n (by omega)
      obtain ⟨K3, c⟩ := make2_ev na (lim (x - y)) (U_lim (by omega)) (by omega)
      rw [val_lim (n := x - y) (by omega)] at c
      have e : sg na x + sg nb y = sg na (x - y) := by subst hnb; unfold sg; cases na <;> simp <;> omega
      rw [e]
      refine ⟨na && decide (x - y ≠ 0), ⟨K1 + K3, fun k hk => ?_⟩, ?_⟩
      · unfold pelorusref02_Add.f
        rw [if_neg hq, a k (by omega), Option.bind_some, if_pos rfl]
        simp only
        rw [c k (by omega), Option.bind_some, sg_abs na (by omega)]
      · intro h
        by_cases z : x - y = 0
        · rw [z] at h; exact absurd (by unfold sg; split <;> rfl) h
        · rw [sg_lt na (by omega), decide_eq_true z, Bool.and_true]

theorem natAbs_lt_p {s : Int} {n : Nat} (h : bl s.natAbs ≤ n) : (s.natAbs : Int) < 2 ^ n := by
  have h1 := bl_lt (n := (s.natAbs : Int)) (by omega)
  have h2 := bl_nonneg (s.natAbs : Int)
  have h3 := p2_mono (show (bl (s.natAbs : Int)).toNat ≤ n by omega)
  omega
theorem bl_abs {s : Int} {n : Nat} (h0 : -(2 ^ n) < s) (h1 : s < 2 ^ n) : bl s.natAbs ≤ n := bl_le (by omega)
theorem mul_neg_p (x : Int) (n : Nat) : (-x) * 2 ^ n = -(x * 2 ^ n) := Int.neg_mul _ _
theorem sg_mulr (n : Bool) (x y : Int) : sg n (x * y) = sg n x * y := by
  unfold sg; split
  · rw [Int.neg_mul]
  · rfl
/-- The sum of two exact numbers of one power of two. -/
theorem two_ev {p q : Dd} {s r f : Int} (hp : Rep p s f) (hq : Rep q r f) (n : Nat) (hn : n ≤ 50000) (hs : bl s.natAbs ≤ n) (hr : bl r.natAbs ≤ n) (f0 : -4000000 ≤ f) (f1 : f ≤ 4000000) :
    ∃ d, Rep d (s + r) f ∧ ∃ K, ∀ k, K ≤ k → pelorusref03_Two.f k p.1 p.2.1 p.2.2 q.1 q.2.1 q.2.2 = some d := by
  obtain ⟨a, ha, K1, h1⟩ := rep_make hp (by omega) (by omega) (by omega)
  obtain ⟨b, hb, K2, h2⟩ := rep_make hq (by omega) (by omega) (by omega)
  rcases ha with ⟨rfl, rfl⟩ | ⟨o, t, o0, o1, s0, ho, rfl⟩
  · refine ⟨b, by rw [Int.zero_add]; exact hb, K1 + K2, fun k hk => ?_⟩
    unfold pelorusref03_Two.f
    rw [h1 k (by omega), Option.bind_some, h2 k (by omega), Option.bind_some]
    rfl
  rcases hb with ⟨rfl, rfl⟩ | ⟨o', t', o0', o1', r0, ho', rfl⟩
  · refine ⟨(decide (s < 0), lim o, f + t), by rw [Int.add_zero]; exact .inr ⟨o, t, o0, o1, s0, ho, rfl⟩, K1 + K2, fun k hk => ?_⟩
    unfold pelorusref03_Two.f
    have := lim_nil_iff (n := o) (by omega)
    rw [h1 k (by omega), Option.bind_some, h2 k (by omega), Option.bind_some, if_neg (by simp only; omega)]
    rfl
  have bo := blp o0 t
  have bo' := blp o0' t'
  rw [← ho] at bo
  rw [← ho'] at bo'
  have po := bl_pos o0
  have po' := bl_pos o0'
  -- the sum of two of which the first one's power is not the greater one
  have key : ∀ (s r o o' : Int) (t t' : Nat), t ≤ t' → 0 < o → 0 < o' → s ≠ 0 → r ≠ 0 → (s.natAbs : Int) = o * 2 ^ t → (r.natAbs : Int) = o' * 2 ^ t' → bl s.natAbs ≤ n → bl r.natAbs ≤ n →
      ∃ d, Rep d (s + r) f ∧ ∃ K, ∀ k, K ≤ k → pelorusref03_Two.j0 k (decide (s < 0)) (lim o) (f + t) (decide (r < 0)) (lim o') (f + t') = some d := by
    intro s r o o' t t' htt o0 o0' s0 r0 ho ho' hs hr
    obtain ⟨j, rfl⟩ := Nat.le.dest htt
    have bo := blp o0 t
    have bo' := blp o0' (t + j)
    rw [← ho] at bo
    rw [← ho'] at bo'
    have po := bl_pos o0
    have po' := bl_pos o0'
    have bj := blp o0' j
    have lo' := len_lim (v := o') (by omega) (bl o').toNat (bl_lt (by omega))
    obtain ⟨K3, c⟩ := rshl_ev (lim o') j (U_lim (by omega)) (by omega)
    rw [val_lim (by omega), shlv_eq (by omega) (by omega), Int.toNat_natCast] at c
    have pj := p2_pos j
    have y0 : 0 < o' * 2 ^ j := Int.mul_pos o0' pj
    have ly := len_lim (v := o' * 2 ^ j) (by omega) (bl (o' * 2 ^ j)).toNat (bl_lt (by omega))
    obtain ⟨K4, e⟩ := make2_ev (decide (r < 0)) (lim (o' * 2 ^ j)) (U_lim (by omega)) (by omega)
    rw [val_lim (by omega)] at e
    have hx := bl_lt (n := o) (by omega)
    have hy := bl_lt (n := o' * 2 ^ j) (by omega)
    have m1 := p2_mono (show (bl o).toNat ≤ n by omega)
    have m2 := p2_mono (show (bl (o' * 2 ^ j)).toNat ≤ n by omega)
    obtain ⟨neg, ⟨K5, g⟩, gn⟩ := add2_ev (decide (s < 0)) (decide (r < 0)) (x := o) (y := o' * 2 ^ j) (by omega) (by omega) n (by omega) (by omega) (by omega)
    -- the sum at the lesser power
    have eS : (sg (decide (s < 0)) o + sg (decide (r < 0)) (o' * 2 ^ j)) * 2 ^ t = s + r := by
      rw [Int.add_mul, ← sg_mulr, ← sg_mulr, ← ho, Int.mul_assoc, ← p2_add, Nat.add_comm j t, ← ho', sg_of, sg_of]
    generalize hS : sg (decide (s < 0)) o + sg (decide (r < 0)) (o' * 2 ^ j) = S at *
    have pn := p2_succ n
    have aS : (S.natAbs : Int) < 2 ^ (n + 1) := by
      have a1 := sg_abs (decide (s < 0)) (v := o) (by omega)
      have a2 := sg_abs (decide (r < 0)) (v := o' * 2 ^ j) (by omega)
      omega
    have bS := bl_le aS
    have bS0 := bl_nonneg (S.natAbs : Int)
    have lS := len_lim (v := (S.natAbs : Int)) (by omega) (n + 1) aS
    obtain ⟨d, hd, K6, m⟩ := make3_ev neg (lim S.natAbs) (f + t) (U_lim (by omega)) (by omega) (by rw [val_lim (by omega)]; omega) (by omega) (by rw [val_lim (by omega)]; omega)
    rw [val_lim (by omega)] at hd
    have e2 : sg neg (S.natAbs : Int) = S := by
      by_cases z : S = 0
      · rw [z]; cases neg <;> rfl
      · rw [gn z]; exact sg_of S
    rw [e2] at hd
    refine ⟨d, by rw [← eS]; exact hd.scale, K3 + K4 + K5 + K6 + 1, fun k hk => ?_⟩
    obtain ⟨k, rfl⟩ : ∃ m, k = m + 1 := ⟨k - 1, by omega⟩
    simp only [pelorusref03_Two.j0]
    have w : wrap64 (f + ((t + j : Nat) : Int) - (f + t)) = (j : Int) := by rw [w64 (by omega) (by omega)]; omega
    rw [w, c k (by omega), Option.bind_some, e k (by omega), Option.bind_some]
    have z : decide (o' * 2 ^ j ≠ 0) = true := decide_eq_true (by omega)
    simp only [z, Bool.and_true]
    rw [g k (by omega), Option.bind_some, m k (by omega), Option.bind_some]
  have e1 : pelorusref03_Two.f = pelorusref03_Two.f := rfl
  have n1 := lim_nil_iff (n := o) (by omega)
  have n2 := lim_nil_iff (n := o') (by omega)
  by_cases hc : t ≤ t'
  · obtain ⟨d, hd, K3, h3⟩ := key s r o o' t t' hc o0 o0' s0 r0 ho ho' hs hr
    refine ⟨d, hd, K1 + K2 + K3, fun k hk => ?_⟩
    unfold pelorusref03_Two.f
    rw [h1 k (by omega), Option.bind_some, h2 k (by omega), Option.bind_some]
    simp only
    rw [if_neg (by omega), if_neg (by omega), if_neg (by omega), h3 k (by omega)]
  · obtain ⟨d, hd, K3, h3⟩ := key r s o' o t' t (by omega) o0' o0 r0 s0 ho' ho hr hs
    refine ⟨d, by rw [Int.add_comm]; exact hd, K1 + K2 + K3, fun k hk => ?_⟩
    unfold pelorusref03_Two.f
    rw [h1 k (by omega), Option.bind_some, h2 k (by omega), Option.bind_some]
    simp only
    rw [if_neg (by omega), if_neg (by omega), if_pos (by omega), h3 k (by omega)]
/-- The whole number of a finite one, or nought. -/
def sv (n : Nm) : Int := if n.1 = 1 then sg n.2.1 n.2.2.1 else 0
theorem sg_bd (n : Bool) {m : Int} (h0 : 0 ≤ m) {b : Int} (h1 : m < b) : -b < sg n m ∧ sg n m < b := by
  unfold sg; split <;> omega
theorem rnz_sv {a : Nm} (ha : mayP a) (h2 : a.1 ≠ 2) (up : Bool) : rnz (sv a) a.2.2.2 up = a := by
  obtain ⟨a1, a2, a3, a4⟩ := a
  rcases ha with ⟨h1, q2, q3, q4⟩ | ⟨h1, q2, q3, q4, q5⟩ | ⟨h1, _⟩ <;> simp only at h1
  · simp only at q2 q3 q4
    subst h1 q2 q3 q4
    rfl
  · subst h1
    simp only at q2 q3 q4 q5
    have e : sv (1, a2, a3, a4) = sg a2 a3 := rfl
    rw [e]
    simp only
    rw [rnz_sg (by omega), rnd_self q2 q3, bnd_in q4 q5]
  · exact absurd h1 h2
theorem sv_zero {a : Nm} (h : a.1 = 0) : sv a = 0 := by unfold sv; rw [if_neg (by omega)]
theorem addv_sv {a b : Nm} (ha : mayP a) (hb : mayP b) (a2 : a.1 ≠ 2) (b2 : b.1 ≠ 2) (up : Bool) (i j : Nat) (f : Int) (hi : f = a.2.2.2 - i) (hj : f = b.2.2.2 - j) (hf : f = min a.2.2.2 b.2.2.2) : rnz (sv a * 2 ^ i + sv b * 2 ^ j) f up = addv a b up := by
  have ha' := ha
  rcases ha with ⟨h1, _⟩ | ⟨h1, _⟩ | ⟨h1, _⟩
  · unfold addv
    rw [if_neg (fun h => a2 h.1), sv_zero h1, Int.zero_mul, Int.zero_add, hj, rnz_scale, show b.2.2.2 - (j : Int) + j = b.2.2.2 by omega, rnz_sv hb b2]
    by_cases z : b.1 = 0
    · rw [if_pos (.inr z)]
      rcases hb with ⟨g1, g2, g3, g4⟩ | ⟨g1, _⟩ | ⟨g1, _⟩
      · rcases ha' with ⟨_, k2, k3, k4⟩ | ⟨k1, _⟩ | ⟨k1, _⟩
        · obtain ⟨a1, a2, a3, a4⟩ := a
          obtain ⟨b1, b2, b3, b4⟩ := b
          simp only at h1 k2 k3 k4 g1 g2 g3 g4
          subst h1 k2 k3 k4 g1 g2 g3 g4
          rfl
        · omega
        · omega
      · omega
      · omega
    · rw [if_neg (by omega), if_pos (.inr h1)]
  · rcases hb with ⟨g1, _⟩ | ⟨g1, _⟩ | ⟨g1, _⟩
    · unfold addv
      rw [if_neg (fun h => a2 h.1), sv_zero g1, Int.zero_mul, Int.add_zero, hi, rnz_scale, show a.2.2.2 - (i : Int) + i = a.2.2.2 by omega, rnz_sv ha' a2, if_pos (.inr g1)]
    · rw [addv_fin h1 g1, hf]
      unfold exs sv
      rw [if_pos h1, if_pos g1]
      rw [show (a.2.2.2 - min a.2.2.2 b.2.2.2).toNat = i by omega, show (b.2.2.2 - min a.2.2.2 b.2.2.2).toNat = j by omega]
    · exact absurd g1 b2
  · exact absurd h1 a2
end Go.Proofs.YtaookeneeemfbaaDoor.T

namespace Go.Proofs.YtaookeneeemfbaaDoor.T
set_option linter.unusedVariables false
set_option linter.unusedSimpArgs false
open Go.RowKit Go.Proofs.YtaookeneeemfbaaDoorW.PrintWords Go.Proofs.YtaookeneeemfbaaDoorW.PrintMore Go.Proofs.YtaookeneeemfbaaDoor.PA

/-- A number as a sign and limbs. -/
def nw (s : Int) : Bool × List Int := (decide (s < 0), lim s.natAbs)
theorem nw_U (s : Int) : U (nw s).2 := U_lim (by omega)
theorem nw_sg (s : Int) : sg (nw s).1 (val (nw s).2) = s := by
  unfold nw
  simp only
  rw [val_lim (by omega)]
  exact sg_of s
theorem nw_of (neg : Bool) {v : Int} (hv : 0 ≤ v) : (neg && decide (v ≠ 0), lim v) = nw (sg neg v) := by
  unfold nw
  rw [sg_abs neg hv]
  congr 1
  unfold sg
  cases neg
  · simp only [Bool.false_and, Bool.false_eq_true, if_false]; exact (decide_eq_false (by omega)).symm
  · simp only [Bool.true_and, if_true]; rw [decide_eq_decide]; omega
/-- No longer than so many limbs. -/
def B (s : Int) (L : Nat) : Prop := (s.natAbs : Int) < pw L
theorem B_of (neg : Bool) {l : List Int} (h : U l) {L : Nat} (hl : l.length ≤ L) : B (sg neg (val l)) L := by
  unfold B
  rw [sg_abs neg (val_nonneg h)]
  exact Int.lt_of_lt_of_le (val_lt h) (pw_mono hl)
theorem B_len {s : Int} {L : Nat} (h : B s L) : (nw s).2.length ≤ L := lim_len (by omega) L h
theorem B_add {s t : Int} {L M : Nat} (hs : B s L) (ht : B t M) : B (s + t) (max L M + 1) := by
  unfold B at *
  have h5 := pw_mono (show L ≤ max L M by omega)
  have h6 := pw_mono (show M ≤ max L M by omega)
  rw [pw_succ]
  omega
theorem B_neg {s : Int} {L : Nat} (h : B s L) : B (-s) L := by unfold B at *; rw [Int.natAbs_neg]; exact h
theorem B_mul {s t : Int} {L M : Nat} (hs : B s L) (ht : B t M) : B (s * t) (L + M) := by
  unfold B at *
  rw [Int.natAbs_mul, Int.natCast_mul, pw_add]
  have p := pw_pos L
  have e1 := Int.mul_le_mul_of_nonneg_right (show (s.natAbs : Int) ≤ pw L by omega) (show (0 : Int) ≤ t.natAbs by omega)
  have e2 := Int.mul_lt_mul_of_pos_left ht p
  omega
theorem B_mono {s : Int} {L M : Nat} (h : B s L) (hm : L ≤ M) : B s M := Int.lt_of_lt_of_le h (pw_mono hm)
theorem B_le {s t : Int} {L : Nat} (h : B t L) (hs : s.natAbs ≤ t.natAbs) : B s L := by unfold B at *; omega
theorem make_ev (neg : Bool) (l : List Int) (h : U l) (hb : l.length ≤ 1073741824) : ∃ K, ∀ k, K ≤ k → whole_Make.f k neg l = some (nw (sg neg (val l))) := by
  obtain ⟨K, hK⟩ := trim_ev l h hb
  refine ⟨K, fun k hk => ?_⟩
  have hn := val_nonneg h
  rw [← nw_of neg hn]
  unfold whole_Make.f
  rw [hK k hk, Option.bind_some]
  cases neg
  · rfl
  · rw [if_pos rfl]
    congr 2
    rw [Bool.true_and, decide_eq_decide]
    have := lim_nil_iff hn
    omega
theorem rmake_ev (neg : Bool) (l : List Int) (h : U l) (hb : l.length ≤ 1073741824) : ∃ K, ∀ k, K ≤ k → pelorusref02_Make.f k neg l = some (nw (sg neg (val l))) := by
  obtain ⟨K, hK⟩ := rtrim_ev l h hb
  refine ⟨K, fun k hk => ?_⟩
  have hn := val_nonneg h
  rw [← nw_of neg hn]
  unfold pelorusref02_Make.f
  rw [hK k hk, Option.bind_some]
  cases neg
  · rfl
  · rw [if_pos rfl]
    congr 2
    rw [Bool.true_and, decide_eq_decide]
    have := lim_nil_iff hn
    omega
theorem sgn_sg (neg : Bool) {v : Int} (hv : 0 ≤ v) : sgn (sg neg v) = if v = 0 then 0 else if neg = true then -1 else 1 := by
  unfold sg
  by_cases h : v = 0
  · rw [if_pos h, h]; cases neg <;> rfl
  · rw [if_neg h]
    cases neg
    · exact sgn_pos (by simpa using (by omega : 0 < v))
    · exact sgn_neg (by simp only [if_true]; omega)
theorem sign_ev (neg : Bool) (l : List Int) (h : U l) (hb : l.length ≤ 1073741824) : ∃ K, ∀ k, K ≤ k → whole_Sign.f k neg l = some (sgn (sg neg (val l))) := by
  obtain ⟨K, hK⟩ := len_ev l h hb
  refine ⟨K, fun k hk => ?_⟩
  have hn := val_nonneg h
  unfold whole_Sign.f
  rw [hK k hk, Option.bind_some, sgn_sg neg hn]
  by_cases z : val l = 0
  · rw [z, if_pos rfl, if_pos bl_zero]
  · have := bl_pos (n := val l) (by omega)
    rw [if_neg (by omega), if_neg z]
    cases neg <;> rfl
theorem rsign_ev (neg : Bool) (l : List Int) (h : U l) (hb : l.length ≤ 1073741824) : ∃ K, ∀ k, K ≤ k → pelorusref02_Sign.f k neg l = some (sgn (sg neg (val l))) := by
  obtain ⟨K, hK⟩ := rmake_ev neg l h hb
  refine ⟨K, fun k hk => ?_⟩
  have hn := val_nonneg h
  unfold pelorusref02_Sign.f
  rw [hK k hk, Option.bind_some, sgn_sg neg hn, ← nw_of neg hn]
  have := lim_nil_iff hn
  by_cases z : val l = 0
  · rw [if_pos z, if_pos (by simp only; omega)]
  · rw [if_neg z, if_neg (by simp only; omega), decide_eq_true z, Bool.and_true]
    cases neg <;> rfl
theorem from_ev (a : Int) (h0 : -9223372036854775808 ≤ a) (h1 : a ≤ 9223372036854775807) : ∃ K, ∀ k, K ≤ k → whole_From.f k a = some (nw a) := by
  have w : ∀ x : Int, IntKind.u64.wrap x = x % 18446744073709551616 := fun x => by rw [IntKind.wrap_u64]
  have key : ∀ u : Int, u = a.natAbs → ∃ K, ∀ k, K ≤ k → whole_Make.f k (decide (a < 0)) [u % 4294967296, u / 4294967296 % 4294967296] = some (nw a) := fun u hu => by
    obtain ⟨K, hK⟩ := make_ev (decide (a < 0)) [u % 4294967296, u / 4294967296 % 4294967296] (by simp [U]; omega) (by simp)
    have e : val [u % 4294967296, u / 4294967296 % 4294967296] = a.natAbs := by simp; omega
    rw [e, sg_of] at hK
    exact ⟨K, hK⟩
  by_cases z : a < 0
  · obtain ⟨K, hK⟩ := key (IntKind.u64.wrap (-(IntKind.u64.wrap a))) (by rw [w, w]; omega)
    refine ⟨K, fun k hk => ?_⟩
    unfold whole_From.f
    rw [if_pos z, hK k hk, Option.bind_some]
  · obtain ⟨K, hK⟩ := key (IntKind.u64.wrap a) (by rw [w]; omega)
    refine ⟨K, fun k hk => ?_⟩
    unfold whole_From.f
    rw [if_neg z, hK k hk, Option.bind_some]
theorem rfrom_ev (a : Int) (h0 : -9223372036854775808 ≤ a) (h1 : a ≤ 9223372036854775807) : ∃ K, ∀ k, K ≤ k → pelorusref02_From.f k a = some (nw a) := by
  have w : ∀ x : Int, IntKind.u64.wrap x = x % 18446744073709551616 := fun x => by rw [IntKind.wrap_u64]
  have key : ∀ u : Int, u = a.natAbs → ∃ K, ∀ k, K ≤ k → pelorusref02_Make.f k (decide (a < 0)) [Int.tmod u 4294967296 % 4294967296, (IntKind.u64.wrap (Int.tdiv u 4294967296)) % 4294967296] = some (nw a) := fun u hu => by
    rw [Int.tmod_eq_emod_of_nonneg (by omega), Int.tdiv_eq_ediv_of_nonneg (by omega), w]
    obtain ⟨K, hK⟩ := rmake_ev (decide (a < 0)) [u % 4294967296 % 4294967296, u / 4294967296 % 18446744073709551616 % 4294967296] (by simp [U]; omega) (by simp)
    have e : val [u % 4294967296 % 4294967296, u / 4294967296 % 18446744073709551616 % 4294967296] = a.natAbs := by simp; omega
    rw [e, sg_of] at hK
    exact ⟨K, hK⟩
  by_cases z : a < 0
  · obtain ⟨K, hK⟩ := key (IntKind.u64.wrap ((IntKind.u64.wrap (wrap64 (-(wrap64 (a + 1))))) + 1)) (by rw [w64 (x := a + 1) (by omega) (by omega), w64 (by omega) (by omega), w, w]; omega)
    refine ⟨K, fun k hk => ?_⟩
    unfold pelorusref02_From.f
    rw [if_pos z, hK k hk, Option.bind_some]
  · obtain ⟨K, hK⟩ := key (IntKind.u64.wrap a) (by rw [w]; omega)
    refine ⟨K, fun k hk => ?_⟩
    unfold pelorusref02_From.f
    rw [if_neg z, hK k hk, Option.bind_some]
theorem neg_ev (b : Bool) (l : List Int) (h : U l) (hb : l.length ≤ 1073741824) : ∃ K, ∀ k, K ≤ k → whole_Neg.f k b l = some (nw (-sg b (val l))) := by
  obtain ⟨K, hK⟩ := make_ev (!b) l h hb
  refine ⟨K, fun k hk => ?_⟩
  unfold whole_Neg.f
  rw [hK k hk, Option.bind_some, sg_neg]
theorem rneg_ev (b : Bool) (l : List Int) (h : U l) (hb : l.length ≤ 1073741824) : ∃ K, ∀ k, K ≤ k → pelorusref02_Neg.f k b l = some (nw (-sg b (val l))) := by
  obtain ⟨K, hK⟩ := rmake_ev (!b) l h hb
  refine ⟨K, fun k hk => ?_⟩
  unfold pelorusref02_Neg.f
  rw [hK k hk, Option.bind_some, sg_neg]
theorem addw_ev (b c : Bool) (l m : List Int) (hl : U l) (hm : U m) (bl : l.length ≤ 100000000) (bm : m.length ≤ 100000000) : ∃ K, ∀ k, K ≤ k → whole_Add.f k b l c m = some (nw (sg b (val l) + sg c (val m))) := by
  have nl := val_nonneg hl
  have nm := val_nonneg hm
  have ll := val_lt hl
  have lm := val_lt hm
  by_cases h : b = c
  · subst h
    obtain ⟨K1, a⟩ := add_ev l m hl hm (by omega) (by omega)
    obtain ⟨K2, d⟩ := make_ev b (lim (val l + val m)) (U_lim (by omega)) (by have := B_len (B_add (B_of false hl (Nat.le_refl _)) (B_of false hm (Nat.le_refl _))); simp only [sg, nw, Bool.false_eq_true, if_false] at this; rw [Int.natAbs_of_nonneg (by omega)] at this; omega)
    rw [val_lim (by omega)] at d
    refine ⟨K1 + K2, fun k hk => ?_⟩
    unfold whole_Add.f
    rw [if_pos (by simp), a k (by omega), Option.bind_some, d k (by omega), Option.bind_some]
    have e : sg b (val l + val m) = sg b (val l) + sg b (val m) := by unfold sg; split <;> omega
    rw [e]
  · have hq : ¬ (b == c) = true := by simpa using h
    have hc : c = !b := by cases b <;> cases c <;> simp_all
    obtain ⟨K1, a⟩ := sub_ev l m hl hm (by omega) (by omega)
    by_cases hlt : val l < val m
    · obtain ⟨K2, a2⟩ := sub_ev m l hm hl (by omega) (by omega)
      rw [if_neg (by omega)] at a2
      rw [if_pos hlt] at a
      obtain ⟨K3, d⟩ := make_ev c (lim (val m - val l)) (U_lim (by omega)) (by have := lim_len (n := val m - val l) (by omega) m.length (by omega); omega)
      rw [val_lim (by omega)] at d
      refine ⟨K1 + K2 + K3, fun k hk => ?_⟩
      unfold whole_Add.f
      rw [if_neg hq, a k (by omega), Option.bind_some, if_neg (by decide), a2 k (by omega), Option.bind_some]
      simp only
      rw [d k (by omega), Option.bind_some]
      have e : sg c (val m - val l) = sg b (val l) + sg c (val m) := by subst hc; unfold sg; cases b <;> simp <;> omega
      rw [e]
    · rw [if_neg hlt] at a
      obtain ⟨K3, d⟩ := make_ev b (lim (val l - val m)) (U_lim (by omega)) (by have := lim_len (n := val l - val m) (by omega) l.length (by omega); omega)
      rw [val_lim (by omega)] at d
      refine ⟨K1 + K3, fun k hk => ?_⟩
      unfold whole_Add.f
      rw [if_neg hq, a k (by omega), Option.bind_some, if_pos rfl]
      simp only
      rw [d k (by omega), Option.bind_some]
      have e : sg b (val l - val m) = sg b (val l) + sg c (val m) := by subst hc; unfold sg; cases b <;> simp <;> omega
      rw [e]
theorem raddw_ev (b c : Bool) (l m : List Int) (hl : U l) (hm : U m) (bl : l.length ≤ 100000000) (bm : m.length ≤ 100000000) : ∃ K, ∀ k, K ≤ k → pelorusref02_Add.f k b l c m = some (nw (sg b (val l) + sg c (val m))) := by
  have nl := val_nonneg hl
  have nm := val_nonneg hm
  have ll := val_lt hl
  have lm := val_lt hm
  by_cases h : b = c
  · subst h
    obtain ⟨K1, a⟩ := radd_ev l m hl hm (by omega) (by omega)
    obtain ⟨K2, d⟩ := rmake_ev b (lim (val l + val m)) (U_lim (by omega)) (by have := B_len (B_add (B_of false hl (Nat.le_refl _)) (B_of false hm (Nat.le_refl _))); simp only [sg, nw, Bool.false_eq_true, if_false] at this; rw [Int.natAbs_of_nonneg (by omega)] at this; omega)
    rw [val_lim (by omega)] at d
    refine ⟨K1 + K2, fun k hk => ?_⟩
    unfold pelorusref02_Add.f
    rw [if_pos (by simp), a k (by omega), Option.bind_some, d k (by omega), Option.bind_some]
    have e : sg b (val l + val m) = sg b (val l) + sg b (val m) := by unfold sg; split <;> omega
    rw [e]
  · have hq : ¬ (b == c) = true := by simpa using h
    have hc : c = !b := by cases b <;> cases c <;> simp_all
    obtain ⟨K1, a⟩ := rsub_ev l m hl hm (by omega) (by omega)
    by_cases hlt : val l < val m
    · obtain ⟨K2, a2⟩ := rsub_ev m l hm hl (by omega) (by omega)
      rw [if_neg (by omega)] at a2
      rw [if_pos hlt] at a
      obtain ⟨K3, d⟩ := rmake_ev c (lim (val m - val l)) (U_lim (by omega)) (by have := lim_len (n := val m - val l) (by omega) m.length (by omega); omega)
      rw [val_lim (by omega)] at d
      refine ⟨K1 + K2 + K3, fun k hk => ?_⟩
      unfold pelorusref02_Add.f
      rw [if_neg hq, a k (by omega), Option.bind_some, if_neg (by decide), a2 k (by omega), Option.bind_some]
      simp only
      rw [d k (by omega), Option.bind_some]
      have e : sg c (val m - val l) = sg b (val l) + sg c (val m) := by subst hc; unfold sg; cases b <;> simp <;> omega
      rw [e]
    · rw [if_neg hlt] at a
      obtain ⟨K3, d⟩ := rmake_ev b (lim (val l - val m)) (U_lim (by omega)) (by have := lim_len (n := val l - val m) (by omega) l.length (by omega); omega)
      rw [val_lim (by omega)] at d
      refine ⟨K1 + K3, fun k hk => ?_⟩
      unfold pelorusref02_Add.f
      rw [if_neg hq, a k (by omega), Option.bind_some, if_pos rfl]
      simp only
      rw [d k (by omega), Option.bind_some]
      have e : sg b (val l - val m) = sg b (val l) + sg c (val m) := by subst hc; unfold sg; cases b <;> simp <;> omega
      rw [e]
theorem cmpw_ev (b c : Bool) (l m : List Int) (hl : U l) (hm : U m) (bl : l.length ≤ 100000000) (bm : m.length ≤ 100000000) : ∃ K, ∀ k, K ≤ k → whole_Cmp.f k b l c m = some (sgn (sg b (val l) - sg c (val m))) := by
  have nl := val_nonneg hl
  have nm := val_nonneg hm
  obtain ⟨K1, h1⟩ := sign_ev b l hl (by omega)
  obtain ⟨K2, h2⟩ := sign_ev c m hm (by omega)
  obtain ⟨K3, h3⟩ := cmp_ev l m hl hm (by omega) (by omega)
  refine ⟨K1 + K2 + K3, fun k hk => ?_⟩
  unfold whole_Cmp.f
  rw [h1 k (by omega), Option.bind_some, h2 k (by omega), Option.bind_some, h3 k (by omega), Option.bind_some]
  have sgc : ∀ x : Int, (x < 0 ∧ sgn x = -1) ∨ (x = 0 ∧ sgn x = 0) ∨ (0 < x ∧ sgn x = 1) := fun x => by
    unfold sgn
    by_cases h : x < 0
    · exact .inl ⟨h, if_pos h⟩
    · by_cases h2 : 0 < x
      · exact .inr (.inr ⟨h2, by rw [if_neg h, if_pos h2]⟩)
      · exact .inr (.inl ⟨by omega, by rw [if_neg h, if_neg h2]⟩)
  have ca := sgc (sg b (val l))
  have cb := sgc (sg c (val m))
  have cc := sgc (sg b (val l) - sg c (val m))
  have cd := sgc (val l - val m)
  have ka : sg b (val l) = val l ∨ sg b (val l) = -val l := by unfold sg; split <;> omega
  have kb : sg c (val m) = val m ∨ sg c (val m) = -val m := by unfold sg; split <;> omega
  by_cases x1 : sgn (sg b (val l)) < sgn (sg c (val m))
  · rw [if_pos x1]; congr 1; omega
  rw [if_neg x1]
  by_cases x2 : sgn (sg b (val l)) > sgn (sg c (val m))
  · rw [if_pos x2]; congr 1; omega
  rw [if_neg x2]
  congr 1
  rcases ca with ⟨g1, g2⟩ | ⟨g1, g2⟩ | ⟨g1, g2⟩
  · rw [g2, w64 (by omega) (by omega)]; omega
  · rw [g2, Int.zero_mul, w64 (by decide) (by decide)]; omega
  · rw [g2, Int.one_mul, w64 (by omega) (by omega)]; omega
theorem same_ev (b c : Bool) (l m : List Int) (hl : U l) (hm : U m) (bl : l.length ≤ 100000000) (bm : m.length ≤ 100000000) : ∃ K, ∀ k, K ≤ k → whole_Same.f k b l c m = some (decide (sg b (val l) = sg c (val m))) := by
  obtain ⟨K, h⟩ := cmpw_ev b c l m hl hm bl bm
  refine ⟨K, fun k hk => ?_⟩
  unfold whole_Same.f
  rw [h k hk, Option.bind_some]
  congr 1
  rw [Bool.eq_iff_iff, beq_iff_eq, decide_eq_true_iff]
  unfold sgn
  split <;> (try split) <;> omega
theorem alike_ev (p : Bool × List Int) (hl : p.2.length ≤ 4611686018427387903) : ∃ K, ∀ k, K ≤ k → pelorusref02_Alike.f k p.1 p.2 p.1 p.2 = some true := by
  obtain ⟨K, h⟩ := rsame_ev p.2 hl
  refine ⟨K, fun k hk => ?_⟩
  unfold pelorusref02_Alike.f
  rw [h k hk, Option.bind_some, if_pos rfl]
  simp
end Go.Proofs.YtaookeneeemfbaaDoor.T

namespace Go.Proofs.YtaookeneeemfbaaDoor.T
set_option linter.unusedVariables false
set_option linter.unusedSimpArgs false
open Go.RowKit Go.Proofs.YtaookeneeemfbaaDoorW.PrintWords Go.Proofs.YtaookeneeemfbaaDoorW.PrintMore Go.Proofs.YtaookeneeemfbaaDoor.PA

theorem sg_mul (n n' : Bool) (v v' : Int) : sg (n != n') (v * v') = sg n v * sg n' v' := by
  unfold sg
  cases n <;> cases n' <;> simp [Int.neg_mul, Int.mul_neg]
/-- The product of many. -/
def prodS (l : List S24) : Int := l.foldr (fun x p => sg x.f0 (val x.f1) * p) 1
theorem prodS_cons (x : S24) (l : List S24) : prodS (x :: l) = sg x.f0 (val x.f1) * prodS l := rfl
theorem drop_at {l : List S24} {i : Nat} (h : i < l.length) : l.drop i = l.getD i z24 :: l.drop (i + 1) := by
  rw [List.drop_eq_getElem_cons h, List.getD_eq_getElem?_getD, List.getElem?_eq_getElem h]
  rfl
theorem mem_at {l : List S24} {i : Nat} (h : i < l.length) : l.getD i z24 ∈ l := by
  rw [List.getD_eq_getElem?_getD, List.getElem?_eq_getElem h]
  exact List.getElem_mem h
theorem rd_at (l : List S24) (i : Nat) : rd_T24 l (i : Int) = l.getD i z24 := rfl
theorem mulw_l0 (l : List S24) (hu : ∀ x ∈ l, U x.f1) (hx : ∀ x ∈ l, x.f1.length ≤ 1000) (hl : l.length ≤ 1000) (d : Nat) : ∀ (i : Nat) (n : Bool) (m : List Int), l.length - i = d → i ≤ l.length → U m → m.length ≤ 1 + 1000 * i →
    ∃ K, ∀ k, K ≤ k → whole_Mul.l0 k n m l (l.length : Int) (i : Int) = some (nw (sg n (val m) * prodS (l.drop i))) := by
  induction d with
  | zero =>
    intro i n m hd hi um hm
    obtain ⟨K, h⟩ := make_ev n m um (by omega)
    refine ⟨K + 1, fun k hk => ?_⟩
    obtain ⟨k, rfl⟩ : ∃ j, k = j + 1 := ⟨k - 1, by omega⟩
    simp only [whole_Mul.l0]
    rw [if_neg (by omega), h k (by omega), Option.bind_some, List.drop_of_length_le (by omega), show prodS [] = 1 from rfl, Int.mul_one]
  | succ d ih =>
    intro i n m hd hi um hm
    have hlt : i < l.length := by omega
    have hm1 := mem_at hlt
    have ux := hu _ hm1
    have lx := hx _ hm1
    have nm := val_nonneg um
    have nx := val_nonneg ux
    have nn := Int.mul_nonneg nm nx
    obtain ⟨K1, h1⟩ := mul_ev m (l.getD i z24).f1 um ux (by omega)
    have lp := B_len (B_mul (B_of false um (Nat.le_refl _)) (B_of false ux lx))
    have e0 : (nw (sg false (val m) * sg false (val (l.getD i z24).f1))).2 = lim (val m * val (l.getD i z24).f1) := by
      unfold nw sg
      simp only [Bool.false_eq_true, if_false]
      rw [Int.natAbs_of_nonneg nn]
    rw [e0] at lp
    have lp2 : (lim (val m * val (l.getD i z24).f1)).length ≤ 1 + 1000 * (i + 1) := Nat.le_trans lp (by clear lp e0 h1 nn nx nm; omega)
    obtain ⟨K2, h2⟩ := ih (i + 1) (n != (l.getD i z24).f0) (lim (val m * val (l.getD i z24).f1)) (by omega) (by omega) (U_lim nn) lp2
    rw [val_lim nn, sg_mul, Int.mul_assoc, ← prodS_cons, ← drop_at hlt] at h2
    refine ⟨K1 + K2 + 1, fun k hk => ?_⟩
    obtain ⟨k, rfl⟩ : ∃ j, k = j + 1 := ⟨k - 1, by omega⟩
    simp only [whole_Mul.l0, rd_at]
    rw [if_pos (by omega), if_pos (by omega), if_pos (by omega), h1 k (by omega), Option.bind_some, w64_succ (by omega), h2 k (by omega)]
theorem mulw_ev (l : List S24) (hu : ∀ x ∈ l, U x.f1) (hx : ∀ x ∈ l, x.f1.length ≤ 1000) (hl : l.length ≤ 1000) : ∃ K, ∀ k, K ≤ k → whole_Mul.f k l = some (nw (prodS l)) := by
  obtain ⟨K, h⟩ := mulw_l0 l hu hx hl l.length 0 false [1] (by omega) (by omega) (U_single (by decide) (by decide)) (by simp)
  rw [List.drop_zero, show sg false (val [1]) = 1 by simp [sg], Int.one_mul] at h
  exact ⟨K, h⟩
theorem rtwo_ev (b c : Bool) (l m : List Int) (hl : U l) (hm : U m) (bl : l.length ≤ 100000000) (bm : m.length ≤ 100000000) : ∃ K, ∀ k, K ≤ k → pelorusref02_Two.f k b l c m = some (nw (sg b (val l) * sg c (val m))) := by
  have nn := Int.mul_nonneg (val_nonneg hl) (val_nonneg hm)
  obtain ⟨K1, h1⟩ := rmul_ev l m hl hm (by omega)
  have lp := B_len (B_mul (B_of false hl (Nat.le_refl _)) (B_of false hm (Nat.le_refl _)))
  have e0 : (nw (sg false (val l) * sg false (val m))).2 = lim (val l * val m) := by
    unfold nw sg
    simp only [Bool.false_eq_true, if_false]
    rw [Int.natAbs_of_nonneg nn]
  rw [e0] at lp
  obtain ⟨K2, h2⟩ := rmake_ev (b != c) (lim (val l * val m)) (U_lim nn) (by omega)
  rw [val_lim nn, sg_mul] at h2
  refine ⟨K1 + K2, fun k hk => ?_⟩
  unfold pelorusref02_Two.f
  rw [h1 k (by omega), Option.bind_some, h2 k (by omega), Option.bind_some]
/-! quotients -/
/-- The quotient, rounded down, and what is left, of numbers with signs: s with the sign b, t. -/
def divw (b c : Bool) (v w : Int) : Int × Int :=
  if sgn (sg b (v % w)) * sgn (sg c w) < 0 then (sg (b != c) (v / w) - 1, sg b (v % w) + sg c w) else (sg (b != c) (v / w), sg b (v % w))
theorem sgn_cases (x : Int) : (x < 0 ∧ sgn x = -1) ∨ (x = 0 ∧ sgn x = 0) ∨ (0 < x ∧ sgn x = 1) := by
  unfold sgn
  by_cases h : x < 0
  · exact .inl ⟨h, if_pos h⟩
  · by_cases h2 : 0 < x
    · exact .inr (.inr ⟨h2, by rw [if_neg h, if_pos h2]⟩)
    · exact .inr (.inl ⟨by omega, by rw [if_neg h, if_neg h2]⟩)
theorem B_small {s : Int} (h : s.natAbs < 4294967296) : B s 1 := by unfold B; rw [show pw 1 = 4294967296 by decide]; omega
theorem rdivw_ev (b c : Bool) (l m : List Int) (hl : U l) (hm : U m) (bl : l.length ≤ 50000000) (bm : m.length ≤ 50000000) :
    ∃ K, ∀ k, K ≤ k → pelorusref02_Div.f k b l c m = some (if val m = 0 then (false, [], false, [], false) else ((nw (divw b c (val l) (val m)).1).1, (nw (divw b c (val l) (val m)).1).2, (nw (divw b c (val l) (val m)).2).1, (nw (divw b c (val l) (val m)).2).2, true)) := by
  have nl := val_nonneg hl
  have nm := val_nonneg hm
  obtain ⟨K0, h0⟩ := rsign_ev c m hm (by omega)
  rw [sgn_sg c nm] at h0
  by_cases z : val m = 0
  · refine ⟨K0, fun k hk => ?_⟩
    unfold pelorusref02_Div.f
    rw [h0 k hk, Option.bind_some, if_pos z, if_pos rfl, if_pos z]
  rw [← sgn_sg c nm] at h0
  obtain ⟨K1, h1⟩ := rdiv_ev l m hl hm (by omega) (by omega)
  rw [if_neg z] at h1
  have q0 : 0 ≤ val l / val m := Int.ediv_nonneg nl nm
  have r0 : 0 ≤ val l % val m := Int.emod_nonneg _ z
  have q1 : val l / val m ≤ val l := Int.ediv_le_self _ nl
  have r1 : val l % val m < val m := Int.emod_lt_of_pos _ (by omega)
  have ll := val_lt hl
  have lm := val_lt hm
  have Bq : B (sg (b != c) (val l / val m)) l.length := by unfold B; rw [sg_abs _ q0]; omega
  have Br : B (sg b (val l % val m)) m.length := by unfold B; rw [sg_abs _ r0]; omega
  have lq := B_len Bq
  have lr := B_len Br
  obtain ⟨K2, h2⟩ := rmake_ev (b != c) (lim (val l / val m)) (U_lim q0) (by have := lim_len q0 l.length (by omega); omega)
  obtain ⟨K3, h3⟩ := rmake_ev b (lim (val l % val m)) (U_lim r0) (by have := lim_len r0 m.length (by omega); omega)
  rw [val_lim q0] at h2
  rw [val_lim r0] at h3
  obtain ⟨K4, h4⟩ := rsign_ev (nw (sg b (val l % val m))).1 (nw (sg b (val l % val m))).2 (nw_U _) (by omega)
  rw [nw_sg] at h4
  obtain ⟨K6, h6⟩ := rfrom_ev (-1) (by decide) (by decide)
  have l1 := B_len (B_small (s := -1) (by decide))
  obtain ⟨K7, h7⟩ := raddw_ev (nw (sg (b != c) (val l / val m))).1 (nw (-1)).1 (nw (sg (b != c) (val l / val m))).2 (nw (-1)).2 (nw_U _) (nw_U _) (by omega) (by omega)
  obtain ⟨K8, h8⟩ := raddw_ev (nw (sg b (val l % val m))).1 c (nw (sg b (val l % val m))).2 m (nw_U _) hm (by omega) (by omega)
  rw [nw_sg, nw_sg] at h7
  rw [nw_sg] at h8
  have ct := sgn_cases (sg c (val m))
  have nz : sg c (val m) ≠ 0 := by unfold sg; split <;> omega
  have cr := sgn_cases (sg b (val l % val m))
  refine ⟨K0 + K1 + K2 + K3 + K4 + K6 + K7 + K8, fun k hk => ?_⟩
  unfold pelorusref02_Div.f divw
  rw [h0 k (by omega), Option.bind_some, if_neg (by omega), h1 k (by omega), Option.bind_some]
  simp only
  rw [h2 k (by omega), Option.bind_some, h3 k (by omega), Option.bind_some, h4 k (by omega), Option.bind_some, if_neg z, w64 (by omega) (by omega)]
  by_cases hc : sgn (sg b (val l % val m)) * sgn (sg c (val m)) < 0
  · have hc2 : sgn (sg b (val l % val m)) = -sgn (sg c (val m)) := by
      rcases cr with ⟨_, e⟩ | ⟨_, e⟩ | ⟨_, e⟩ <;> rcases ct with ⟨_, e'⟩ | ⟨_, e'⟩ | ⟨_, e'⟩ <;> rw [e, e'] at hc <;> first | (rw [e, e']; rfl) | exact absurd hc (by decide) | omega
    rw [if_pos hc2, h6 k (by omega), Option.bind_some, h7 k (by omega), Option.bind_some, h8 k (by omega), Option.bind_some]
    simp only [if_pos hc]
    rw [Int.sub_eq_add_neg]
  · have hc2 : ¬ sgn (sg b (val l % val m)) = -sgn (sg c (val m)) := fun h => hc (by
      rcases ct with ⟨_, e'⟩ | ⟨_, e'⟩ | ⟨_, e'⟩
      · rw [h, e']; decide
      · omega
      · rw [h, e']; decide)
    rw [if_neg hc2]
    simp only [if_neg hc]
end Go.Proofs.YtaookeneeemfbaaDoor.T
