/- Rounding to 64 bits and a power of two: what it is, and when something is it. Plain, no program in sight. -/
import Derived.Test.YthlhogcnfaiphaaTP
namespace Go.Proofs.Ythlhogcnfaiphaa.T
set_option linter.unusedVariables false
set_option linter.unusedSimpArgs false
open Go.RowKit Go.Proofs.YthlhogcnfaiphaaW.PrintWords Go.Proofs.YthlhogcnfaiphaaW.PrintMore

/-- A number: its kind, sign, 64 bits, exponent. -/
abbrev Nm := Int × Bool × Int × Int
/-- A number of a sign, 64 bits of which the highest is 1, and an exponent, kept within the bounds. -/
def bnd (neg : Bool) (m e : Int) (away : Bool) : Nm :=
  if e > 1048576 then (if away = true then (2, neg, 0, 0) else (1, neg, 18446744073709551615, 1048576))
  else if e < -1048576 then (if away = true then (1, neg, 9223372036854775808, -1048576) else (0, false, 0, 0))
  else (1, neg, m, e)
/-- Such a number, one farther if something was cut off, and away. -/
def grw (neg : Bool) (m e : Int) (cut away : Bool) : Nm :=
  if cut = true ∧ away = true then (if m + 1 = 18446744073709551616 then bnd neg 9223372036854775808 (e + 1) away else bnd neg (m + 1) e away) else bnd neg m e away
/-- v * 2^e, above nought, rounded away from nought or not. -/
def rnd (neg : Bool) (v e : Int) (away : Bool) : Nm :=
  if bl v ≤ 64 then bnd neg (v * 2 ^ (64 - bl v).toNat) (e + bl v - 64) away
  else grw neg (v / 2 ^ (bl v - 64).toNat) (e + bl v - 64) (decide (v % 2 ^ (bl v - 64).toNat ≠ 0)) away

theorem p63 : (2 : Int) ^ 63 = 9223372036854775808 := by decide
theorem p64 : (2 : Int) ^ 64 = 18446744073709551616 := by decide
theorem mul_le_p {a b : Int} (t : Nat) (h : a ≤ b) : a * 2 ^ t ≤ b * 2 ^ t := Int.mul_le_mul_of_nonneg_right h (by have := p2_pos t; omega)
theorem mul_lt_p {a b : Int} (t : Nat) (h : a < b) : a * 2 ^ t < b * 2 ^ t := Int.mul_lt_mul_of_pos_right h (p2_pos t)
theorem le_of_p {a b : Int} (t : Nat) (h : a * 2 ^ t ≤ b * 2 ^ t) : a ≤ b := Int.le_of_mul_le_mul_right h (p2_pos t)
theorem lt_of_p {a b : Int} (t : Nat) (h : a * 2 ^ t < b * 2 ^ t) : a < b := Int.lt_of_mul_lt_mul_right h (by have := p2_pos t; omega)
theorem eq_of_p {a b : Int} (t : Nat) (h : a * 2 ^ t = b * 2 ^ t) : a = b := by
  have h1 := le_of_p t (Int.le_of_eq h)
  have h2 := le_of_p t (Int.le_of_eq h.symm)
  omega
theorem pos_of_p {a : Int} (t : Nat) (h : 0 < a * 2 ^ t) : 0 < a := by
  refine lt_of_p (a := 0) t ?_
  omega
/-- How many bits a number has that lies so. -/
theorem bl_in {x q : Int} {t : Nat} (q0 : 9223372036854775808 ≤ q) (q1 : q < 18446744073709551616) (h1 : q * 2 ^ t ≤ x) (h2 : x < (q + 1) * 2 ^ t) : bl x = 64 + t := by
  have a := mul_le_p t q0
  have b := mul_le_p (a := q + 1) (b := 18446744073709551616) t (by omega)
  rw [← p63, ← p2_add] at a
  rw [← p64, ← p2_add] at b
  have := bl_eq (n := x) (m := 63 + t) (by omega) (by rw [show 63 + t + 1 = 64 + t by omega]; omega)
  omega
theorem blp {v : Int} (h : 0 < v) (n : Nat) : bl (v * 2 ^ n) = bl v + n := bl_mul h n
/-- q * 2^E is what is left of v * 2^e, if what is behind the 64 bits is cut off; c: was there something? -/
def Fit (v e q E : Int) (c : Bool) : Prop :=
  9223372036854775808 ≤ q ∧ q < 18446744073709551616 ∧ ∃ s t : Nat, e - s = E - t ∧ q * 2 ^ t ≤ v * 2 ^ s ∧ v * 2 ^ s < (q + 1) * 2 ^ t ∧ (c = true ↔ q * 2 ^ t ≠ v * 2 ^ s)
theorem rnd_fit {v e q E : Int} {c : Bool} (h : Fit v e q E c) (neg away : Bool) : rnd neg v e away = grw neg q E c away := by
  obtain ⟨q0, q1, s, t, he, h1, h2, hc⟩ := h
  have hv : 0 < v := by
    have := Int.mul_pos (show 0 < q by omega) (p2_pos t)
    exact pos_of_p s (by omega)
  have hb := bl_in q0 q1 h1 h2
  rw [blp hv] at hb
  unfold rnd
  by_cases hts : t ≤ s
  · obtain ⟨d, rfl⟩ := Nat.le.dest hts
    rw [if_pos (by omega)]
    rw [show (64 - bl v).toNat = d by omega, show e + bl v - 64 = E by omega]
    rw [Nat.add_comm t d, p2_add, ← Int.mul_assoc] at h1 h2 hc
    have e1 := le_of_p t h1
    have e2 := lt_of_p t h2
    have e3 : v * 2 ^ d = q := by omega
    rw [e3] at hc ⊢
    unfold grw
    rw [if_neg (fun hh => hc.1 hh.1 rfl)]
  · obtain ⟨d, rfl⟩ := Nat.le.dest (show s ≤ t by omega)
    rw [if_neg (by omega)]
    rw [show (bl v - 64).toNat = d by omega, show e + bl v - 64 = E by omega]
    rw [Nat.add_comm s d, p2_add, ← Int.mul_assoc] at h1 hc
    rw [Nat.add_comm s d, p2_add, ← Int.mul_assoc] at h2
    have e1 := le_of_p s h1
    have e2 := lt_of_p s h2
    have e4 : (v - q * 2 ^ d) = v - 2 ^ d * q := by rw [Int.mul_comm q]
    have hp := p2_pos d
    rw [Int.add_mul, Int.one_mul] at e2
    have e5 : v = (v - q * 2 ^ d) + 2 ^ d * q := by omega
    have e6 : v / 2 ^ d = q := by
      rw [e5, Int.add_mul_ediv_left _ _ (by omega), Int.ediv_eq_zero_of_lt (by omega) (by omega)]
      omega
    have e7 : v % 2 ^ d = v - q * 2 ^ d := by
      conv => lhs; rw [e5]
      rw [Int.add_mul_emod_self_left, Int.emod_eq_of_lt (by omega) (by omega)]
    rw [e6, e7]
    congr 1
    rw [Bool.eq_iff_iff, decide_eq_true_iff, hc]
    constructor
    · intro h3 h4; exact h3 (by have := eq_of_p s h4; omega)
    · intro h3 h4; exact h3 (by rw [show v = q * 2 ^ d by omega])
theorem fit_ex {v : Int} (e : Int) (hv : 0 < v) : ∃ q E c, Fit v e q E c := by
  have hb := bl_pos hv
  have hg := bl_ge hv
  have hl := bl_lt (n := v) (by omega)
  by_cases h : bl v ≤ 64
  · obtain ⟨d, hd⟩ : ∃ d : Nat, bl v = 64 - d := ⟨(64 - bl v).toNat, by omega⟩
    refine ⟨v * 2 ^ d, e - d, false, ?_, ?_, d, 0, by omega, by simp, ?_, by simp⟩
    · have := mul_le_p d hg
      rw [← p2_add, show (bl v - 1).toNat + d = 63 by omega, p63] at this
      exact this
    · have := mul_lt_p d hl
      rw [← p2_add, show (bl v).toNat + d = 64 by omega, p64] at this
      exact this
    · rw [Int.pow_zero, Int.mul_one]; omega
  · obtain ⟨d, hd⟩ : ∃ d : Nat, bl v = 64 + d := ⟨(bl v - 64).toNat, by omega⟩
    have hp := p2_pos d
    have e1 := Int.mul_ediv_add_emod v (2 ^ d)
    have e2 := Int.emod_nonneg v (b := 2 ^ d) (by omega)
    have e3 := Int.emod_lt_of_pos v hp
    rw [Int.mul_comm] at e1
    rw [show (bl v - 1).toNat = 63 + d by omega, p2_add, p63] at hg
    rw [show (bl v).toNat = 64 + d by omega, p2_add, p64] at hl
    refine ⟨v / 2 ^ d, e + d, decide (v % 2 ^ d ≠ 0), ?_, ?_, 0, d, by omega, by rw [Int.pow_zero, Int.mul_one]; omega, ?_, ?_⟩
    · exact Int.le_ediv_of_mul_le hp hg
    · exact Int.ediv_lt_of_lt_mul hp hl
    · rw [Int.pow_zero, Int.mul_one, Int.add_mul, Int.one_mul]; omega
    · rw [Int.pow_zero, Int.mul_one, decide_eq_true_iff]
      constructor
      · intro h3 h4; omega
      · intro h3 h4; exact h3 (by omega)
theorem Fit.pos {v e q E : Int} {c : Bool} (h : Fit v e q E c) : 0 < v := by
  obtain ⟨q0, q1, s, t, he, h1, h2, hc⟩ := h
  have := Int.mul_pos (show 0 < q by omega) (p2_pos t)
  exact pos_of_p s (by omega)
/-- A common factor plays no part. -/
theorem Fit.scale {v e q E : Int} {c : Bool} (j : Nat) (h : Fit v (e + j) q E c) : Fit (v * 2 ^ j) e q E c := by
  obtain ⟨q0, q1, s, t, he, h1, h2, hc⟩ := h
  have r : ∀ x : Int, x * 2 ^ (t + j) = x * 2 ^ t * 2 ^ j := fun x => by rw [p2_add, Int.mul_assoc]
  have r2 : v * 2 ^ j * 2 ^ s = v * 2 ^ s * 2 ^ j := by rw [Int.mul_right_comm]
  refine ⟨q0, q1, s, t + j, by omega, ?_, ?_, ?_⟩
  · rw [r, r2]; exact mul_le_p j h1
  · rw [r, r2]; exact mul_lt_p j h2
  · rw [r, r2, hc]
    constructor
    · intro h3 h4; exact h3 (eq_of_p j h4)
    · intro h3 h4; exact h3 (by rw [h4])
theorem rnd_scale {v : Int} (hv : 0 < v) (e : Int) (j : Nat) (neg away : Bool) : rnd neg (v * 2 ^ j) e away = rnd neg v (e + j) away := by
  obtain ⟨q, E, c, h⟩ := fit_ex (e + j) hv
  rw [rnd_fit h, rnd_fit h.scale]
/-! what is left of a number that is moved down -/
theorem div_fit {v e S : Int} {d : Nat} {c : Bool} (s0 : 9223372036854775808 ≤ S) (s1 : S < 18446744073709551616) (hs : v / 2 ^ d = S) (hc : c = true ↔ v % 2 ^ d ≠ 0) : Fit v e S (e + d) c := by
  have hp := p2_pos d
  have e1 := Int.mul_ediv_add_emod v (2 ^ d)
  have e2 := Int.emod_nonneg v (b := 2 ^ d) (by omega)
  have e3 := Int.emod_lt_of_pos v hp
  rw [hs, Int.mul_comm] at e1
  refine ⟨s0, s1, 0, d, by omega, by rw [Int.pow_zero, Int.mul_one]; omega, by rw [Int.pow_zero, Int.mul_one, Int.add_mul, Int.one_mul]; omega, ?_⟩
  rw [Int.pow_zero, Int.mul_one, hc]
  constructor
  · intro h3 h4; omega
  · intro h3 h4; exact h3 (by omega)
theorem rnd_self {m : Int} (m0 : 9223372036854775808 ≤ m) (m1 : m < 18446744073709551616) (neg : Bool) (e : Int) (away : Bool) : rnd neg m e away = bnd neg m e away := by
  rw [rnd_fit (q := m) (E := e) (c := false) ⟨m0, m1, 0, 0, by omega, Int.le_refl _, by rw [Int.pow_zero]; omega, by simp⟩]
  unfold grw
  rw [if_neg (by simp)]
theorem bnd_in {e : Int} (e0 : -1048576 ≤ e) (e1 : e ≤ 1048576) (neg : Bool) (m : Int) (away : Bool) : bnd neg m e away = (1, neg, m, e) := by
  unfold bnd
  rw [if_neg (by omega), if_neg (by omega)]
/-! what is a number that may be -/
def mayP (n : Nm) : Prop := (n.1 = 0 ∧ n.2.1 = false ∧ n.2.2.1 = 0 ∧ n.2.2.2 = 0) ∨ (n.1 = 1 ∧ 9223372036854775808 ≤ n.2.2.1 ∧ n.2.2.1 < 18446744073709551616 ∧ -1048576 ≤ n.2.2.2 ∧ n.2.2.2 ≤ 1048576) ∨ (n.1 = 2 ∧ n.2.2.1 = 0 ∧ n.2.2.2 = 0)
theorem may_fin {n : Nm} (h : mayP n) (h1 : n.1 = 1) : 9223372036854775808 ≤ n.2.2.1 ∧ n.2.2.1 < 18446744073709551616 ∧ -1048576 ≤ n.2.2.2 ∧ n.2.2.2 ≤ 1048576 := by
  rcases h with ⟨h2, _⟩ | ⟨_, h2⟩ | ⟨h2, _⟩
  · omega
  · exact h2
  · omega
theorem bnd_may {neg : Bool} {m e : Int} {away : Bool} (h0 : 9223372036854775808 ≤ m) (h1 : m < 18446744073709551616) : mayP (bnd neg m e away) := by
  unfold bnd
  split
  · split
    · exact .inr (.inr ⟨rfl, rfl, rfl⟩)
    · exact .inr (.inl ⟨rfl, by simp, by simp, by simp, by simp⟩)
  · split
    · split
      · exact .inr (.inl ⟨rfl, by simp, by simp, by simp, by simp⟩)
      · exact .inl ⟨rfl, rfl, rfl, rfl⟩
    · exact .inr (.inl ⟨rfl, h0, h1, by simp only; omega, by simp only; omega⟩)
theorem grw_may {neg : Bool} {m e : Int} {cut away : Bool} (h0 : 9223372036854775808 ≤ m) (h1 : m < 18446744073709551616) : mayP (grw neg m e cut away) := by
  unfold grw
  split
  · split
    · exact bnd_may (by omega) (by omega)
    · exact bnd_may (by omega) (by omega)
  · exact bnd_may h0 h1
theorem rnd_may {neg : Bool} {v e : Int} {away : Bool} (hv : 0 < v) : mayP (rnd neg v e away) := by
  obtain ⟨q, E, c, h⟩ := fit_ex e hv
  rw [rnd_fit h]
  exact grw_may h.1 h.2.1
/-! the opposite -/
def ngv (n : Nm) : Nm := if n.1 = 0 then (0, false, 0, 0) else (n.1, !n.2.1, n.2.2.1, n.2.2.2)
theorem bnd_neg (neg : Bool) (m e : Int) (away : Bool) : ngv (bnd neg m e away) = bnd (!neg) m e away := by
  unfold bnd
  split
  · split <;> rfl
  · split
    · split <;> rfl
    · rfl
theorem grw_neg (neg : Bool) (m e : Int) (cut away : Bool) : ngv (grw neg m e cut away) = grw (!neg) m e cut away := by
  unfold grw
  split
  · split <;> exact bnd_neg _ _ _ _
  · exact bnd_neg _ _ _ _
theorem rnd_neg (neg : Bool) (v e : Int) (away : Bool) : ngv (rnd neg v e away) = rnd (!neg) v e away := by
  unfold rnd
  split
  · exact bnd_neg _ _ _ _
  · exact grw_neg _ _ _ _ _
theorem ngv_ngv {n : Nm} (h : mayP n) : ngv (ngv n) = n := by
  obtain ⟨a, b, c, d⟩ := n
  rcases h with ⟨h1, h2, h3, h4⟩ | ⟨h1, _⟩ | ⟨h1, _⟩ <;> simp only at h1
  · simp only at h2 h3 h4; subst h1 h2 h3 h4; rfl
  · subst h1; simp [ngv]
  · subst h1; simp [ngv]
theorem ngv_may {n : Nm} (h : mayP n) : mayP (ngv n) := by
  obtain ⟨a, b, c, d⟩ := n
  rcases h with ⟨h1, h2, h3, h4⟩ | ⟨h1, h2⟩ | ⟨h1, h2⟩ <;> simp only at h1
  · subst h1; exact .inl ⟨rfl, rfl, rfl, rfl⟩
  · subst h1; exact .inr (.inl ⟨rfl, h2⟩)
  · subst h1; exact .inr (.inr ⟨rfl, h2⟩)
/-! sums and products -/
/-- With the sign. -/
def sg (neg : Bool) (m : Int) : Int := if neg = true then -m else m
/-- An exact number, a whole one times a power of two, rounded. -/
def rnz (s e : Int) (up : Bool) : Nm := if s = 0 then (0, false, 0, 0) else rnd (decide (s < 0)) s.natAbs e (up != decide (s < 0))
/-- The exact sum of two finite ones, of which f is not above the exponents. -/
def exs (a b : Nm) (f : Int) : Int := sg a.2.1 a.2.2.1 * 2 ^ (a.2.2.2 - f).toNat + sg b.2.1 b.2.2.1 * 2 ^ (b.2.2.2 - f).toNat
/-- The sum of two that may be. -/
def addv (a b : Nm) (up : Bool) : Nm :=
  if a.1 = 2 ∧ b.1 = 2 ∧ a.2.1 ≠ b.2.1 then (2, !up, 0, 0)
  else if a.1 = 2 ∨ b.1 = 0 then a
  else if b.1 = 2 ∨ a.1 = 0 then b
  else rnz (exs a b (min a.2.2.2 b.2.2.2)) (min a.2.2.2 b.2.2.2) up
/-- The product of two that may be. -/
def mulv (a b : Nm) (up : Bool) : Nm :=
  if a.1 = 0 ∨ b.1 = 0 then (0, false, 0, 0)
  else if a.1 = 2 ∨ b.1 = 2 then (2, a.2.1 != b.2.1, 0, 0)
  else rnd (a.2.1 != b.2.1) (a.2.2.1 * b.2.2.1) (a.2.2.2 + b.2.2.2) (up != (a.2.1 != b.2.1))
theorem rnz_may (s e : Int) (up : Bool) : mayP (rnz s e up) := by
  unfold rnz
  split
  · exact .inl ⟨rfl, rfl, rfl, rfl⟩
  · exact rnd_may (by omega)
theorem rnz_neg (s e : Int) (up : Bool) : ngv (rnz s e up) = rnz (-s) e (!up) := by
  unfold rnz
  by_cases h : s = 0
  · rw [if_pos h, if_pos (by omega)]; rfl
  · rw [if_neg h, if_neg (by omega), rnd_neg, Int.natAbs_neg]
    have : decide (-s < 0) = !decide (s < 0) := by
      by_cases h2 : s < 0
      · rw [decide_eq_true h2, decide_eq_false (by omega)]; rfl
      · rw [decide_eq_false h2, decide_eq_true (by omega)]; rfl
    rw [this]
    cases up <;> cases decide (s < 0) <;> rfl
theorem rnz_scale (s e : Int) (j : Nat) (up : Bool) : rnz (s * 2 ^ j) e up = rnz s (e + j) up := by
  have hp := p2_pos j
  unfold rnz
  by_cases h : s = 0
  · rw [if_pos h, if_pos (by rw [h]; omega)]
  · have h1 : s * 2 ^ j ≠ 0 := Int.mul_ne_zero h (by omega)
    have h2 : decide (s * 2 ^ j < 0) = decide (s < 0) := by
      by_cases h2 : s < 0
      · rw [decide_eq_true h2, decide_eq_true (Int.mul_neg_of_neg_of_pos h2 hp)]
      · rw [decide_eq_false h2, decide_eq_false]
        have := Int.mul_pos (show 0 < s by omega) hp
        omega
    have h3 : ((s * 2 ^ j).natAbs : Int) = (s.natAbs : Int) * 2 ^ j := by
      rw [Int.natAbs_mul, Int.natCast_mul]
      rw [show ((((2 : Int) ^ j).natAbs : Nat) : Int) = 2 ^ j from Int.natAbs_of_nonneg (by omega)]
    rw [if_neg h1, if_neg h, h2, h3, rnd_scale (by omega)]
theorem exs_scale (a b : Nm) (f : Int) (j : Nat) (ha : f ≤ a.2.2.2) (hb : f ≤ b.2.2.2) : exs a b (f - j) = exs a b f * 2 ^ j := by
  unfold exs
  rw [show (a.2.2.2 - (f - j)).toNat = (a.2.2.2 - f).toNat + j by omega, show (b.2.2.2 - (f - j)).toNat = (b.2.2.2 - f).toNat + j by omega, p2_add, p2_add, Int.add_mul, Int.mul_assoc, Int.mul_assoc]
theorem exs_comm (a b : Nm) (f : Int) : exs a b f = exs b a f := by unfold exs; rw [Int.add_comm]
theorem addv_comm (a b : Nm) (up : Bool) (ha : mayP a) (hb : mayP b) : addv a b up = addv b a up := by
  obtain ⟨a1, a2, a3, a4⟩ := a
  obtain ⟨b1, b2, b3, b4⟩ := b
  unfold addv
  rw [exs_comm, Int.min_comm]
  rcases ha with ⟨h1, h2, h3, h4⟩ | ⟨h1, h2⟩ | ⟨h1, h2, h3⟩ <;> rcases hb with ⟨g1, g2, g3, g4⟩ | ⟨g1, g2⟩ | ⟨g1, g2, g3⟩ <;> simp only at h1 g1 <;> subst h1 g1 <;> simp_all
  all_goals (cases a2 <;> cases b2 <;> simp)
theorem sg_neg (n : Bool) (m : Int) : sg (!n) m = -sg n m := by cases n <;> simp [sg]
theorem addv_may {a b : Nm} (up : Bool) (ha : mayP a) (hb : mayP b) : mayP (addv a b up) := by
  unfold addv
  split
  · exact .inr (.inr ⟨rfl, rfl, rfl⟩)
  split
  · exact ha
  split
  · exact hb
  exact rnz_may _ _ _
theorem addv_neg (a b : Nm) (up : Bool) (ha : mayP a) (hb : mayP b) : ngv (addv a b up) = addv (ngv a) (ngv b) (!up) := by
  have e : ∀ f, a.1 = 1 → b.1 = 1 → exs (ngv a) (ngv b) f = -exs a b f := fun f h1 h2 => by
    unfold exs ngv
    rw [if_neg (by omega), if_neg (by omega), sg_neg, sg_neg]
    simp only [Int.neg_mul]
    omega
  obtain ⟨a1, a2, a3, a4⟩ := a
  obtain ⟨b1, b2, b3, b4⟩ := b
  unfold addv
  rcases ha with ⟨h1, h2, h3, h4⟩ | ⟨h1, h2⟩ | ⟨h1, h2, h3⟩ <;> rcases hb with ⟨g1, g2, g3, g4⟩ | ⟨g1, g2⟩ | ⟨g1, g2, g3⟩ <;> simp only at h1 g1 <;> subst h1 g1 <;> simp_all [ngv]
  · exact rnz_neg _ _ _
  · cases a2 <;> cases b2 <;> simp
theorem mulv_comm (a b : Nm) (up : Bool) : mulv a b up = mulv b a up := by
  unfold mulv
  rw [Int.mul_comm, Int.add_comm a.2.2.2]
  have e : (a.2.1 != b.2.1) = (b.2.1 != a.2.1) := by cases a.2.1 <;> cases b.2.1 <;> rfl
  rw [e]
  simp only [or_comm]
theorem mulv_may {a b : Nm} (up : Bool) (ha : mayP a) (hb : mayP b) : mayP (mulv a b up) := by
  unfold mulv
  split
  · exact .inl ⟨rfl, rfl, rfl, rfl⟩
  split
  · exact .inr (.inr ⟨rfl, rfl, rfl⟩)
  rcases ha with ⟨h1, h2, h3, h4⟩ | ⟨h1, h2, h3⟩ | ⟨h1, h2, h3⟩ <;> rcases hb with ⟨g1, g2, g3, g4⟩ | ⟨g1, g2, g3⟩ | ⟨g1, g2, g3⟩ <;> try omega
  exact rnd_may (Int.mul_pos (by omega) (by omega))
theorem mulv_neg (a b : Nm) (up : Bool) (ha : mayP a) (hb : mayP b) : ngv (mulv a b up) = mulv (ngv a) b (!up) := by
  obtain ⟨a1, a2, a3, a4⟩ := a
  obtain ⟨b1, b2, b3, b4⟩ := b
  unfold mulv
  rcases ha with ⟨h1, h2, h3, h4⟩ | ⟨h1, h2⟩ | ⟨h1, h2, h3⟩ <;> rcases hb with ⟨g1, g2, g3, g4⟩ | ⟨g1, g2⟩ | ⟨g1, g2, g3⟩ <;> simp only at h1 g1 <;> subst h1 g1 <;> simp [ngv]
  · cases a2 <;> cases b2 <;> cases up <;> exact rnd_neg _ _ _ _
  all_goals cases a2 <;> cases b2 <;> rfl
end Go.Proofs.Ythlhogcnfaiphaa.T
