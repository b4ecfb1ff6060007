/- Plain laws: what the functions answer, without the program's memory (part 4). No condition. -/
import Derived.Test.YtjjhfhhoefdjaaaGreatDoorP3
import Derived.KernelRfl
import Derived.DataShut
import Derived.Laws.BitsLemmas
import Derived.Lib.EndianBits
namespace Go.Proofs.YtjjhfhhoefdjaaaGreatDoor.Rf.Pl
open Go Go.Proofs
set_option linter.unusedVariables false
set_option linter.unusedSimpArgs false
/-! ### exact values at one power of two; what an interval has -/
theorem base_le {x y A B g h : Int} (gA : g ≤ A) (gB : g ≤ B) (hA : h ≤ A) (hB : h ≤ B) (H : x * 2 ^ (A - h).toNat ≤ y * 2 ^ (B - h).toNat) : x * 2 ^ (A - g).toNat ≤ y * 2 ^ (B - g).toNat := by
  by_cases hc : g ≤ h
  · have := mul_le_p (h - g).toNat H
    rw [Int.mul_assoc, Int.mul_assoc, ← p2_add, ← p2_add, show (A - h).toNat + (h - g).toNat = (A - g).toNat by omega, show (B - h).toNat + (h - g).toNat = (B - g).toNat by omega] at this
    exact this
  · refine le_of_p (g - h).toNat ?_
    rw [Int.mul_assoc, Int.mul_assoc, ← p2_add, ← p2_add, show (A - g).toNat + (g - h).toNat = (A - h).toNat by omega, show (B - g).toNat + (g - h).toNat = (B - h).toNat by omega]
    exact H
/-- Powers of two, from one far below on; half as far. -/
def pz (e : Int) : Int := 2 ^ (e - -2097280).toNat
def ph (e : Int) : Int := 2 ^ (e - -1048640).toNat
theorem pz_pos (e : Int) : 0 < pz e := p2_pos _
theorem ph_pos (e : Int) : 0 < ph e := p2_pos _
theorem pz_add {e : Int} (h : -2097280 ≤ e) (j : Nat) : pz (e + j) = 2 ^ j * pz e := by
  unfold pz; rw [← p2_add]; congr 1; omega
theorem pz_mono {a b : Int} (h : a ≤ b) : pz a ≤ pz b := by unfold pz; exact p2_mono (by omega)
theorem pz_succ {e : Int} (h : -2097280 ≤ e) : pz (e + 1) = 2 * pz e := by have := pz_add h 1; simpa using this
theorem ph_mul {a b : Int} (ha : -1048640 ≤ a) (hb : -1048640 ≤ b) : ph a * ph b = pz (a + b) := by
  unfold ph pz; rw [← p2_add]; congr 1; omega
/-- The exact number that is 2 to the power of nought, half as far. -/
def oneH : Int := ph 0
theorem oneH_pos : 0 < oneH := ph_pos _
def sx (n : Nm) : Int := sg n.2.1 n.2.2.1
def vh (n : Nm) : Int := sx n * ph n.2.2.2
def vz (n : Nm) : Int := sx n * pz n.2.2.2
theorem vz_vh {n : Nm} (h : -1048640 ≤ n.2.2.2) : vz n = vh n * oneH := by
  unfold vz vh oneH
  rw [Int.mul_assoc, ph_mul h (by omega), Int.add_zero]
theorem exp_lo {n : Nm} (h : mayP n) : -1048576 ≤ n.2.2.2 ∧ n.2.2.2 ≤ 1048576 := by
  rcases h with ⟨_, _, _, h⟩ | ⟨_, _, _, h1, h2⟩ | ⟨_, _, h⟩ <;> omega
theorem vz_zero {n : Nm} (h : mayP n) (h0 : n.1 = 0) : vz n = 0 ∧ vh n = 0 ∧ sx n = 0 := by
  rcases h with ⟨_, h1, h2, _⟩ | ⟨h1, _⟩ | ⟨h1, _⟩
  · unfold vz vh sx
    rw [h1, h2]; simp [sg]
  · omega
  · omega
theorem sv_ngv {n : Nm} (h : mayP n) : sx (ngv n) = -sx n := by
  by_cases h0 : n.1 = 0
  · rw [(vz_zero h h0).2.2]
    unfold sx ngv
    rw [if_pos h0]; rfl
  · unfold sx ngv
    rw [if_neg h0]
    exact sg_neg _ _
theorem ngv_exp {n : Nm} (h : mayP n) : (ngv n).2.2.2 = n.2.2.2 := by
  unfold ngv
  split
  · rename_i h0
    rcases h with ⟨_, _, _, h⟩ | ⟨h1, _⟩ | ⟨h1, _⟩
    · exact h.symm
    · omega
    · omega
  · rfl
theorem vz_ngv {n : Nm} (h : mayP n) : vz (ngv n) = -vz n := by unfold vz; rw [sv_ngv h, ngv_exp h, Int.neg_mul]
theorem vh_ngv {n : Nm} (h : mayP n) : vh (ngv n) = -vh n := by unfold vh; rw [sv_ngv h, ngv_exp h, Int.neg_mul]
theorem ngv_kind {n : Nm} : (ngv n).1 = n.1 := by unfold ngv; split <;> simp_all
/-- A number is not above an exact one; not below it. -/
def leN (n : Nm) (z : Int) : Prop := n.1 = 2 ∧ n.2.1 = true ∨ n.1 ≠ 2 ∧ vz n ≤ z
def geN (n : Nm) (z : Int) : Prop := n.1 = 2 ∧ n.2.1 = false ∨ n.1 ≠ 2 ∧ z ≤ vz n
theorem geN_ngv {n : Nm} (h : mayP n) {z : Int} : geN (ngv n) z ↔ leN n (-z) := by
  unfold geN leN
  rw [ngv_kind, vz_ngv h]
  have e : n.1 = 2 → ((ngv n).2.1 = false ↔ n.2.1 = true) := fun h2 => by
    unfold ngv; rw [if_neg (by omega)]; simp
  constructor
  · rintro (⟨h1, h2⟩ | ⟨h1, h2⟩)
    · exact .inl ⟨h1, (e h1).1 h2⟩
    · exact .inr ⟨h1, by omega⟩
  · rintro (⟨h1, h2⟩ | ⟨h1, h2⟩)
    · exact .inl ⟨h1, (e h1).2 h2⟩
    · exact .inr ⟨h1, by omega⟩
theorem leN_ngv {n : Nm} (h : mayP n) {z : Int} : leN (ngv n) z ↔ geN n (-z) := by
  have := geN_ngv (ngv_may h) (z := -z)
  rw [ngv_ngv h, Int.neg_neg] at this
  exact this.symm
theorem mul_le_l {a b c : Int} (h : b ≤ c) (ha : 0 ≤ a) : a * b ≤ a * c := Int.mul_le_mul_of_nonneg_left h ha
theorem mul_le_r {a b c : Int} (h : a ≤ b) (hc : 0 ≤ c) : a * c ≤ b * c := Int.mul_le_mul_of_nonneg_right h hc
/-- A number above nought, kept within the bounds: it is not made greater; it is not made less. -/
theorem bnd_low {neg : Bool} {m e z : Int} (m0 : 0 ≤ m) (m1 : m < 18446744073709551616) (m2 : 9223372036854775808 ≤ m) (e0 : -2097280 ≤ e) (h : m * pz e ≤ z) :
    (bnd neg m e false).1 ≠ 2 ∧ (bnd neg m e false).2.2.1 * pz (bnd neg m e false).2.2.2 ≤ z ∧ 0 ≤ (bnd neg m e false).2.2.1 ∧ ((bnd neg m e false).1 = 1 → (bnd neg m e false).2.1 = neg) ∧ ((bnd neg m e false).1 = 0 → (bnd neg m e false).2.2.1 = 0) := by
  unfold bnd
  by_cases h1 : e > 1048576
  · rw [if_pos h1, if_neg (by simp)]
    refine ⟨by simp, ?_, by simp, by simp, by simp⟩
    simp only
    have a1 := pz_succ (e := 1048576) (by omega)
    have a2 := pz_mono (show 1048576 + 1 ≤ e by omega)
    have a3 := pz_pos 1048576
    have a4 := mul_le_r m2 (Int.le_of_lt (pz_pos e))
    generalize pz 1048576 = p at *
    generalize pz e = q at *
    generalize pz (1048576 + 1) = r at *
    omega
  · rw [if_neg h1]
    by_cases h2 : e < -1048576
    · rw [if_pos h2, if_neg (by simp)]
      have := Int.mul_nonneg m0 (Int.le_of_lt (pz_pos e))
      refine ⟨by simp, ?_, by simp, by simp, by simp⟩
      simp only
      omega
    · rw [if_neg h2]
      exact ⟨by simp, h, m0, by simp, by simp⟩
theorem bnd_high {neg : Bool} {m e z : Int} (m1 : m < 18446744073709551616) (m2 : 9223372036854775808 ≤ m) (e0 : -2097280 ≤ e) (h : z ≤ m * pz e) :
    (bnd neg m e true).2.1 = neg ∧ ((bnd neg m e true).1 = 2 ∨ (bnd neg m e true).1 = 1 ∧ z ≤ (bnd neg m e true).2.2.1 * pz (bnd neg m e true).2.2.2) := by
  unfold bnd
  by_cases h1 : e > 1048576
  · rw [if_pos h1, if_pos rfl]
    exact ⟨rfl, .inl rfl⟩
  · rw [if_neg h1]
    by_cases h2 : e < -1048576
    · rw [if_pos h2, if_pos rfl]
      refine ⟨rfl, .inr ⟨rfl, ?_⟩⟩
      simp only
      have a1 := pz_succ (e := e) (by omega)
      have a2 := pz_mono (show e + 1 ≤ -1048576 by omega)
      have a3 := pz_pos e
      have a4 := mul_le_r (show m ≤ 18446744073709551616 by omega) (Int.le_of_lt a3)
      generalize pz e = q at *
      generalize pz (e + 1) = r at *
      generalize pz (-1048576) = p at *
      omega
    · rw [if_neg h2]
      exact ⟨rfl, .inr ⟨rfl, h⟩⟩
/-- Rounded toward nought; away from it. -/
theorem rnd_low (neg : Bool) {v f : Int} (hv : 0 < v) (f0 : -2097152 ≤ f) : (rnd neg v f false).1 ≠ 2 ∧ (rnd neg v f false).2.2.1 * pz (rnd neg v f false).2.2.2 ≤ v * pz f ∧ 0 ≤ (rnd neg v f false).2.2.1 ∧ ((rnd neg v f false).1 = 1 → (rnd neg v f false).2.1 = neg) ∧ ((rnd neg v f false).1 = 0 → (rnd neg v f false).2.2.1 = 0) ∧
    (rnd neg v f true).2.1 = neg ∧ ((rnd neg v f true).1 = 2 ∨ (rnd neg v f true).1 = 1 ∧ v * pz f ≤ (rnd neg v f true).2.2.1 * pz (rnd neg v f true).2.2.2) := by
  obtain ⟨q, E, c, hf⟩ := fit_ex f hv
  rw [rnd_fit hf, rnd_fit hf]
  obtain ⟨q0, q1, s, t, he, h1, h2, hc⟩ := hf
  have hs : s < 64 + t := by
    apply p2_lt
    have a1 := mul_le_r (show 1 ≤ v by omega) (Int.le_of_lt (p2_pos s))
    have a2 := mul_le_r (show q + 1 ≤ 18446744073709551616 by omega) (Int.le_of_lt (p2_pos t))
    rw [p2_add, p64]
    omega
  have hE : -2097280 ≤ E := by omega
  have L1 : q * pz E ≤ v * pz f := base_le (h := f - s) hE (by omega) (by omega) (by omega) (by rw [show (f - (f - s)).toNat = s by omega, show (E - (f - s)).toNat = t by omega]; exact h1)
  have L2 : v * pz f ≤ (q + 1) * pz E := base_le (h := f - s) (by omega) hE (by omega) (by omega) (by rw [show (f - (f - s)).toNat = s by omega, show (E - (f - s)).toNat = t by omega]; omega)
  have hl := bnd_low (neg := neg) (z := v * pz f) (by omega) q1 q0 hE L1
  have e1 : grw neg q E c false = bnd neg q E false := by unfold grw; rw [if_neg (by simp)]
  rw [e1]
  refine ⟨hl.1, hl.2.1, hl.2.2.1, hl.2.2.2.1, hl.2.2.2.2, ?_⟩
  unfold grw
  by_cases hcc : c = true
  · rw [if_pos ⟨hcc, rfl⟩]
    by_cases ho : q + 1 = 18446744073709551616
    · rw [if_pos ho]
      refine bnd_high (by omega) (by omega) (by omega) ?_
      rw [pz_succ hE]
      rw [ho] at L2
      omega
    · rw [if_neg ho]
      exact bnd_high (by omega) (by omega) hE L2
  · rw [if_neg (fun h => hcc h.1)]
    have heq : q * 2 ^ t = v * 2 ^ s := by
      apply Classical.byContradiction
      intro h3
      exact hcc (hc.2 h3)
    have L3 : v * pz f ≤ q * pz E := base_le (h := f - s) (by omega) hE (by omega) (by omega) (by rw [show (f - (f - s)).toNat = s by omega, show (E - (f - s)).toNat = t by omega]; omega)
    exact bnd_high q1 q0 hE L3
theorem rnz_low {S f : Int} (f0 : -2097152 ≤ f) : leN (rnz S f false) (S * pz f) := by
  unfold rnz
  by_cases hz : S = 0
  · rw [if_pos hz, hz, Int.zero_mul]
    exact .inr ⟨by simp, by simp [vz, sx, sg]⟩
  · rw [if_neg hz]
    obtain ⟨a1, a2, a3, a4, a5, a6, a7⟩ := rnd_low (decide (S < 0)) (v := S.natAbs) (by omega) f0
    by_cases hn : S < 0
    · rw [decide_eq_true hn] at *
      have hS : S * pz f = -((S.natAbs : Int) * pz f) := by rw [← Int.neg_mul]; congr 1; omega
      rw [hS]
      simp only [Bool.false_bne]
      rcases a7 with a7 | ⟨a7, a8⟩
      · exact .inl ⟨a7, a6⟩
      · refine .inr ⟨by omega, ?_⟩
        unfold vz sx
        rw [a6, sg, if_pos rfl, Int.neg_mul]
        omega
    · rw [decide_eq_false hn] at *
      have hS : S * pz f = (S.natAbs : Int) * pz f := by congr 1; omega
      rw [hS]
      simp only [bne_self_eq_false]
      refine .inr ⟨a1, ?_⟩
      unfold vz sx
      by_cases k : (rnd false S.natAbs f false).1 = 1
      · rw [a4 k, sg, if_neg (by simp)]; exact a2
      · have hm := rnd_may (neg := false) (v := (S.natAbs : Int)) (e := f) (away := false) (by omega)
        have k0 : (rnd false S.natAbs f false).1 = 0 := by
          rcases hm with h | h | h
          · exact h.1
          · exact absurd h.1 k
          · exact absurd h.1 a1
        rw [a5 k0]
        have : sg (rnd false (↑S.natAbs) f false).2.1 0 = 0 := by unfold sg; split <;> rfl
        rw [this, Int.zero_mul]
        have := Int.mul_nonneg (show 0 ≤ (S.natAbs : Int) by omega) (Int.le_of_lt (pz_pos f))
        exact this
theorem rnz_high {S f : Int} (f0 : -2097152 ≤ f) : geN (rnz S f true) (S * pz f) := by
  have h := rnz_low (S := -S) f0
  have e := rnz_neg (-S) f false
  rw [Int.neg_neg, Bool.not_false] at e
  rw [← e, geN_ngv (rnz_may _ _ _), ← Int.neg_mul]
  exact h
/-! sums -/
theorem pz_split {f e : Int} (h : f ≤ e) (h0 : -2097280 ≤ f) : 2 ^ (e - f).toNat * pz f = pz e := by
  rw [← pz_add h0]; congr 1; omega
theorem exs_pz {a b : Nm} {f : Int} (h0 : -2097280 ≤ f) (ha : f ≤ a.2.2.2) (hb : f ≤ b.2.2.2) : exs a b f * pz f = vz a + vz b := by
  unfold exs vz sx
  rw [Int.add_mul, Int.mul_assoc, Int.mul_assoc, pz_split ha h0, pz_split hb h0]
theorem add_low {a b : Nm} {x y : Int} (ha : mayP a) (hb : mayP b) (h1 : leN a x) (h2 : leN b y) : leN (addv a b false) (x + y) := by
  have ea := exp_lo ha
  have eb := exp_lo hb
  unfold addv
  rcases h1 with ⟨k1, n1⟩ | ⟨k1, v1⟩
  · rcases h2 with ⟨k2, n2⟩ | ⟨k2, v2⟩
    · rw [if_neg (by rw [n1, n2]; simp), if_pos (.inl k1)]; exact .inl ⟨k1, n1⟩
    · rw [if_neg (by omega), if_pos (.inl k1)]; exact .inl ⟨k1, n1⟩
  · rw [if_neg (by omega)]
    rcases h2 with ⟨k2, n2⟩ | ⟨k2, v2⟩
    · rw [if_neg (by omega), if_pos (.inl k2)]; exact .inl ⟨k2, n2⟩
    · by_cases b0 : b.1 = 0
      · rw [if_pos (.inr b0)]
        have := (vz_zero hb b0).1
        exact .inr ⟨k1, by omega⟩
      · rw [if_neg (by omega)]
        by_cases a0 : a.1 = 0
        · rw [if_pos (.inr a0)]
          have := (vz_zero ha a0).1
          exact .inr ⟨k2, by omega⟩
        · rw [if_neg (by omega)]
          have h := rnz_low (S := exs a b (min a.2.2.2 b.2.2.2)) (f := min a.2.2.2 b.2.2.2) (by omega)
          rw [exs_pz (by omega) (by omega) (by omega)] at h
          rcases h with h | ⟨h, h3⟩
          · exact .inl h
          · exact .inr ⟨h, by omega⟩
theorem add_high {a b : Nm} {x y : Int} (ha : mayP a) (hb : mayP b) (h1 : geN a x) (h2 : geN b y) : geN (addv a b true) (x + y) := by
  have h := add_low (ngv_may ha) (ngv_may hb) (x := -x) (y := -y) ((leN_ngv ha).2 (by rwa [Int.neg_neg])) ((leN_ngv hb).2 (by rwa [Int.neg_neg]))
  have e := addv_neg a b true ha hb
  rw [Bool.not_true] at e
  rw [← e, leN_ngv (addv_may _ ha hb)] at h
  rw [show x + y = -(-x + -y) by omega]
  exact h
/-! products -/
theorem sg_mul (a b : Bool) (x y : Int) : sg (a != b) (x * y) = sg a x * sg b y := by cases a <;> cases b <;> simp [sg, Int.neg_mul, Int.mul_neg]
theorem mulv_rnz {a b : Nm} (ha : mayP a) (hb : mayP b) (a2 : a.1 ≠ 2) (b2 : b.1 ≠ 2) (up : Bool) : rnz (sx a * sx b) (a.2.2.2 + b.2.2.2) up = mulv a b up := by
  by_cases ha0 : a.1 = 0
  · rw [(vz_zero ha ha0).2.2, Int.zero_mul]
    unfold rnz mulv
    rw [if_pos rfl, if_pos (.inl ha0)]
  by_cases hb0 : b.1 = 0
  · rw [(vz_zero hb hb0).2.2, Int.mul_zero]
    unfold rnz mulv
    rw [if_pos rfl, if_pos (.inr hb0)]
  have a1 : a.1 = 1 := by rcases ha with h | h | h <;> omega
  have b1 : b.1 = 1 := by rcases hb with h | h | h <;> omega
  have fa := may_fin ha a1
  have fb := may_fin hb b1
  rw [mulv_fin a1 b1]
  unfold sx
  rw [← sg_mul]
  exact rnz_sg (Int.mul_pos (by omega) (by omega)) _ _ _
theorem vh_mul {a b : Nm} (ha : mayP a) (hb : mayP b) : sx a * sx b * pz (a.2.2.2 + b.2.2.2) = vh a * vh b := by
  have ea := exp_lo ha
  have eb := exp_lo hb
  unfold vh
  rw [← ph_mul (by omega) (by omega)]
  generalize sx a = p
  generalize sx b = q
  generalize ph a.2.2.2 = u
  generalize ph b.2.2.2 = v
  rw [Int.mul_assoc, Int.mul_left_comm q u v, ← Int.mul_assoc]
theorem mul_low1 {a b : Nm} {z : Int} (ha : mayP a) (hb : mayP b) (a2 : a.1 ≠ 2) (b2 : b.1 ≠ 2) (h : vh a * vh b ≤ z) : leN (mulv a b false) z := by
  have ea := exp_lo ha
  have eb := exp_lo hb
  rw [← mulv_rnz ha hb a2 b2]
  have h1 := rnz_low (S := sx a * sx b) (f := a.2.2.2 + b.2.2.2) (by omega)
  rw [vh_mul ha hb] at h1
  rcases h1 with h1 | ⟨h1, h3⟩
  · exact .inl h1
  · exact .inr ⟨h1, by omega⟩
theorem mul_low0 {a b : Nm} {z : Int} (h : a.1 = 0 ∨ b.1 = 0) (hz : 0 ≤ z) : leN (mulv a b false) z := by
  unfold mulv
  rw [if_pos h]
  exact .inr ⟨by simp, by simpa [vz, sx, sg] using hz⟩
theorem mul_low2 {a b : Nm} {z : Int} (a0 : a.1 ≠ 0) (b0 : b.1 ≠ 0) (h : a.1 = 2 ∨ b.1 = 2) (hs : a.2.1 ≠ b.2.1) : leN (mulv a b false) z := by
  unfold mulv
  rw [if_neg (by omega), if_pos h]
  exact .inl ⟨rfl, by simpa using hs⟩
/-- Half as far: not above, not below. -/
def leH (n : Nm) (p : Int) : Prop := n.1 = 2 ∧ n.2.1 = true ∨ n.1 ≠ 2 ∧ vh n ≤ p
def geH (n : Nm) (p : Int) : Prop := n.1 = 2 ∧ n.2.1 = false ∨ n.1 ≠ 2 ∧ p ≤ vh n
theorem leH_N {n : Nm} (h : mayP n) {p : Int} : leH n p ↔ leN n (p * oneH) := by
  have e := exp_lo h
  have o := oneH_pos
  unfold leH leN
  rw [vz_vh (by omega)]
  constructor
  · rintro (h | ⟨h, h2⟩)
    · exact .inl h
    · exact .inr ⟨h, mul_le_r h2 (by omega)⟩
  · rintro (h | ⟨h, h2⟩)
    · exact .inl h
    · exact .inr ⟨h, Int.le_of_mul_le_mul_right h2 o⟩
theorem geH_N {n : Nm} (h : mayP n) {p : Int} : geH n p ↔ geN n (p * oneH) := by
  have e := exp_lo h
  have o := oneH_pos
  unfold geH geN
  rw [vz_vh (by omega)]
  constructor
  · rintro (h | ⟨h, h2⟩)
    · exact .inl h
    · exact .inr ⟨h, mul_le_r h2 (by omega)⟩
  · rintro (h | ⟨h, h2⟩)
    · exact .inl h
    · exact .inr ⟨h, Int.le_of_mul_le_mul_right h2 o⟩
theorem kindP {n : Nm} (h : mayP n) : n.1 = 0 ∧ vh n = 0 ∨ n.1 = 1 ∧ n.2.1 = false ∧ 0 < vh n ∨ n.1 = 1 ∧ n.2.1 = true ∧ vh n < 0 ∨ n.1 = 2 := by
  rcases h with h | h | h
  · exact .inl ⟨h.1, (vz_zero (.inl h) h.1).2.1⟩
  · have p := ph_pos n.2.2.2
    cases hn : n.2.1
    · refine .inr (.inl ⟨h.1, rfl, ?_⟩)
      unfold vh sx
      rw [hn, sg, if_neg (by simp)]
      exact Int.mul_pos (by omega) p
    · refine .inr (.inr (.inl ⟨h.1, rfl, ?_⟩))
      unfold vh sx
      rw [hn, sg, if_pos rfl, Int.neg_mul]
      have := Int.mul_pos (show 0 < n.2.2.1 by omega) p
      omega
  · exact .inr (.inr (.inr h.1))
/-- A corner of two intervals that is not above the product of what is in them. -/
theorem corner_low {a b c d : Nm} {p q : Int} (ha : mayP a) (hb : mayP b) (hc : mayP c) (hd : mayP d) (h1 : leH a p) (h2 : geH b p) (h3 : leH c q) (h4 : geH d q) :
    leN (mulv a c false) (p * q) ∨ leN (mulv a d false) (p * q) ∨ leN (mulv b c false) (p * q) ∨ leN (mulv b d false) (p * q) := by
  -- of opposite signs
  have opp : ∀ {u v : Nm} {z : Int}, mayP u → mayP v → 0 ≤ z → (u.1 = 2 ∧ u.2.1 = true ∨ u.1 ≠ 2 ∧ vh u < 0) → (v.1 = 2 ∧ v.2.1 = false ∨ v.1 ≠ 2 ∧ 0 ≤ vh v) → leN (mulv u v false) z ∧ leN (mulv v u false) z := by
    intro u v z hu hv hz ku kv
    rw [mulv_comm v u]
    refine (and_self_iff).2 ?_
    by_cases v0 : v.1 = 0
    · exact mul_low0 (.inr v0) hz
    have u0 : u.1 ≠ 0 := fun h => by
      have := (vz_zero hu h).2.1
      rcases ku with ⟨k, _⟩ | ⟨_, k⟩ <;> omega
    by_cases inf : u.1 = 2 ∨ v.1 = 2
    · refine mul_low2 u0 v0 inf ?_
      have su : u.2.1 = true := by
        rcases ku with ⟨_, k⟩ | ⟨k, k2⟩
        · exact k
        · rcases kindP hu with h | h | h | h
          · exact absurd h.1 u0
          · omega
          · exact h.2.1
          · exact absurd h k
      have sx : v.2.1 = false := by
        rcases kv with ⟨_, k⟩ | ⟨k, k2⟩
        · exact k
        · rcases kindP hv with h | h | h | h
          · exact absurd h.1 v0
          · exact h.2.1
          · omega
          · exact absurd h k
      rw [su, sx]; simp
    · have ku2 : vh u < 0 := by rcases ku with ⟨k, _⟩ | ⟨_, k⟩; exact absurd (.inl k) inf; exact k
      have kv2 : 0 ≤ vh v := by rcases kv with ⟨k, _⟩ | ⟨_, k⟩; exact absurd (.inr k) inf; exact k
      refine mul_low1 hu hv (fun h => inf (.inl h)) (fun h => inf (.inr h)) ?_
      have := Int.mul_nonneg (show 0 ≤ -vh u by omega) kv2
      rw [Int.neg_mul] at this
      omega
  by_cases hp : 0 ≤ p
  · by_cases hq : 0 ≤ q
    · have hz := Int.mul_nonneg hp hq
      by_cases a0 : a.1 ≠ 2 ∧ 0 ≤ vh a
      · by_cases c0 : c.1 ≠ 2 ∧ 0 ≤ vh c
        · left
          have pa : vh a ≤ p := by rcases h1 with ⟨h, _⟩ | ⟨_, h⟩; exact absurd h a0.1; exact h
          have qc : vh c ≤ q := by rcases h3 with ⟨h, _⟩ | ⟨_, h⟩; exact absurd h c0.1; exact h
          refine mul_low1 ha hc a0.1 c0.1 ?_
          exact Int.le_trans (mul_le_r pa c0.2) (mul_le_l qc hp)
        · right; right; left
          refine (opp hc hb hz ?_ ?_).2
          · rcases h3 with h | ⟨h, _⟩
            · exact .inl h
            · exact .inr ⟨h, by have : ¬ 0 ≤ vh c := fun x => c0 ⟨h, x⟩; omega⟩
          · rcases h2 with h | ⟨h, h5⟩
            · exact .inl h
            · exact .inr ⟨h, by omega⟩
      · right; left
        refine (opp ha hd hz ?_ ?_).1
        · rcases h1 with h | ⟨h, _⟩
          · exact .inl h
          · exact .inr ⟨h, by have : ¬ 0 ≤ vh a := fun x => a0 ⟨h, x⟩; omega⟩
        · rcases h4 with h | ⟨h, h5⟩
          · exact .inl h
          · exact .inr ⟨h, by omega⟩
    · -- p at least nought, q below: b and c
      right; right; left
      by_cases b0 : b.1 = 0
      · have := (vz_zero hb b0).2.1
        have : p = 0 := by rcases h2 with ⟨h, _⟩ | ⟨_, h⟩ <;> omega
        exact mul_low0 (.inl b0) (by rw [this, Int.zero_mul]; omega)
      have kc : c.1 ≠ 0 := fun h => by
        have := (vz_zero hc h).2.1
        rcases h3 with ⟨k, _⟩ | ⟨_, k⟩ <;> omega
      by_cases inf : b.1 = 2 ∨ c.1 = 2
      · refine mul_low2 b0 kc inf ?_
        have sb : b.2.1 = false := by
          rcases h2 with ⟨_, k⟩ | ⟨k, k2⟩
          · exact k
          · rcases kindP hb with h | h | h | h
            · exact absurd h.1 b0
            · exact h.2.1
            · omega
            · exact absurd h k
        have sc : c.2.1 = true := by
          rcases h3 with ⟨_, k⟩ | ⟨k, k2⟩
          · exact k
          · rcases kindP hc with h | h | h | h
            · exact absurd h.1 kc
            · omega
            · exact h.2.1
            · exact absurd h k
        rw [sb, sc]; simp
      · have pb : p ≤ vh b := by rcases h2 with ⟨h, _⟩ | ⟨_, h⟩; exact absurd (.inl h) inf; exact h
        have qc : vh c ≤ q := by rcases h3 with ⟨h, _⟩ | ⟨_, h⟩; exact absurd (.inr h) inf; exact h
        refine mul_low1 hb hc (fun h => inf (.inl h)) (fun h => inf (.inr h)) ?_
        have e1 := mul_le_r pb (show 0 ≤ -vh c by omega)
        rw [Int.mul_neg, Int.mul_neg] at e1
        have e2 := mul_le_l qc hp
        omega
  · by_cases hq : 0 ≤ q
    · right; left
      by_cases d0 : d.1 = 0
      · have := (vz_zero hd d0).2.1
        have : q = 0 := by rcases h4 with ⟨h, _⟩ | ⟨_, h⟩ <;> omega
        exact mul_low0 (.inr d0) (by rw [this, Int.mul_zero]; omega)
      have ka : a.1 ≠ 0 := fun h => by
        have := (vz_zero ha h).2.1
        rcases h1 with ⟨k, _⟩ | ⟨_, k⟩ <;> omega
      by_cases inf : a.1 = 2 ∨ d.1 = 2
      · refine mul_low2 ka d0 inf ?_
        have sd : d.2.1 = false := by
          rcases h4 with ⟨_, k⟩ | ⟨k, k2⟩
          · exact k
          · rcases kindP hd with h | h | h | h
            · exact absurd h.1 d0
            · exact h.2.1
            · omega
            · exact absurd h k
        have sa : a.2.1 = true := by
          rcases h1 with ⟨_, k⟩ | ⟨k, k2⟩
          · exact k
          · rcases kindP ha with h | h | h | h
            · exact absurd h.1 ka
            · omega
            · exact h.2.1
            · exact absurd h k
        rw [sa, sd]; simp
      · have pa : vh a ≤ p := by rcases h1 with ⟨h, _⟩ | ⟨_, h⟩; exact absurd (.inl h) inf; exact h
        have qd : q ≤ vh d := by rcases h4 with ⟨h, _⟩ | ⟨_, h⟩; exact absurd (.inr h) inf; exact h
        refine mul_low1 ha hd (fun h => inf (.inl h)) (fun h => inf (.inr h)) ?_
        have e1 := mul_le_r pa (show 0 ≤ vh d by omega)
        have e2 := mul_le_l qd (show 0 ≤ -p by omega)
        rw [Int.neg_mul, Int.neg_mul] at e2
        omega
    · have hz := Int.mul_nonneg (show 0 ≤ -p by omega) (show 0 ≤ -q by omega)
      rw [Int.neg_mul_neg] at hz
      by_cases b0 : b.1 ≠ 2 ∧ vh b ≤ 0
      · by_cases d0 : d.1 ≠ 2 ∧ vh d ≤ 0
        · right; right; right
          have pb : p ≤ vh b := by rcases h2 with ⟨h, _⟩ | ⟨_, h⟩; exact absurd h b0.1; exact h
          have qd : q ≤ vh d := by rcases h4 with ⟨h, _⟩ | ⟨_, h⟩; exact absurd h d0.1; exact h
          refine mul_low1 hb hd b0.1 d0.1 ?_
          have e1 := mul_le_r pb (show 0 ≤ -vh d by omega)
          rw [Int.mul_neg, Int.mul_neg] at e1
          have e2 := mul_le_l qd (show 0 ≤ -p by omega)
          rw [Int.neg_mul, Int.neg_mul] at e2
          omega
        · right; left
          refine (opp ha hd hz ?_ ?_).1
          · rcases h1 with h | ⟨h, h5⟩
            · exact .inl h
            · exact .inr ⟨h, by omega⟩
          · rcases h4 with h | ⟨h, _⟩
            · exact .inl h
            · exact .inr ⟨h, by have : ¬ vh d ≤ 0 := fun x => d0 ⟨h, x⟩; omega⟩
      · right; right; left
        refine (opp hc hb hz ?_ ?_).2
        · rcases h3 with h | ⟨h, h5⟩
          · exact .inl h
          · exact .inr ⟨h, by omega⟩
        · rcases h2 with h | ⟨h, _⟩
          · exact .inl h
          · exact .inr ⟨h, by have : ¬ vh b ≤ 0 := fun x => b0 ⟨h, x⟩; omega⟩
theorem corner_high {a b c d : Nm} {p q : Int} (ha : mayP a) (hb : mayP b) (hc : mayP c) (hd : mayP d) (h1 : leH a p) (h2 : geH b p) (h3 : leH c q) (h4 : geH d q) :
    geN (mulv a c true) (p * q) ∨ geN (mulv a d true) (p * q) ∨ geN (mulv b c true) (p * q) ∨ geN (mulv b d true) (p * q) := by
  have g1 : leH (ngv b) (-p) := by rw [leH_N (ngv_may hb), leN_ngv hb, Int.neg_mul, Int.neg_neg]; exact (geH_N hb).1 h2
  have g2 : geH (ngv a) (-p) := by rw [geH_N (ngv_may ha), geN_ngv ha, Int.neg_mul, Int.neg_neg]; exact (leH_N ha).1 h1
  have conv : ∀ {u v : Nm}, mayP u → mayP v → leN (mulv (ngv u) v false) (-p * q) → geN (mulv u v true) (p * q) := fun {u v} hu hv h => by
    have e := mulv_neg u v true hu hv
    rw [Bool.not_true] at e
    rw [← e, leN_ngv (mulv_may _ hu hv), Int.neg_mul, Int.neg_neg] at h
    exact h
  rcases corner_low (ngv_may hb) (ngv_may ha) hc hd g1 g2 h3 h4 with h | h | h | h
  · exact .inr (.inr (.inl (conv hb hc h)))
  · exact .inr (.inr (.inr (conv hb hd h)))
  · exact .inl (conv ha hc h)
  · exact .inr (.inl (conv ha hd h))
/-! ### what an interval has: sums, products, meets -/
theorem mag_pz {m e m' e' : Int} (h0 : 0 ≤ m) (h1 : m < 18446744073709551616) (h2 : 9223372036854775808 ≤ m') (he : -2097280 ≤ e) (h : e < e' ∨ e = e' ∧ m < m') : m * pz e < m' * pz e' := by
  rcases h with h | ⟨rfl, h⟩
  · have a1 := pz_succ he
    have a2 := pz_mono (show e + 1 ≤ e' by omega)
    have a3 := pz_pos e
    have a4 := Int.mul_lt_mul_of_pos_right h1 a3
    have a5 := mul_le_r h2 (Int.le_of_lt (pz_pos e'))
    generalize pz e = p at *
    generalize pz (e + 1) = q at *
    generalize pz e' = r at *
    omega
  · exact Int.mul_lt_mul_of_pos_right h (pz_pos e)
theorem tlt_vz {a b : Nm} (ha : mayP a) (hb : mayP b) (a2 : a.1 ≠ 2) (b2 : b.1 ≠ 2) : (tlt (tri a) (tri b) → vz a < vz b) ∧ (¬ tlt (tri a) (tri b) → ¬ tlt (tri b) (tri a) → vz a = vz b) := by
  obtain ⟨a1, an, am, ae⟩ := a
  obtain ⟨b1, bn, bm, be⟩ := b
  rcases ha with ⟨h1, h2, h3, h4⟩ | ⟨h1, h2, h3, h4, h5⟩ | ⟨h1, _⟩
  · simp only at h1 h2 h3 h4
    subst h1 h2 h3 h4
    rcases hb with ⟨g1, g2, g3, g4⟩ | ⟨g1, g2, g3, g4, g5⟩ | ⟨g1, _⟩
    · simp only at g1 g2 g3 g4
      subst g1 g2 g3 g4
      exact ⟨fun h => by simp [tri, tlt] at h, fun _ _ => rfl⟩
    · simp only at g1 g2 g3; subst g1
      have p := Int.mul_pos (show 0 < bm by omega) (pz_pos be)
      cases bn <;> simp [tri, tlt, vz, sx, sg, Int.neg_mul] <;> omega
    · exact absurd g1 b2
  · simp only at h1 h2 h3 h4 h5; subst h1
    have q := Int.mul_pos (show 0 < am by omega) (pz_pos ae)
    rcases hb with ⟨g1, g2, g3, g4⟩ | ⟨g1, g2, g3, g4, g5⟩ | ⟨g1, _⟩
    · simp only at g1 g2 g3 g4
      subst g1 g2 g3 g4
      cases an <;> simp [tri, tlt, vz, sx, sg, Int.neg_mul] <;> omega
    · simp only at g1 g2 g3 g4 g5; subst g1
      have p := Int.mul_pos (show 0 < bm by omega) (pz_pos be)
      have e1 := fun h => mag_pz (m := am) (e := ae) (m' := bm) (e' := be) (by omega) h3 g2 (by omega) h
      have e2 := fun h => mag_pz (m := bm) (e := be) (m' := am) (e' := ae) (by omega) g3 h2 (by omega) h
      cases an <;> cases bn <;> simp only [tri, tlt, vz, sx, sg, Int.neg_mul, Bool.false_eq_true, if_false, if_true]
      · refine ⟨fun h => e1 (by omega), fun h h' => ?_⟩
        obtain ⟨rfl, rfl⟩ : ae = be ∧ am = bm := by simp only [true_and] at h h'; omega
        rfl
      · exact ⟨fun h => by omega, fun h h' => by omega⟩
      · exact ⟨fun h => by omega, fun h h' => by omega⟩
      · refine ⟨fun h => ?_, fun h h' => ?_⟩
        · have := e2 (by omega); omega
        · obtain ⟨rfl, rfl⟩ : ae = be ∧ am = bm := by simp only [true_and] at h h'; omega
          rfl
    · exact absurd g1 b2
  · exact absurd h1 a2
theorem cmp_vz {a b : Nm} (ha : mayP a) (hb : mayP b) (a2 : a.1 ≠ 2) (b2 : b.1 ≠ 2) : cmp a b ≤ 0 ↔ vz a ≤ vz b := by
  rw [cmp_le, fairP ha, fairP hb]
  obtain ⟨p1, p2⟩ := tlt_vz hb ha b2 a2
  obtain ⟨p3, _⟩ := tlt_vz ha hb a2 b2
  constructor
  · intro h
    by_cases h2 : tlt (tri a) (tri b)
    · exact Int.le_of_lt (p3 h2)
    · have := p2 h h2; omega
  · intro h h2
    have := p1 h2
    omega
theorem cmp_vz_lt {a b : Nm} (ha : mayP a) (hb : mayP b) (a2 : a.1 ≠ 2) (b2 : b.1 ≠ 2) : cmp a b > 0 ↔ vz b < vz a := by
  have := cmp_vz ha hb a2 b2
  omega
theorem infP {n : Nm} (h : mayP n) (h2 : n.1 = 2) : n = inf n.2.1 := by
  obtain ⟨a, b, c, d⟩ := n
  rcases h with h | h | h
  · simp only at h2 h; omega
  · simp only at h2 h; omega
  · simp only at h
    obtain ⟨rfl, rfl, rfl⟩ := h
    rfl
theorem tri_fin {n : Nm} (h : mayP n) (h2 : n.1 ≠ 2) : -1 ≤ (tri n).1 ∧ (tri n).1 ≤ 1 := by
  obtain ⟨a, b, c, d⟩ := n
  have ha : a = 0 ∨ a = 1 := by
    rcases h with h | h | h
    · exact .inl h.1
    · exact .inr h.1
    · exact absurd h.1 h2
  unfold tri
  cases b <;> simp <;> omega
theorem leN_cmp {n x : Nm} (hn : mayP n) (hx : mayP x) (x2 : x.1 ≠ 2) : cmp n x ≤ 0 ↔ leN n (vz x) := by
  by_cases h2 : n.1 = 2
  · have e := infP hn h2
    have t := tri_fin hx x2
    rw [cmp_le, fairP hn, fairP hx, e]
    unfold tlt leN
    cases n.2.1
    · simp [tri] at t ⊢
      omega
    · simp [tri] at t ⊢
      omega
  · rw [cmp_vz hn hx h2 x2]
    unfold leN
    constructor
    · intro h; exact .inr ⟨h2, h⟩
    · rintro (⟨h, _⟩ | ⟨_, h⟩)
      · exact absurd h h2
      · exact h
theorem geN_cmp {n x : Nm} (hn : mayP n) (hx : mayP x) (x2 : x.1 ≠ 2) : cmp x n ≤ 0 ↔ geN n (vz x) := by
  by_cases h2 : n.1 = 2
  · have e := infP hn h2
    have t := tri_fin hx x2
    rw [cmp_le, fairP hn, fairP hx, e]
    unfold tlt geN
    cases n.2.1
    · simp [tri] at t ⊢
      omega
    · simp [tri] at t ⊢
      omega
  · rw [cmp_vz hx hn x2 h2]
    unfold geN
    constructor
    · intro h; exact .inr ⟨h2, h⟩
    · rintro (⟨h, _⟩ | ⟨_, h⟩)
      · exact absurd h h2
      · exact h
theorem lo_hi {a b : Nm} {z : Int} (ha : mayP a) (hb : mayP b) (h1 : leN a z) (h2 : geN b z) : cmp a b ≤ 0 := by
  by_cases a2 : a.1 = 2
  · have sa : a.2.1 = true := by rcases h1 with ⟨_, h⟩ | ⟨h, _⟩; exact h; exact absurd a2 h
    have e := infP ha a2
    rw [cmp_le, fairP ha, fairP hb, e, sa]
    obtain ⟨b1, bn, bm, be⟩ := b
    unfold tlt tri
    rcases hb with h | h | h <;> simp only at h <;> cases bn <;> simp <;> omega
  · by_cases b2 : b.1 = 2
    · have sb : b.2.1 = false := by rcases h2 with ⟨_, h⟩ | ⟨h, _⟩; exact h; exact absurd b2 h
      have e := infP hb b2
      rw [cmp_le, fairP ha, fairP hb, e, sb]
      have t := tri_fin ha a2
      simp only [tlt, tri] at t ⊢
      simp only [Bool.false_eq_true, if_false]
      omega
    · rw [cmp_vz ha hb a2 b2]
      rcases h1 with ⟨h, _⟩ | ⟨_, h1⟩
      · exact absurd h a2
      · rcases h2 with ⟨h, _⟩ | ⟨_, h2⟩
        · exact absurd h b2
        · omega
theorem leN_mono {a b : Nm} {z : Int} (ha : mayP a) (hb : mayP b) (h : cmp a b ≤ 0) (h1 : leN b z) : leN a z := by
  by_cases b2 : b.1 = 2
  · have sb : b.2.1 = true := by rcases h1 with ⟨_, h⟩ | ⟨h, _⟩; exact h; exact absurd b2 h
    have e := infP hb b2
    rw [cmp_le, fairP ha, fairP hb, e, sb] at h
    obtain ⟨a1, an, am, ae⟩ := a
    unfold tlt tri at h
    unfold leN
    rcases ha with g | g | g <;> simp only at g <;> obtain ⟨rfl, g⟩ := g <;> cases an <;> simp at h ⊢ <;> omega
  · have h3 := (leN_cmp ha hb b2).1 h
    rcases h1 with ⟨g, _⟩ | ⟨_, g⟩
    · exact absurd g b2
    · rcases h3 with h3 | ⟨h3, h4⟩
      · exact .inl h3
      · exact .inr ⟨h3, by omega⟩
theorem geN_mono {a b : Nm} {z : Int} (ha : mayP a) (hb : mayP b) (h : cmp b a ≤ 0) (h1 : geN b z) : geN a z := by
  by_cases b2 : b.1 = 2
  · have sb : b.2.1 = false := by rcases h1 with ⟨_, h⟩ | ⟨h, _⟩; exact h; exact absurd b2 h
    have e := infP hb b2
    rw [cmp_le, fairP ha, fairP hb, e, sb] at h
    obtain ⟨a1, an, am, ae⟩ := a
    unfold tlt tri at h
    unfold geN
    rcases ha with g | g | g <;> simp only at g <;> obtain ⟨rfl, g⟩ := g <;> cases an <;> simp at h ⊢ <;> omega
  · have h3 := (geN_cmp ha hb b2).1 h
    rcases h1 with ⟨g, _⟩ | ⟨_, g⟩
    · exact absurd g b2
    · rcases h3 with h3 | ⟨h3, h4⟩
      · exact .inl h3
      · exact .inr ⟨h3, by omega⟩
/-- An interval has an exact number. -/
def inI (x : Iv) (z : Int) : Prop := x.1 = false ∧ leN x.2.1 z ∧ geN x.2.2 z
theorem leN_ne {n : Nm} {z : Int} (h : leN n z) : n ≠ inf false := by
  rintro rfl
  rcases h with ⟨_, h⟩ | ⟨h, _⟩
  · cases h
  · exact h rfl
theorem geN_ne {n : Nm} {z : Int} (h : geN n z) : n ≠ inf true := by
  rintro rfl
  rcases h with ⟨_, h⟩ | ⟨h, _⟩
  · cases h
  · exact h rfl
theorem inI_mkI {a b : Nm} {z : Int} (ha : mayP a) (hb : mayP b) (h1 : leN a z) (h2 : geN b z) : mkI a b = (false, a, b) ∧ inI (mkI a b) z := by
  have e := mkI_may (lo_hi ha hb h1 h2) (by rw [fairP ha]; exact leN_ne h1) (by rw [fairP hb]; exact geN_ne h2)
  rw [fairP ha, fairP hb] at e
  rw [e]
  exact ⟨rfl, rfl, h1, h2⟩
theorem endsP {x : Iv} {z : Int} (hm : mayI x = true) (hw : wfI x) (h : inI x z) : mayP x.2.1 ∧ mayP x.2.2 ∧ fairI x = x ∧ bad x = false := by
  obtain ⟨_, m1, m2, _⟩ := mayI_full hm h.1
  exact ⟨mayP_of m1 hw.1, mayP_of m2 hw.2, fairI_may hm, by unfold bad; rw [h.1, hm]; rfl⟩
theorem two_in {x y : Iv} {z : Int} (hx : mayI x = true) (wx : wfI x) (hy : mayI y = true) (wy : wfI y) (h1 : inI x z) (h2 : inI y z) : inI (two x y) z := by
  obtain ⟨a1, a2, a3, _⟩ := endsP hx wx h1
  obtain ⟨b1, b2, b3, _⟩ := endsP hy wy h2
  unfold two
  rw [a3, b3, h1.1, h2.1]
  simp only [Bool.or_self, Bool.false_eq_true, if_false]
  have ml : leN (most [x.2.1, y.2.1]) z ∧ mayP (most [x.2.1, y.2.1]) := by
    refine ⟨?_, mayP_of (most_may _) (wfN_most fun n hn => ?_)⟩
    · rcases most_mem [x.2.1, y.2.1] with e | ⟨n, hn, e⟩ <;> rw [e]
      · exact .inl ⟨rfl, rfl⟩
      · simp only [List.mem_cons, List.not_mem_nil, or_false] at hn
        rcases hn with rfl | rfl
        · rw [fairP a1]; exact h1.2.1
        · rw [fairP b1]; exact h2.2.1
    · simp only [List.mem_cons, List.not_mem_nil, or_false] at hn
      rcases hn with rfl | rfl
      · exact wx.1
      · exact wy.1
  have mh : geN (least [x.2.2, y.2.2]) z ∧ mayP (least [x.2.2, y.2.2]) := by
    refine ⟨?_, mayP_of (least_may _) (wfN_least fun n hn => ?_)⟩
    · rcases least_mem [x.2.2, y.2.2] with e | ⟨n, hn, e⟩ <;> rw [e]
      · exact .inl ⟨rfl, rfl⟩
      · simp only [List.mem_cons, List.not_mem_nil, or_false] at hn
        rcases hn with rfl | rfl
        · rw [fairP a2]; exact h1.2.2
        · rw [fairP b2]; exact h2.2.2
    · simp only [List.mem_cons, List.not_mem_nil, or_false] at hn
      rcases hn with rfl | rfl
      · exact wx.2
      · exact wy.2
  exact (inI_mkI ml.2 mh.2 ml.1 mh.1).2
theorem add_in {x y : Iv} {z w : Int} (hx : mayI x = true) (wx : wfI x) (hy : mayI y = true) (wy : wfI y) (h1 : inI x z) (h2 : inI y w) : inI (addI x y) (z + w) := by
  obtain ⟨a1, a2, a3, a4⟩ := endsP hx wx h1
  obtain ⟨b1, b2, b3, b4⟩ := endsP hy wy h2
  unfold addI
  rw [a4, b4, fairP a1, fairP a2, fairP b1, fairP b2]
  simp only [Bool.or_self, Bool.false_eq_true, if_false]
  exact (inI_mkI (addv_may _ a1 b1) (addv_may _ a2 b2) (add_low a1 b1 h1.2.1 h2.2.1) (add_high a2 b2 h1.2.2 h2.2.2)).2
theorem neg_in {x : Iv} {z : Int} (hx : mayI x = true) (wx : wfI x) (h1 : inI x z) : inI (negI x) (-z) := by
  obtain ⟨a1, a2, a3, a4⟩ := endsP hx wx h1
  unfold negI
  rw [a4, neg_eq a1, neg_eq a2]
  simp only [Bool.false_eq_true, if_false]
  exact (inI_mkI (ngv_may a2) (ngv_may a1) ((leN_ngv a2).2 (by rw [Int.neg_neg]; exact h1.2.2)) ((geN_ngv a1).2 (by rw [Int.neg_neg]; exact h1.2.1))).2
theorem mayI_negI (x : Iv) : mayI (negI x) = true := by unfold negI; split; exact mayI_noneI; exact mayI_mkI _ _
theorem mayI_addI (x y : Iv) : mayI (addI x y) = true := by unfold addI; split; exact mayI_noneI; exact mayI_mkI _ _
theorem mayI_subI (x y : Iv) : mayI (subI x y) = true := mayI_addI _ _
theorem mayI_mulI (x y : Iv) : mayI (mulI x y) = true := by unfold mulI; split; exact mayI_noneI; exact mayI_mkI _ _
theorem sub_in {x y : Iv} {z w : Int} (hx : mayI x = true) (wx : wfI x) (hy : mayI y = true) (wy : wfI y) (h1 : inI x z) (h2 : inI y w) : inI (subI x y) (z - w) := by
  rw [Int.sub_eq_add_neg]
  exact add_in hx wx (mayI_negI y) (wfI_negI wy) h1 (neg_in hy wy h2)
theorem mul_in {x y : Iv} {p q : Int} (hx : mayI x = true) (wx : wfI x) (hy : mayI y = true) (wy : wfI y) (h1 : inI x (p * oneH)) (h2 : inI y (q * oneH)) : inI (mulI x y) (p * q) := by
  obtain ⟨a1, a2, a3, a4⟩ := endsP hx wx h1
  obtain ⟨b1, b2, b3, b4⟩ := endsP hy wy h2
  unfold mulI
  rw [a4, b4, fairP a1, fairP a2, fairP b1, fairP b2]
  simp only [Bool.or_self, Bool.false_eq_true, if_false]
  have m : ∀ up (u v : Nm), mayP u → mayP v → mayP (mulv u v up) := fun up u v hu hv => mulv_may up hu hv
  have L := corner_low a1 a2 b1 b2 ((leH_N a1).2 h1.2.1) ((geH_N a2).2 h1.2.2) ((leH_N b1).2 h2.2.1) ((geH_N b2).2 h2.2.2)
  have H := corner_high a1 a2 b1 b2 ((leH_N a1).2 h1.2.1) ((geH_N a2).2 h1.2.2) ((leH_N b1).2 h2.2.1) ((geH_N b2).2 h2.2.2)
  have l0 : ∀ (l : List Nm), (∀ n ∈ l, mayP n) → (∃ n ∈ l, leN n (p * q)) → mayP (least l) ∧ leN (least l) (p * q) := fun l hl ⟨n, hn, h⟩ => by
    have hm : mayP (least l) := mayP_of (least_may _) (wfN_least fun n hn => wfN_mayP (hl n hn))
    exact ⟨hm, leN_mono hm (hl n hn) (least_le hn) h⟩
  have h0 : ∀ (l : List Nm), (∀ n ∈ l, mayP n) → (∃ n ∈ l, geN n (p * q)) → mayP (most l) ∧ geN (most l) (p * q) := fun l hl ⟨n, hn, h⟩ => by
    have hm : mayP (most l) := mayP_of (most_may _) (wfN_most fun n hn => wfN_mayP (hl n hn))
    exact ⟨hm, geN_mono hm (hl n hn) (most_ge hn) h⟩
  have A := l0 [mulv x.2.1 y.2.1 false, mulv x.2.1 y.2.2 false, mulv x.2.2 y.2.1 false, mulv x.2.2 y.2.2 false] (fun n hn => by
    simp only [List.mem_cons, List.not_mem_nil, or_false] at hn
    rcases hn with rfl | rfl | rfl | rfl
    · exact m _ _ _ a1 b1
    · exact m _ _ _ a1 b2
    · exact m _ _ _ a2 b1
    · exact m _ _ _ a2 b2) (by
    rcases L with h | h | h | h
    · exact ⟨_, by simp, h⟩
    · exact ⟨_, by simp, h⟩
    · exact ⟨_, by simp, h⟩
    · exact ⟨_, by simp, h⟩)
  have B := h0 [mulv x.2.1 y.2.1 true, mulv x.2.1 y.2.2 true, mulv x.2.2 y.2.1 true, mulv x.2.2 y.2.2 true] (fun n hn => by
    simp only [List.mem_cons, List.not_mem_nil, or_false] at hn
    rcases hn with rfl | rfl | rfl | rfl
    · exact m _ _ _ a1 b1
    · exact m _ _ _ a1 b2
    · exact m _ _ _ a2 b1
    · exact m _ _ _ a2 b2) (by
    rcases H with h | h | h | h
    · exact ⟨_, by simp, h⟩
    · exact ⟨_, by simp, h⟩
    · exact ⟨_, by simp, h⟩
    · exact ⟨_, by simp, h⟩)
  exact (inI_mkI A.1 B.1 A.2 B.2).2
theorem fair_P {n : Nm} (h : wfN n) : mayP (fair n) := fair_wf h
theorem has_in {x : Iv} {n : Nm} (wx : wfI x) (wn : wfN n) : has x n = true ↔ mayI x = true ∧ (fair n).1 ≠ 2 ∧ inI x (vz (fair n)) := by
  have hf := fair_P wn
  unfold has
  rw [mkI_point]
  by_cases h2 : (fair n).1 = 2
  · rw [if_pos h2]
    simp [noneI, h2]
  · rw [if_neg h2]
    have mp : mayI (false, fair n, fair n) = true := by
      rw [mayI_iff]
      refine ⟨may_of hf, may_of hf, by rw [cmp_self]; decide, ?_, ?_⟩
      · intro e; rw [e] at h2; exact h2 rfl
      · intro e; rw [e] at h2; exact h2 rfl
    simp only [Bool.not_false, Bool.true_and]
    rw [within_iff, fairI_may mp]
    simp only [Bool.false_eq_true, false_or]
    by_cases hm : mayI x = true
    · rw [fairI_may hm]
      constructor
      · rintro ⟨h, h3, h4⟩
        obtain ⟨_, m1, m2, _⟩ := mayI_full hm h
        exact ⟨hm, h2, h, (leN_cmp (mayP_of m1 wx.1) hf h2).1 h3, (geN_cmp (mayP_of m2 wx.2) hf h2).1 h4⟩
      · rintro ⟨_, _, h, h3, h4⟩
        obtain ⟨_, m1, m2, _⟩ := mayI_full hm h
        exact ⟨h, (leN_cmp (mayP_of m1 wx.1) hf h2).2 h3, (geN_cmp (mayP_of m2 wx.2) hf h2).2 h4⟩
    · have : fairI x = noneI := by unfold fairI; rw [if_neg hm]
      rw [this]
      simp [noneI, hm]
/-! ### what the passes of Contract keep -/
/-- Values at the gates, from one on: each slice has those at both its ends. -/
def Kl (v : Nat → Int) : Nat → List Sl → Prop
  | _, [] => True
  | i, s :: l => (inI s.2.1 (v i) ∧ inI s.2.1 (v (i + 1)) ∧ inI s.2.2 (v (i + 1))) ∧ Kl v (i + 1) l
theorem Kl.get {v : Nat → Int} : ∀ {l : List Sl} {j i : Nat}, Kl v j l → i < l.length → inI (slG l i).2.1 (v (j + i)) ∧ inI (slG l i).2.1 (v (j + i + 1)) ∧ inI (slG l i).2.2 (v (j + i + 1))
  | s :: l, j, 0, h, _ => h.1
  | s :: l, j, i + 1, h, hi => by
    have := Kl.get (i := i) h.2 (by simpa using hi)
    rw [show j + 1 + i = j + (i + 1) by omega] at this
    exact this
theorem Kl.of {v : Nat → Int} : ∀ {l : List Sl} {j : Nat}, (∀ i, i < l.length → inI (slG l i).2.1 (v (j + i)) ∧ inI (slG l i).2.1 (v (j + i + 1)) ∧ inI (slG l i).2.2 (v (j + i + 1))) → Kl v j l
  | [], _, _ => trivial
  | s :: l, j, h => ⟨h 0 (by simp), Kl.of (l := l) (j := j + 1) fun i hi => by
    have := h (i + 1) (by simpa using hi)
    rw [show j + (i + 1) = j + 1 + i by omega] at this
    exact this⟩
theorem Kl.set {v : Nat → Int} : ∀ {l : List Sl} {j i : Nat} {s : Sl}, Kl v j l → (i < l.length → inI s.2.1 (v (j + i)) ∧ inI s.2.1 (v (j + i + 1)) ∧ inI s.2.2 (v (j + i + 1))) → Kl v j (l.set i s)
  | [], _, _, _, _, _ => trivial
  | x :: l, j, 0, s, h, hs => ⟨hs (by simp), h.2⟩
  | x :: l, j, i + 1, s, h, hs => ⟨h.1, Kl.set (l := l) (j := j + 1) h.2 fun hi => by
    have := hs (by simpa using hi)
    rw [show j + (i + 1) = j + 1 + i by omega] at this
    exact this⟩
/-- A way, and a tube that has it. -/
structure Kp (v : Nat → Int) (tm : Nat → Nm) (t : Tb) : Prop where
  m : mayT t = true
  w : wfT t
  i : inI t.2.1 (v 0)
  l : Kl v 0 t.2.2
  t : ∀ i, i ≤ t.2.2.length → timeN t i = tm i
theorem Kp.gt {v : Nat → Int} {tm : Nat → Nm} {t : Tb} (h : Kp v tm t) {i : Nat} (hi : i ≤ t.2.2.length) : inI (gtN t i) (v i) := by
  cases i with
  | zero => exact h.i
  | succ i =>
    have := (h.l.get (i := i) hi).2.2
    rw [Nat.zero_add] at this
    exact this
theorem Kp.sl {v : Nat → Int} {tm : Nat → Nm} {t : Tb} (h : Kp v tm t) {i : Nat} (hi : i < t.2.2.length) : inI (slG t.2.2 i).2.1 (v i) ∧ inI (slG t.2.2 i).2.1 (v (i + 1)) ∧ inI (slG t.2.2 i).2.2 (v (i + 1)) := by
  have := h.l.get (i := i) hi
  rwa [Nat.zero_add] at this
/-- The slopes of a way lie within the rates. -/
def Rt (v : Nat → Int) (tm : Nat → Nm) (r : List Iv) : Prop := ∀ i, i < r.length → mayI (rtG r i) = true ∧ ∃ p, inI (rtG r i) (p * oneH) ∧ v (i + 1) = v i + p * (vh (tm (i + 1)) - vh (tm i))
theorem self_in {n : Nm} (h2 : n.1 ≠ 2) : leN n (vz n) ∧ geN n (vz n) := ⟨.inr ⟨h2, Int.le_refl _⟩, .inr ⟨h2, Int.le_refl _⟩⟩
theorem dt_in {t : Tb} (h : mayT t = true) (hw : wfT t) {i : Nat} (hi : i < t.2.2.length) : inI (dtI t i) ((vh (timeN t (i + 1)) - vh (timeN t i)) * oneH) ∧ 0 ≤ vh (timeN t (i + 1)) - vh (timeN t i) ∧ geN (dtI t i).2.2 ((vh (timeN t (i + 1)) - vh (timeN t i)) * oneH) ∧ mayP (dtI t i).2.2 := by
  obtain ⟨f1, f2⟩ := finite_iff.1 (time_fin h (show i + 1 ≤ t.2.2.length by omega))
  obtain ⟨f3, f4⟩ := finite_iff.1 (time_fin h (show i ≤ t.2.2.length by omega))
  have p1 := mayP_of f1 (wfN_time hw (show i + 1 ≤ t.2.2.length by omega))
  have p2 := mayP_of f3 (wfN_time hw (show i ≤ t.2.2.length by omega))
  have e1 := vz_vh (n := timeN t (i + 1)) (by have := exp_lo p1; omega)
  have e2 := vz_vh (n := timeN t i) (by have := exp_lo p2; omega)
  have o := oneH_pos
  have ez : (vh (timeN t (i + 1)) - vh (timeN t i)) * oneH = vz (timeN t (i + 1)) + -vz (timeN t i) := by rw [Int.sub_mul, ← e1, ← e2]; omega
  have lt := (cmp_vz_lt p1 p2 f2 f4).1 (time_lt h hi)
  have s1 := self_in f2
  have s2 := self_in (n := ngv (timeN t i)) (by rw [ngv_kind]; exact f4)
  rw [vz_ngv p2] at s2
  have q : ∀ up, mayP (addv (timeN t (i + 1)) (ngv (timeN t i)) up) := fun up => addv_may up p1 (ngv_may p2)
  have m := inI_mkI (q false) (q true) (add_low p1 (ngv_may p2) s1.1 s2.1) (add_high p1 (ngv_may p2) s1.2 s2.2)
  have ed : dtI t i = mkI (addv (timeN t (i + 1)) (ngv (timeN t i)) false) (addv (timeN t (i + 1)) (ngv (timeN t i)) true) := by
    unfold dtI
    rw [fairP p1, neg_eq p2]
  rw [ed, ez]
  refine ⟨m.2, ?_, ?_, ?_⟩
  · apply Classical.byContradiction
    intro hn
    have := mul_le_r (show vh (timeN t (i + 1)) - vh (timeN t i) ≤ 0 by omega) (Int.le_of_lt o)
    rw [Int.zero_mul, ez] at this
    omega
  · exact m.2.2.2
  · rw [m.1]; exact q true
theorem run_in {v : Nat → Int} {tm : Nat → Nm} {t : Tb} {r : List Iv} (h : Kp v tm t) (hR : Rt v tm r) (hr : ∀ x ∈ r, wfI x) (hl : r.length = t.2.2.length) {i : Nat} (hi : i < t.2.2.length) :
    inI (runA r t i) (v (i + 1) - v i) ∧ inI (runB r t i) (v (i + 1) - v i) ∧ inI (runB r t i) 0 := by
  obtain ⟨hm, p, hp, e⟩ := hR i (by omega)
  obtain ⟨d1, d2, d3, d4⟩ := dt_in h.m h.w hi
  rw [h.t i (by omega), h.t (i + 1) (by omega)] at d1 d2 d3
  have wr := hr _ (rtG_mem (show i < r.length by omega))
  have wd := wfI_dt h.w hi
  have o := oneH_pos
  have z1 : leN zN ((vh (tm (i + 1)) - vh (tm i)) * oneH) := .inr ⟨by decide, by simpa [vz, sx, sg] using Int.mul_nonneg d2 (Int.le_of_lt o)⟩
  have z2 : leN zN ((0 : Int) * oneH) := .inr ⟨by decide, by simp [vz, sx, sg]⟩
  have z3 : geN (dtI t i).2.2 ((0 : Int) * oneH) := by
    rcases d3 with d3 | ⟨d3, d5⟩
    · exact .inl d3
    · refine .inr ⟨d3, ?_⟩
      have := Int.mul_nonneg d2 (Int.le_of_lt o)
      omega
  have zp : mayP zN := .inl ⟨rfl, rfl, rfl, rfl⟩
  have b1 := (inI_mkI zp d4 z1 d3).2
  have b2 := (inI_mkI zp d4 z2 z3).2
  have wb := wfI_mkI wfN_zN wd.2
  have mb := mayI_mkI zN (dtI t i).2.2
  have md : mayI (dtI t i) = true := mayI_mkI _ _
  have ee : v (i + 1) - v i = p * (vh (tm (i + 1)) - vh (tm i)) := by omega
  rw [ee]
  refine ⟨mul_in hm wr md wd hp d1, mul_in hm wr mb wb hp b1, ?_⟩
  have := mul_in hm wr mb wb hp b2
  rwa [Int.mul_zero] at this
theorem timeN_set {t : Tb} {i : Nat} {s : Sl} (h : s.1 = (slG t.2.2 i).1) (j : Nat) : timeN (t.1, t.2.1, t.2.2.set i s) j = timeN t j := by
  cases j with
  | zero => rfl
  | succ j =>
    simp only [timeN]
    by_cases e : i = j
    · subst e
      by_cases hl : i < t.2.2.length
      · rw [slG_set_self hl, h]
      · unfold slG
        rw [List.getElem?_eq_none (by simpa using hl), List.getElem?_eq_none (by omega)]
    · rw [slG_set_ne e]
theorem timeN_setG {t : Tb} {x : Iv} {i j : Nat} : timeN (setG t x i) j = timeN t j := by
  cases i with
  | zero => cases j <;> rfl
  | succ i => exact timeN_set (t := t) (i := i) (s := ((slG t.2.2 i).1, (slG t.2.2 i).2.1, x)) rfl j
theorem mayI_run (r : List Iv) (t : Tb) (i : Nat) : mayI (runA r t i) = true ∧ mayI (runB r t i) = true := ⟨mayI_mulI _ _, mayI_mulI _ _⟩
theorem Kp.fwd {v : Nat → Int} {tm : Nat → Nm} {t : Tb} {r : List Iv} (h : Kp v tm t) (hR : Rt v tm r) (hr : ∀ x ∈ r, wfI x) (hl : r.length = t.2.2.length) {i : Nat} (hi : i < t.2.2.length) : Kp v tm (fwd r t i) := by
  obtain ⟨a1, a2, a3⟩ := run_in h hR hr hl hi
  obtain ⟨s1, s2, s3⟩ := h.sl hi
  have g := h.gt (show i ≤ t.2.2.length by omega)
  have mg := mayI_gt h.m (show i ≤ t.2.2.length by omega)
  have wg := wfI_gt h.w (show i ≤ t.2.2.length by omega)
  have wA := wfI_runA hr (show i < r.length by omega) h.w hi
  have wB := wfI_runB hr (show i < r.length by omega) h.w hi
  obtain ⟨mA, mB⟩ := mayI_run r t i
  obtain ⟨m1, m2⟩ := mayT_sl h.m hi
  have ws := h.w.2.2 _ (slG_mem hi)
  have e1 := add_in mg wg mA wA g a1
  have e2 := add_in mg wg mB wB g a2
  have e3 := add_in mg wg mB wB g a3
  rw [show v i + (v (i + 1) - v i) = v (i + 1) by omega] at e1 e2
  rw [Int.add_zero] at e3
  refine ⟨mayT_fwd h.m, wfT_fwd hr (by omega) h.w hi, h.i, ?_, fun j hj => ?_⟩
  · refine h.l.set fun _ => ?_
    rw [Nat.zero_add]
    exact ⟨two_in m1 ws.2.1 (mayI_addI _ _) (wfI_addI wg wB) s1 e3, two_in m1 ws.2.1 (mayI_addI _ _) (wfI_addI wg wB) s2 e2, two_in m2 ws.2.2 (mayI_addI _ _) (wfI_addI wg wA) s3 e1⟩
  · rw [fwd_len] at hj
    exact (timeN_set (t := t) (i := i) (s := ((slG t.2.2 i).1, two (slG t.2.2 i).2.1 (addI (gtN t i) (runB r t i)), two (slG t.2.2 i).2.2 (addI (gtN t i) (runA r t i)))) rfl j).trans (h.t j hj)
theorem Kp.setG {v : Nat → Int} {tm : Nat → Nm} {t : Tb} {x : Iv} {i : Nat} (h : Kp v tm t) (hi : i ≤ t.2.2.length) (hx : mayI x = true) (wx : wfI x) (hv : inI x (v i)) : Kp v tm (setG t x i) := by
  refine ⟨mayT_setG h.m hx hi, wfT_setG h.w wx hi, ?_, ?_, fun j hj => ?_⟩
  · cases i with
    | zero => exact hv
    | succ i => exact h.i
  · cases i with
    | zero => exact h.l
    | succ i =>
      refine h.l.set fun _ => ?_
      rw [Nat.zero_add]
      have := h.sl (i := i) hi
      exact ⟨this.1, this.2.1, hv⟩
  · rw [timeN_setG]
    refine h.t j ?_
    cases i with
    | zero => exact hj
    | succ i => simpa [Pl.setG] using hj
theorem Kp.bwd {v : Nat → Int} {tm : Nat → Nm} {t : Tb} {r : List Iv} (h : Kp v tm t) (hR : Rt v tm r) (hr : ∀ x ∈ r, wfI x) (hl : r.length = t.2.2.length) {i : Nat} (hi : i < t.2.2.length) : Kp v tm (bwd r t i) := by
  obtain ⟨a1, a2, a3⟩ := run_in h hR hr hl hi
  obtain ⟨s1, s2, s3⟩ := h.sl hi
  have g := h.gt (show i ≤ t.2.2.length by omega)
  have g' := h.gt (show i + 1 ≤ t.2.2.length by omega)
  have mg := mayI_gt h.m (show i ≤ t.2.2.length by omega)
  have wg := wfI_gt h.w (show i ≤ t.2.2.length by omega)
  have mg' := mayI_gt h.m (show i + 1 ≤ t.2.2.length by omega)
  have wg' := wfI_gt h.w (show i + 1 ≤ t.2.2.length by omega)
  have wA := wfI_runA hr (show i < r.length by omega) h.w hi
  have wB := wfI_runB hr (show i < r.length by omega) h.w hi
  obtain ⟨mA, mB⟩ := mayI_run r t i
  obtain ⟨m1, m2⟩ := mayT_sl h.m hi
  have ws := h.w.2.2 _ (slG_mem hi)
  have e1 := sub_in mg' wg' mA wA g' a1
  have e2 := sub_in mg' wg' mB wB g' a2
  have e3 := sub_in mg' wg' mB wB g' a3
  rw [show v (i + 1) - (v (i + 1) - v i) = v i by omega] at e1 e2
  rw [Int.sub_zero] at e3
  have h1 := h.setG (i := i) (x := two (gtN t i) (subI (gtN t (i + 1)) (runA r t i))) (by omega) (mayI_two _ _) (wfI_two wg (wfI_subI wg' wA)) (two_in mg wg (mayI_subI _ _) (wfI_subI wg' wA) g e1)
  have hs : slG (Pl.setG t (two (gtN t i) (subI (gtN t (i + 1)) (runA r t i))) i).2.2 i = slG t.2.2 i := slG_setG i
  refine ⟨mayT_bwd h.m hi, wfT_bwd hr (by omega) h.w hi, h1.i, ?_, fun j hj => ?_⟩
  · refine h1.l.set fun _ => ?_
    rw [Nat.zero_add]
    exact ⟨two_in m1 ws.2.1 (mayI_subI _ _) (wfI_subI wg' wB) s1 e2, two_in m1 ws.2.1 (mayI_subI _ _) (wfI_subI wg' wB) s2 e3, s3⟩
  · rw [bwd_len] at hj
    refine (timeN_set (t := Pl.setG t (two (gtN t i) (subI (gtN t (i + 1)) (runA r t i))) i) (by rw [hs]) j).trans ?_
    rw [timeN_setG]
    exact h.t j hj
theorem Kp.fwds {v : Nat → Int} {tm : Nat → Nm} {r : List Iv} (hR : Rt v tm r) (hr : ∀ x ∈ r, wfI x) : ∀ (j i : Nat) (t : Tb), i + j = t.2.2.length → r.length = t.2.2.length → Kp v tm t → Kp v tm (fwds r j i t)
  | 0, i, t, hi, hl, h => h
  | j + 1, i, t, hi, hl, h => by
    have ln := fwd_len r t i
    exact Kp.fwds hR hr j (i + 1) _ (by omega) (by omega) (h.fwd hR hr hl (by omega))
theorem Kp.bwds {v : Nat → Int} {tm : Nat → Nm} {r : List Iv} (hR : Rt v tm r) (hr : ∀ x ∈ r, wfI x) : ∀ (j : Nat) (t : Tb), j ≤ t.2.2.length → r.length = t.2.2.length → Kp v tm t → Kp v tm (bwds r j t)
  | 0, t, hj, hl, h => h
  | j + 1, t, hj, hl, h => by
    have ln := bwd_len r t j
    exact Kp.bwds hR hr j _ (by omega) (by omega) (h.bwd hR hr hl (by omega))
/-! fitted -/
theorem Kl.fitN {v : Nat → Int} : ∀ {l : List Sl} {j : Nat}, (∀ s ∈ l, wfS s ∧ mayI s.2.1 = true ∧ mayI s.2.2 = true) → Kl v j l → Kl v j (fitN l none)
  | [], _, _, _ => trivial
  | y :: l, j, hw, h => by
    rw [fitN_cons]
    obtain ⟨w1, m1, m2⟩ := hw y (by simp)
    have g1 := two_in m2 w1.2.2 m1 w1.2.1 h.1.2.2 h.1.2.1
    refine ⟨⟨h.1.1, h.1.2.1, ?_⟩, Kl.fitN (l := l) (fun s hs => hw s (by simp [hs])) h.2⟩
    show inI (g2 y (l.head?.or none)) (v (j + 1))
    cases l with
    | nil => exact g1
    | cons z l =>
      obtain ⟨w3, m3, m4⟩ := hw z (by simp)
      exact two_in (mayI_two _ _) (wfI_two w1.2.2 w1.2.1) m3 w3.2.1 g1 h.2.1.1
theorem Kl.ne {v : Nat → Int} : ∀ {l : List Sl} {j : Nat}, Kl v j l → l.any (fun s => s.2.1.1 || s.2.2.1) = false
  | [], _, _ => rfl
  | s :: l, j, h => by
    simp only [List.any_cons, h.1.1.1, h.1.2.2.1, Kl.ne h.2, Bool.or_self]
theorem fitN_time : ∀ (l : List Sl) (n : Option Sl) (i : Nat), (slG (fitN l n) i).1 = (slG l i).1
  | [], _, _ => rfl
  | y :: l, n, 0 => by rw [fitN_cons]; rfl
  | y :: l, n, i + 1 => by
    rw [fitN_cons]
    exact fitN_time l n i
theorem Kp.fitT {v : Nat → Int} {tm : Nat → Nm} {t : Tb} (h : Kp v tm t) : Kp v tm (fitT t) := by
  have hl := h.l.fitN (fun s hs => ⟨h.w.2.2 s hs, okS_mem (mayT_iff.1 h.m).2.2.2 s hs⟩)
  have hi : inI (nx t.2.1 t.2.2) (v 0) := by
    have := h.l
    have hw := h.w
    have hm := h.m
    obtain ⟨st, inn, l⟩ := t
    cases l with
    | nil => exact h.i
    | cons s l =>
      have ms := okS_mem (mayT_iff.1 hm).2.2.2 s (by simp)
      exact two_in (mayT_iff.1 hm).2.1 hw.2.1 ms.1 (hw.2.2 s (by simp)).2.1 h.i this.1.1
  have he : emptyT (fitU t) = false := by
    unfold emptyT fitU
    simp only [hi.1, Bool.false_or]
    exact hl.ne
  have e : Pl.fitT t = fitU t := by unfold Pl.fitT; rw [if_pos h.m, if_neg (by simp [he])]
  have hm := mayT_fitT h.m
  have hw := wfT_fitT h.w
  have ll := fitT_len t
  refine ⟨hm, hw, by rw [e]; exact hi, by rw [e]; exact hl, fun j hj => ?_⟩
  rw [ll] at hj
  rw [← h.t j hj, e]
  cases j with
  | zero => rfl
  | succ j => exact fitN_time t.2.2 none j
/-- What Contract leaves has the way. -/
theorem Kp.contract {v : Nat → Int} {tm : Nat → Nm} {t : Tb} {r : List Iv} (h : Kp v tm t) (hR : Rt v tm r) (hr : ∀ x ∈ r, wfI x) (hl : r.length = t.2.2.length) : (contractT t r).2 = 0 ∧ (contractT t r).1.2.2.length = t.2.2.length ∧ Kp v tm (contractT t r).1 := by
  have hall : r.all mayI = true := by
    rw [List.all_eq_true]
    intro x hx
    obtain ⟨i, hi, rfl⟩ := List.getElem_of_mem hx
    have := (hR i hi).1
    unfold rtG at this
    rwa [List.getElem?_eq_getElem hi] at this
  have e : contractT t r = (Pl.fitT (Pl.bwds r t.2.2.length (Pl.fwds r t.2.2.length 0 (Pl.fitT t))), 0) := by
    unfold contractT
    rw [h.m, hall, hl]
    simp
  rw [e]
  have lf := fitT_len t
  have l1 := fwds_len r t.2.2.length 0 (Pl.fitT t)
  refine ⟨rfl, by simp only [fitT_len, bwds_len, fwds_len], ?_⟩
  exact ((Kp.bwds hR hr _ _ (by omega) (by omega) (Kp.fwds hR hr _ _ _ (by omega) (by omega) h.fitT)).fitT)
/-! ### exact numbers of 64 bits; on a line -/
theorem sx_abs {n : Nm} (h : mayP n) : ((sx n).natAbs : Int) < 18446744073709551616 := by
  unfold sx
  rcases h with ⟨_, h1, h2, _⟩ | ⟨_, h1, h2, _⟩ | ⟨_, h1, _⟩
  · rw [h1, h2]; decide
  · rw [sg_abs _ (by omega)]; exact h2
  · rw [h1]; cases n.2.1 <;> decide
theorem exact_ev {n : Nm} (h : mayP n) (h2 : n.1 ≠ 2) : ∃ d, Rep d (sx n) n.2.2.2 ∧ ∃ K, ∀ k, K ≤ k → num_Exact k n = some (dd d, true, ()) := by
  have he := exp_lo h
  have hb := sx_abs h
  have hm : 0 ≤ n.2.2.1 ∧ n.2.2.1 < 18446744073709551616 := by
    rcases h with ⟨_, _, h, _⟩ | ⟨_, h1, h3, _⟩ | ⟨_, h, _⟩ <;> omega
  have hu : U [n.2.2.1 % 4294967296, n.2.2.1 / 4294967296] := by simp [U]; omega
  have hv : val [n.2.2.1 % 4294967296, n.2.2.1 / 4294967296] = n.2.2.1 := by simp; omega
  obtain ⟨K1, h1⟩ := make_ev n.2.1 _ hu (by simp)
  rw [hv] at h1
  have ll := len_lim (v := ((sx n).natAbs : Int)) (by omega) 64 (by rw [p64]; exact hb)
  obtain ⟨d, hd⟩ := Dv.ex (sx n) n.2.2.2
  obtain ⟨K2, h3⟩ := mk_ev (nw (sx n)).1 (nw (sx n)).2 n.2.2.2 (nw_U _) (by show (lim _).length ≤ _; omega) (d := d) (by rw [nw_sg]; exact hd)
  have hr : Rep d (sx n) n.2.2.2 := by
    rcases hd with hd | ⟨o, t, o0, o1, s0, hs, hd⟩
    · exact .inl hd
    · have ht : t < 64 := p2_lt (by have := mul_le_p t (show 1 ≤ o by omega); rw [p64]; omega)
      rw [if_pos ⟨by omega, by omega, by omega⟩] at hd
      exact .inr ⟨o, t, o0, o1, s0, hs, hd⟩
  refine ⟨d, hr, K1 + K2, fun k hk => ?_⟩
  have w1 : IntKind.u32.wrap n.2.2.1 = n.2.2.1 % 4294967296 := IntKind.wrap_u32 _
  have w2 : IntKind.u32.wrap (Int.fdiv n.2.2.1 (2 ^ min (Int.toNat 32) IntKind.u64.bits)) = n.2.2.1 / 4294967296 := by
    rw [show (2 : Int) ^ min (Int.toNat 32) IntKind.u64.bits = 4294967296 by decide, Int.fdiv_eq_ediv_of_nonneg _ (by decide)]
    exact u32w (by omega) (by omega)
  have c2 : (n.1 == 2) = false := by simpa using h2
  simp only [num_Exact, num_May_eq, may_of h, Option.bind_some, Bool.not_true, cond_false, c2, w1, w2]
  rw [h1 k (by omega), Option.bind_some]
  erw [h3 k (by omega)]
  rfl
theorem exact_any {n : Nm} (hw : wfN n) : ∃ (d : Dd) (b : Bool), (b = true → mayP n ∧ n.1 ≠ 2 ∧ Rep d (sx n) n.2.2.2) ∧ ∃ K, ∀ k, K ≤ k → num_Exact k n = some (dd d, b, ()) := by
  cases hm : may n
  · refine ⟨(false, [], 0), false, (fun h => by cases h), 0, fun k _ => ?_⟩
    simp only [num_Exact, num_May_eq, hm, Option.bind_some, Bool.not_false, cond_true]
    rfl
  · by_cases h2 : n.1 = 2
    · refine ⟨(false, [], 0), false, (fun h => by cases h), 0, fun k _ => ?_⟩
      have c2 : (n.1 == 2) = true := by simpa using h2
      simp only [num_Exact, num_May_eq, hm, Option.bind_some, Bool.not_true, cond_false, c2, cond_true]
      rfl
    · have hp := mayP_of hm hw
      obtain ⟨d, hd, hK⟩ := exact_ev hp h2
      exact ⟨d, true, fun _ => ⟨hp, h2, hd⟩, hK⟩
theorem zof {n : Nm} (h : mayP n) {d : Dd} (hr : Rep d (sx n) n.2.2.2) {f : Int} {N : Nat} (hf : f ≤ n.2.2.2) (f1 : f ≤ 0) (f0 : -1900000 ≤ f) (hN : N ≤ 2200000) (hb : 64 + n.2.2.2 - f ≤ N) : Z d.1 d.2.1 d.2.2 f (sx n * 2 ^ (n.2.2.2 - f).toNat) N := by
  refine Z.of_rep (Rep.scale (n.2.2.2 - f).toNat (by rw [show f + ((n.2.2.2 - f).toNat : Nat) = n.2.2.2 by omega]; exact hr)) ?_ hN f0 f1
  rw [abs_mulp]
  have a := mul_lt_p (n.2.2.2 - f).toNat (sx_abs h)
  rw [← p64, ← p2_add] at a
  exact Int.lt_of_lt_of_le a (p2_mono (by omega))
theorem Z.wide {n : Bool} {l : List Int} {e f S : Int} {N M : Nat} (h : Z n l e f S N) (hN : N ≤ M) (hM : M ≤ 2200000) : Z n l e f S M := ⟨h.u, h.len, hM, h.fb, h.lo, h.hi, h.eq, abs_mono h.bd hN⟩
theorem ph_split {f e : Int} (h : f ≤ e) (h0 : -1048640 ≤ f) : 2 ^ (e - f).toNat * ph f = ph e := by
  unfold ph
  rw [← p2_add]
  congr 1
  omega
/-- On a line: exactly so many times a slope more. -/
def On (a s b : Nm) (T : Int) : Prop := mayP a ∧ a.1 ≠ 2 ∧ mayP s ∧ s.1 ≠ 2 ∧ mayP b ∧ b.1 ≠ 2 ∧ vz b = vz a + vh s * T
theorem sgz_eq {x : Int} (h : sgz x = 0) : x = 0 := by
  rcases Int.lt_trichotomy x 0 with h1 | h1 | h1
  · rw [sgz_neg h1] at h; cases h
  · exact h1
  · rw [sgz_pos h1] at h; cases h
theorem lies_ev {a s b : Nm} {d : Dd} {T : Int} {N : Nat} (ha : wfN a) (hs : wfN s) (hb : wfN b) (hN : N ≤ 1000) (hd : Z d.1 d.2.1 d.2.2 (-300) T N) : ∃ r : Bool, (r = true → On a s b (T * ph (-300))) ∧ ∃ K, ∀ k, K ≤ k → peloruslaw18_lies k a s (dd d) b = some (r, ()) := by
  obtain ⟨p, ba, pa, K1, h1⟩ := exact_any ha
  obtain ⟨q, bs, qs, K2, h2⟩ := exact_any hs
  obtain ⟨u, bb, ub, K3, h3⟩ := exact_any hb
  by_cases hall : ba = true ∧ bs = true ∧ bb = true
  case neg =>
    refine ⟨false, (fun h => by cases h), K1 + K2 + K3, fun k hk => ?_⟩
    simp only [peloruslaw18_lies]
    rw [h1 k (by omega), Option.bind_some, h2 k (by omega), Option.bind_some, h3 k (by omega), Option.bind_some]
    cases ba
    · rfl
    · cases bs
      · rfl
      · cases bb
        · rfl
        · exact absurd ⟨rfl, rfl, rfl⟩ hall
  obtain ⟨rfl, rfl, rfl⟩ := hall
  obtain ⟨ma, a2, ra⟩ := pa rfl
  obtain ⟨ms, s2, rs⟩ := qs rfl
  obtain ⟨mb, b2, rb⟩ := ub rfl
  have ea := exp_lo ma
  have es := exp_lo ms
  have eb := exp_lo mb
  obtain ⟨M, hM⟩ : ∃ M : Nat, M = 2100000 := ⟨_, rfl⟩
  obtain ⟨L, hL⟩ : ∃ L : Nat, L = 2097300 := ⟨_, rfl⟩
  have za := zof ma ra (f := -1048876) (N := M) (by omega) (by omega) (by omega) (by omega) (by omega)
  have zb := zof mb rb (f := -1048876) (N := M + 1) (by omega) (by omega) (by omega) (by omega) (by omega)
  have zs := zof ms rs (f := -1048576) (N := L) (by omega) (by omega) (by omega) (by omega) (by omega)
  obtain ⟨m, rm, K4, h4⟩ := mul_z zs hd (by omega) (by omega) (by omega) (by omega) (by omega)
  rw [show (-1048576 : Int) + -300 = -1048876 by decide] at rm
  have bm := abs_mul_lt zs.bd hd.bd
  have zm := Z.of_rep rm (abs_mono bm (show L + N ≤ M by omega)) (by omega) (by omega) (by omega)
  obtain ⟨w, rw_, K5, h5⟩ := add2_z za zm (by omega) (by omega) (by omega)
  have zw := Z.of_rep rw_ (abs_add_lt za.bd zm.bd) (by omega) (by omega) (by omega)
  obtain ⟨K6, h6⟩ := cmp_z zw zb (by omega) (by omega) (by omega)
  refine ⟨sgz (sx a * 2 ^ (a.2.2.2 - -1048876).toNat + sx s * 2 ^ (s.2.2.2 - -1048576).toNat * T - sx b * 2 ^ (b.2.2.2 - -1048876).toNat) == 0, fun h => ⟨ma, a2, ms, s2, mb, b2, ?_⟩, K1 + K2 + K3 + K4 + K5 + K6, fun k hk => ?_⟩
  · have h0 := sgz_eq (beq_iff_eq.1 h)
    have ez : sx b * 2 ^ (b.2.2.2 - -1048876).toNat = sx a * 2 ^ (a.2.2.2 - -1048876).toNat + sx s * 2 ^ (s.2.2.2 - -1048576).toNat * T := by omega
    have ez2 := congrArg (fun x => x * pz (-1048876)) ez
    simp only [Int.add_mul] at ez2
    rw [Int.mul_assoc, pz_split (by omega) (by omega), Int.mul_assoc (sx a), pz_split (by omega) (by omega)] at ez2
    have e3 : sx s * 2 ^ (s.2.2.2 - -1048576).toNat * T * pz (-1048876) = vh s * (T * ph (-300)) := by
      rw [show (-1048876 : Int) = -1048576 + -300 by decide, ← ph_mul (by decide) (by decide)]
      unfold vh
      rw [← ph_split (f := -1048576) (e := s.2.2.2) (by omega) (by decide)]
      generalize sx s = x
      generalize (2 : Int) ^ (s.2.2.2 - -1048576).toNat = y
      generalize ph (-1048576) = z
      generalize ph (-300) = w
      rw [Int.mul_assoc (x * y), Int.mul_left_comm T z w, ← Int.mul_assoc, Int.mul_assoc x y z]
    rw [e3] at ez2
    exact ez2
  · simp only [peloruslaw18_lies]
    rw [h1 k (by omega), Option.bind_some, h2 k (by omega), Option.bind_some, h3 k (by omega), Option.bind_some]
    simp only [cond_true]
    erw [h4 k (by omega)]
    rw [Option.bind_some]
    erw [h5 k (by omega)]
    rw [Option.bind_some]
    erw [h6 k (by omega)]
    rfl
/-- A number that may be, exactly. -/
noncomputable def exD (n : Nm) : Dd := by
  classical
  exact if h : ∃ d, Rep d (sx n) n.2.2.2 then Classical.choose h else (false, [], 0)
theorem exD_ev {n : Nm} (h : mayP n) (h2 : n.1 ≠ 2) : Rep (exD n) (sx n) n.2.2.2 ∧ ∃ K, ∀ k, K ≤ k → num_Exact k n = some (dd (exD n), true, ()) := by
  obtain ⟨d, hd, hK⟩ := exact_ev h h2
  have hx : ∃ d, Rep d (sx n) n.2.2.2 := ⟨d, hd⟩
  have e : exD n = Classical.choose hx := by unfold exD; rw [dif_pos hx]
  have hr : Rep (exD n) (sx n) n.2.2.2 := by rw [e]; exact Classical.choose_spec hx
  have := hd.un hr
  subst this
  exact ⟨hr, hK⟩
/-- A piece of a way. -/
theorem piece_ev {t0 t1 a s b : Nm} (h0 : mayP t0) (k0 : t0.1 ≠ 2) (e0 : -300 ≤ t0.2.2.2 ∧ t0.2.2.2 ≤ 300) (h1 : mayP t1) (k1 : t1.1 ≠ 2) (e1 : -300 ≤ t1.2.2.2 ∧ t1.2.2.2 ≤ 300) (ha : wfN a) (hs : wfN s) (hb : wfN b) :
    ∃ (r : Bool) (d : Dd), (r = true → On a s b (vh t1 - vh t0)) ∧ ∃ K, ∀ k, K ≤ k → num_Exact k t1 = some (dd (exD t1), true, ()) ∧ dy_Sub k (dd (exD t1)) (dd (exD t0)) = some (dd d, ()) ∧ peloruslaw18_lies k a s (dd d) b = some (r, ()) := by
  obtain ⟨r0, _⟩ := exD_ev h0 k0
  obtain ⟨r1, K1, g1⟩ := exD_ev h1 k1
  obtain ⟨M, hM⟩ : ∃ M : Nat, M = 664 := ⟨_, rfl⟩
  have z0 := zof h0 r0 (f := -300) (N := M) (by omega) (by omega) (by omega) (by omega) (by omega)
  have z1 := zof h1 r1 (f := -300) (N := M) (by omega) (by omega) (by omega) (by omega) (by omega)
  obtain ⟨d, hd, K2, g2⟩ := sub_z z1 z0 (by omega) (by omega) (by omega)
  have zd := Z.of_rep hd (by rw [Int.sub_eq_add_neg]; exact abs_add_lt z1.bd (abs_neg z0.bd)) (by omega) (by omega) (by omega)
  obtain ⟨r, hr, K3, g3⟩ := lies_ev ha hs hb (by omega) zd
  refine ⟨r, d, fun h => ?_, K1 + K2 + K3, fun k hk => ⟨g1 k (by omega), g2 k (by omega), g3 k (by omega)⟩⟩
  have := hr h
  rw [Int.sub_mul, Int.mul_assoc, Int.mul_assoc, ph_split (by omega) (by decide), ph_split (by omega) (by decide)] at this
  exact this
theorem ex_all {n : Nat} {P : Nat → Nat → Prop} (h : ∀ i, i < n → ∃ K, ∀ k, K ≤ k → P i k) : ∃ K, ∀ k, K ≤ k → ∀ i, i < n → P i k := by
  induction n with
  | zero => exact ⟨0, fun _ _ i hi => absurd hi (Nat.not_lt_zero _)⟩
  | succ n ih =>
    obtain ⟨K1, h1⟩ := ih fun i hi => h i (by omega)
    obtain ⟨K2, h2⟩ := h n (by omega)
    refine ⟨K1 + K2, fun k hk i hi => ?_⟩
    by_cases e : i = n
    · subst e; exact h2 k (by omega)
    · exact h1 k (by omega) i (by omega)
/-! ### the law FlowKeeps -/
def nmG (l : List Nm) (i : Nat) : Nm := l[i]?.getD zN
theorem nmG_eq {l : List Nm} {i : Nat} (h : i < l.length) : l[i]? = some (nmG l i) := by unfold nmG; rw [List.getElem?_eq_getElem h]; rfl
theorem nmG_mem {l : List Nm} {i : Nat} (h : i < l.length) : nmG l i ∈ l := List.mem_of_getElem? (nmG_eq h)
/-! Plain: exponents -/
def small (x : Iv) : Prop := (-300 ≤ x.2.1.2.2.2 ∧ x.2.1.2.2.2 ≤ 300) ∧ -300 ≤ x.2.2.2.2.2 ∧ x.2.2.2.2.2 ≤ 300
theorem plainB_loop0 (k : Nat) (r : List Iv) (t : Tb) (ht : t.2.2.length ≤ 20) : ∀ (j i m : Nat) (b : List Iv), i + j = t.2.2.length → j < m → b.length + 3 * j ≤ 200 →
    ∃ b', b'.length = b.length + 3 * j ∧ (∀ x ∈ b, x ∈ b') ∧ (∀ q, i ≤ q → q < t.2.2.length → mkI (slG t.2.2 q).1 (slG t.2.2 q).1 ∈ b') ∧ peloruslaw18_Plain_l0 k m ((r, (), (), (i : Int), ()), (t, b, ())) = some (Sum.inl ((r, (), ()), (b', ()))) := by
  intro j
  induction j with
  | zero =>
    intro i m b hi hm hb
    obtain ⟨m, rfl⟩ : ∃ q, m = q + 1 := ⟨m - 1, by omega⟩
    have e : ¬ (i : Int) < (t.2.2.length : Int) := by omega
    exact ⟨b, rfl, fun x hx => hx, fun q h1 h2 => by omega, by simp only [peloruslaw18_Plain_l0, cond_f e]⟩
  | succ j IH =>
    intro i m b hi hm hb
    obtain ⟨m, rfl⟩ : ∃ q, m = q + 1 := ⟨m - 1, by omega⟩
    have hit : i < t.2.2.length := by omega
    have hl := plainL_len b (slG t.2.2 i)
    have q1 : i + 1 + j = t.2.2.length := by omega
    have q2 : j < m := by omega
    have q3 : (plainL b (slG t.2.2 i)).length + 3 * j ≤ 200 := by omega
    obtain ⟨b', h1, h3, h4, h2⟩ := IH (i + 1) m (plainL b (slG t.2.2 i)) q1 q2 q3
    refine ⟨b', by omega, fun x hx => h3 x (by simp [plainL, hx]), fun q g1 g2 => ?_, ?_⟩
    · by_cases e : q = i
      · subst e; exact h3 _ (by simp [plainL])
      · exact h4 q (by omega) g2
    · rw [plain_step k m r t (slG t.2.2 i) i b hit (slG_eq hit) (by omega) (by omega)]
      exact h2
theorem plainB_loop1 (k : Nat) : ∀ (s pre : List Iv) (m : Nat), s.length < m → pre.length + s.length ≤ 1000000 →
    peloruslaw18_Plain_l1 k m (((), (pre.length : Int), ()), (pre ++ s, ())) = some (Sum.inl ((false, ()), ())) ∨ (peloruslaw18_Plain_l1 k m (((), (pre.length : Int), ()), (pre ++ s, ())) = some (Sum.inr (Sum.inl ((), ()))) ∧ ∀ x ∈ s, small x)
  | [], pre, m + 1, hm, hl => by right; exact ⟨by simp [peloruslaw18_Plain_l1], fun x hx => by cases hx⟩
  | x :: s, pre, m + 1, hm, hl => by
    simp only [List.length_cons] at hm hl
    have ih := plainB_loop1 k s (pre ++ [x]) m (by omega) (by simp; omega)
    rw [mid_eq, len_snoc] at ih
    simp only [peloruslaw18_Plain_l1, cond_t (len_lt pre x s), if_pos (Int.natCast_nonneg pre.length), at_mid, Option.bind_some, wrap_succ (show pre.length ≤ 1000000000 by omega)]
    by_cases c1 : x.2.1.2.2.2 > 300
    · rw [cond_t c1]; exact .inl rfl
    · rw [cond_f c1]
      by_cases c2 : x.2.1.2.2.2 < -300
      · rw [cond_t c2]; exact .inl rfl
      · rw [cond_f c2]
        by_cases c3 : x.2.2.2.2.2 > 300
        · rw [cond_t c3]; exact .inl rfl
        · rw [cond_f c3]
          by_cases c4 : x.2.2.2.2.2 < -300
          · rw [cond_t c4]; exact .inl rfl
          · rw [cond_f c4]
            rcases ih with ih | ⟨ih, h2⟩
            · exact .inl ih
            · refine .inr ⟨ih, fun y hy => ?_⟩
              rcases List.mem_cons.1 hy with rfl | hy
              · exact ⟨⟨by omega, by omega⟩, by omega, by omega⟩
              · exact h2 y hy
theorem plain_small (k : Nat) (hk : 200 ≤ k) (t : Tb) (r : List Iv) : ∃ b : Bool, peloruslaw18_Plain k t r = some (b, ()) ∧ (b = true → t.2.2.length ≤ 20 ∧ r.length ≤ 20 ∧ small (mkI t.1 t.1) ∧ ∀ q, q < t.2.2.length → small (mkI (slG t.2.2 q).1 (slG t.2.2 q).1)) := by
  simp only [peloruslaw18_Plain, iv_Point_eq, Option.bind_some]
  by_cases c1 : (t.2.2.length : Int) > 20
  · exact ⟨false, by rw [cond_t c1], fun h => by cases h⟩
  · by_cases c2 : (r.length : Int) > 20
    · exact ⟨false, by rw [cond_f c1, cond_t c2], fun h => by cases h⟩
    · rw [cond_f c1, cond_f c2]
      obtain ⟨b, h1, h3, h4, h2⟩ := plainB_loop0 k r t (by omega) t.2.2.length 0 k [t.2.1, mkI t.1 t.1] (by omega) (by omega) (by simp only [List.length_cons, List.length_nil]; omega)
      rw [show ((0 : Nat) : Int) = 0 from rfl] at h2
      erw [h2]
      simp only [List.length_cons, List.length_nil] at h1
      have gl : (b.length + r.length) * 72 ≤ 140737488355328 := by omega
      have L := plainB_loop1 k (b ++ r) [] k (by simp; omega) (by simp; omega)
      simp only [List.nil_append, List.length_nil] at L
      rw [show ((0 : Nat) : Int) = 0 from rfl] at L
      simp only [Option.bind_some, Sum.elim_inl, if_pos gl]
      rcases L with L | ⟨L, hs⟩
      · erw [L]; exact ⟨false, rfl, fun h => by cases h⟩
      · erw [L]
        exact ⟨true, rfl, fun _ => ⟨by omega, by omega, hs _ (List.mem_append_left _ (h3 _ (by simp))), fun q hq => hs _ (List.mem_append_left _ (h4 q (by omega) hq))⟩⟩
theorem point_small {n : Nm} (h : finite n = true) (hs : small (mkI n n)) : -300 ≤ n.2.2.2 ∧ n.2.2.2 ≤ 300 := by
  obtain ⟨f1, f2⟩ := finite_iff.1 h
  rw [mkI_point, fair_may f1, if_neg f2] at hs
  exact hs.1
/-! the pieces, one by one -/
def Good (t : Tb) (r : List Iv) (x2 x3 : List Nm) (i : Nat) : Prop :=
  On (nmG x2 i) (nmG x3 i) (nmG x2 (i + 1)) (vh (timeN t (i + 1)) - vh (timeN t i)) ∧ has (rtG r i) (nmG x3 i) = true ∧ has (slG t.2.2 i).2.1 (nmG x2 i) = true ∧ has (slG t.2.2 i).2.1 (nmG x2 (i + 1)) = true ∧ has (slG t.2.2 i).2.2 (nmG x2 (i + 1)) = true
theorem keeps_l0 (k : Nat) (t : Tb) (r : List Iv) (x2 x3 : List Nm) (n : Nat) (ht : t.2.2.length = n) (hr : r.length = n) (h2 : x2.length = n + 1) (h3 : x3.length = n) (hn : n ≤ 1000)
    (H : ∀ i, i < n → ∃ (q : Bool) (d : Dd), (q = true → On (nmG x2 i) (nmG x3 i) (nmG x2 (i + 1)) (vh (timeN t (i + 1)) - vh (timeN t i))) ∧ num_Exact k (timeN t (i + 1)) = some (dd (exD (timeN t (i + 1))), true, ()) ∧ dy_Sub k (dd (exD (timeN t (i + 1)))) (dd (exD (timeN t i))) = some (dd d, ()) ∧ peloruslaw18_lies k (nmG x2 i) (nmG x3 i) (dd d) (nmG x2 (i + 1)) = some (q, ())) :
    ∀ (j i m : Nat), i + j = n → j < m →
    peloruslaw18_FlowKeeps_l0 k m ((r, x2, x3, (), (), (i : Int), ()), (t, dd (exD (timeN t i)), ())) = some (Sum.inl ((true, ()), ())) ∨
    (peloruslaw18_FlowKeeps_l0 k m ((r, x2, x3, (), (), (i : Int), ()), (t, dd (exD (timeN t i)), ())) = some (Sum.inr (Sum.inl ((r, x2, (), ()), (t, ())))) ∧ ∀ q, i ≤ q → q < n → Good t r x2 x3 q) := by
  intro j
  induction j with
  | zero =>
    intro i m hi hm
    obtain ⟨m, rfl⟩ : ∃ q, m = q + 1 := ⟨m - 1, by omega⟩
    have e : ¬ (i : Int) < (x3.length : Int) := by omega
    exact .inr ⟨by simp only [peloruslaw18_FlowKeeps_l0, cond_f e], fun q h1 h2 => by omega⟩
  | succ j ih =>
    intro i m hi hm
    obtain ⟨m, rfl⟩ : ∃ q, m = q + 1 := ⟨m - 1, by omega⟩
    have e : (i : Int) < (x3.length : Int) := by omega
    obtain ⟨q, d, hq, g1, g2, g3⟩ := H i (by omega)
    have gs := slG_eq (l := t.2.2) (i := i) (by omega)
    have gv := nmG_eq (l := x2) (i := i) (by omega)
    have gv' := nmG_eq (l := x2) (i := i + 1) (by omega)
    have gsl := nmG_eq (l := x3) (i := i) (by omega)
    have gr := rtG_eq (r := r) (i := i) (by omega)
    have c0 : (0 : Int) ≤ ((i + 1 : Nat) : Int) := by omega
    have et : (slG t.2.2 i).1 = timeN t (i + 1) := rfl
    simp only [peloruslaw18_FlowKeeps_l0, cond_t e, if_pos (Int.natCast_nonneg i), Int.toNat_natCast, gs, gv, gsl, gr, Option.bind_some, wsu (show i < 4611686018427387904 by omega), if_pos c0, gv', iv_Has_eq]
    rw [et, g1, Option.bind_some]
    dsimp only
    rw [g2, Option.bind_some]
    dsimp only
    rw [g3, Option.bind_some]
    cases hb0 : q
    · exact .inl rfl
    cases hb1 : has (rtG r i) (nmG x3 i)
    · exact .inl rfl
    cases hb2 : has (slG t.2.2 i).2.1 (nmG x2 i)
    · exact .inl rfl
    cases hb3 : has (slG t.2.2 i).2.1 (nmG x2 (i + 1))
    · exact .inl rfl
    cases hb4 : has (slG t.2.2 i).2.2 (nmG x2 (i + 1))
    · exact .inl rfl
    simp only [Bool.not_true, cond_false]
    rcases ih (i + 1) m (by omega) (by omega) with h | ⟨h, hh⟩
    · exact .inl h
    · refine .inr ⟨h, fun q' g4 g5 => ?_⟩
      by_cases e2 : q' = i
      · subst e2; exact ⟨hq hb0, hb1, hb2, hb3, hb4⟩
      · exact hh q' (by omega) g5
theorem keeps_l1 (k : Nat) (hk : 100 ≤ k) (T : Tb) (x2 : List Nm) (n : Nat) (hT : T.2.2.length = n) (hm : mayT T = true) (h2 : x2.length = n + 1) (hn : n ≤ 1000)
    (H : ∀ i, i ≤ n → has (gtN T i) (nmG x2 i) = true) (H2 : ∀ i, i < n → has (slG T.2.2 i).2.1 (nmG x2 (i + 1)) = true ∧ has (slG T.2.2 i).2.1 (nmG x2 i) = true) :
    ∀ (j i m : Nat), i + j = n + 1 → j < m → peloruslaw18_FlowKeeps_l1 k m ((x2, (), (i : Int), ()), (T, ())) = some (Sum.inr (Sum.inl ((), ()))) := by
  intro j
  induction j with
  | zero =>
    intro i m hi hm
    obtain ⟨m, rfl⟩ : ∃ q, m = q + 1 := ⟨m - 1, by omega⟩
    have e : ¬ (i : Int) < (x2.length : Int) := by omega
    simp only [peloruslaw18_FlowKeeps_l1, cond_f e]
  | succ j ih =>
    intro i m hi hm'
    obtain ⟨m, rfl⟩ : ∃ q, m = q + 1 := ⟨m - 1, by omega⟩
    have e : (i : Int) < (x2.length : Int) := by omega
    have gv := nmG_eq (l := x2) (i := i) (by omega)
    have next := ih (i + 1) m (by omega) (by omega)
    simp only [peloruslaw18_FlowKeeps_l1, cond_t e, tube_Gate_eq k hk, gate_eq hm (show i ≤ T.2.2.length by omega), if_pos (Int.natCast_nonneg i), Int.toNat_natCast, gv, Option.bind_some, iv_Has_eq, H i (by omega), Bool.not_true, cond_false, wsu (show i < 4611686018427387904 by omega)]
    cases i with
    | zero =>
      rw [cond_f (show ¬ ((0 : Nat) : Int) > 0 by decide)]
      exact next
    | succ i =>
      have gs := slG_eq (l := T.2.2) (i := i) (by omega)
      have gv' := nmG_eq (l := x2) (i := i) (by omega)
      obtain ⟨a1, a2⟩ := H2 i (by omega)
      rw [cond_t (show ((i + 1 : Nat) : Int) > 0 by omega)]
      simp only [wpr (show i < 4611686018427387904 by omega), if_pos (Int.natCast_nonneg i), Int.toNat_natCast, gs, gv', Option.bind_some, a1, a2, Bool.not_true, cond_false]
      exact next
theorem FlowKeeps (t : Tb) (r : List Iv) (x2 x3 : List Nm) (hw : wfT t) (hr : ∀ x ∈ r, wfI x) (w2 : ∀ n ∈ x2, wfN n) (w3 : ∀ n ∈ x3, wfN n) : ∃ k, peloruslaw18_FlowKeeps k t r x2 x3 = some (true, ()) := by
  obtain ⟨b, hb, hs⟩ := plain_small 200 (by decide) t r
  have pre : ∀ k, 200 ≤ k → ∃ b, peloruslaw18_Plain k t r = some (b, ()) ∧ (b = true → t.2.2.length ≤ 20 ∧ r.length ≤ 20 ∧ small (mkI t.1 t.1) ∧ ∀ q, q < t.2.2.length → small (mkI (slG t.2.2 q).1 (slG t.2.2 q).1)) := fun k hk => plain_small k hk t r
  -- where a guard lets go
  have out : (¬ (mayT t = true ∧ x2.length = t.2.2.length + 1 ∧ x3.length = t.2.2.length ∧ r.length = t.2.2.length ∧ has t.2.1 (nmG x2 0) = true)) ∨ b = false → peloruslaw18_FlowKeeps 200 t r x2 x3 = some (true, ()) := by
    intro h
    simp only [peloruslaw18_FlowKeeps, awake_all 200 (by decide), Option.bind_some, hb, Bool.not_true, cond_false]
    cases b
    · rfl
    simp only [Bool.not_true, cond_false, tube_May_eq 200 (by decide), Option.bind_some]
    obtain ⟨l20, _⟩ := hs rfl
    have h := h.resolve_right (by simp)
    cases hm : mayT t
    · rfl
    simp only [Bool.not_true, cond_false]
    have wl : IntKind.i64.wrap ((t.2.2.length : Int) + 1) = (t.2.2.length : Int) + 1 := w64 (by omega) (by omega)
    rw [wl]
    by_cases c1 : x2.length = t.2.2.length + 1
    · rw [show ((x2.length : Int) != (t.2.2.length : Int) + 1) = false by simp; omega, cond_false]
      by_cases c2 : x3.length = t.2.2.length
      · rw [show ((x3.length : Int) != (t.2.2.length : Int)) = false by simp; omega, cond_false]
        by_cases c3 : r.length = t.2.2.length
        · rw [show ((r.length : Int) != (t.2.2.length : Int)) = false by simp; omega, cond_false]
          have gv := nmG_eq (l := x2) (i := 0) (by omega)
          rw [if_pos (Nat.le_refl 0), show Int.toNat 0 = 0 from rfl, gv, Option.bind_some, iv_Has_eq, Option.bind_some]
          cases hh : has t.2.1 (nmG x2 0)
          · rfl
          · exact absurd ⟨hm, c1, c2, c3, hh⟩ h
        · rw [show ((r.length : Int) != (t.2.2.length : Int)) = true by simp; omega, cond_true]
      · rw [show ((x3.length : Int) != (t.2.2.length : Int)) = true by simp; omega, cond_true]
    · rw [show ((x2.length : Int) != (t.2.2.length : Int) + 1) = true by simp; omega, cond_true]
  by_cases hall : (mayT t = true ∧ x2.length = t.2.2.length + 1 ∧ x3.length = t.2.2.length ∧ r.length = t.2.2.length ∧ has t.2.1 (nmG x2 0) = true) ∧ b = true
  case neg =>
    refine ⟨200, out ?_⟩
    by_cases h : mayT t = true ∧ x2.length = t.2.2.length + 1 ∧ x3.length = t.2.2.length ∧ r.length = t.2.2.length ∧ has t.2.1 (nmG x2 0) = true
    · right
      cases b
      · rfl
      · exact absurd ⟨h, rfl⟩ hall
    · exact .inl h
  obtain ⟨⟨hm, c1, c2, c3, h0⟩, rfl⟩ := hall
  obtain ⟨l20, r20, sm0, sm⟩ := hs rfl
  have fin : ∀ i, i ≤ t.2.2.length → mayP (timeN t i) ∧ (timeN t i).1 ≠ 2 ∧ -300 ≤ (timeN t i).2.2.2 ∧ (timeN t i).2.2.2 ≤ 300 := fun i hi => by
    have hf := time_fin hm hi
    obtain ⟨f1, f2⟩ := finite_iff.1 hf
    refine ⟨mayP_of f1 (wfN_time hw hi), f2, ?_⟩
    cases i with
    | zero => exact point_small hf sm0
    | succ i => exact point_small hf (sm i hi)
  obtain ⟨K0, h4⟩ := (exD_ev (fin 0 (by omega)).1 (fin 0 (by omega)).2.1).2
  obtain ⟨K1, h5⟩ := ex_all (n := t.2.2.length) (P := fun i k => ∃ (q : Bool) (d : Dd), (q = true → On (nmG x2 i) (nmG x3 i) (nmG x2 (i + 1)) (vh (timeN t (i + 1)) - vh (timeN t i))) ∧ num_Exact k (timeN t (i + 1)) = some (dd (exD (timeN t (i + 1))), true, ()) ∧ dy_Sub k (dd (exD (timeN t (i + 1)))) (dd (exD (timeN t i))) = some (dd d, ()) ∧ peloruslaw18_lies k (nmG x2 i) (nmG x3 i) (dd d) (nmG x2 (i + 1)) = some (q, ())) (fun i hi => by
    obtain ⟨a1, a2, a3⟩ := fin i (by omega)
    obtain ⟨b1, b2, b3⟩ := fin (i + 1) (by omega)
    obtain ⟨q, d, hq, K, hK⟩ := piece_ev a1 a2 a3 b1 b2 b3 (w2 _ (nmG_mem (show i < x2.length by omega))) (w3 _ (nmG_mem (show i < x3.length by omega))) (w2 _ (nmG_mem (show i + 1 < x2.length by omega)))
    exact ⟨K, fun k hk => ⟨q, d, hq, hK k hk⟩⟩)
  obtain ⟨k, hk⟩ : ∃ k, k = K0 + K1 + 300 := ⟨_, rfl⟩
  refine ⟨k, ?_⟩
  obtain ⟨b', hb', hs'⟩ := pre k (by omega)
  have L0 := keeps_l0 k t r x2 x3 t.2.2.length rfl c3 c1 c2 (by omega) (h5 k (by omega)) t.2.2.length 0 k (by omega) (by omega)
  rw [show ((0 : Nat) : Int) = 0 from rfl] at L0
  have wl : IntKind.i64.wrap ((t.2.2.length : Int) + 1) = (t.2.2.length : Int) + 1 := w64 (by omega) (by omega)
  have gv := nmG_eq (l := x2) (i := 0) (by omega)
  have q1 : ((x2.length : Int) != (t.2.2.length : Int) + 1) = false := by simp; omega
  have q2 : ((x3.length : Int) != (t.2.2.length : Int)) = false := by simp; omega
  have q3 : ((r.length : Int) != (t.2.2.length : Int)) = false := by simp; omega
  simp only [peloruslaw18_FlowKeeps, awake_all k (by omega), Option.bind_some, hb', Bool.not_true, cond_false]
  cases b'
  · rfl
  simp only [Bool.not_true, cond_false, tube_May_eq k (by omega), Option.bind_some, hm, wl, q1, q2, q3]
  rw [if_pos (Nat.le_refl 0), show Int.toNat 0 = 0 from rfl, gv, Option.bind_some, iv_Has_eq, Option.bind_some, h0]
  simp only [Bool.not_true, cond_false]
  have h4' : num_Exact k t.1 = some (dd (exD (timeN t 0)), true, ()) := h4 k (by omega)
  rw [h4', Option.bind_some]
  rcases L0 with L | ⟨L, hg⟩
  · erw [L]; rfl
  · erw [L]
    simp only [Option.bind_some, Sum.elim_inr, Sum.elim_inl]
    -- the way
    have wv : ∀ i, i ≤ t.2.2.length → wfN (nmG x2 i) := fun i hi => w2 _ (nmG_mem (by omega))
    have e0 := (has_in hw.2.1 (wv 0 (by omega))).1 h0
    have kp : Kp (fun i => vz (fair (nmG x2 i))) (timeN t) t := by
      refine ⟨hm, hw, e0.2.2, Kl.of fun i hi => ?_, fun _ _ => rfl⟩
      obtain ⟨_, _, g3, g4, g5⟩ := hg i (by omega) hi
      have ws := hw.2.2 _ (slG_mem hi)
      rw [Nat.zero_add]
      exact ⟨((has_in ws.2.1 (wv i (by omega))).1 g3).2.2, ((has_in ws.2.1 (wv (i + 1) (by omega))).1 g4).2.2, ((has_in ws.2.2 (wv (i + 1) (by omega))).1 g5).2.2⟩
    have rt : Rt (fun i => vz (fair (nmG x2 i))) (timeN t) r := by
      intro i hi
      obtain ⟨⟨m1, _, m2, s2, m3, _, e⟩, g2, _⟩ := hg i (by omega) (by omega)
      have wr := hr _ (rtG_mem hi)
      obtain ⟨a1, a2, a3⟩ := (has_in wr (w3 _ (nmG_mem (show i < x3.length by omega)))).1 g2
      rw [fairP m2, vz_vh (by have := exp_lo m2; omega)] at a3
      refine ⟨a1, vh (nmG x3 i), a3, ?_⟩
      show vz (fair (nmG x2 (i + 1))) = vz (fair (nmG x2 i)) + _
      rw [fairP m1, fairP m3]
      exact e
    obtain ⟨z, lc, kc⟩ := kp.contract rt hr c3
    have nf : ∀ i, i ≤ t.2.2.length → (fair (nmG x2 i)).1 ≠ 2 := fun i hi => by
      cases i with
      | zero => exact e0.2.1
      | succ i => exact ((has_in (hw.2.2 _ (slG_mem (show i < t.2.2.length from hi))).2.2 (wv (i + 1) hi)).1 (hg i (by omega) hi).2.2.2.2).2.1
    have L1 := keeps_l1 k (by omega) (contractT t r).1 x2 t.2.2.length lc kc.m c1 (by omega) (fun i hi => by
      have hi' : i ≤ (contractT t r).1.2.2.length := by omega
      exact (has_in (wfI_gt kc.w hi') (wv i hi)).2 ⟨mayI_gt kc.m hi', nf i hi, kc.gt hi'⟩) (fun i hi => by
      have hi' : i < (contractT t r).1.2.2.length := by omega
      have ws := (kc.w.2.2 _ (slG_mem hi')).2.1
      have hs := kc.sl hi'
      exact ⟨(has_in ws (wv (i + 1) (by omega))).2 ⟨(mayT_sl kc.m hi').1, nf (i + 1) (by omega), hs.2.1⟩, (has_in ws (wv i (by omega))).2 ⟨(mayT_sl kc.m hi').1, nf i (by omega), hs.1⟩⟩) (t.2.2.length + 1) 0 k (by omega) (by omega)
    rw [show ((0 : Nat) : Int) = 0 from rfl] at L1
    have zz : ((contractT t r).2 != 0) = false := by simp [z]
    rw [flow_Contract_eq k (by omega) t r hw hr, Option.bind_some]
    simp only [zz, cond_false]
    erw [L1]
    rfl
end Go.Proofs.YtjjhfhhoefdjaaaGreatDoor.Rf.Pl
