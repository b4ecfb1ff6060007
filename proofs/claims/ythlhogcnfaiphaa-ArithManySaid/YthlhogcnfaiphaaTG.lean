/- The order of numbers, and that sums and products keep it. Plain. -/
import Derived.Test.YthlhogcnfaiphaaTS
namespace Go.Proofs.Ythlhogcnfaiphaa.T
set_option linter.unusedVariables false
set_option linter.unusedSimpArgs false
open Go.RowKit Go.Proofs.YthlhogcnfaiphaaW.PrintWords Go.Proofs.YthlhogcnfaiphaaW.PrintMore

/-- How far from nought: nought is 0, the nearest finite one 1, each next one 1 more. -/
def mg (n : Nm) : Int := if n.1 = 0 then 0 else if n.1 = 2 then 2097153 * 9223372036854775808 + 1 else (n.2.2.2 + 1048576) * 9223372036854775808 + (n.2.2.1 - 9223372036854775808) + 1
/-- With the sign. -/
def kv (n : Nm) : Int := sg n.2.1 (mg n)
theorem mg_bd {n : Nm} (h : mayP n) : 0 ≤ mg n ∧ mg n ≤ 2097153 * 9223372036854775808 + 1 := by
  unfold mg
  rcases h with ⟨h1, _⟩ | ⟨h1, h2, h3, h4, h5⟩ | ⟨h1, _⟩
  · rw [if_pos h1]; omega
  · rw [if_neg (by omega), if_neg (by omega)]; omega
  · rw [if_neg (by omega), if_pos h1]; omega
theorem mg_fin {n : Nm} (h : mayP n) (h1 : n.1 = 1) : mg n = (n.2.2.2 + 1048576) * 9223372036854775808 + (n.2.2.1 - 9223372036854775808) + 1 ∧ 1 ≤ mg n ∧ mg n ≤ 2097153 * 9223372036854775808 := by
  have := may_fin h h1
  unfold mg
  rw [if_neg (by omega), if_neg (by omega)]
  omega
theorem mg_inf {n : Nm} (h : n.1 = 2) : mg n = 2097153 * 9223372036854775808 + 1 := by
  unfold mg
  rw [if_neg (by omega), if_pos h]
theorem mg_zero {n : Nm} (h : n.1 = 0) : mg n = 0 := by unfold mg; rw [if_pos h]
theorem sgx_neg (n : Bool) (m : Int) : sg (!n) m = -sg n m := by cases n <;> simp [sg]
theorem kv_neg (n : Nm) : kv (ngv n) = -kv n := by
  unfold kv ngv
  by_cases h : n.1 = 0
  · rw [if_pos h, mg_zero h, mg_zero rfl]; cases n.2.1 <;> rfl
  · rw [if_neg h]
    simp only
    rw [sgx_neg]
    unfold mg
    simp only
/-! rounding keeps the order -/
theorem mg_bnd (neg : Bool) {m e : Int} (h0 : 9223372036854775808 ≤ m) (h1 : m < 18446744073709551616) (away : Bool) :
    mg (bnd neg m e away) = if away = true then (if e > 1048576 then 2097153 * 9223372036854775808 + 1 else if e < -1048576 then 1 else (e + 1048576) * 9223372036854775808 + (m - 9223372036854775808) + 1) else (if e > 1048576 then 2097153 * 9223372036854775808 else if e < -1048576 then 0 else (e + 1048576) * 9223372036854775808 + (m - 9223372036854775808) + 1) := by
  unfold bnd mg
  cases away
  · simp only [Bool.false_eq_true, if_false]
    split
    · simp
    · split
      · simp
      · simp
  · simp only [if_true]
    split
    · simp
    · split
      · simp
      · simp
theorem bnd_sign (neg : Bool) (m e : Int) (away : Bool) : (bnd neg m e away).1 = 0 ∨ (bnd neg m e away).2.1 = neg := by
  unfold bnd
  split
  · split
    · exact .inr rfl
    · exact .inr rfl
  · split
    · split
      · exact .inr rfl
      · exact .inl rfl
    · exact .inr rfl
theorem grw_sign (neg : Bool) (m e : Int) (c away : Bool) : (grw neg m e c away).1 = 0 ∨ (grw neg m e c away).2.1 = neg := by
  unfold grw
  split
  · split <;> exact bnd_sign _ _ _ _
  · exact bnd_sign _ _ _ _
theorem rnd_sign {v : Int} (hv : 0 < v) (neg : Bool) (e : Int) (away : Bool) : (rnd neg v e away).1 = 0 ∨ (rnd neg v e away).2.1 = neg := by
  obtain ⟨q, E, c, h⟩ := fit_ex e hv
  rw [rnd_fit h]
  exact grw_sign _ _ _ _ _
theorem kv_of_sign {n : Nm} {neg : Bool} (h : n.1 = 0 ∨ n.2.1 = neg) : kv n = sg neg (mg n) := by
  unfold kv
  rcases h with h | h
  · rw [mg_zero h]; cases n.2.1 <;> cases neg <;> rfl
  · rw [h]
theorem grw_mono (neg neg' away : Bool) {q E q' E' : Int} {c c' : Bool} (q0 : 9223372036854775808 ≤ q) (q1 : q < 18446744073709551616) (q0' : 9223372036854775808 ≤ q') (q1' : q' < 18446744073709551616)
    (h : E < E' ∨ E = E' ∧ (q < q' ∨ q = q' ∧ (c = true → c' = true))) : mg (grw neg q E c away) ≤ mg (grw neg' q' E' c' away) := by
  unfold grw
  cases away
  · rw [if_neg (by simp), if_neg (by simp), mg_bnd neg q0 q1, mg_bnd neg' q0' q1']
    simp only [Bool.false_eq_true, if_false]
    (repeat' split) <;> omega
  · have e : ∀ (neg : Bool) (q E : Int) (c : Bool), 9223372036854775808 ≤ q → q < 18446744073709551616 → ∃ q2 E2, 9223372036854775808 ≤ q2 ∧ q2 < 18446744073709551616 ∧ (if c = true ∧ true = true then (if q + 1 = 18446744073709551616 then bnd neg 9223372036854775808 (E + 1) true else bnd neg (q + 1) E true) else bnd neg q E true) = bnd neg q2 E2 true ∧ E2 * 9223372036854775808 + q2 = E * 9223372036854775808 + q + (if c = true then 1 else 0) := fun neg q E c q0 q1 => by
      cases c
      · exact ⟨q, E, q0, q1, by simp, by simp⟩
      · by_cases z : q + 1 = 18446744073709551616
        · exact ⟨9223372036854775808, E + 1, by decide, by decide, by simp [z], by simp; omega⟩
        · exact ⟨q + 1, E, by omega, by omega, by simp [z], by simp; omega⟩
    obtain ⟨r, F, r0, r1, er, kr⟩ := e neg q E c q0 q1
    obtain ⟨r', F', r0', r1', er', kr'⟩ := e neg' q' E' c' q0' q1'
    rw [er, er', mg_bnd neg r0 r1, mg_bnd neg' r0' r1']
    have k : F * 9223372036854775808 + r ≤ F' * 9223372036854775808 + r' := by
      rw [kr, kr']
      cases c <;> cases c' <;> simp at h ⊢ <;> omega
    simp only [if_true]
    (repeat' split) <;> omega
theorem fit_mono {v v' e q E q' E' : Int} {c c' : Bool} (h : Fit v e q E c) (h' : Fit v' e q' E' c') (hv : v ≤ v') : E < E' ∨ E = E' ∧ (q < q' ∨ q = q' ∧ (c = true → c' = true)) := by
  obtain ⟨q0, q1, s, t, he, h1, h2, hc⟩ := h
  obtain ⟨q0', q1', s', t', he', h1', h2', hc'⟩ := h'
  have a1 := mul_le_p s' h1
  have a2 := mul_lt_p s' h2
  have a1' := mul_le_p s h1'
  have a2' := mul_lt_p s h2'
  have av := mul_le_p (s + s') hv
  rw [Int.mul_assoc, ← p2_add, Int.mul_assoc, ← p2_add] at a1 a2 a1' a2'
  rw [Nat.add_comm s' s] at a1' a2'
  have hE : E - E' = ((t + s' : Nat) : Int) - ((t' + s : Nat) : Int) := by omega
  by_cases z : E < E'
  · exact .inl z
  by_cases z2 : E = E'
  · have eT : t + s' = t' + s := by omega
    rw [eT] at a1 a2
    refine .inr ⟨z2, ?_⟩
    by_cases z3 : q < q'
    · exact .inl z3
    · have z4 : q < q' + 1 := lt_of_p (t' + s) (by omega)
      have z5 : q = q' := by omega
      refine .inr ⟨z5, fun hcc => ?_⟩
      have n1 := hc.1 hcc
      have n2 : q * 2 ^ (t' + s) ≠ v * 2 ^ (s + s') := fun h => n1 (by
        refine eq_of_p s' ?_
        rw [Int.mul_assoc, ← p2_add, Int.mul_assoc, ← p2_add, eT]
        exact h)
      refine hc'.2 fun h => ?_
      have h3 : q' * 2 ^ (t' + s) = v' * 2 ^ (s' + s) := by rw [p2_add, p2_add, ← Int.mul_assoc, ← Int.mul_assoc, h]
      rw [Nat.add_comm s' s] at h3
      rw [z5] at n2 a1
      omega
  · obtain ⟨d, hd⟩ : ∃ d : Nat, t + s' = t' + s + 1 + d := ⟨t + s' - (t' + s) - 1, by omega⟩
    have p1 := mul_le_p (t + s') q0
    have p2 := p2_mono (show t' + s + 1 ≤ t + s' by omega)
    have p3 := mul_le_p (t' + s) (show q' + 1 ≤ 18446744073709551616 by omega)
    rw [p2_succ] at p2
    omega
theorem rnd_mono {v v' : Int} (hv : 0 < v) (hvv : v ≤ v') (neg neg' : Bool) (e : Int) (away : Bool) : mg (rnd neg v e away) ≤ mg (rnd neg' v' e away) := by
  obtain ⟨q, E, c, h⟩ := fit_ex e hv
  obtain ⟨q', E', c', h'⟩ := fit_ex (v := v') e (by omega)
  rw [rnd_fit h, rnd_fit h']
  exact grw_mono neg neg' away h.1 h.2.1 h'.1 h'.2.1 (fit_mono h h' hvv)
theorem rnz_pos {s : Int} (h : 0 < s) (e : Int) (up : Bool) : kv (rnz s e up) = mg (rnd false s e up) := by
  unfold rnz
  rw [if_neg (by omega), decide_eq_false (by omega), Int.natAbs_of_nonneg (by omega), show (up != false) = up by cases up <;> rfl, kv_of_sign (rnd_sign h false e up)]
  rfl
theorem rnz_opp (s e : Int) (up : Bool) : kv (rnz (-s) e (!up)) = -kv (rnz s e up) := by rw [← rnz_neg, kv_neg]
theorem rnz_zero (e : Int) (up : Bool) : kv (rnz 0 e up) = 0 := rfl
theorem rnz_nonneg {s : Int} (h : 0 ≤ s) (e : Int) (up : Bool) : 0 ≤ kv (rnz s e up) := by
  by_cases z : s = 0
  · rw [z, rnz_zero]; omega
  · rw [rnz_pos (by omega)]
    exact (mg_bd (rnd_may (by omega))).1
theorem rnz_mono {s s' : Int} (h : s ≤ s') (e : Int) (up : Bool) : kv (rnz s e up) ≤ kv (rnz s' e up) := by
  by_cases h0 : 0 < s
  · rw [rnz_pos h0, rnz_pos (by omega)]
    exact rnd_mono h0 h _ _ _ _
  · by_cases h1 : 0 ≤ s'
    · have a := rnz_nonneg h1 e up
      have b := rnz_nonneg (show 0 ≤ -s by omega) e (!up)
      rw [rnz_opp] at b
      omega
    · have a := rnz_pos (show 0 < -s by omega) e (!up)
      have b := rnz_pos (show 0 < -s' by omega) e (!up)
      rw [rnz_opp] at a b
      have := rnd_mono (v := -s') (v' := -s) (by omega) (by omega) false false e (!up)
      omega
end Go.Proofs.Ythlhogcnfaiphaa.T
