/- The document's answers for layer 6 are the exact sum and the exact product, rounded. -/
import Derived.Test.YthlhogcnfaiphaaPAx2
import Derived.Test.YthlhogcnfaiphaaTQ
namespace Go.Proofs.Ythlhogcnfaiphaa.T
set_option linter.unusedVariables false
set_option linter.unusedSimpArgs false
open Go.RowKit Go.Proofs.YthlhogcnfaiphaaW.PrintWords Go.Proofs.YthlhogcnfaiphaaW.PrintMore Go.Proofs.Ythlhogcnfaiphaa.PA

theorem may5_eq (a : Int) (b : Bool) (c d : Int) (h1 : c < 18446744073709551616) : pelorusref05_May.f a b c d = some (decide (mayP (a, b, c, d))) := by
  rw [← may_eq a b c d h1]
  unfold pelorusref05_May.f num_May.f
  by_cases h0 : a = 0
  · subst h0
    rw [if_neg (by decide), if_neg (by decide), if_pos rfl, if_pos rfl]
    cases b
    · by_cases hc : c = 0
      · rw [if_neg (by decide), if_pos hc, hc]; rfl
      · rw [if_neg (by decide), if_neg hc, show (c == 0) = false by simpa using hc]; rfl
    · rfl
  · rw [if_neg h0]
    by_cases h2 : a = 1
    · subst h2; rfl
    · by_cases h3 : a = 2
      · subst h3; rfl
      · simp only [h0, h2, h3, if_false]
theorem fair6_eq (a : Int) (b : Bool) (c d : Int) (h1 : c < 18446744073709551616) : pelorusref06_Fair.f a b c d = some (fairv (a, b, c, d)) := by
  rw [← afair_eq a b c d h1]
  unfold pelorusref06_Fair.f arith_fair.f
  rw [may5_eq a b c d h1, may_eq a b c d h1]
theorem fair5_eq (a : Int) (b : Bool) (c d : Int) (h1 : c < 18446744073709551616) : pelorusref05_fair.f a b c d = some (fairv (a, b, c, d)) := by
  rw [← afair_eq a b c d h1]
  unfold pelorusref05_fair.f arith_fair.f
  rw [may5_eq a b c d h1, may_eq a b c d h1]
theorem neg5_eq (a : Int) (b : Bool) (c d : Int) (h1 : c < 18446744073709551616) : pelorusref05_Neg.f a b c d = some (ngv (fairv (a, b, c, d))) := by
  unfold pelorusref05_Neg.f
  rw [fair5_eq a b c d h1, Option.bind_some]
  have h := fairv_may (a, b, c, d)
  generalize fairv (a, b, c, d) = n at h
  obtain ⟨n1, n2, n3, n4⟩ := n
  unfold ngv
  rcases h with ⟨h1, h2, h3, h4⟩ | ⟨h1, h2⟩ | ⟨h1, h2⟩ <;> simp only at h1
  · simp only at h2 h3 h4; subst h1 h2 h3 h4; rfl
  · subst h1; rfl
  · subst h1; rfl
theorem fin5_eq (neg : Bool) (m e : Int) (away : Bool) : pelorusref05_finite.f neg m e away = some (bnd neg m e away) := by
  unfold pelorusref05_finite.f bnd
  by_cases h : e > 1048576
  · rw [if_pos h, if_pos h]; cases away <;> rfl
  · rw [if_neg h, if_neg h]
    by_cases h2 : e < -1048576
    · rw [if_pos h2, if_pos h2]; cases away <;> rfl
    · rw [if_neg h2, if_neg h2]
theorem word_step (k : Nat) (l : List Int) (x : Int) (i : Nat) (h : i < l.length) (hb : l.length ≤ 2) (x0 : 0 ≤ x) (x1 : x < 4294967296) (hu : U l) :
    pelorusref05_word.l0 (k + 1) l x (i : Int) = pelorusref05_word.l0 k l (x * 4294967296 + l.getD i 0) ((i : Int) - 1) := by
  have hg := U_getD hu i
  simp only [pelorusref05_word.l0, rd_eq, Int.toNat_natCast]
  rw [if_pos (by omega), if_pos (by omega), if_pos (by omega), u64w (x := x * 4294967296) (by omega) (by omega), u64w (x := l.getD i 0) (by omega) (by omega), u64w (by omega) (by omega), w64 (by omega) (by omega)]
theorem word_end (k : Nat) (l : List Int) (x : Int) : pelorusref05_word.l0 (k + 1) l x (-1) = some x := by
  simp only [pelorusref05_word.l0]
  rw [if_neg (by decide)]
theorem word_ev {v : Int} (h0 : 0 ≤ v) (h1 : v < 18446744073709551616) : ∃ K, ∀ k, K ≤ k → pelorusref05_word.f k (lim v) = some v := by
  have hl := lim_len h0 2 (by rw [show pw 2 = 18446744073709551616 by decide]; exact h1)
  have u := U_lim h0
  have hv := val_lim h0
  generalize lim v = l at *
  refine ⟨3, fun k hk => ?_⟩
  obtain ⟨k, rfl⟩ : ∃ m, k = m + 3 := ⟨k - 3, by omega⟩
  unfold pelorusref05_word.f
  rw [w64 (by omega) (by omega)]
  match l, hl, u, hv with
  | [], _, _, hv =>
    have : (0 : Int) = v := hv
    subst this
    exact word_end _ _ _
  | [a], hl, u, hv =>
    have ha := u a (by simp)
    have e : v = a := by rw [← hv]; simp
    have s := word_step (k + 2) [a] 0 0 (by simp) hl (by decide) (by decide) u
    refine s.trans ?_
    refine (word_end _ _ _).trans ?_
    rw [e]
    simp
  | [a, b], hl, u, hv =>
    have ha := u a (by simp)
    have hb := u b (by simp)
    have e : v = a + 4294967296 * b := by rw [← hv]; simp
    have s := word_step (k + 2) [a, b] 0 1 (by simp) hl (by decide) (by decide) u
    refine s.trans ?_
    have s2 := word_step (k + 1) [a, b] (0 * 4294967296 + [a, b].getD 1 0) 0 (by simp) hl (by simp; omega) (by simp; omega) u
    refine s2.trans ?_
    refine (word_end _ _ _).trans ?_
    rw [e]
    simp
    omega
/-- What a finite number is, exactly. -/
theorem exact_ev (neg : Bool) {m e : Int} (m0 : 9223372036854775808 ≤ m) (m1 : m < 18446744073709551616) (e0 : -1048576 ≤ e) (e1 : e ≤ 1048576) :
    ∃ d, Rep d (sg neg m) e ∧ ∃ K, ∀ k, K ≤ k → pelorusref05_Exact.f k 1 neg m e = some (d.1, d.2.1, d.2.2, true) := by
  have hu : U [m % 4294967296, m / 4294967296] := by simp [U]; omega
  have hv : val [m % 4294967296, m / 4294967296] = m := by simp; omega
  have bm := bl_le (n := m) (m := 64) (by rw [p64]; exact m1)
  have bm0 := bl_pos (n := m) (by omega)
  obtain ⟨K1, h1⟩ := make2_ev neg [m % 4294967296, m / 4294967296] hu (by simp)
  rw [hv, decide_eq_true (by omega), Bool.and_true] at h1
  have ll := len_lim (v := m) (by omega) 64 (by rw [p64]; exact m1)
  obtain ⟨d, hd, K2, h2⟩ := make3_ev neg (lim m) e (U_lim (by omega)) (by omega) (by rw [val_lim (by omega)]; omega) (by omega) (by rw [val_lim (by omega)]; omega)
  rw [val_lim (by omega)] at hd
  refine ⟨d, hd, K1 + K2 + 1, fun k hk => ?_⟩
  obtain ⟨k, rfl⟩ : ∃ i, k = i + 1 := ⟨k - 1, by omega⟩
  unfold pelorusref05_Exact.f
  rw [may5_eq 1 neg m e m1, Option.bind_some, decide_eq_true (show mayP (1, neg, m, e) from .inr (.inl ⟨rfl, m0, m1, e0, e1⟩)), if_pos rfl]
  simp only [pelorusref05_Exact.j0, show ((1 : Int) == 2) = false from rfl, Bool.false_eq_true, if_false, show ¬ ((1 : Int) = 0) by decide]
  unfold pelorusref05_limbs.f
  rw [Option.bind_some, Int.tmod_eq_emod_of_nonneg (by omega), Int.tdiv_eq_ediv_of_nonneg (by omega), u64w (by omega) (by omega), show m % 4294967296 % 4294967296 = m % 4294967296 by omega, show m / 4294967296 % 4294967296 = m / 4294967296 by omega, h1 k (by omega), Option.bind_some, h2 k (by omega), Option.bind_some]
theorem exact0_ev (k : Nat) (hk : 1 ≤ k) : pelorusref05_Exact.f k 0 false 0 0 = some (false, [], 0, true) := by
  obtain ⟨k, rfl⟩ : ∃ i, k = i + 1 := ⟨k - 1, by omega⟩
  rfl
/-- Rounded. -/
theorem round_ev {d : Dd} {s f : Int} (hd : Rep d s f) (up : Bool) (hs : bl s.natAbs ≤ 90000) (f0 : -3000000 ≤ f) (f1 : f ≤ 3000000) :
    ∃ K, ∀ k, K ≤ k → pelorusref05_Round.f k d.1 d.2.1 d.2.2 up = some (rnz s f up) := by
  obtain ⟨a, ha, K1, h1⟩ := rep_make hd (by omega) (by omega) (by omega)
  rcases ha with ⟨rfl, rfl⟩ | ⟨o, t, o0, o1, s0, ho, rfl⟩
  · refine ⟨K1, fun k hk => ?_⟩
    unfold pelorusref05_Round.f
    rw [h1 k hk, Option.bind_some]
    rfl
  have bo := blp o0 t
  rw [← ho] at bo
  have po := bl_pos o0
  have lo := len_lim (v := o) (by omega) (bl o).toNat (bl_lt (by omega))
  have er : rnz s f up = rnd (decide (s < 0)) o (f + t) (up != decide (s < 0)) := by
    unfold rnz
    rw [if_neg s0, ho, rnd_scale o0]
  have nl := lim_nil_iff (n := o) (by omega)
  obtain ⟨K2, h2⟩ := rlen_ev (lim o) (U_lim (by omega)) (by omega)
  rw [val_lim (by omega)] at h2
  rw [er]
  generalize hneg : decide (s < 0) = neg
  rw [hneg] at h1
  by_cases hb : bl o ≤ 64
  · obtain ⟨j, hj⟩ : ∃ j : Nat, 64 - bl o = j := ⟨(64 - bl o).toNat, by omega⟩
    have w : wrap64 (64 - bl o) = (j : Int) := by rw [w64 (by omega) (by omega)]; omega
    obtain ⟨K3, h3⟩ := rshl_ev (lim o) j (U_lim (by omega)) (by omega)
    rw [val_lim (by omega), shlv_eq (by omega) (by omega), Int.toNat_natCast] at h3
    have pj := p2_pos j
    have v0 := Int.mul_pos o0 pj
    have v1 := mul_lt_p j (bl_lt (n := o) (by omega))
    rw [← p2_add, show (bl o).toNat + j = 64 by omega, p64] at v1
    obtain ⟨K4, h4⟩ := word_ev (v := o * 2 ^ j) (by omega) v1
    refine ⟨K1 + K2 + K3 + K4, fun k hk => ?_⟩
    unfold pelorusref05_Round.f
    rw [h1 k (by omega), Option.bind_some]
    simp only
    rw [if_neg (by omega), h2 k (by omega), Option.bind_some, if_pos hb, w, h3 k (by omega), Option.bind_some, h4 k (by omega), Option.bind_some, fin5_eq, Option.bind_some, w64 (x := f + (t : Int) + bl o) (by omega) (by omega), w64 (by omega) (by omega)]
    unfold rnd
    rw [if_pos hb, hj, Int.toNat_natCast]
  · obtain ⟨j, hj⟩ : ∃ j : Nat, bl o - 64 = (j + 1 : Nat) := ⟨(bl o - 65).toNat, by omega⟩
    have w : wrap64 (bl o - 64) = ((j + 1 : Nat) : Int) := by rw [w64 (by omega) (by omega)]; omega
    obtain ⟨K3, h3⟩ := rshr_ev (lim o) ((j + 1 : Nat) : Int) (U_lim (by omega)) (by omega)
    rw [val_lim (by omega), shrv_eq (by omega), Int.toNat_natCast] at h3
    have pj := p2_pos (j + 1)
    have q0 := Int.le_ediv_of_mul_le (a := 9223372036854775808) (b := o) pj (by
      have := bl_ge o0
      rw [show (bl o - 1).toNat = 63 + (j + 1) by omega, p2_add, p63] at this
      exact this)
    have q1 := Int.ediv_lt_of_lt_mul (a := o) (b := 18446744073709551616) pj (by
      have := bl_lt (n := o) (by omega)
      rw [show (bl o).toNat = 64 + (j + 1) by omega, p2_add, p64] at this
      exact this)
    have cut : decide (o % 2 ^ (j + 1) ≠ 0) = true := by
      refine decide_eq_true fun h => ?_
      have := Int.mul_ediv_add_emod o (2 ^ (j + 1))
      rw [h, p2_succ, Int.mul_assoc] at this
      omega
    have er2 : rnd neg o (f + t) (up != neg) = grw neg (o / 2 ^ (j + 1)) (f + t + bl o - 64) true (up != neg) := by
      unfold rnd
      rw [if_neg hb, hj, Int.toNat_natCast, cut]
    rw [er2]
    have w1 : wrap64 (wrap64 (f + (t : Int) + bl o) - 64) = f + t + bl o - 64 := by rw [w64 (x := f + (t : Int) + bl o) (by omega) (by omega), w64 (by omega) (by omega)]
    generalize hq : o / 2 ^ (j + 1) = q at *
    have lq := len_lim (v := q) (by omega) 64 (by rw [p64]; exact q1)
    cases haw : (up != neg)
    · obtain ⟨K4, h4⟩ := word_ev (v := q) (by omega) q1
      refine ⟨K1 + K2 + K3 + K4, fun k hk => ?_⟩
      unfold pelorusref05_Round.f
      rw [h1 k (by omega), Option.bind_some]
      simp only
      rw [if_neg (by omega), h2 k (by omega), Option.bind_some, if_neg hb, w, h3 k (by omega), Option.bind_some, haw, if_neg (by decide), h4 k (by omega), Option.bind_some, fin5_eq, Option.bind_some, w1]
      unfold grw
      rw [if_neg (by simp)]
    · obtain ⟨K4, h4⟩ := radd_ev (lim q) [1] (U_lim (by omega)) (U_single (by decide) (by decide)) (by omega) (by simp)
      rw [val_lim (by omega), show val [1] = 1 by simp] at h4
      have lq1 := len_lim (v := q + 1) (by omega) 65 (by rw [show (2 : Int) ^ 65 = 36893488147419103232 by decide]; omega)
      obtain ⟨K5, h5⟩ := rlen_ev (lim (q + 1)) (U_lim (by omega)) (by omega)
      rw [val_lim (by omega)] at h5
      by_cases hc : q + 1 = 18446744073709551616
      · have b65 : bl (q + 1) = 65 := by rw [hc]; decide +kernel
        obtain ⟨K6, h6⟩ := rshr_ev (lim (q + 1)) 1 (U_lim (by omega)) (by omega)
        rw [val_lim (by omega), show shrv (q + 1) 1 = 9223372036854775808 by rw [hc]; decide +kernel] at h6
        obtain ⟨K7, h7⟩ := word_ev (v := 9223372036854775808) (by decide) (by decide)
        refine ⟨K1 + K2 + K3 + K4 + K5 + K6 + K7, fun k hk => ?_⟩
        unfold pelorusref05_Round.f
        rw [h1 k (by omega), Option.bind_some]
        simp only
        rw [if_neg (by omega), h2 k (by omega), Option.bind_some, if_neg hb, w, h3 k (by omega), Option.bind_some, haw, if_pos rfl, h4 k (by omega), Option.bind_some, h5 k (by omega), Option.bind_some, if_pos (by omega), h6 k (by omega), Option.bind_some, h7 k (by omega), Option.bind_some, fin5_eq, Option.bind_some, w1, w64 (by omega) (by omega)]
        unfold grw
        rw [if_pos ⟨rfl, rfl⟩, if_pos hc]
      · have b64 := bl_le (n := q + 1) (m := 64) (by rw [p64]; omega)
        obtain ⟨K7, h7⟩ := word_ev (v := q + 1) (by omega) (by omega)
        refine ⟨K1 + K2 + K3 + K4 + K5 + K7, fun k hk => ?_⟩
        unfold pelorusref05_Round.f
        rw [h1 k (by omega), Option.bind_some]
        simp only
        rw [if_neg (by omega), h2 k (by omega), Option.bind_some, if_neg hb, w, h3 k (by omega), Option.bind_some, haw, if_pos rfl, h4 k (by omega), Option.bind_some, h5 k (by omega), Option.bind_some, if_neg (by omega), h7 k (by omega), Option.bind_some, fin5_eq, Option.bind_some, w1]
        unfold grw
        rw [if_pos ⟨rfl, rfl⟩, if_neg hc]
end Go.Proofs.Ythlhogcnfaiphaa.T
