/- Sums and products keep the order; what Cmp and Sign compute. -/
import Derived.Test.YthlhogcnfaiphaaPAx2
import Derived.Test.YthlhogcnfaiphaaTG
import Derived.Test.YthlhogcnfaiphaaTR
namespace Go.Proofs.Ythlhogcnfaiphaa.T
set_option linter.unusedVariables false
set_option linter.unusedSimpArgs false
open Go.RowKit Go.Proofs.YthlhogcnfaiphaaW.PrintWords Go.Proofs.YthlhogcnfaiphaaW.PrintMore Go.Proofs.Ythlhogcnfaiphaa.PA

theorem mag_le {am ae bm be : Int} {i j : Nat} (a1 : am < 18446744073709551616) (b0 : 9223372036854775808 ≤ bm) (hE : ae - i = be - j) (h : ae < be ∨ ae = be ∧ am ≤ bm) : am * 2 ^ i ≤ bm * 2 ^ j := by
  rcases h with h | ⟨h, h2⟩
  · obtain ⟨d, rfl⟩ : ∃ d : Nat, j = i + 1 + d := ⟨j - i - 1, by omega⟩
    have p1 := mul_le_p (i + 1 + d) b0
    have p2 := p2_mono (show i + 1 ≤ i + 1 + d by omega)
    have p3 := mul_lt_p i a1
    rw [p2_succ] at p2
    omega
  · have : i = j := by omega
    subst this
    exact mul_le_p i h2
theorem val_le {a b : Nm} (ha : mayP a) (hb : mayP b) (a2 : a.1 ≠ 2) (b2 : b.1 ≠ 2) {i j : Nat} (hE : a.2.2.2 - i = b.2.2.2 - j) (h : kv a ≤ kv b) : sv a * 2 ^ i ≤ sv b * 2 ^ j := by
  have pi := p2_pos i
  have pj := p2_pos j
  have fa : a.1 = 0 ∨ a.1 = 1 := by rcases ha with ⟨h, _⟩ | ⟨h, _⟩ | ⟨h, _⟩ <;> omega
  have fb : b.1 = 0 ∨ b.1 = 1 := by rcases hb with ⟨h, _⟩ | ⟨h, _⟩ | ⟨h, _⟩ <;> omega
  unfold kv at h
  unfold sv
  rcases fa with fa | fa <;> rcases fb with fb | fb
  · rw [if_neg (by omega), if_neg (by omega)]; omega
  · obtain ⟨k1, k2, k3⟩ := mg_fin hb fb
    obtain ⟨b0, b1, -, -⟩ := may_fin hb fb
    rw [mg_zero fa] at h
    rw [if_neg (by omega), if_pos fb, Int.zero_mul]
    have := Int.mul_nonneg (show 0 ≤ b.2.2.1 by omega) (show (0 : Int) ≤ 2 ^ j by omega)
    cases hn : b.2.1 <;> rw [hn] at h
    · simpa [sg] using this
    · cases a.2.1 <;> simp [sg] at h <;> omega
  · obtain ⟨k1, k2, k3⟩ := mg_fin ha fa
    obtain ⟨b0, b1, -, -⟩ := may_fin ha fa
    rw [mg_zero fb] at h
    rw [if_neg (c := b.1 = 1) (by omega), if_pos fa, Int.zero_mul]
    have := Int.mul_nonneg (show 0 ≤ a.2.2.1 by omega) (show (0 : Int) ≤ 2 ^ i by omega)
    cases hn : a.2.1 <;> rw [hn] at h
    · cases b.2.1 <;> simp [sg] at h <;> omega
    · simp only [sg, if_true, Int.neg_mul]; omega
  · obtain ⟨k1, k2, k3⟩ := mg_fin ha fa
    obtain ⟨l1, l2, l3⟩ := mg_fin hb fb
    obtain ⟨a0, a1, -, -⟩ := may_fin ha fa
    obtain ⟨b0, b1, -, -⟩ := may_fin hb fb
    rw [if_pos fa, if_pos fb]
    have pa := Int.mul_nonneg (show 0 ≤ a.2.2.1 by omega) (show (0 : Int) ≤ 2 ^ i by omega)
    have pb := Int.mul_nonneg (show 0 ≤ b.2.2.1 by omega) (show (0 : Int) ≤ 2 ^ j by omega)
    cases hn : a.2.1 <;> cases hm : b.2.1 <;> rw [hn, hm] at h <;> simp only [sg, Bool.false_eq_true, if_false, if_true, Int.neg_mul] at h ⊢
    · exact mag_le a1 b0 hE (by omega)
    · omega
    · omega
    · have := mag_le b1 a0 hE.symm (by omega)
      omega
theorem addv_gen {a b : Nm} (ha : mayP a) (hb : mayP b) (a2 : a.1 ≠ 2) (b2 : b.1 ≠ 2) (up : Bool) {i j : Nat} {f : Int} (hi : f = a.2.2.2 - i) (hj : f = b.2.2.2 - j) : rnz (sv a * 2 ^ i + sv b * 2 ^ j) f up = addv a b up := by
  obtain ⟨i0, j0, k, h1, h2, h3⟩ : ∃ i0 j0 k : Nat, i = i0 + k ∧ j = j0 + k ∧ min a.2.2.2 b.2.2.2 = f + k := ⟨i - (min a.2.2.2 b.2.2.2 - f).toNat, j - (min a.2.2.2 b.2.2.2 - f).toNat, (min a.2.2.2 b.2.2.2 - f).toNat, by omega, by omega, by omega⟩
  rw [← addv_sv ha hb a2 b2 up i0 j0 (f + k) (by omega) (by omega) h3.symm, ← rnz_scale, Int.add_mul, Int.mul_assoc, Int.mul_assoc, ← p2_add, ← p2_add, h1, h2]
theorem kv_bd {n : Nm} (h : mayP n) : -(2097153 * 9223372036854775808 + 1) ≤ kv n ∧ kv n ≤ 2097153 * 9223372036854775808 + 1 := by
  have := mg_bd h
  unfold kv sg
  split <;> omega
theorem kv_inf {n : Nm} (h : n.1 = 2) : kv n = sg n.2.1 (2097153 * 9223372036854775808 + 1) := by unfold kv; rw [mg_inf h]
theorem inf_of_kv {n : Nm} (h : mayP n) (hk : kv n = 2097153 * 9223372036854775808 + 1) : n.1 = 2 ∧ n.2.1 = false := by
  rcases h with ⟨h1, _⟩ | ⟨h1, h2⟩ | ⟨h1, _⟩
  · unfold kv at hk; rw [mg_zero h1] at hk; exfalso; unfold sg at hk; split at hk <;> omega
  · have := mg_fin (n := n) (.inr (.inl ⟨h1, h2⟩)) h1
    unfold kv sg at hk; split at hk <;> omega
  · refine ⟨h1, ?_⟩
    rw [kv_inf h1] at hk
    cases hn : n.2.1
    · rfl
    · rw [hn] at hk; exact absurd hk (by decide)
theorem ninf_of_kv {n : Nm} (h : mayP n) (hk : kv n = -(2097153 * 9223372036854775808 + 1)) : n.1 = 2 ∧ n.2.1 = true := by
  rcases h with ⟨h1, _⟩ | ⟨h1, h2⟩ | ⟨h1, _⟩
  · unfold kv at hk; rw [mg_zero h1] at hk; exfalso; unfold sg at hk; split at hk <;> omega
  · have := mg_fin (n := n) (.inr (.inl ⟨h1, h2⟩)) h1
    unfold kv sg at hk; split at hk <;> omega
  · refine ⟨h1, ?_⟩
    rw [kv_inf h1] at hk
    cases hn : n.2.1
    · rw [hn] at hk; exact absurd hk (by decide)
    · rfl
theorem kv_pinf {n : Nm} (h : n.1 = 2) (hn : n.2.1 = false) : kv n = 2097153 * 9223372036854775808 + 1 := by rw [kv_inf h, hn]; rfl
theorem kv_ninf {n : Nm} (h : n.1 = 2) (hn : n.2.1 = true) : kv n = -(2097153 * 9223372036854775808 + 1) := by rw [kv_inf h, hn]; rfl
/-- Of a greater one the sum is not less. -/
theorem addv_mono {a b c : Nm} (ha : mayP a) (hb : mayP b) (hc : mayP c) (up : Bool) (h : kv a ≤ kv b) : kv (addv a c up) ≤ kv (addv b c up) := by
  have ba := kv_bd (addv_may up ha hc)
  have bb := kv_bd (addv_may up hb hc)
  have xa := kv_bd ha
  have xb := kv_bd hb
  by_cases c2 : c.1 = 2
  · cases hn : c.2.1
    · by_cases z : b.1 = 2 ∧ b.2.1 = true
      · have kb := kv_ninf z.1 z.2
        have za := ninf_of_kv ha (by omega)
        have : addv a c up = addv b c up := by
          unfold addv
          rw [if_pos ⟨za.1, c2, by rw [za.2, hn]; decide⟩, if_pos ⟨z.1, c2, by rw [z.2, hn]; decide⟩]
        rw [this]; omega
      · have : kv (addv b c up) = 2097153 * 9223372036854775808 + 1 := by
          unfold addv
          rw [if_neg (fun hh => z ⟨hh.1, by have := hh.2.2; rw [hn] at this; simpa using this⟩)]
          by_cases b2 : b.1 = 2
          · rw [if_pos (.inl b2)]
            exact kv_pinf b2 (by cases hb2 : b.2.1 <;> simp_all)
          · rw [if_neg (by omega), if_pos (.inl c2)]
            exact kv_pinf c2 hn
        omega
    · by_cases z : a.1 = 2 ∧ a.2.1 = false
      · have ka := kv_pinf z.1 z.2
        have zb := inf_of_kv hb (by omega)
        have : addv a c up = addv b c up := by
          unfold addv
          rw [if_pos ⟨z.1, c2, by rw [z.2, hn]; decide⟩, if_pos ⟨zb.1, c2, by rw [zb.2, hn]; decide⟩]
        rw [this]; omega
      · have : kv (addv a c up) = -(2097153 * 9223372036854775808 + 1) := by
          unfold addv
          rw [if_neg (fun hh => z ⟨hh.1, by have := hh.2.2; rw [hn] at this; simpa using this⟩)]
          by_cases a2 : a.1 = 2
          · rw [if_pos (.inl a2)]
            exact kv_ninf a2 (by cases ha2 : a.2.1 <;> simp_all)
          · rw [if_neg (by omega), if_pos (.inl c2)]
            exact kv_ninf c2 hn
        omega
  · have ei : ∀ {x : Nm}, x.1 = 2 → addv x c up = x := fun hx => by
      unfold addv
      rw [if_neg (fun hh => c2 hh.2.1), if_pos (.inl hx)]
    by_cases a2 : a.1 = 2
    · cases hn : a.2.1
      · have ka := kv_pinf a2 hn
        have zb := inf_of_kv hb (by omega)
        rw [ei a2, ei zb.1]
        exact h
      · rw [ei a2, kv_ninf a2 hn]; omega
    by_cases b2 : b.1 = 2
    · cases hn : b.2.1
      · rw [ei b2, kv_pinf b2 hn]; omega
      · have kb := kv_ninf b2 hn
        have za := ninf_of_kv ha (by omega)
        exact absurd za.1 a2
    obtain ⟨f, i, j, l, hi, hj, hl⟩ : ∃ (f : Int) (i j l : Nat), f = a.2.2.2 - i ∧ f = b.2.2.2 - j ∧ f = c.2.2.2 - l := ⟨min a.2.2.2 (min b.2.2.2 c.2.2.2), (a.2.2.2 - min a.2.2.2 (min b.2.2.2 c.2.2.2)).toNat, (b.2.2.2 - min a.2.2.2 (min b.2.2.2 c.2.2.2)).toNat, (c.2.2.2 - min a.2.2.2 (min b.2.2.2 c.2.2.2)).toNat, by omega, by omega, by omega⟩
    have v := val_le ha hb a2 b2 (i := i) (j := j) (by omega) h
    rw [← addv_gen ha hc a2 c2 up hi hl, ← addv_gen hb hc b2 c2 up hj hl]
    exact rnz_mono (by omega) f up
theorem rnz_updown (s e : Int) : kv (rnz s e false) ≤ kv (rnz s e true) := by
  have pos : ∀ s : Int, 0 < s → kv (rnz s e false) ≤ kv (rnz s e true) := fun s hs => by
    rw [rnz_pos hs, rnz_pos hs]
    obtain ⟨q, E, c, h⟩ := fit_ex e hs
    rw [rnd_fit h, rnd_fit h]
    obtain ⟨q0, q1, -⟩ := h
    have e1 : mg (grw false q E c false) = mg (bnd false q E false) := by unfold grw; rw [if_neg (by simp)]
    have e2 : mg (bnd false q E true) ≤ mg (grw false q E c true) := by
      have := grw_mono false false true (c := false) (c' := c) q0 q1 q0 q1 (E := E) (E' := E) (.inr ⟨rfl, .inr ⟨rfl, fun h => absurd h (by decide)⟩⟩)
      have e3 : grw false q E false true = bnd false q E true := by unfold grw; rw [if_neg (by simp)]
      rw [e3] at this
      exact this
    rw [e1]
    refine Int.le_trans ?_ e2
    rw [mg_bnd false q0 q1, mg_bnd false q0 q1]
    simp only [Bool.false_eq_true, if_false, if_true]
    (repeat' split) <;> omega
  by_cases h : 0 < s
  · exact pos s h
  · by_cases z : s = 0
    · subst z; exact Int.le_refl _
    · have := pos (-s) (by omega)
      have a := rnz_opp s e true
      have b := rnz_opp s e false
      rw [Bool.not_true] at a
      rw [Bool.not_false] at b
      omega
theorem addv_updown {a b : Nm} (ha : mayP a) (hb : mayP b) : kv (addv a b false) ≤ kv (addv a b true) := by
  unfold addv
  split
  · decide
  split
  · exact Int.le_refl _
  split
  · exact Int.le_refl _
  exact rnz_updown _ _
/-! Cmp and Sign -/
theorem sgn_kv {n : Nm} (h : mayP n) : num_Sign.f n.1 n.2.1 n.2.2.1 n.2.2.2 = some (sgn (kv n)) := by
  unfold num_Sign.f
  rw [nfair_eq _ _ _ _ (may_lt h), tup, fairv_of h, Option.bind_some]
  have hm : n.1 = 0 ∧ mg n = 0 ∨ n.1 ≠ 0 ∧ 0 < mg n := by
    rcases h with ⟨h1, _⟩ | ⟨h1, h2⟩ | ⟨h1, h2⟩
    · exact .inl ⟨h1, mg_zero h1⟩
    · have := mg_fin (n := n) (.inr (.inl ⟨h1, h2⟩)) h1; exact .inr ⟨by omega, by omega⟩
    · have := mg_inf h1; exact .inr ⟨by omega, by omega⟩
  unfold kv
  rcases hm with ⟨h1, h2⟩ | ⟨h1, h2⟩
  · rw [if_pos h1, h2]; cases n.2.1 <;> rfl
  · rw [if_neg h1]
    cases n.2.1
    · rw [if_neg (by decide), sgn_pos (by unfold sg; simpa using h2)]
    · rw [if_pos rfl, sgn_neg (by unfold sg; simp; omega)]
theorem far_eq {a b : Nm} (ha : mayP a) (hb : mayP b) : num_farther.f a.1 a.2.1 a.2.2.1 a.2.2.2 b.1 b.2.1 b.2.2.1 b.2.2.2 = some (decide (mg b < mg a)) := by
  unfold num_farther.f
  have ka : (a.1 = 0 ∧ mg a = 0 ∧ a.2.2.1 = 0 ∧ a.2.2.2 = 0) ∨ (a.1 = 1 ∧ mg a = (a.2.2.2 + 1048576) * 9223372036854775808 + (a.2.2.1 - 9223372036854775808) + 1 ∧ 9223372036854775808 ≤ a.2.2.1 ∧ a.2.2.1 < 18446744073709551616 ∧ 1 ≤ mg a ∧ mg a ≤ 2097153 * 9223372036854775808) ∨ (a.1 = 2 ∧ mg a = 2097153 * 9223372036854775808 + 1 ∧ a.2.2.1 = 0 ∧ a.2.2.2 = 0) := by
    rcases ha with ⟨h1, h2, h3, h4⟩ | ⟨h1, h2⟩ | ⟨h1, h3, h4⟩
    · exact .inl ⟨h1, mg_zero h1, h3, h4⟩
    · have := mg_fin (n := a) (.inr (.inl ⟨h1, h2⟩)) h1; exact .inr (.inl ⟨h1, this.1, h2.1, h2.2.1, this.2⟩)
    · exact .inr (.inr ⟨h1, mg_inf h1, h3, h4⟩)
  have kb : (b.1 = 0 ∧ mg b = 0 ∧ b.2.2.1 = 0 ∧ b.2.2.2 = 0) ∨ (b.1 = 1 ∧ mg b = (b.2.2.2 + 1048576) * 9223372036854775808 + (b.2.2.1 - 9223372036854775808) + 1 ∧ 9223372036854775808 ≤ b.2.2.1 ∧ b.2.2.1 < 18446744073709551616 ∧ 1 ≤ mg b ∧ mg b ≤ 2097153 * 9223372036854775808) ∨ (b.1 = 2 ∧ mg b = 2097153 * 9223372036854775808 + 1 ∧ b.2.2.1 = 0 ∧ b.2.2.2 = 0) := by
    rcases hb with ⟨h1, h2, h3, h4⟩ | ⟨h1, h2⟩ | ⟨h1, h3, h4⟩
    · exact .inl ⟨h1, mg_zero h1, h3, h4⟩
    · have := mg_fin (n := b) (.inr (.inl ⟨h1, h2⟩)) h1; exact .inr (.inl ⟨h1, this.1, h2.1, h2.2.1, this.2⟩)
    · exact .inr (.inr ⟨h1, mg_inf h1, h3, h4⟩)
  by_cases h1 : a.1 = b.1
  · rw [if_pos h1]
    by_cases h2 : a.2.2.2 = b.2.2.2
    · rw [if_pos h2]; congr 1; rw [decide_eq_decide]; omega
    · rw [if_neg h2]; congr 1; rw [decide_eq_decide]; omega
  · rw [if_neg h1]; congr 1; rw [decide_eq_decide]; omega
theorem cmp_g {a b : Nm} (ha : mayP a) (hb : mayP b) : num_Cmp.f a.1 a.2.1 a.2.2.1 a.2.2.2 b.1 b.2.1 b.2.2.1 b.2.2.2 = some (sgn (kv a - kv b)) := by
  unfold num_Cmp.f
  rw [nfair_eq _ _ _ _ (may_lt ha), tup, fairv_of ha, Option.bind_some, nfair_eq _ _ _ _ (may_lt hb), tup, fairv_of hb, Option.bind_some, sgn_kv ha, Option.bind_some, sgn_kv hb, Option.bind_some, far_eq ha hb, Option.bind_some, far_eq hb ha, Option.bind_some]
  have xa := mg_bd ha
  have xb := mg_bd hb
  have sgc : ∀ x : Int, (x < 0 ∧ sgn x = -1) ∨ (x = 0 ∧ sgn x = 0) ∨ (0 < x ∧ sgn x = 1) := fun x => by
    unfold sgn
    by_cases h : x < 0
    · exact .inl ⟨h, if_pos h⟩
    · by_cases h2 : 0 < x
      · exact .inr (.inr ⟨h2, by rw [if_neg h, if_pos h2]⟩)
      · exact .inr (.inl ⟨by omega, by rw [if_neg h, if_neg h2]⟩)
  have ca := sgc (kv a)
  have cb := sgc (kv b)
  have cc := sgc (kv a - kv b)
  have ka : kv a = mg a ∨ kv a = -mg a := by unfold kv sg; split <;> omega
  have kb : kv b = mg b ∨ kv b = -mg b := by unfold kv sg; split <;> omega
  by_cases h1 : sgn (kv a) < sgn (kv b)
  · rw [if_pos h1]; congr 1; omega
  rw [if_neg h1]
  by_cases h2 : sgn (kv a) > sgn (kv b)
  · rw [if_pos h2]; congr 1; omega
  rw [if_neg h2]
  by_cases h3 : mg b < mg a
  · rw [decide_eq_true h3, if_pos rfl]; congr 1; omega
  rw [decide_eq_false h3, if_neg (by decide)]
  by_cases h4 : mg a < mg b
  · rw [decide_eq_true h4, if_pos rfl, w64 (by omega) (by omega)]; congr 1; omega
  · rw [decide_eq_false h4, if_neg (by decide)]; congr 1; omega
theorem cmp_ss {x y : S24} (hx : ok24 x) (hy : ok24 y) : num_Cmp.f x.f0 x.f1 x.f2 x.f3 y.f0 y.f1 y.f2 y.f3 = some (sgn (kv (nm x) - kv (nm y))) := by
  rw [← cmp_g (nm_may x) (nm_may y)]
  unfold num_Cmp.f
  rw [nfair_eq _ _ _ _ (m_lt hx.2.2.1), nfair_eq _ _ _ _ (m_lt hy.2.2.1), nfair_eq _ _ _ _ (may_lt (nm_may x)), nfair_eq _ _ _ _ (may_lt (nm_may y)), tup, tup, fairv_of (nm_may x), fairv_of (nm_may y)]
  rfl
theorem sgn_s {x : S24} (hx : ok24 x) : num_Sign.f x.f0 x.f1 x.f2 x.f3 = some (sgn (kv (nm x))) := by
  rw [← sgn_kv (nm_may x)]
  unfold num_Sign.f
  rw [nfair_eq _ _ _ _ (m_lt hx.2.2.1), nfair_eq _ _ _ _ (may_lt (nm_may x)), tup, fairv_of (nm_may x)]
  rfl
end Go.Proofs.Ythlhogcnfaiphaa.T
