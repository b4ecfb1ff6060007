/- What the functions of package nat answer (fifth part: the long quotient, and the root). -/
import Derived.Test.YtbejmpocgnldnaaPZx1
import Derived.Test.YtbejmpocgnldnaaT5
namespace Go.Proofs.Ytbejmpocgnldnaa.T
set_option linter.unusedVariables false
set_option linter.unusedSimpArgs false
open Go.RowKit Go.Proofs.YtbejmpocgnldnaaW.PrintWords Go.Proofs.YtbejmpocgnldnaaW.PrintMore Go.Proofs.Ytbejmpocgnldnaa.PZ

theorem val_zero_of {l : List Int} (h : ∀ q, l.getD q 0 = 0) : val l = 0 := by
  induction l with
  | nil => rfl
  | cons x l ih =>
    have h0 : x = 0 := h 0
    rw [val_cons, ih (fun q => h (q + 1)), h0]
    rfl
theorem zeros_above {l : List Int} (hu : U l) {j : Nat} (h : val l < pw j) (q : Nat) (hq : j ≤ q) : l.getD q 0 = 0 := by
  by_cases hl : q < l.length
  · have e := val_split l q (by omega)
    rw [val_drop hl] at e
    have h1 := val_nonneg (U_take hu q)
    have h2 := val_nonneg (U_drop hu (q + 1))
    have h3 := U_getD hu q
    have hm := pw_mono hq
    have hp := pw_pos q
    by_cases hz : l.getD q 0 = 0
    · exact hz
    · have := Int.mul_le_mul_of_nonneg_left (show 1 ≤ l.getD q 0 + 4294967296 * val (l.drop (q + 1)) by omega) (show 0 ≤ pw q by omega)
      omega
  · exact getD_out l q (by omega)
theorem lt_of_zeros {l : List Int} (hu : U l) {j : Nat} (h : ∀ q, j ≤ q → l.getD q 0 = 0) : val l < pw j := by
  by_cases hl : j ≤ l.length
  · have e := val_split l j hl
    have hz : val (l.drop j) = 0 := val_zero_of (fun q => by rw [getD_drop]; exact h _ (by omega))
    have h1 := val_lt (U_take hu j)
    rw [List.length_take, Nat.min_eq_left hl] at h1
    rw [hz, Int.mul_zero] at e
    omega
  · have h1 := val_lt hu
    have h2 := pw_mono (show l.length ≤ j by omega)
    omega
theorem gss_good {R D P Q V X : Int} (hP : 0 < P) (hQ : 0 < Q) (hD : 0 < D) (hR0 : 0 ≤ R) (hR : R < P * D * 4294967296) (hV : V = D / Q) (hVB : 4294967296 ≤ V) (hX : X = R / (P * Q)) :
    0 ≤ gss X V ∧ gss X V ≤ 4294967295 ∧ ((0 ≤ R - P * (gss X V * D) ∧ R - P * (gss X V * D) < P * D) ∨ (R - P * (gss X V * D) < 0 ∧ 1 ≤ gss X V ∧ 0 ≤ R - P * ((gss X V - 1) * D) ∧ R - P * ((gss X V - 1) * D) < P * D)) := by
  have hPD := Int.mul_pos hP hD
  have hPQ := Int.mul_pos hP hQ
  have hX0 : 0 ≤ X := by rw [hX]; exact Int.ediv_nonneg hR0 (by omega)
  have hXV := Int.ediv_nonneg hX0 (show 0 ≤ V by omega)
  obtain ⟨s, hs⟩ : ∃ s, s = R / (P * D) := ⟨_, rfl⟩
  have hs0 : 0 ≤ s := by rw [hs]; exact Int.ediv_nonneg hR0 (by omega)
  have hsB : s ≤ 4294967295 := by
    have : s < 4294967296 := by rw [hs, Int.ediv_lt_iff_lt_mul hPD]; rw [Int.mul_comm]; exact hR
    omega
  have hdm := Int.mul_ediv_add_emod R (P * D)
  have hm0 := Int.emod_nonneg R (show P * D ≠ 0 by omega)
  have hm1 := Int.emod_lt_of_pos R hPD
  rw [← hs] at hdm
  have hVQ : V * Q ≤ D := by
    have := Int.mul_ediv_add_emod D Q
    have h1 := Int.emod_nonneg D (show Q ≠ 0 by omega)
    rw [← hV] at this
    rw [Int.mul_comm]
    omega
  have hVQ2 : D < (V + 1) * Q := by
    have := Int.mul_ediv_add_emod D Q
    have h1 := Int.emod_lt_of_pos D hQ
    rw [← hV] at this
    rw [Int.add_mul, Int.mul_comm V]
    omega
  obtain ⟨t, ht⟩ : ∃ t, t = gss X V := ⟨_, rfl⟩
  rw [← ht]
  have ht0 : 0 ≤ t ∧ t ≤ 4294967295 ∧ t ≤ X / V := by
    rw [ht]; unfold gss; split <;> omega
  have hlow : s ≤ t := by
    have h1 : s ≤ X / V := by
      rw [Int.le_ediv_iff_mul_le (by omega), hX, Int.le_ediv_iff_mul_le hPQ]
      have h2 := Int.mul_le_mul_of_nonneg_left hVQ (show 0 ≤ s * P from Int.mul_nonneg hs0 (by omega))
      have e1 : s * V * (P * Q) = s * P * (V * Q) := by grind
      have e2 : s * P * D = P * D * s := by grind
      rw [e1]
      omega
    rw [ht]; unfold gss; split <;> omega
  have hup : t ≤ s + 1 := by
    by_cases hc : t ≤ s + 1
    · exact hc
    · have h1 : t * V ≤ X := (Int.le_ediv_iff_mul_le (by omega)).1 ht0.2.2
      rw [hX, Int.le_ediv_iff_mul_le hPQ] at h1
      have h2 : R < P * D * (s + 1) := by rw [Int.mul_add, Int.mul_one]; omega
      have h3 := Int.mul_le_mul_of_nonneg_left (show s + 1 ≤ t - 1 by omega) (show 0 ≤ P * D by omega)
      have h4 := Int.mul_le_mul_of_nonneg_left (show D ≤ (V + 1) * Q by omega) (show 0 ≤ P * (t - 1) from Int.mul_nonneg (by omega) (by omega))
      have e1 : P * (t - 1) * D = P * D * (t - 1) := by grind
      have e2 : P * (t - 1) * ((V + 1) * Q) = (V + 1) * (t - 1) * (P * Q) := by grind
      have h5 : t * V * (P * Q) < (V + 1) * (t - 1) * (P * Q) := by omega
      have h6 := Int.lt_of_mul_lt_mul_right h5 (by omega)
      have e3 : (V + 1) * (t - 1) = t * V + t - V - 1 := by grind
      omega
  refine ⟨ht0.1, ht0.2.1, ?_⟩
  have es : P * (s * D) = P * D * s := by grind
  rcases (show t = s ∨ t = s + 1 by omega) with rfl | rfl
  · exact .inl ⟨by omega, by omega⟩
  · right
    have e1 : P * ((s + 1) * D) = P * D * s + P * D := by grind
    have e2 : P * ((s + 1 - 1) * D) = P * D * s := by grind
    exact ⟨by omega, by omega, by omega, by omega⟩
theorem w64_sub2 {i : Nat} (h : 2 ≤ i) (h2 : i < 9223372036854775808) : wrap64 ((i : Int) - 2) = ((i - 2 : Nat) : Int) := by rw [w64 (by omega) (by omega)]; omega
/-- One limb of the quotient: what is left, less so many times the divisor, one less where it was too much. -/
theorem div_step (r d : List Int) (hr : U r) (hd : U d) (at_ : Nat) (hn : 2 ≤ d.length) (hlast : 2147483648 ≤ d.getD (d.length - 1) 0) (hlen : at_ + d.length < r.length) (hb : r.length ≤ 1073741824) (hlt : val r < val d * pw (at_ + 1)) :
    ∃ t b o o' , (∃ K, ∀ k, K ≤ k → nat_guess.f k (r.getD (at_ + d.length) 0) (r.getD (at_ + d.length - 1) 0) (r.getD (at_ + d.length - 2) 0) (d.getD (d.length - 1) 0) (d.getD (d.length - 2) 0) = some t) ∧
      (∃ K, ∀ k, K ≤ k → nat_less.f k r d t (at_ : Int) = some (b, o)) ∧ (b = true → ∃ K, ∀ k, K ≤ k → nat_more.f k o d (at_ : Int) = some o') ∧
      (b = false → o' = o) ∧ U o' ∧ o'.length = r.length ∧ val o' < val d * pw at_ ∧
      (if b = true then 1 ≤ t else 0 ≤ t) ∧ t < 4294967296 ∧ val o' = val r - pw at_ * ((if b = true then t - 1 else t) * val d) := by
  have r0 := val_nonneg hr
  have d0 := val_nonneg hd
  have hpa := pw_pos at_
  have hpq := pw_pos (d.length - 2)
  have hdl := val_lt hd
  have hdpos : 0 < val d := by
    by_cases h0 : val d = 0
    · rw [h0, Int.zero_mul] at hlt; omega
    · omega
  have hltR : val r < pw at_ * val d * 4294967296 := by
    rw [pw_succ] at hlt
    have e : val d * (4294967296 * pw at_) = pw at_ * val d * 4294967296 := by grind
    omega
  have htop : val r < pw (at_ + d.length + 1) := by
    have h1 := Int.mul_le_mul_of_nonneg_right (show val d ≤ pw d.length by omega) (show 0 ≤ pw (at_ + 1) by have := pw_pos (at_ + 1); omega)
    rw [← pw_add, show d.length + (at_ + 1) = at_ + d.length + 1 by omega] at h1
    omega
  have hz := zeros_above hr htop
  have hzd : val (r.drop (at_ + d.length + 1)) = 0 := val_zero_of (fun q => by rw [getD_drop]; exact hz _ (by omega))
  -- the three highest limbs
  have hX : (r.getD (at_ + d.length) 0 * 4294967296 + r.getD (at_ + d.length - 1) 0) * 4294967296 + r.getD (at_ + d.length - 2) 0 = val r / (pw at_ * pw (d.length - 2)) := by
    have h1 := val_div hr (i := at_ + d.length - 2) (by omega)
    rw [val_drop' r (at_ + d.length - 2), show at_ + d.length - 2 + 1 = at_ + d.length - 1 by omega, val_drop' r (at_ + d.length - 1), show at_ + d.length - 1 + 1 = at_ + d.length by omega, val_drop' r (at_ + d.length), hzd] at h1
    rw [← pw_add, show at_ + (d.length - 2) = at_ + d.length - 2 by omega, h1]
    omega
  have hV : d.getD (d.length - 1) 0 * 4294967296 + d.getD (d.length - 2) 0 = val d / pw (d.length - 2) := by
    have h1 := val_div hd (i := d.length - 2) (by omega)
    rw [val_drop' d (d.length - 2), show d.length - 2 + 1 = d.length - 1 by omega, val_drop' d (d.length - 1), show d.length - 1 + 1 = d.length by omega, List.drop_length, val_nil] at h1
    rw [h1]
    omega
  have u2 := U_getD hr (at_ + d.length)
  have u1 := U_getD hr (at_ + d.length - 1)
  have u0 := U_getD hr (at_ + d.length - 2)
  have v1 := U_getD hd (d.length - 1)
  have v0 := U_getD hd (d.length - 2)
  have h2 : r.getD (at_ + d.length) 0 ≤ d.getD (d.length - 1) 0 := by
    have h1 := val_div hr (i := at_ + d.length) (by omega)
    rw [val_drop' r (at_ + d.length), hzd] at h1
    have h3 := val_div hd (i := d.length - 1) (by omega)
    rw [val_drop' d (d.length - 1), show d.length - 1 + 1 = d.length by omega, List.drop_length, val_nil] at h3
    have hp := pw_pos (d.length - 1)
    have h4 := Int.emod_lt_of_pos (val d) hp
    have h5 := Int.mul_ediv_add_emod (val d) (pw (d.length - 1))
    have h6 : val r / pw (at_ + d.length) < d.getD (d.length - 1) 0 + 1 := by
      rw [Int.ediv_lt_iff_lt_mul (pw_pos _)]
      have e : pw (at_ + d.length) = pw (at_ + 1) * pw (d.length - 1) := by rw [← pw_add]; congr 1; omega
      have h7 := Int.mul_le_mul_of_nonneg_left (show val d ≤ pw (d.length - 1) * (d.getD (d.length - 1) 0 + 1) by rw [Int.mul_add, Int.mul_one]; rw [h3, Int.mul_zero, Int.add_zero] at h5; omega) (show 0 ≤ pw (at_ + 1) by have := pw_pos (at_ + 1); omega)
      rw [e]
      have e2 : pw (at_ + 1) * val d = val d * pw (at_ + 1) := Int.mul_comm _ _
      have e3 : (d.getD (d.length - 1) 0 + 1) * (pw (at_ + 1) * pw (d.length - 1)) = pw (at_ + 1) * (pw (d.length - 1) * (d.getD (d.length - 1) 0 + 1)) := by grind
      omega
    omega
  obtain ⟨hg0, hg1, hg⟩ := gss_good hpa hpq hdpos r0 hltR hV (show 4294967296 ≤ d.getD (d.length - 1) 0 * 4294967296 + d.getD (d.length - 2) 0 by omega) hX
  obtain ⟨t, ht⟩ : ∃ t, t = gss ((r.getD (at_ + d.length) 0 * 4294967296 + r.getD (at_ + d.length - 1) 0) * 4294967296 + r.getD (at_ + d.length - 2) 0) (d.getD (d.length - 1) 0 * 4294967296 + d.getD (d.length - 2) 0) := ⟨_, rfl⟩
  have hguess := guess_ev _ _ _ _ _ u2.1 u1 u0 ⟨hlast, v1.2⟩ v0 h2
  rw [← ht] at hguess hg0 hg1 hg
  clear ht hX hV h2
  obtain ⟨o, b', ho, hol, hb', hoz, hov, hless⟩ := less_ev r d t at_ hr hd (by omega) (by omega) hlen
  have ho0 := val_nonneg ho
  have hoB : val o < pw (at_ + d.length + 1) := lt_of_zeros ho (fun q hq => by rw [hoz q (by omega)]; exact hz q hq)
  have hcomm : val d * pw at_ = pw at_ * val d := Int.mul_comm _ _
  have hPDle : pw at_ * val d < pw (at_ + d.length + 1) := by
    have h1 := Int.mul_lt_mul_of_pos_left hdl hpa
    rw [← pw_add] at h1
    have h3 := pw_mono (show at_ + d.length ≤ at_ + d.length + 1 by omega)
    omega
  rcases (show b' = 0 ∨ b' = 1 by omega) with rfl | rfl
  · -- it wasn't too much
    rw [Int.mul_zero, Int.add_zero] at hov
    refine ⟨t, false, o, o, hguess, hless, fun h => by simp at h, fun _ => rfl, ho, hol, ?_, by simp; exact hg0, by omega, by simpa using hov⟩
    rcases hg with hg | hg <;> omega
  · rw [Int.mul_one] at hov
    obtain ⟨o', b2, ho', hol', hb2, hoz', hov', hmore⟩ := more_ev o d at_ ho hd (by omega) (by omega)
    have ho0' := val_nonneg ho'
    have hoB' : val o' < pw (at_ + d.length + 1) := lt_of_zeros ho' (fun q hq => by rw [hoz' q (by omega), hoz q (by omega)]; exact hz q hq)
    have et : pw at_ * ((t - 1) * val d) = pw at_ * (t * val d) - pw at_ * val d := by grind
    have hneg : val r - pw at_ * (t * val d) < 0 := by omega
    rcases hg with hg | ⟨hg1, hg2, hg3, hg4⟩
    · omega
    · have hb21 : b2 = 1 := by
        rcases (show b2 = 0 ∨ b2 = 1 by omega) with rfl | rfl
        · rw [Int.mul_zero] at hov'
          omega
        · rfl
      subst hb21
      rw [Int.mul_one] at hov'
      refine ⟨t, true, o, o', hguess, hless, fun _ => hmore, fun h => by simp at h, ho', by omega, by omega, by simpa using hg2, by omega, by simp; omega⟩
theorem div_l0 (d : List Int) (hd : U d) (hn : 2 ≤ d.length) (hlast : 2147483648 ≤ d.getD (d.length - 1) 0) (s : Int) (m : Nat) :
    ∀ (i : Nat) (r q : List Int), i ≤ q.length → q.length - i = m → U r → U q → q.length + d.length = r.length → r.length ≤ 1073741824 → (∀ j, j < m → q.getD j 0 = 0) → val r < val d * pw m →
      ∃ K, ∀ k, K ≤ k → nat_Div.l0 k s d r q (q.length : Int) (i : Int) = some (lim ((val r + val d * val q) / val d), lim (shrv ((val r + val d * val q) % val d) s), true) := by
  induction m with
  | zero =>
    intro i r q hi hm hr hq hlen hb hz hlt
    have r0 := val_nonneg hr
    rw [pw_zero, Int.mul_one] at hlt
    obtain ⟨K1, hK1⟩ := cuto_ev q hq (by omega)
    obtain ⟨K2, hK2⟩ := shr_ev r s hr (by omega)
    rw [Int.add_mul_ediv_left _ _ (by omega), Int.ediv_eq_zero_of_lt r0 hlt, Int.zero_add, Int.add_mul_emod_self_left, Int.emod_eq_of_lt r0 hlt]
    refine ⟨K1 + K2 + 1, fun k hk => ?_⟩
    obtain ⟨k, rfl⟩ : ∃ m, k = m + 1 := ⟨k - 1, by omega⟩
    simp only [nat_Div.l0]
    rw [if_neg (by omega), hK1 k (by omega), Option.bind_some, hK2 k (by omega), Option.bind_some]
  | succ m ih =>
    intro i r q hi hm hr hq hlen hb hz hlt
    obtain ⟨t, b, o, o', ⟨K1, h1⟩, ⟨K2, h2⟩, h3, h4, ho', hol', hlt', ht0, ht1, hv⟩ := div_step r d hr hd m hn hlast (by omega) (by omega) hlt
    have hx : 0 ≤ (if b = true then t - 1 else t) ∧ (if b = true then t - 1 else t) < 4294967296 := by
      cases b
      · simp only [Bool.false_eq_true, if_false] at ht0 ⊢; omega
      · simp only [if_true] at ht0 ⊢; omega
    obtain ⟨x, hxe⟩ : ∃ x, x = (if b = true then t - 1 else t) := ⟨_, rfl⟩
    rw [← hxe] at hx hv
    have hqm : q.getD m 0 = 0 := hz m (by omega)
    have hvq : val (q.set m x) = val q + pw m * x := by rw [val_set (by omega), hqm, Int.sub_zero]
    obtain ⟨K3, h5⟩ := ih (i + 1) o' (q.set m x) (by rw [List.length_set]; omega) (by rw [List.length_set]; omega) ho' (U_set hq _ hx.1 hx.2) (by rw [List.length_set]; omega) (by omega)
      (fun j hj => by rw [getD_set_ne (by omega)]; exact hz j (by omega)) hlt'
    have hN : val o' + val d * val (q.set m x) = val r + val d * val q := by
      rw [hvq, hv]
      grind
    rw [hN, List.length_set] at h5
    have hK4 : ∃ K, ∀ k, K ≤ k → b = true → nat_more.f k o d (m : Int) = some o' := by
      cases b
      · exact ⟨0, fun k _ h => by simp at h⟩
      · obtain ⟨K, hK⟩ := h3 rfl
        exact ⟨K, fun k hk _ => hK k hk⟩
    obtain ⟨K4, h6⟩ := hK4
    refine ⟨K1 + K2 + K3 + K4 + 1, fun k hk => ?_⟩
    obtain ⟨k, rfl⟩ : ∃ m, k = m + 1 := ⟨k - 1, by omega⟩
    have e5 := h5 k (by omega)
    have e6 := h6 k (by omega)
    simp only [nat_Div.l0, w64_pred (show 0 < q.length by omega) (show q.length < 9223372036854775808 by omega), w64_sub (show i ≤ q.length - 1 by omega) (show q.length - 1 < 9223372036854775808 by omega), show q.length - 1 - i = m by omega, w64_add (show m + d.length < 9223372036854775808 by omega), w64_pred (show 0 < m + d.length by omega) (show m + d.length < 9223372036854775808 by omega), w64_sub2 (show 2 ≤ m + d.length by omega) (show m + d.length < 9223372036854775808 by omega), w64_pred (show 0 < d.length by omega) (show d.length < 9223372036854775808 by omega), w64_sub2 hn (show d.length < 9223372036854775808 by omega), w64_succ (show i < 4611686018427387904 by omega), Int.toNat_natCast, rd_eq]
    rw [if_pos (by omega), if_pos (by omega), if_pos (by omega), if_pos (by omega), if_pos (by omega), if_pos (by omega), if_pos (by omega), if_pos (by omega), if_pos (by omega), if_pos (by omega), if_pos (by omega), h1 k (by omega), Option.bind_some, h2 k (by omega), Option.bind_some]
    cases b
    · simp only [Bool.false_eq_true, if_false] at hxe ⊢
      rw [if_pos (by omega), if_pos (by omega), ← hxe, ← h4 rfl]
      exact e5
    · simp only [if_true] at hxe ⊢
      rw [e6 rfl, Option.bind_some, if_pos (by omega), if_pos (by omega), ← hxe, Int.emod_eq_of_lt hx.1 hx.2]
      exact e5
/-- The value of a list of which nothing is cut off but noughts. -/
theorem val_take_of_lt {l : List Int} (hu : U l) {j : Nat} (h : val l < pw j) : val (l.take j) = val l := by
  by_cases hl : j ≤ l.length
  · have e := val_split l j hl
    have h0 := val_nonneg (U_take hu j)
    have h1 := val_nonneg (U_drop hu j)
    have hp := pw_pos j
    by_cases hz : val (l.drop j) = 0
    · rw [hz, Int.mul_zero] at e; omega
    · have := Int.mul_le_mul_of_nonneg_left (show 1 ≤ val (l.drop j) by omega) (show 0 ≤ pw j by omega)
      omega
  · rw [take_out l j (by omega)]
theorem div_ev (a b : List Int) (ha : U a) (hb : U b) (hla : a.length ≤ 536870000) (hlb : b.length ≤ 536870000) :
    ∃ K, ∀ k, K ≤ k → nat_Div.f k a b = some (if val b = 0 then ([], [], false) else (lim (val a / val b), lim (val a % val b), true)) := by
  have na := val_nonneg ha
  have nb := val_nonneg hb
  have la := lim_len na a.length (val_lt ha)
  have lb := lim_len nb b.length (val_lt hb)
  obtain ⟨K1, h1⟩ := cut_ev a ha (by omega)
  obtain ⟨K2, h2⟩ := cut_ev b hb (by omega)
  by_cases c0 : val b = 0
  · refine ⟨K1 + K2, fun k hk => ?_⟩
    unfold nat_Div.f
    rw [h1 k (by omega), Option.bind_some, h2 k (by omega), Option.bind_some, if_pos (by rw [c0, lim_zero]; rfl), if_pos c0]
  · have hbl : 0 < (lim (val b)).length := by
      by_cases hq : (lim (val b)).length = 0
      · exact absurd ((lim_nil_iff nb).1 hq) c0
      · omega
    obtain ⟨K3, h3⟩ := cmp_ev (lim (val a)) (lim (val b)) (U_lim na) (U_lim nb) (by omega) (by omega)
    rw [val_lim na, val_lim nb] at h3
    by_cases c1 : val a < val b
    · refine ⟨K1 + K2 + K3, fun k hk => ?_⟩
      unfold nat_Div.f
      rw [h1 k (by omega), Option.bind_some, h2 k (by omega), Option.bind_some, if_neg (by omega), h3 k (by omega), Option.bind_some, sgn_neg (by omega), if_pos (by omega), clone_eq _ (by omega), Option.bind_some, if_neg c0, Int.ediv_eq_zero_of_lt na c1, Int.emod_eq_of_lt na c1, lim_zero]
    · have hs : ¬ sgn (val a - val b) < 0 := by unfold sgn; split <;> (try split) <;> omega
      by_cases c2 : (lim (val b)).length = 1
      · have hv : val b = (lim (val b)).getD 0 0 := by
          have e := val_lim nb
          rw [val_full (n := 0) c2, List.take_zero, val_nil, pw_zero] at e
          omega
        have hu := U_getD (U_lim nb) 0
        obtain ⟨K4, h4⟩ := short_ev (lim (val a)) ((lim (val b)).getD 0 0) (U_lim na) (by omega) hu.2 (by omega)
        rw [val_lim na, ← hv] at h4
        refine ⟨K1 + K2 + K3 + K4, fun k hk => ?_⟩
        unfold nat_Div.f
        rw [h1 k (by omega), Option.bind_some, h2 k (by omega), Option.bind_some, if_neg (by omega), h3 k (by omega), Option.bind_some, if_neg hs, if_pos (by omega), if_pos (by omega), rd_eq, Int.toNat_zero, ← hv, h4 k (by omega), Option.bind_some, if_neg c0]
      · -- the long one
        have hbpos : 0 < val b := by omega
        obtain ⟨n, hn⟩ : ∃ n, (lim (val b)).length = n + 1 := ⟨(lim (val b)).length - 1, by omega⟩
        have htop := val_top hbpos
        have hlst := lim_last hbpos
        have hu := U_getD (U_lim nb) n
        rw [hn, Nat.add_sub_cancel] at htop hlst
        obtain ⟨x, hx⟩ : ∃ x, x = (lim (val b)).getD n 0 := ⟨_, rfl⟩
        rw [← hx] at htop hlst hu
        have hbl1 := bl_ge (n := x) (by omega)
        have hbl2 := bl_lt (n := x) (by omega)
        have hbl3 := bl_le (n := x) (m := 32) hu.2
        have hbl4 := bl_pos (n := x) (by omega)
        obtain ⟨s, hsd⟩ : ∃ s : Nat, 32 - bl x = (s : Int) := ⟨(32 - bl x).toNat, by omega⟩
        have hs32 : s ≤ 31 := by omega
        have hps := p2_pos s
        have hpn := pw_pos n
        -- the divisor, moved up
        have hlow : pw n * 2147483648 ≤ val b * 2 ^ s := by
          have e1 : (2147483648 : Int) = 2 ^ (bl x - 1).toNat * 2 ^ s := by rw [← p2_add, show (bl x - 1).toNat + s = 31 by omega]; rfl
          have h5 := Int.mul_ediv_add_emod (val b) (pw n)
          have h6 := Int.emod_nonneg (val b) (show pw n ≠ 0 by omega)
          rw [htop] at h5
          have h7 := Int.mul_le_mul_of_nonneg_left hbl1 (show 0 ≤ pw n by omega)
          have h8 := Int.mul_le_mul_of_nonneg_right (show pw n * 2 ^ (bl x - 1).toNat ≤ val b by omega) (show (0 : Int) ≤ 2 ^ s by omega)
          rw [e1, ← Int.mul_assoc]
          exact h8
        have hhigh : val b * 2 ^ s < pw (n + 1) := by
          have e1 : (4294967296 : Int) = 2 ^ (bl x).toNat * 2 ^ s := by rw [← p2_add, show (bl x).toNat + s = 32 by omega]; rfl
          have h5 := Int.mul_ediv_add_emod (val b) (pw n)
          have h6 := Int.emod_lt_of_pos (val b) hpn
          rw [htop] at h5
          have h7 := Int.mul_le_mul_of_nonneg_left (show x + 1 ≤ 2 ^ (bl x).toNat by omega) (show 0 ≤ pw n by omega)
          rw [Int.mul_add, Int.mul_one] at h7
          have h8 := Int.mul_lt_mul_of_pos_right (show val b < pw n * 2 ^ (bl x).toNat by omega) hps
          rw [pw_succ, e1]
          have e2 : 2 ^ (bl x).toNat * 2 ^ s * pw n = pw n * 2 ^ (bl x).toNat * 2 ^ s := by grind
          rw [e2]
          exact h8
        have hd0 : 0 < val b * 2 ^ s := Int.mul_pos hbpos hps
        have hdl : (lim (val b * 2 ^ s)).length = n + 1 := by
          have l1 := lim_len (n := val b * 2 ^ s) (by omega) (n + 1) hhigh
          have l2 := lim_len_gt (n := val b * 2 ^ s) n (by omega)
          omega
        have hdtop := val_top hd0
        rw [hdl, Nat.add_sub_cancel] at hdtop
        have hdlast : 2147483648 ≤ (lim (val b * 2 ^ s)).getD n 0 := by
          rw [← hdtop, Int.le_ediv_iff_mul_le hpn, Int.mul_comm]
          exact hlow
        -- the number, moved up
        have hal : n + 1 ≤ (lim (val a)).length := by
          have := lim_len_mono nb (show val b ≤ val a by omega)
          omega
        have hN : val a * 2 ^ s < pw ((lim (val a)).length + 1) := by
          have h5 := val_lt (U_lim na)
          rw [val_lim na] at h5
          have h6 := Int.mul_lt_mul_of_pos_right h5 hps
          have h7 := Int.mul_le_mul_of_nonneg_left (show (2 : Int) ^ s ≤ 4294967296 from p2_mono (show s ≤ 32 by omega)) (show 0 ≤ pw (lim (val a)).length by have := pw_pos (lim (val a)).length; omega)
          rw [pw_succ, Int.mul_comm 4294967296]
          omega
        have hN0 : 0 ≤ val a * 2 ^ s := Int.mul_nonneg na (by omega)
        have hNl := lim_len hN0 _ hN
        have hNl2 : (lim (val a)).length ≤ (lim (val a * 2 ^ s)).length := by
          have := Int.mul_le_mul_of_nonneg_left (show (1 : Int) ≤ 2 ^ s by omega) na
          exact lim_len_mono na (by omega)
        have hu0 : U (lim (val a * 2 ^ s) ++ [0, 0]) := U_append.2 ⟨U_lim hN0, by simp [U]⟩
        have hv0 : val (lim (val a * 2 ^ s) ++ [0, 0]) = val a * 2 ^ s := by
          rw [val_append, val_lim hN0]
          simp
        have hv1 : val ((lim (val a * 2 ^ s) ++ [0, 0]).take ((lim (val a)).length + 1)) = val a * 2 ^ s := by rw [val_take_of_lt hu0 (by rw [hv0]; exact hN), hv0]
        have hlr : ((lim (val a * 2 ^ s) ++ [0, 0]).take ((lim (val a)).length + 1)).length = (lim (val a)).length + 1 := by
          rw [List.length_take, List.length_append]
          simp
          omega
        have hlt : val a * 2 ^ s < val b * 2 ^ s * pw ((lim (val a)).length - n) := by
          have h5 := val_lt (U_lim na)
          rw [val_lim na] at h5
          have h6 : pw n ≤ val b := by
            have h7 := Int.mul_ediv_add_emod (val b) (pw n)
            have h8 := Int.emod_nonneg (val b) (show pw n ≠ 0 by omega)
            rw [htop] at h7
            have h9 := Int.mul_le_mul_of_nonneg_left (show 1 ≤ x by omega) (show 0 ≤ pw n by omega)
            omega
          have hpm := pw_pos ((lim (val a)).length - n)
          have h7 := Int.mul_le_mul_of_nonneg_right h6 (show 0 ≤ pw ((lim (val a)).length - n) by omega)
          rw [← pw_add, show n + ((lim (val a)).length - n) = (lim (val a)).length by omega] at h7
          have h8 := Int.mul_lt_mul_of_pos_right (show val a < val b * pw ((lim (val a)).length - n) by omega) hps
          have e : val b * pw ((lim (val a)).length - n) * 2 ^ s = val b * 2 ^ s * pw ((lim (val a)).length - n) := by grind
          omega
        obtain ⟨K4, h4⟩ := shl_ev (lim (val b)) (s : Int) (U_lim nb) (by omega)
        obtain ⟨K5, h5⟩ := shl_ev (lim (val a)) (s : Int) (U_lim na) (by omega)
        rw [val_lim nb] at h4
        rw [val_lim na] at h5
        have hsv : ∀ v : Int, shlv v (s : Int) = v * 2 ^ s := fun v => by
          unfold shlv
          by_cases hc : (s : Int) < 1
          · rw [if_pos hc, show s = 0 by omega]; simp
          · rw [if_neg hc, if_neg (by omega), Int.toNat_natCast]
        rw [hsv] at h4 h5
        obtain ⟨K6, h6⟩ := div_l0 (lim (val b * 2 ^ s)) (U_lim (by omega)) (by omega) (by rw [hdl]; exact hdlast) (s : Int) _ 0 ((lim (val a * 2 ^ s) ++ [0, 0]).take ((lim (val a)).length + 1)) (List.replicate ((lim (val a)).length - n) 0) (by omega) rfl (U_take hu0 _) (U_replicate _) (by rw [hdl, hlr, List.length_replicate]; omega) (by rw [hlr]; omega)
          (fun j _ => by
            rw [List.getD_eq_getElem?_getD, List.getElem?_replicate]
            split <;> rfl)
          (by rw [hv1, val_lim (by omega), List.length_replicate, Nat.sub_zero]; exact hlt)
        rw [hv1, val_lim (n := val b * 2 ^ s) (by omega), val_replicate, Int.mul_zero, Int.add_zero, Int.mul_ediv_mul_of_pos_left _ _ hps, Int.mul_comm (val a), Int.mul_comm (val b), Int.mul_emod_mul_of_pos _ _ hps] at h6
        have hsr : shrv (2 ^ s * (val a % val b)) (s : Int) = val a % val b := by
          unfold shrv
          by_cases hc : (s : Int) < 1
          · rw [if_pos hc, show s = 0 by omega]; simp
          · rw [if_neg hc, Int.toNat_natCast, Int.mul_ediv_cancel_left _ (by omega)]
        rw [hsr] at h6
        refine ⟨K1 + K2 + K3 + K4 + K5 + K6, fun k hk => ?_⟩
        have e6 := h6 k (by omega)
        rw [Int.mul_comm (2 ^ s) (val a), Int.mul_comm (2 ^ s) (val b)] at e6
        unfold nat_Div.f
        rw [h1 k (by omega), Option.bind_some, h2 k (by omega), Option.bind_some, if_neg (by omega), h3 k (by omega), Option.bind_some, if_neg hs, if_neg (by omega)]
        simp only [hn, w64_pred (show 0 < n + 1 by omega) (show n + 1 < 9223372036854775808 by omega), Nat.add_sub_cancel, rd_eq, Int.toNat_natCast, ← hx]
        rw [if_pos (by omega), if_pos (by omega), lz32 (by omega) hu.2, Option.bind_some, hsd, h4 k (by omega), Option.bind_some, h5 k (by omega), Option.bind_some, Option.bind_some]
        simp only [w64_succ (show (lim (val a)).length < 4611686018427387904 by omega), w64_sub (show n + 1 ≤ (lim (val a)).length by omega) (show (lim (val a)).length < 9223372036854775808 by omega), w64_succ (show (lim (val a)).length - (n + 1) < 4611686018427387904 by omega), Int.toNat_natCast, Option.bind_some, show (lim (val a)).length - (n + 1) + 1 = (lim (val a)).length - n by omega]
        have hl2 : (lim (val a * 2 ^ s) ++ [0, 0]).length = (lim (val a * 2 ^ s)).length + 2 := by rw [List.length_append]; rfl
        rw [if_pos (by simp; omega), if_pos (by omega), if_pos (by omega), if_pos (by omega), if_pos (by omega), if_neg c0]
        exact e6
end Go.Proofs.Ytbejmpocgnldnaa.T
