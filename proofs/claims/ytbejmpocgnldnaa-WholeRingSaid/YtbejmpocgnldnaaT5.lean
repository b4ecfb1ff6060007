/- What the functions of package nat answer (fourth part: quotients). -/
import Derived.Test.YtbejmpocgnldnaaPZx1
import Derived.Test.YtbejmpocgnldnaaT4
namespace Go.Proofs.Ytbejmpocgnldnaa.T
set_option linter.unusedVariables false
set_option linter.unusedSimpArgs false
open Go.RowKit Go.Proofs.YtbejmpocgnldnaaW.PrintWords Go.Proofs.YtbejmpocgnldnaaW.PrintMore Go.Proofs.Ytbejmpocgnldnaa.PZ

theorem or_join64 {h l : Int} (h0 : 0 ≤ h) (h1 : h < 4294967296) (l0 : 0 ≤ l) (l1 : l < 4294967296) : Go.bits .or .u64 (h * 4294967296) l = h * 4294967296 + l := by
  have e64 : (2 : Int) ^ 64 = 18446744073709551616 := rfl
  have e32 : (2 : Int) ^ 32 = 4294967296 := rfl
  exact bits_join .u64 64 (by decide) wraps_u64 32 (h * 4294967296) l (by omega) (by omega) (by omega) l0 (by omega) (by omega)
theorem div32 {h l y : Int} (h0 : 0 ≤ h) (h1 : h < y) (l0 : 0 ≤ l) (l1 : l < 4294967296) (hy : y < 4294967296) : bits_Div32.f h l y = some ((h * 4294967296 + l) / y, (h * 4294967296 + l) % y) := by
  have hn : 0 ≤ h * 4294967296 + l := by omega
  have hq : (h * 4294967296 + l) / y < 4294967296 := by
    rw [Int.ediv_lt_iff_lt_mul (by omega)]
    have := Int.mul_le_mul_of_nonneg_left (show h + 1 ≤ y by omega) (show (0 : Int) ≤ 4294967296 by decide)
    omega
  have hq0 := Int.ediv_nonneg hn (show 0 ≤ y by omega)
  have hr0 := Int.emod_nonneg (h * 4294967296 + l) (show y ≠ 0 by omega)
  have hr1 := Int.emod_lt_of_pos (h * 4294967296 + l) (show 0 < y by omega)
  unfold bits_Div32.f
  rw [if_neg (by omega), if_neg (by omega), u64w (x := y) (by omega) (by omega), if_neg (by omega), u64w (x := h) (by omega) (by omega), u64w (x := l) (by omega) (by omega), u64w (x := h * 4294967296) (by omega) (by omega), or_join64 h0 (by omega) l0 l1, Int.tdiv_eq_ediv_of_nonneg hn, Int.tmod_eq_emod_of_nonneg hn, u64w hq0 (by omega), Int.emod_eq_of_lt hq0 hq, Int.emod_eq_of_lt hr0 (by omega)]
theorem step_short {A Q l x q r D : Int} (e : D * q + r = l * 4294967296 + x) (h : A = D * Q + l) : x + 4294967296 * A = D * (q + 4294967296 * Q) + r := by
  subst h
  grind
theorem short_l0 (a : List Int) (D : Int) (ha : U a) (hD0 : 0 < D) (hD1 : D < 4294967296) (hl : a.length ≤ 1073741824) (m : Nat) :
    ∀ (i : Nat) (q : List Int) (left : Int), i ≤ a.length → a.length - i = m → U q → q.length = a.length → 0 ≤ left → left < D → val (a.drop m) = D * val (q.drop m) + left →
      ∃ K, ∀ k, K ≤ k → nat_short.l0 k a D q left (a.length : Int) (i : Int) = some (lim (val a / D), lim (val a % D)) := by
  induction m with
  | zero =>
    intro i q left hi hm hq hql h0 h1 hv
    rw [List.drop_zero, List.drop_zero] at hv
    obtain ⟨K1, hK1⟩ := cuto_ev q hq (by omega)
    obtain ⟨K2, hK2⟩ := cuto_ev [left] (U_single h0 (by omega)) (by simp)
    have e1 : val a / D = val q := by rw [hv, Int.add_comm, Int.add_mul_ediv_left _ _ (by omega), Int.ediv_eq_zero_of_lt h0 h1]; omega
    have e2 : val a % D = left := by rw [hv, Int.add_comm, Int.add_mul_emod_self_left, Int.emod_eq_of_lt h0 h1]
    have e3 : val [left] = left := by simp
    rw [e3] at hK2
    refine ⟨K1 + K2 + 1, fun k hk => ?_⟩
    obtain ⟨k, rfl⟩ : ∃ m, k = m + 1 := ⟨k - 1, by omega⟩
    simp only [nat_short.l0]
    rw [if_neg (by omega), hK1 k (by omega), Option.bind_some, hK2 k (by omega), Option.bind_some, e1, e2]
  | succ m ih =>
    intro i q left hi hm hq hql h0 h1 hv
    have hai := U_getD ha m
    have hn : 0 ≤ left * 4294967296 + a.getD m 0 := by omega
    have hq1 : (left * 4294967296 + a.getD m 0) / D < 4294967296 := by
      rw [Int.ediv_lt_iff_lt_mul hD0]
      have := Int.mul_le_mul_of_nonneg_left (show left + 1 ≤ D by omega) (show (0 : Int) ≤ 4294967296 by decide)
      omega
    have hq0 := Int.ediv_nonneg hn (show 0 ≤ D by omega)
    have hr0 := Int.emod_nonneg (left * 4294967296 + a.getD m 0) (show D ≠ 0 by omega)
    have hr1 := Int.emod_lt_of_pos (left * 4294967296 + a.getD m 0) hD0
    obtain ⟨K, hK⟩ := ih (i + 1) (q.set m ((left * 4294967296 + a.getD m 0) / D)) ((left * 4294967296 + a.getD m 0) % D) (by omega) (by omega) (U_set hq _ hq0 hq1) (by simpa using hql) hr0 hr1
      (by
        rw [val_drop (by omega), val_drop (l := q.set _ _) (by simp; omega), getD_set_self (by omega), drop_set_lt (by omega)]
        exact step_short (Int.mul_ediv_add_emod _ _) hv)
    refine ⟨K + 1, fun k hk => ?_⟩
    obtain ⟨k, rfl⟩ : ∃ m, k = m + 1 := ⟨k - 1, by omega⟩
    simp only [nat_short.l0, w64_pred (show 0 < a.length by omega) (show a.length < 9223372036854775808 by omega), w64_sub (show i ≤ a.length - 1 by omega) (show a.length - 1 < 9223372036854775808 by omega), Int.toNat_natCast, rd_eq, show a.length - 1 - i = m by omega, w64_succ (show i < 4611686018427387904 by omega)]
    rw [if_pos (by omega), if_pos (by omega), if_pos (by omega), div32 h0 h1 hai.1 hai.2 hD1, Option.bind_some]
    simp only
    rw [if_pos (by omega)]
    exact hK k (by omega)
theorem short_ev (a : List Int) (D : Int) (ha : U a) (hD0 : 0 < D) (hD1 : D < 4294967296) (hl : a.length ≤ 1073741824) : ∃ K, ∀ k, K ≤ k → nat_short.f k a D = some (lim (val a / D), lim (val a % D)) := by
  obtain ⟨K, hK⟩ := short_l0 a D ha hD0 hD1 hl a.length 0 (List.replicate a.length 0) 0 (by omega) rfl (U_replicate _) (by simp) (by omega) hD0 (by rw [List.drop_length, List.drop_of_length_le (by simp)]; simp)
  refine ⟨K, fun k hk => ?_⟩
  unfold nat_short.f
  rw [if_pos (by omega), if_pos (by omega), Int.toNat_natCast]
  exact hK k hk

/-! the guess of a quotient's limb -/
/-- The least of 2^32 - 1 and a quotient. -/
def gss (X V : Int) : Int := if 4294967295 ≤ X / V then 4294967295 else X / V
theorem guess_l0 (u2 u1 u0 v1 v0 : Int) (hu1 : 0 ≤ u1 ∧ u1 < 4294967296) (hu0 : 0 ≤ u0 ∧ u0 < 4294967296) (hv1 : 0 < v1 ∧ v1 < 4294967296) (hv0 : 0 ≤ v0 ∧ v0 < 4294967296) (h2 : u2 ≤ v1) (n : Nat) :
    ∀ (left : Int), (n : Int) ≤ 4294967297 → left = (u2 * 4294967296 + u1) - (n : Int) * v1 → 0 ≤ left → left < 4294967296 → gss ((u2 * 4294967296 + u1) * 4294967296 + u0) (v1 * 4294967296 + v0) ≤ n →
      ∃ K, ∀ k, K ≤ k → nat_guess.l0 k u0 v1 v0 (n : Int) left = some (gss ((u2 * 4294967296 + u1) * 4294967296 + u0) (v1 * 4294967296 + v0)) := by
  have hV : 0 < v1 * 4294967296 + v0 := by omega
  induction n with
  | zero =>
    intro left hn hleft h0 h1 hg
    have hle : gss ((u2 * 4294967296 + u1) * 4294967296 + u0) (v1 * 4294967296 + v0) = 0 := by
      have : 0 ≤ ((u2 * 4294967296 + u1) * 4294967296 + u0) / (v1 * 4294967296 + v0) := Int.ediv_nonneg (by omega) (by omega)
      unfold gss at hg ⊢
      split at hg <;> split <;> omega
    refine ⟨2, fun k hk => ?_⟩
    obtain ⟨k, rfl⟩ : ∃ m, k = m + 1 + 1 := ⟨k - 2, by omega⟩
    simp only [nat_guess.l0, nat_guess.j1]
    rw [if_neg (by omega), u64w (x := v0) (by omega) (by omega), u64w (x := u0) (by omega) (by omega), u64w (x := left * 4294967296) (by omega) (by omega), or_join64 h0 h1 hu0.1 hu0.2]
    simp only [Int.natCast_zero, Int.zero_mul]
    rw [u64w (by omega) (by omega), decide_eq_false (by omega), if_neg (by simp), hle]
    rfl
  | succ n ih =>
    intro left hn hleft h0 h1 hg
    have hnv : ((n + 1 : Nat) : Int) * v1 = (n : Int) * v1 + v1 := by
      rw [show ((n + 1 : Nat) : Int) = (n : Int) + 1 by omega, Int.add_mul, Int.one_mul]
    -- the test, as an order of products
    have htest : ((n + 1 : Nat) : Int) * v0 > left * 4294967296 + u0 ↔ (u2 * 4294967296 + u1) * 4294967296 + u0 < ((n + 1 : Nat) : Int) * (v1 * 4294967296 + v0) := by
      have e : ((n + 1 : Nat) : Int) * (v1 * 4294967296 + v0) = ((n + 1 : Nat) : Int) * v1 * 4294967296 + ((n + 1 : Nat) : Int) * v0 := by grind
      rw [e, hleft]
      generalize ((n + 1 : Nat) : Int) * v1 = p
      generalize ((n + 1 : Nat) : Int) * v0 = q
      omega
    have hdiv : (u2 * 4294967296 + u1) * 4294967296 + u0 < ((n + 1 : Nat) : Int) * (v1 * 4294967296 + v0) ↔ ((u2 * 4294967296 + u1) * 4294967296 + u0) / (v1 * 4294967296 + v0) < ((n + 1 : Nat) : Int) := by
      rw [Int.ediv_lt_iff_lt_mul hV]
    by_cases hbig : ((n + 1 : Nat) : Int) > 4294967295 ∨ ((u2 * 4294967296 + u1) * 4294967296 + u0) / (v1 * 4294967296 + v0) < ((n + 1 : Nat) : Int)
    · -- one less
      have hg' : gss ((u2 * 4294967296 + u1) * 4294967296 + u0) (v1 * 4294967296 + v0) ≤ n := by
        unfold gss
        split <;> omega
      have hl' : left + v1 = (u2 * 4294967296 + u1) - (n : Int) * v1 := by omega
      have hcond : (if ((n + 1 : Nat) : Int) > 4294967295 then true else decide (((n + 1 : Nat) : Int) * v0 > left * 4294967296 + u0)) = true := by
        by_cases hc : ((n + 1 : Nat) : Int) > 4294967295
        · rw [if_pos hc]
        · rw [if_neg hc]
          exact decide_eq_true (htest.2 (hdiv.2 (by omega)))
      have hround : ∀ k, nat_guess.l0 (k + 1 + 1) u0 v1 v0 ((n + 1 : Nat) : Int) left = (if left + v1 > 4294967295 then some ((n : Int) % 4294967296) else nat_guess.l0 k u0 v1 v0 (n : Int) (left + v1)) := by
        intro k
        simp only [nat_guess.l0, nat_guess.j1]
        have hmul : 0 ≤ ((n + 1 : Nat) : Int) * v0 ∧ (((n + 1 : Nat) : Int) ≤ 4294967295 → ((n + 1 : Nat) : Int) * v0 < 18446744073709551616) := by
          refine ⟨Int.mul_nonneg (by omega) hv0.1, fun hle => ?_⟩
          have := mul_bound (x := ((n + 1 : Nat) : Int)) (y := v0) (by omega) hv0
          omega
        rw [u64w (x := v0) (by omega) (by omega), u64w (x := u0) (by omega) (by omega), u64w (x := left * 4294967296) (by omega) (by omega), or_join64 h0 h1 hu0.1 hu0.2, u64w (x := v1) (by omega) (by omega), u64w (x := left + v1) (by omega) (by omega), u64w (x := ((n + 1 : Nat) : Int) - 1) (by omega) (by omega), show ((n + 1 : Nat) : Int) - 1 = (n : Int) by omega]
        by_cases hc : ((n + 1 : Nat) : Int) > 4294967295
        · rw [if_pos hc, if_pos trivial]
        · rw [if_neg hc, u64w hmul.1 (hmul.2 (by omega))]
          rw [if_neg hc] at hcond
          rw [hcond, if_pos rfl]
      by_cases hbrk : left + v1 > 4294967295
      · have hnle : (n : Int) ≤ 4294967295 := by
          by_cases hq : (n : Int) ≤ 4294967295
          · exact hq
          · have hnB : (n : Int) = 4294967296 := by omega
            rw [hnB] at hl'
            omega
        have hres : gss ((u2 * 4294967296 + u1) * 4294967296 + u0) (v1 * 4294967296 + v0) = (n : Int) := by
          have hge : (n : Int) ≤ ((u2 * 4294967296 + u1) * 4294967296 + u0) / (v1 * 4294967296 + v0) := by
            rw [Int.le_ediv_iff_mul_le hV]
            have hm := mul_bound (x := (n : Int)) (y := v0) (by omega) hv0
            have e : (n : Int) * (v1 * 4294967296 + v0) = (n : Int) * v1 * 4294967296 + (n : Int) * v0 := by grind
            rw [e]
            generalize (n : Int) * v1 = p at *
            generalize (n : Int) * v0 = q at *
            omega
          unfold gss at hg' ⊢
          split at hg' <;> split <;> omega
        refine ⟨2, fun k hk => ?_⟩
        obtain ⟨k, rfl⟩ : ∃ m, k = m + 1 + 1 := ⟨k - 2, by omega⟩
        rw [hround, if_pos hbrk, hres, Int.emod_eq_of_lt (by omega) (by omega)]
      · obtain ⟨K, hK⟩ := ih (left + v1) (by omega) hl' (by omega) (by omega) hg'
        refine ⟨K + 2, fun k hk => ?_⟩
        obtain ⟨k, rfl⟩ : ∃ m, k = m + 1 + 1 := ⟨k - 2, by omega⟩
        rw [hround, if_neg hbrk]
        exact hK k (by omega)
    · -- it is the one
      have hres : gss ((u2 * 4294967296 + u1) * 4294967296 + u0) (v1 * 4294967296 + v0) = ((n + 1 : Nat) : Int) := by
        unfold gss at hg ⊢
        split at hg <;> split <;> omega
      have hm := mul_bound (x := ((n + 1 : Nat) : Int)) (y := v0) (by omega) hv0
      refine ⟨2, fun k hk => ?_⟩
      obtain ⟨k, rfl⟩ : ∃ m, k = m + 1 + 1 := ⟨k - 2, by omega⟩
      simp only [nat_guess.l0, nat_guess.j1]
      rw [if_neg (by omega), u64w (x := v0) (by omega) (by omega), u64w (x := u0) (by omega) (by omega), u64w (x := left * 4294967296) (by omega) (by omega), or_join64 h0 h1 hu0.1 hu0.2, u64w hm.1 (by omega), decide_eq_false (fun hc => hbig (.inr (hdiv.1 (htest.1 hc)))), if_neg (by simp), hres, Int.emod_eq_of_lt (by omega) (by omega)]
theorem guess_ev (u2 u1 u0 v1 v0 : Int) (hu2 : 0 ≤ u2) (hu1 : 0 ≤ u1 ∧ u1 < 4294967296) (hu0 : 0 ≤ u0 ∧ u0 < 4294967296) (hv1 : 2147483648 ≤ v1 ∧ v1 < 4294967296) (hv0 : 0 ≤ v0 ∧ v0 < 4294967296) (h2 : u2 ≤ v1) :
    ∃ K, ∀ k, K ≤ k → nat_guess.f k u2 u1 u0 v1 v0 = some (gss ((u2 * 4294967296 + u1) * 4294967296 + u0) (v1 * 4294967296 + v0)) := by
  have hn : 0 ≤ u2 * 4294967296 + u1 := by omega
  have hq0 := Int.ediv_nonneg hn (show 0 ≤ v1 by omega)
  have hr0 := Int.emod_nonneg (u2 * 4294967296 + u1) (show v1 ≠ 0 by omega)
  have hr1 := Int.emod_lt_of_pos (u2 * 4294967296 + u1) (show 0 < v1 by omega)
  have hdm := Int.mul_ediv_add_emod (u2 * 4294967296 + u1) v1
  have hq1 : (u2 * 4294967296 + u1) / v1 ≤ 4294967297 := by
    have : (u2 * 4294967296 + u1) / v1 < 4294967298 := by
      rw [Int.ediv_lt_iff_lt_mul (by omega)]
      omega
    omega
  have hle : gss ((u2 * 4294967296 + u1) * 4294967296 + u0) (v1 * 4294967296 + v0) ≤ (u2 * 4294967296 + u1) / v1 := by
    have h3 : ((u2 * 4294967296 + u1) * 4294967296 + u0) / (v1 * 4294967296 + v0) < (u2 * 4294967296 + u1) / v1 + 1 := by
      rw [Int.ediv_lt_iff_lt_mul (by omega)]
      have e : ((u2 * 4294967296 + u1) / v1 + 1) * (v1 * 4294967296 + v0) = (v1 * ((u2 * 4294967296 + u1) / v1) + v1) * 4294967296 + ((u2 * 4294967296 + u1) / v1 + 1) * v0 := by grind
      have hm := Int.mul_nonneg (show 0 ≤ (u2 * 4294967296 + u1) / v1 + 1 by omega) hv0.1
      rw [e]
      generalize v1 * ((u2 * 4294967296 + u1) / v1) = p at *
      generalize ((u2 * 4294967296 + u1) / v1 + 1) * v0 = q at *
      omega
    unfold gss
    split <;> omega
  obtain ⟨m, hm⟩ : ∃ m : Nat, (u2 * 4294967296 + u1) / v1 = m := ⟨((u2 * 4294967296 + u1) / v1).toNat, by omega⟩
  obtain ⟨K, hK⟩ := guess_l0 u2 u1 u0 v1 v0 hu1 hu0 (by omega) hv0 h2 m ((u2 * 4294967296 + u1) % v1) (by omega) (by have e := hdm; rw [hm, Int.mul_comm v1] at e; omega) hr0 (by omega) (by omega)
  refine ⟨K, fun k hk => ?_⟩
  unfold nat_guess.f
  rw [u64w (x := v1) (by omega) (by omega), if_neg (by omega), u64w (x := u2) (by omega) (by omega), u64w (x := u1) (by omega) (by omega), u64w (x := u2 * 4294967296) (by omega) (by omega), or_join64 hu2 (by omega) hu1.1 hu1.2, Int.tdiv_eq_ediv_of_nonneg hn, Int.tmod_eq_emod_of_nonneg hn, u64w hq0 (by omega), hm]
  exact hK k hk

/-! so many times a number taken away; a number given back -/
theorem step_less {V P q S Q y c b r o r' b' h n : Int} (e1 : r' - 4294967296 * b' = o - r - b) (e2 : r + 4294967296 * h = n) (hn : n = y * q + c) : V - P * (q * S) + P * Q * (c + b) + P * Q * (r' - o) = V - P * (q * (S + Q * y)) + 4294967296 * (P * Q) * (h + b') := by
  have h1 : P * Q * (r' - 4294967296 * b') = P * Q * (o - r - b) := by rw [e1]
  have h2 : P * Q * (r + 4294967296 * h) = P * Q * (y * q + c) := by rw [e2, hn]
  grind
theorem sub32' {x y c : Int} (hx : 0 ≤ x ∧ x < 4294967296) (hy : 0 ≤ y ∧ y < 4294967296) (hc : 0 ≤ c ∧ c ≤ 1) : ∃ r b, bits_Sub32.f x y c = some (r, b) ∧ r - 4294967296 * b = x - y - c ∧ (0 ≤ r ∧ r < 4294967296) ∧ 0 ≤ b ∧ b ≤ 1 := by
  refine ⟨_, _, sub32 hx hy hc, ?_, by omega, ?_, ?_⟩ <;> split <;> omega
theorem less_l0 (d : List Int) (q : Int) (hd : U d) (hq : 0 ≤ q ∧ q < 4294967296) (at_ : Nat) (hat : at_ + d.length < 1073741824) (m : Nat) :
    ∀ (i : Nat) (o : List Int) (b c V : Int), i ≤ d.length → d.length - i = m → U o → at_ + d.length < o.length → 0 ≤ b ∧ b ≤ 1 → 0 ≤ c ∧ c < 4294967296 → val o = V - pw at_ * (q * val (d.take i)) + pw (at_ + i) * (c + b) →
      ∃ o' b', U o' ∧ o'.length = o.length ∧ (0 ≤ b' ∧ b' ≤ 1) ∧ (∀ j, at_ + d.length < j → o'.getD j 0 = o.getD j 0) ∧ val o' = V - pw at_ * (q * val d) + pw (at_ + d.length + 1) * b' ∧
        ∃ K, ∀ k, K ≤ k → nat_less.l0 k o d q (at_ : Int) b c d (d.length : Int) (i : Int) = some (b' != 0, o') := by
  induction m with
  | zero =>
    intro i o b c V hi hm ho hol hb hc hv
    obtain rfl : i = d.length := by omega
    obtain ⟨r', b', e, e1, hr, hb'⟩ := sub32' (U_getD ho (at_ + d.length)) hc hb
    refine ⟨o.set (at_ + d.length) r', b', U_set ho _ hr.1 hr.2, by simp, hb', fun j hj => getD_set_ne (by omega) _, ?_, 1, fun k hk => ?_⟩
    · rw [val_set hol, hv, List.take_length, pw_succ]
      have h1 : pw (at_ + d.length) * (r' - 4294967296 * b') = pw (at_ + d.length) * (o.getD (at_ + d.length) 0 - c - b) := by rw [e1]
      grind
    · obtain ⟨k, rfl⟩ : ∃ m, k = m + 1 := ⟨k - 1, by omega⟩
      simp only [nat_less.l0, w64_add (show at_ + d.length < 9223372036854775808 by omega), Int.toNat_natCast, rd_eq, Int.emod_eq_of_lt hc.1 hc.2]
      rw [if_neg (by omega), if_pos (by omega), if_pos (by omega), e, Option.bind_some]
  | succ m ih =>
    intro i o b c V hi hm ho hol hb hc hv
    have hdi := U_getD hd i
    have hoi := U_getD ho (at_ + i)
    have hmb := mul_bound hdi hq
    obtain ⟨n, hn⟩ : ∃ n, n = d.getD i 0 * q + c := ⟨_, rfl⟩
    obtain ⟨r', b', e, e1, hr, hb'⟩ := sub32' hoi (show 0 ≤ n % 4294967296 ∧ n % 4294967296 < 4294967296 by omega) hb
    obtain ⟨o', b2, h1, h2, h3, h4, h5, K, hK⟩ := ih (i + 1) (o.set (at_ + i) r') b' (n / 4294967296) V (by omega) (by omega) (U_set ho _ hr.1 hr.2) (by simpa using hol) hb' (by omega)
      (by
        rw [val_set (by omega), hv, val_take_succ', show at_ + (i + 1) = (at_ + i) + 1 by omega, pw_succ, pw_add]
        exact step_less e1 (Int.emod_add_mul_ediv n 4294967296) hn)
    refine ⟨o', b2, h1, by simpa using h2, h3, fun j hj => (h4 j hj).trans (getD_set_ne (by omega) _), h5, K + 1, fun k hk => ?_⟩
    obtain ⟨k, rfl⟩ : ∃ m, k = m + 1 := ⟨k - 1, by omega⟩
    simp only [nat_less.l0, w64_add (show at_ + i < 9223372036854775808 by omega), Int.toNat_natCast, rd_eq, u64w hdi.1 (show d.getD i 0 < 18446744073709551616 by omega), u64w hq.1 (show q < 18446744073709551616 by omega), u64w hmb.1 (show d.getD i 0 * q < 18446744073709551616 by omega), ← hn, u64w (show 0 ≤ n by omega) (show n < 18446744073709551616 by omega), w64_succ (show i < 4611686018427387904 by omega)]
    rw [if_pos (by omega), if_pos (by omega), if_pos (by omega), if_pos (by omega), if_pos (by omega), e, Option.bind_some]
    exact hK k (by omega)
theorem less_ev (r d : List Int) (q : Int) (at_ : Nat) (hr : U r) (hd : U d) (hq : 0 ≤ q ∧ q < 4294967296) (hat : at_ + d.length < 1073741824) (hol : at_ + d.length < r.length) :
    ∃ o' b', U o' ∧ o'.length = r.length ∧ (0 ≤ b' ∧ b' ≤ 1) ∧ (∀ j, at_ + d.length < j → o'.getD j 0 = r.getD j 0) ∧ val o' = val r - pw at_ * (q * val d) + pw (at_ + d.length + 1) * b' ∧
        ∃ K, ∀ k, K ≤ k → nat_less.f k r d q (at_ : Int) = some (b' != 0, o') :=
  less_l0 d q hd hq at_ hat _ 0 r 0 0 (val r) (by omega) rfl hr hol (by omega) (by omega) (by simp)
theorem step_more {V P S Q y c r o s n : Int} (e : r + 4294967296 * s = o + y + c) : V + P * S - P * Q * c + P * Q * (r - o) = V + P * (S + Q * y) - 4294967296 * (P * Q) * s := by
  have h1 : P * Q * (r + 4294967296 * s) = P * Q * (o + y + c) := by rw [e]
  grind
theorem more_l0 (d : List Int) (hd : U d) (at_ : Nat) (hat : at_ + d.length < 1073741824) (m : Nat) :
    ∀ (i : Nat) (o : List Int) (c V : Int), i ≤ d.length → d.length - i = m → U o → at_ + d.length < o.length → 0 ≤ c ∧ c ≤ 1 → val o = V + pw at_ * val (d.take i) - pw (at_ + i) * c →
      ∃ o' b', U o' ∧ o'.length = o.length ∧ (0 ≤ b' ∧ b' ≤ 1) ∧ (∀ j, at_ + d.length < j → o'.getD j 0 = o.getD j 0) ∧ val o' = V + pw at_ * val d - pw (at_ + d.length + 1) * b' ∧
        ∃ K, ∀ k, K ≤ k → nat_more.l0 k o d (at_ : Int) c d (d.length : Int) (i : Int) = some o' := by
  induction m with
  | zero =>
    intro i o c V hi hm ho hol hc hv
    obtain rfl : i = d.length := by omega
    have hoi := U_getD ho (at_ + d.length)
    refine ⟨o.set (at_ + d.length) ((o.getD (at_ + d.length) 0 + c) % 4294967296), (o.getD (at_ + d.length) 0 + c) / 4294967296, U_set ho _ (by omega) (by omega), by simp, by omega, fun j hj => getD_set_ne (by omega) _, ?_, 1, fun k hk => ?_⟩
    · rw [val_set hol, hv, List.take_length, pw_succ]
      have h1 : pw (at_ + d.length) * ((o.getD (at_ + d.length) 0 + c) % 4294967296 + 4294967296 * ((o.getD (at_ + d.length) 0 + c) / 4294967296)) = pw (at_ + d.length) * (o.getD (at_ + d.length) 0 + c) := by rw [Int.emod_add_mul_ediv]
      grind
    · obtain ⟨k, rfl⟩ : ∃ m, k = m + 1 := ⟨k - 1, by omega⟩
      simp only [nat_more.l0, w64_add (show at_ + d.length < 9223372036854775808 by omega), Int.toNat_natCast, rd_eq]
      rw [if_neg (by omega), if_pos (by omega), if_pos (by omega)]
  | succ m ih =>
    intro i o c V hi hm ho hol hc hv
    have hdi := U_getD hd i
    have hoi := U_getD ho (at_ + i)
    obtain ⟨o', b2, h1, h2, h3, h4, h5, K, hK⟩ := ih (i + 1) (o.set (at_ + i) ((o.getD (at_ + i) 0 + d.getD i 0 + c) % 4294967296)) ((o.getD (at_ + i) 0 + d.getD i 0 + c) / 4294967296) V (by omega) (by omega) (U_set ho _ (by omega) (by omega)) (by simpa using hol) (by omega)
      (by
        rw [val_set (by omega), hv, val_take_succ', show at_ + (i + 1) = (at_ + i) + 1 by omega, pw_succ, pw_add]
        exact step_more (n := 0) (Int.emod_add_mul_ediv _ 4294967296))
    refine ⟨o', b2, h1, by simpa using h2, h3, fun j hj => (h4 j hj).trans (getD_set_ne (by omega) _), h5, K + 1, fun k hk => ?_⟩
    obtain ⟨k, rfl⟩ : ∃ m, k = m + 1 := ⟨k - 1, by omega⟩
    simp only [nat_more.l0, w64_add (show at_ + i < 9223372036854775808 by omega), Int.toNat_natCast, rd_eq, w64_succ (show i < 4611686018427387904 by omega)]
    rw [if_pos (by omega), if_pos (by omega), if_pos (by omega), if_pos (by omega), if_pos (by omega), add32 hoi hdi hc, Option.bind_some]
    exact hK k (by omega)
theorem more_ev (r d : List Int) (at_ : Nat) (hr : U r) (hd : U d) (hat : at_ + d.length < 1073741824) (hol : at_ + d.length < r.length) :
    ∃ o' b', U o' ∧ o'.length = r.length ∧ (0 ≤ b' ∧ b' ≤ 1) ∧ (∀ j, at_ + d.length < j → o'.getD j 0 = r.getD j 0) ∧ val o' = val r + pw at_ * val d - pw (at_ + d.length + 1) * b' ∧
        ∃ K, ∀ k, K ≤ k → nat_more.f k r d (at_ : Int) = some o' :=
  more_l0 d hd at_ hat _ 0 r 0 (val r) (by omega) rfl hr hol (by omega) (by simp)
end Go.Proofs.Ytbejmpocgnldnaa.T
