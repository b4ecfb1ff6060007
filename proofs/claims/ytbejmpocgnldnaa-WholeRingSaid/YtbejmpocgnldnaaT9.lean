/- What the document's answers for layer 1 are (second part: products, bits, quotients, roots). -/
import Derived.Test.YtbejmpocgnldnaaPZx1
import Derived.Test.YtbejmpocgnldnaaT8
namespace Go.Proofs.Ytbejmpocgnldnaa.T
set_option linter.unusedVariables false
set_option linter.unusedSimpArgs false
open Go.RowKit Go.Proofs.YtbejmpocgnldnaaW.PrintWords Go.Proofs.YtbejmpocgnldnaaW.PrintMore Go.Proofs.Ytbejmpocgnldnaa.PZ

/-! products -/
theorem step_row {V P S x y c r q : Int} (e : r + 4294967296 * q = x * y + c) (h : V + P * c = S * y) : V + P * r + 4294967296 * P * q = (S + P * x) * y := by
  have h1 : P * (r + 4294967296 * q) = P * (x * y + c) := by rw [e]
  grind
theorem rmul_l1 (a b : List Int) (ha : U a) (i : Nat) (hi : i < b.length) (hb : U b) (hla : a.length ≤ 1073741822) (o : List Int) (d : Nat) :
    ∀ (j : Nat) (row : List Int) (c : Int), a.length - j = d → j ≤ a.length → row.length = j → U row → 0 ≤ c ∧ c < 4294967296 → val row + pw j * c = val (a.take j) * b.getD i 0 →
      ∃ row', U row' ∧ row'.length = a.length + 1 ∧ val row' = val a * b.getD i 0 ∧ ∀ k, pelorusref01_Mul.l1 (k + d + 1) a b o (i : Int) row c (j : Int) = (pelorusref01_Add.f k o row').bind fun t => pelorusref01_Mul.l0 k a b t (wrap64 ((i : Int) - 1)) := by
  induction d with
  | zero =>
    intro j row c hd hj hl hr hc he
    obtain rfl : j = a.length := by omega
    refine ⟨row ++ [c], U_snoc hr hc.1 hc.2, by simp [hl], by rw [snoc_val, hl, he, List.take_length], fun k => ?_⟩
    simp only [pelorusref01_Mul.l1]
    rw [if_neg (by omega), if_pos (by omega), Int.emod_eq_of_lt hc.1 hc.2]
  | succ d ih =>
    intro j row c hd hj hl hr hc he
    have hx := U_getD ha j
    have hy := U_getD hb i
    have hm := mul_bound hx hy
    obtain ⟨n, hn⟩ : ∃ n, n = a.getD j 0 * b.getD i 0 + c := ⟨_, rfl⟩
    obtain ⟨row', h1, h2, h3, h4⟩ := ih (j + 1) (row ++ [n % 4294967296]) (n / 4294967296) (by omega) (by omega) (by simp [hl]) (U_snoc hr (by omega) (by omega)) (by omega)
      (by
        rw [snoc_val, hl, val_take_succ', pw_succ]
        exact step_row (by rw [← hn]; exact Int.emod_add_mul_ediv n 4294967296) he)
    refine ⟨row', h1, h2, h3, fun k => ?_⟩
    rw [← h4 k]
    simp only [pelorusref01_Mul.l1, rd_eq, Int.toNat_natCast, u64w hx.1 (show a.getD j 0 < 18446744073709551616 by omega), u64w hy.1 (show b.getD i 0 < 18446744073709551616 by omega), u64w hm.1 (show a.getD j 0 * b.getD i 0 < 18446744073709551616 by omega), ← hn, u64w (show 0 ≤ n by omega) (show n < 18446744073709551616 by omega), Int.tmod_eq_emod_of_nonneg (show 0 ≤ n by omega), Int.tdiv_eq_ediv_of_nonneg (show 0 ≤ n by omega), u64w (show 0 ≤ n / 4294967296 by omega) (show n / 4294967296 < 18446744073709551616 by omega), show n % 4294967296 % 4294967296 = n % 4294967296 by omega, w64_succ (show j < 4611686018427387904 by omega)]
    rw [if_pos (by omega), if_pos (by omega), if_pos (by omega), if_pos (by omega), if_pos (by omega)]
    rfl
theorem rmul_l0 (a b : List Int) (ha : U a) (hb : U b) (hl : a.length + b.length ≤ 1073741820) (n : Nat) :
    ∀ (o : List Int), n ≤ b.length → U o → o.length ≤ a.length + (b.length - n) + 1 → val o = val a * val (b.drop n) →
      ∃ K, ∀ k, K ≤ k → pelorusref01_Mul.l0 k a b o ((n : Int) - 1) = some (lim (val a * val b)) := by
  induction n with
  | zero =>
    intro o hn ho hol hv
    obtain ⟨K, hK⟩ := rtrim_ev o ho (by omega)
    rw [hv, List.drop_zero] at hK
    refine ⟨K + 1, fun k hk => ?_⟩
    obtain ⟨k, rfl⟩ : ∃ m, k = m + 1 := ⟨k - 1, by omega⟩
    simp only [pelorusref01_Mul.l0]
    rw [if_neg (by omega), hK k (by omega), Option.bind_some]
  | succ n ih =>
    intro o hn ho hol hv
    have hon : U ([0] ++ o) := U_append.2 ⟨U_single (by omega) (by omega), ho⟩
    have hov : val ([0] ++ o) = 4294967296 * val o := by simp
    obtain ⟨row, h1, h2, h3, h4⟩ := rmul_l1 a b ha n (by omega) hb (by omega) ([0] ++ o) _ 0 [] 0 rfl (by omega) rfl U_nil (by omega) (by simp)
    obtain ⟨K1, h5⟩ := radd_ev ([0] ++ o) row hon h1 (by simp; omega) (by omega)
    have hsum : val ([0] ++ o) + val row = val a * val (b.drop n) := by
      rw [hov, h3, hv, val_drop (l := b) (i := n) (by omega)]
      grind
    rw [hsum] at h5
    have na := val_nonneg ha
    have nd := val_nonneg (U_drop hb n)
    have hp0 := Int.mul_nonneg na nd
    have hlen : (lim (val a * val (b.drop n))).length ≤ a.length + (b.length - n) := by
      refine lim_len hp0 _ ?_
      have l1 := val_lt ha
      have l2 := val_lt (U_drop hb n)
      rw [List.length_drop] at l2
      rw [pw_add]
      have hpa := pw_pos a.length
      have e1 := Int.mul_le_mul_of_nonneg_right (show val a ≤ pw a.length by omega) nd
      have e2 := Int.mul_lt_mul_of_pos_left l2 hpa
      omega
    obtain ⟨K2, h6⟩ := ih (lim (val a * val (b.drop n))) (by omega) (U_lim hp0) (by omega) (by rw [val_lim hp0])
    refine ⟨K1 + K2 + a.length + 2, fun k hk => ?_⟩
    obtain ⟨k, rfl⟩ : ∃ m, k = m + (a.length - 0) + 1 + 1 := ⟨k - a.length - 2, by omega⟩
    have e : ((n + 1 : Nat) : Int) - 1 = (n : Int) := by omega
    simp only [pelorusref01_Mul.l0, Option.bind_some]
    rw [if_pos (by omega), if_pos (by simp; omega), e]
    rw [show pelorusref01_Mul.l1 (k + (a.length - 0) + 1) a b ([0] ++ o) (n : Int) [] 0 0 = _ from h4 k, h5 k (by omega), Option.bind_some, w64 (by omega) (by omega)]
    exact h6 k (by omega)
theorem rmul_ev (a b : List Int) (ha : U a) (hb : U b) (hl : a.length + b.length ≤ 1073741820) : ∃ K, ∀ k, K ≤ k → pelorusref01_Mul.f k a b = some (lim (val a * val b)) := by
  obtain ⟨K, hK⟩ := rmul_l0 a b ha hb hl b.length [] (Nat.le_refl _) U_nil (by simp) (by rw [List.drop_length]; simp)
  refine ⟨K, fun k hk => ?_⟩
  unfold pelorusref01_Mul.f
  rw [w64 (by omega) (by omega)]
  exact hK k hk

/-! bits -/
theorem rlen_l0 (m : Nat) : ∀ (x n : Int), x = (m : Int) → x < 4294967296 → 0 ≤ n → n + bl x ≤ 4611686018427387904 → ∃ K, ∀ k, K ≤ k → pelorusref01_Len.l0 k n x = some (n + bl x) := by
  induction m using Nat.strongRecOn with
  | _ m ih =>
    intro x n hx hx1 hn hn1
    by_cases h0 : x = 0
    · refine ⟨1, fun k hk => ?_⟩
      obtain ⟨k, rfl⟩ : ∃ m, k = m + 1 := ⟨k - 1, by omega⟩
      simp only [pelorusref01_Len.l0]
      rw [if_neg (by omega), h0, bl_zero, Int.add_zero]
    · have hb : bl x = 1 + bl (x / 2) := by
        by_cases h1 : x = 1
        · subst h1; rfl
        · have := bl_shift (x := x) 1 (by omega)
          exact this
      have hb0 := bl_nonneg (x / 2)
      obtain ⟨K, hK⟩ := ih (x / 2).toNat (by omega) (x / 2) (n + 1) (by omega) (by omega) (by omega) (by omega)
      refine ⟨K + 1, fun k hk => ?_⟩
      obtain ⟨k, rfl⟩ : ∃ m, k = m + 1 := ⟨k - 1, by omega⟩
      simp only [pelorusref01_Len.l0]
      rw [if_pos (by omega), w64 (by omega) (by omega), Int.tdiv_eq_ediv_of_nonneg (by omega), Int.emod_eq_of_lt (by omega) (by omega), hK k (by omega), hb, Int.add_assoc]
theorem rlen_ev (l : List Int) (h : U l) (hb : l.length ≤ 1073741824) : ∃ K, ∀ k, K ≤ k → pelorusref01_Len.f k l = some (bl (val l)) := by
  obtain ⟨K, hK⟩ := rtrim_ev l h hb
  have hn := val_nonneg h
  have hl := lim_len hn l.length (val_lt h)
  by_cases h0 : val l = 0
  · refine ⟨K, fun k hk => ?_⟩
    unfold pelorusref01_Len.f
    rw [hK k hk, Option.bind_some, h0, lim_zero, if_pos (by simp)]
    rfl
  · have hpos : 0 < val l := by omega
    have h1 : 0 < (lim (val l)).length := by
      by_cases hq : (lim (val l)).length = 0
      · exact absurd ((lim_nil_iff hn).1 hq) h0
      · omega
    have hu := U_getD (U_lim hn) ((lim (val l)).length - 1)
    have hlast := lim_last hpos
    have e1 := val_top hpos
    have e2 := bl_shift (x := val l) (32 * ((lim (val l)).length - 1)) (by rw [← p2_limb, e1]; omega)
    rw [← p2_limb, e1] at e2
    have e3 := bl_le (n := (lim (val l)).getD ((lim (val l)).length - 1) 0) (m := 32) hu.2
    have e4 := bl_nonneg ((lim (val l)).getD ((lim (val l)).length - 1) 0)
    obtain ⟨K2, h2⟩ := rlen_l0 ((lim (val l)).getD ((lim (val l)).length - 1) 0).toNat _ (32 * (((lim (val l)).length - 1 : Nat) : Int)) (by omega) hu.2 (by omega) (by omega)
    refine ⟨K + K2, fun k hk => ?_⟩
    unfold pelorusref01_Len.f
    rw [hK k (by omega), Option.bind_some, if_neg (by omega)]
    simp only [w64_pred h1 (show (lim (val l)).length < 9223372036854775808 by omega), rd_eq, Int.toNat_natCast]
    rw [if_pos (by omega), if_pos (by omega), w64 (by omega) (by omega), h2 k (by omega), e2]
    congr 1
theorem shl1 {s : Nat} (hs : s < 32) : shl .u32 1 (s : Int) = 2 ^ s := by
  unfold shl
  have hmn : min (s : Int).toNat IntKind.u32.bits = s := by
    have : IntKind.u32.bits = 32 := rfl
    rw [this, Int.toNat_natCast]
    omega
  have h1 := p2_pos s
  have h2 := p2_mono (show s ≤ 31 by omega)
  have e : (2 : Int) ^ 31 = 2147483648 := rfl
  rw [hmn, Int.one_mul, IntKind.wrap_u32, Int.emod_eq_of_lt (by omega) (by omega)]
theorem p2_31 {s : Nat} (hs : s < 32) : 0 < (2 : Int) ^ s ∧ (2 : Int) ^ s ≤ 2147483648 := by
  have h2 := p2_mono (show s ≤ 31 by omega)
  have e : (2 : Int) ^ 31 = 2147483648 := rfl
  exact ⟨p2_pos s, by omega⟩
theorem val_div' {l : List Int} (h : U l) (i : Nat) : val l / pw i = val (l.drop i) := by
  by_cases hi : i ≤ l.length
  · exact val_div h hi
  · have h1 := val_lt h
    have h2 := pw_mono (show l.length ≤ i by omega)
    rw [List.drop_of_length_le (by omega), val_nil, Int.ediv_eq_zero_of_lt (val_nonneg h) (by omega)]
theorem bit_eq {l : List Int} (h : U l) (i : Nat) : (val l / 2 ^ i) % 2 = (l.getD (i / 32) 0 / 2 ^ (i % 32)) % 2 := by
  have hp := p2_pos (i % 32)
  have e1 : val l / 2 ^ i = val (l.drop (i / 32)) / 2 ^ (i % 32) := by
    rw [← val_div' h, p2_limb, Int.ediv_ediv_of_nonneg (by have := p2_pos (32 * (i / 32)); omega), ← p2_add, show 32 * (i / 32) + i % 32 = i by omega]
  have e2 : (4294967296 : Int) = 2 ^ (i % 32) * (2 * 2 ^ (31 - i % 32)) := by
    rw [← p2_succ, ← p2_add, show i % 32 + (31 - i % 32 + 1) = 32 by omega]
    rfl
  rw [e1, val_drop', e2, Int.mul_assoc, Int.add_mul_ediv_left _ _ (by omega), Int.mul_assoc, Int.add_mul_emod_self_left]
theorem rbit_eq (l : List Int) (h : U l) (i : Nat) (hi : i < 4611686018427387904) : pelorusref01_bit.f l (i : Int) = some ((val l / 2 ^ i) % 2 == 1) := by
  have hu := U_getD h (i / 32)
  have hp := p2_pos (i % 32)
  have hd := Int.ediv_nonneg hu.1 (show (0 : Int) ≤ 2 ^ (i % 32) by omega)
  unfold pelorusref01_bit.f
  simp only [Int.tdiv_eq_ediv_of_nonneg (show (0 : Int) ≤ (i : Int) by omega), Int.tmod_eq_emod_of_nonneg (show (0 : Int) ≤ (i : Int) by omega), show (i : Int) / 32 = ((i / 32 : Nat) : Int) by omega, show (i : Int) % 32 = ((i % 32 : Nat) : Int) by omega, w64_nat (show i / 32 < 9223372036854775808 by omega), u64w (show 0 ≤ ((i % 32 : Nat) : Int) by omega) (show ((i % 32 : Nat) : Int) < 18446744073709551616 by omega)]
  rw [rat l h, Option.bind_some, if_pos (by omega), shr_eq (by omega), Int.tmod_eq_emod_of_nonneg hd, bit_eq h]
theorem rset_l0 (i : Nat) (hi : i < 4611686018427387904) (d : Nat) : ∀ (l : List Int), U l → i / 32 + 1 - l.length = d → l.length ≤ 1073741824 → i / 32 < 1073741824 → (val l / 2 ^ i) % 2 = 0 →
    ∃ r, (∃ K, ∀ k, K ≤ k → pelorusref01_set.l0 k (i : Int) l = some r) ∧ U r ∧ val r = val l + 2 ^ i ∧ r.length = max l.length (i / 32 + 1) := by
  induction d with
  | zero =>
    intro l hu hd hl hi2 hbit
    have hp := p2_31 (s := i % 32) (by omega)
    have hx := U_getD hu (i / 32)
    rw [bit_eq hu] at hbit
    have hsum : l.getD (i / 32) 0 + 2 ^ (i % 32) < 4294967296 := by
      have e2 : (4294967296 : Int) = 2 ^ (i % 32) * (2 * 2 ^ (31 - i % 32)) := by
        rw [← p2_succ, ← p2_add, show i % 32 + (31 - i % 32 + 1) = 32 by omega]
        rfl
      have e3 := Int.mul_ediv_add_emod (l.getD (i / 32) 0) (2 ^ (i % 32))
      have e4 := Int.emod_lt_of_pos (l.getD (i / 32) 0) hp.1
      have e5 := Int.emod_nonneg (l.getD (i / 32) 0) (show (2 : Int) ^ (i % 32) ≠ 0 by omega)
      have h1 : 2 ^ (i % 32) * (l.getD (i / 32) 0 / 2 ^ (i % 32)) < 2 ^ (i % 32) * (2 * 2 ^ (31 - i % 32)) := by omega
      have h2 := Int.lt_of_mul_lt_mul_left h1 (by omega)
      have h3 := Int.mul_le_mul_of_nonneg_left (show l.getD (i / 32) 0 / 2 ^ (i % 32) + 2 ≤ 2 * 2 ^ (31 - i % 32) by omega) (show (0 : Int) ≤ 2 ^ (i % 32) by omega)
      rw [Int.mul_add] at h3
      omega
    refine ⟨l.set (i / 32) (l.getD (i / 32) 0 + 2 ^ (i % 32)), ⟨1, fun k hk => ?_⟩, U_set hu _ (by omega) hsum, ?_, by simp; omega⟩
    · obtain ⟨k, rfl⟩ : ∃ m, k = m + 1 := ⟨k - 1, by omega⟩
      simp only [pelorusref01_set.l0, Int.tdiv_eq_ediv_of_nonneg (show (0 : Int) ≤ (i : Int) by omega), Int.tmod_eq_emod_of_nonneg (show (0 : Int) ≤ (i : Int) by omega), show (i : Int) / 32 = ((i / 32 : Nat) : Int) by omega, show (i : Int) % 32 = ((i % 32 : Nat) : Int) by omega, w64_nat (show i / 32 < 9223372036854775808 by omega), u64w (show 0 ≤ ((i % 32 : Nat) : Int) by omega) (show ((i % 32 : Nat) : Int) < 18446744073709551616 by omega), Int.toNat_natCast, rd_eq, shl1 (show i % 32 < 32 by omega)]
      rw [if_neg (by omega), if_pos (by omega), if_pos (by omega), if_pos (by omega), Int.emod_eq_of_lt (by omega) hsum]
    · rw [val_set (by omega), show l.getD (i / 32) 0 + 2 ^ (i % 32) - l.getD (i / 32) 0 = 2 ^ (i % 32) by omega, p2_limb, ← p2_add, show 32 * (i / 32) + i % 32 = i by omega]
  | succ d ih =>
    intro l hu hd hl hi2 hbit
    have hu2 := U_snoc hu (show (0 : Int) ≤ 0 by omega) (show (0 : Int) < 4294967296 by omega)
    have hv2 : val (l ++ [0]) = val l := by rw [snoc_val, Int.mul_zero, Int.add_zero]
    obtain ⟨r, ⟨K, hK⟩, h1, h2, h3⟩ := ih (l ++ [0]) hu2 (by simp; omega) (by simp; omega) hi2 (by rw [hv2]; exact hbit)
    refine ⟨r, ⟨K + 1, fun k hk => ?_⟩, h1, by rw [h2, hv2], by rw [h3]; simp; omega⟩
    obtain ⟨k, rfl⟩ : ∃ m, k = m + 1 := ⟨k - 1, by omega⟩
    simp only [pelorusref01_set.l0, Int.tdiv_eq_ediv_of_nonneg (show (0 : Int) ≤ (i : Int) by omega), show (i : Int) / 32 = ((i / 32 : Nat) : Int) by omega, w64_nat (show i / 32 < 9223372036854775808 by omega)]
    rw [if_pos (by omega), if_pos (by omega)]
    exact hK k (by omega)
theorem rset_ev (l : List Int) (i : Nat) (hu : U l) (hi : i / 32 < 1073741824) (hl : l.length ≤ 1073741824) (hbit : (val l / 2 ^ i) % 2 = 0) :
    ∃ r, (∃ K, ∀ k, K ≤ k → pelorusref01_set.f k l (i : Int) = some r) ∧ U r ∧ val r = val l + 2 ^ i ∧ r.length = max l.length (i / 32 + 1) := by
  obtain ⟨r, ⟨K, hK⟩, h⟩ := rset_l0 i (by omega) _ l hu rfl hl hi hbit
  refine ⟨r, ⟨K, fun k hk => ?_⟩, h⟩
  unfold pelorusref01_set.f
  rw [if_pos (by simp; omega), List.nil_append]
  exact hK k hk

/-! quotients, bit by bit -/
theorem div_unique {v D Q R : Int} (h : v = D * Q + R) (h0 : 0 ≤ R) (h1 : R < D) : v / D = Q ∧ v % D = R := by
  subst h
  rw [Int.add_comm]
  exact ⟨by rw [Int.add_mul_ediv_left _ _ (by omega), Int.ediv_eq_zero_of_lt h0 h1, Int.zero_add], by rw [Int.add_mul_emod_self_left, Int.emod_eq_of_lt h0 h1]⟩
theorem rdiv_l0 (a : List Int) (D : Int) (ha : U a) (hD : 0 < D) (L : Nat) (hL : L ≤ 268435456) (hDl : (lim D).length ≤ L) (hal : a.length ≤ L) (n : Nat) :
    ∀ (q : List Int) (R Q : Int), n ≤ 32 * a.length → U q → q.length ≤ L + 1 → 0 ≤ R → R < D → val q = 2 ^ n * Q → val a / 2 ^ n = D * Q + R →
      ∃ K, ∀ k, K ≤ k → pelorusref01_Div.l0 k a (lim D) q (lim R) ((n : Int) - 1) = some (lim (val a / D), lim (val a % D), true) := by
  induction n with
  | zero =>
    intro q R Q hn hq hql h0 h1 hv he
    rw [show (2 : Int) ^ 0 = 1 from rfl, Int.ediv_one] at he
    rw [show (2 : Int) ^ 0 = 1 from rfl, Int.one_mul] at hv
    obtain ⟨e1, e2⟩ := div_unique he h0 h1
    have hRl : (lim R).length ≤ L := Nat.le_trans (lim_len_mono h0 (by omega)) hDl
    obtain ⟨K1, c1⟩ := rtrim_ev q hq (by omega)
    obtain ⟨K2, c2⟩ := rtrim_ev (lim R) (U_lim h0) (by omega)
    rw [val_lim h0] at c2
    refine ⟨K1 + K2 + 1, fun k hk => ?_⟩
    obtain ⟨k, rfl⟩ : ∃ m, k = m + 1 := ⟨k - 1, by omega⟩
    simp only [pelorusref01_Div.l0]
    rw [if_neg (by omega), c1 k (by omega), Option.bind_some, c2 k (by omega), Option.bind_some, e1, e2, hv]
  | succ n ih =>
    intro q R Q hn hq hql h0 h1 hv he
    have hp := p2_pos n
    have hD0 : 0 ≤ D := by omega
    have hRl : (lim R).length ≤ L := Nat.le_trans (lim_len_mono h0 (by omega)) hDl
    obtain ⟨b, hb⟩ : ∃ b, b = (val a / 2 ^ n) % 2 := ⟨_, rfl⟩
    have hb2 : 0 ≤ b ∧ b ≤ 1 := by omega
    have hva : val a / 2 ^ n = 2 * (D * Q + R) + b := by
      have e : val a / 2 ^ (n + 1) = val a / 2 ^ n / 2 := by rw [Int.ediv_ediv_of_nonneg (by omega), p2_succ, Int.mul_comm]
      omega
    have hqbit : (val q / 2 ^ n) % 2 = 0 := by
      rw [hv, p2_succ, Int.mul_comm 2, Int.mul_assoc, Int.mul_ediv_cancel_left _ (by omega)]
      omega
    have l2 : (lim (2 * R)).length ≤ L + 1 := by
      refine lim_len (by omega) _ ?_
      have := val_lt (U_lim h0)
      rw [val_lim h0] at this
      have := pw_mono hRl
      rw [pw_succ]
      omega
    have l3 : (lim (2 * R + b)).length ≤ L + 1 := by
      refine lim_len (by omega) _ ?_
      have := val_lt (U_lim h0)
      rw [val_lim h0] at this
      have := pw_mono hRl
      rw [pw_succ]
      omega
    obtain ⟨K1, c1⟩ := radd_ev (lim R) (lim R) (U_lim h0) (U_lim h0) (by omega) (by omega)
    rw [val_lim h0, show R + R = 2 * R by omega] at c1
    obtain ⟨K2, c2⟩ := radd_ev (lim (2 * R)) [1] (U_lim (by omega)) (U_single (by omega) (by omega)) (by omega) (by simp)
    rw [val_lim (by omega), show val [1] = 1 by simp] at c2
    obtain ⟨K3, c3⟩ := rsub_ev (lim (2 * R + b)) (lim D) (U_lim (by omega)) (U_lim hD0) (by omega) (by omega)
    rw [val_lim (by omega), val_lim hD0] at c3
    -- the step behind the bit
    have hj : ∃ K, ∀ k, K ≤ k → pelorusref01_Div.j1 k a (lim D) q (lim (2 * R + b)) (n : Int) = some (lim (val a / D), lim (val a % D), true) := by
      by_cases hlt : 2 * R + b < D
      · obtain ⟨K4, c4⟩ := ih q (2 * R + b) (2 * Q) (by omega) hq hql (by omega) hlt (by rw [hv, p2_succ]; grind) (by rw [hva]; grind)
        refine ⟨K3 + K4 + 1, fun k hk => ?_⟩
        obtain ⟨k, rfl⟩ : ∃ m, k = m + 1 := ⟨k - 1, by omega⟩
        simp only [pelorusref01_Div.j1]
        rw [c3 k (by omega), Option.bind_some, if_pos hlt]
        simp only [Bool.false_eq_true, if_false]
        rw [w64 (by omega) (by omega)]
        exact c4 k (by omega)
      · obtain ⟨q', ⟨K5, c5⟩, hq', hv', hl'⟩ := rset_ev q n hq (by omega) (by omega) hqbit
        obtain ⟨K4, c4⟩ := ih q' (2 * R + b - D) (2 * Q + 1) (by omega) hq' (by omega) (by omega) (by omega) (by rw [hv', hv, p2_succ]; grind) (by rw [hva]; grind)
        refine ⟨K3 + K4 + K5 + 1, fun k hk => ?_⟩
        obtain ⟨k, rfl⟩ : ∃ m, k = m + 1 := ⟨k - 1, by omega⟩
        simp only [pelorusref01_Div.j1]
        rw [c3 k (by omega), Option.bind_some, if_neg hlt]
        simp only [if_true]
        rw [c5 k (by omega), Option.bind_some, w64 (by omega) (by omega)]
        exact c4 k (by omega)
    obtain ⟨K6, c6⟩ := hj
    refine ⟨K1 + K2 + K6 + 1, fun k hk => ?_⟩
    obtain ⟨k, rfl⟩ : ∃ m, k = m + 1 := ⟨k - 1, by omega⟩
    have e : ((n + 1 : Nat) : Int) - 1 = (n : Int) := by omega
    simp only [pelorusref01_Div.l0, e]
    rw [if_pos (by omega), c1 k (by omega), Option.bind_some, rbit_eq a ha n (by omega), Option.bind_some, ← hb]
    rcases (show b = 0 ∨ b = 1 by omega) with hb0 | hb1
    · rw [hb0] at c6 ⊢
      rw [if_neg (by decide)]
      rw [Int.add_zero] at c6
      exact c6 k (by omega)
    · rw [hb1] at c6 ⊢
      rw [if_pos (by decide), c2 k (by omega), Option.bind_some]
      exact c6 k (by omega)
theorem rdiv_ev (a b : List Int) (ha : U a) (hb : U b) (hla : a.length ≤ 134217728) (hlb : b.length ≤ 134217728) :
    ∃ K, ∀ k, K ≤ k → pelorusref01_Div.f k a b = some (if val b = 0 then ([], [], false) else (lim (val a / val b), lim (val a % val b), true)) := by
  have na := val_nonneg ha
  have nb := val_nonneg hb
  have lb := lim_len nb b.length (val_lt hb)
  obtain ⟨K1, h1⟩ := rtrim_ev b hb (by omega)
  by_cases c0 : val b = 0
  · refine ⟨K1, fun k hk => ?_⟩
    unfold pelorusref01_Div.f
    rw [h1 k hk, Option.bind_some, c0, lim_zero, if_pos (by simp), if_pos rfl]
  · have hne : ((lim (val b)).length : Int) ≠ 0 := fun h => c0 ((lim_nil_iff nb).1 (by omega))
    obtain ⟨K2, h2⟩ := rlen_ev a ha (by omega)
    have hb1 := bl_nonneg (val a)
    have hb2 := bl_le (n := val a) (m := 32 * a.length) (by rw [← p2_limb]; exact val_lt ha)
    obtain ⟨n, hn⟩ : ∃ n : Nat, bl (val a) = (n : Int) := ⟨(bl (val a)).toNat, by omega⟩
    have hlt := bl_lt na
    rw [hn, Int.toNat_natCast] at hlt
    obtain ⟨K3, h3⟩ := rdiv_l0 a (val b) ha (by omega) (max a.length b.length) (by omega) (by omega) (by omega) n [] 0 0 (by omega) U_nil (by simp) (by omega) (by omega) (by simp) (by rw [Int.ediv_eq_zero_of_lt na hlt]; simp)
    rw [lim_zero] at h3
    refine ⟨K1 + K2 + K3, fun k hk => ?_⟩
    unfold pelorusref01_Div.f
    rw [h1 k (by omega), Option.bind_some, if_neg hne, h2 k (by omega), Option.bind_some, hn, w64 (by omega) (by omega), if_neg c0]
    exact h3 k (by omega)
/-! roots, bit by bit -/
theorem sq_mono {a b : Int} (ha : 0 ≤ a) (h : a ≤ b) : a * a ≤ b * b := Int.mul_le_mul h h ha (by omega)
end Go.Proofs.Ytbejmpocgnldnaa.T
