/- What the functions of package nat answer (third part: products, moves by bits). -/
import Derived.Test.YtbejmpocgnldnaaPZx1
import Derived.Test.YtbejmpocgnldnaaT3
namespace Go.Proofs.Ytbejmpocgnldnaa.T
set_option linter.unusedVariables false
set_option linter.unusedSimpArgs false
open Go.RowKit Go.Proofs.YtbejmpocgnldnaaW.PrintWords Go.Proofs.YtbejmpocgnldnaaW.PrintMore Go.Proofs.Ytbejmpocgnldnaa.PZ

theorem mul_bound {x y : Int} (hx : 0 ≤ x ∧ x < 4294967296) (hy : 0 ≤ y ∧ y < 4294967296) : 0 ≤ x * y ∧ x * y ≤ 18446744065119617025 := by
  refine ⟨Int.mul_nonneg hx.1 hy.1, ?_⟩
  have h1 := Int.mul_le_mul (a := x) (b := y) (c := 4294967295) (d := 4294967295) (by omega) (by omega) hy.1 (by omega)
  omega
theorem step_mul {V P Q x y old c r q W S : Int} (e : r + 4294967296 * q = x * y + old + c) : V + P * Q * (r - old) + 4294967296 * (P * Q) * q + P * x * (W - (S + Q * y)) = V + P * Q * c + P * x * (W - S) := by
  have h : P * Q * (r + 4294967296 * q) = P * Q * (x * y + old + c) := by rw [e]
  grind
theorem mul_l1 (a b : List Int) (hb : U b) (i : Nat) (x : Int) (hx : 0 ≤ x ∧ x < 4294967296) (hi : i < 1073741824) (hlb : b.length ≤ 1073741824) (d : Nat) :
    ∀ (j : Nat) (o : List Int) (c : Int), j ≤ b.length → b.length - j = d → U o → i + b.length < o.length → 0 ≤ c ∧ c < 4294967296 → o.getD (i + b.length) 0 = 0 →
      ∃ o', U o' ∧ o'.length = o.length ∧ (∀ q, i + b.length < q → o'.getD q 0 = o.getD q 0) ∧ val o' = val o + pw (i + j) * c + pw i * x * (val b - val (b.take j)) ∧
        ∀ f, nat_Mul.l1 (f + d + 1) b o (i : Int) x c a (a.length : Int) (i : Int) b (b.length : Int) (j : Int) = nat_Mul.l0 f b o' a (a.length : Int) ((i + 1 : Nat) : Int) := by
  induction d with
  | zero =>
    intro j o c hj hd ho hol hc hz
    obtain rfl : j = b.length := by omega
    refine ⟨o.set (i + b.length) c, U_set ho _ hc.1 hc.2, by simp, fun q hq => getD_set_ne (by omega) c, ?_, fun f => ?_⟩
    · rw [val_set hol, hz, List.take_length]
      grind
    · simp only [nat_Mul.l1, w64_add (show i + b.length < 9223372036854775808 by omega), Int.toNat_natCast, w64_succ (show i < 4611686018427387904 by omega)]
      rw [if_neg (by omega), if_pos (by omega), if_pos (by omega), Int.emod_eq_of_lt hc.1 hc.2]
  | succ d ih =>
    intro j o c hj hd ho hol hc hz
    have hbj := U_getD hb j
    have hoj := U_getD ho (i + j)
    have hm := mul_bound hx hbj
    obtain ⟨n, hn⟩ : ∃ n, n = x * b.getD j 0 + o.getD (i + j) 0 + c := ⟨_, rfl⟩
    obtain ⟨o', h1, h2, h3, h4, h5⟩ := ih (j + 1) (o.set (i + j) (n % 4294967296)) (n / 4294967296) (by omega) (by omega) (U_set ho _ (by omega) (by omega)) (by simpa using hol) (by omega) (by rw [getD_set_ne (by omega)]; exact hz)
    refine ⟨o', h1, by simpa using h2, fun q hq => (h3 q hq).trans (getD_set_ne (by omega) _), ?_, fun f => ?_⟩
    · rw [h4, val_set (by omega), val_take_succ', show i + (j + 1) = (i + j) + 1 by omega, pw_succ, pw_add]
      exact step_mul (by rw [← hn]; exact Int.emod_add_mul_ediv n 4294967296)
    · rw [← h5 f]
      simp only [nat_Mul.l1, w64_add (show i + j < 9223372036854775808 by omega), Int.toNat_natCast, rd_eq, w64_succ (show j < 4611686018427387904 by omega), u64w hx.1 (show x < 18446744073709551616 by omega), u64w hbj.1 (show b.getD j 0 < 18446744073709551616 by omega), u64w hoj.1 (show o.getD (i + j) 0 < 18446744073709551616 by omega), u64w hm.1 (show x * b.getD j 0 < 18446744073709551616 by omega), u64w (show 0 ≤ x * b.getD j 0 + o.getD (i + j) 0 by omega) (show x * b.getD j 0 + o.getD (i + j) 0 < 18446744073709551616 by omega), ← hn, u64w (show 0 ≤ n by omega) (show n < 18446744073709551616 by omega)]
      rw [if_pos (by omega), if_pos (by omega), if_pos (by omega), if_pos (by omega), if_pos (by omega)]
      rfl
theorem mul_l0 (a b : List Int) (ha : U a) (hb : U b) (hl : a.length + b.length ≤ 1073741824) (d : Nat) :
    ∀ (i : Nat) (o : List Int), i ≤ a.length → a.length - i = d → U o → o.length = a.length + b.length → (∀ q, i + b.length ≤ q → o.getD q 0 = 0) → val o = val (a.take i) * val b →
      ∃ K, ∀ k, K ≤ k → nat_Mul.l0 k b o a (a.length : Int) (i : Int) = some (lim (val a * val b)) := by
  induction d with
  | zero =>
    intro i o hi hd ho hol hz hv
    obtain rfl : i = a.length := by omega
    obtain ⟨K, hK⟩ := cuto_ev o ho (by omega)
    rw [hv, List.take_length] at hK
    refine ⟨K + 1, fun k hk => ?_⟩
    obtain ⟨k, rfl⟩ : ∃ m, k = m + 1 := ⟨k - 1, by omega⟩
    simp only [nat_Mul.l0]
    rw [if_neg (by omega), hK k (by omega), Option.bind_some]
  | succ d ih =>
    intro i o hi hd ho hol hz hv
    obtain ⟨o', h1, h2, h3, h4, h5⟩ := mul_l1 a b hb i (a.getD i 0) (U_getD ha i) (by omega) (by omega) _ 0 o 0 (by omega) rfl ho (by omega) (by omega) (hz _ (by omega))
    have hv' : val o' = val (a.take (i + 1)) * val b := by
      rw [h4, hv, val_take_succ', List.take_zero, val_nil]
      grind
    obtain ⟨K, hK⟩ := ih (i + 1) o' (by omega) (by omega) h1 (by omega) (fun q hq => by rw [h3 q (by omega)]; exact hz q (by omega)) hv'
    refine ⟨K + (b.length + 1) + 1, fun k hk => ?_⟩
    obtain ⟨k, rfl⟩ : ∃ m, k = (m + b.length + 1) + 1 := ⟨k - b.length - 2, by omega⟩
    have h6 := h5 k
    simp only [nat_Mul.l0, rd_eq, Int.toNat_natCast]
    rw [if_pos (by omega), if_pos (by omega), if_pos (by omega)]
    simp only [Nat.sub_zero] at h6
    exact h6.trans (hK k (by omega))
theorem mul_ev (a b : List Int) (ha : U a) (hb : U b) (hl : a.length + b.length ≤ 1073741824) : ∃ K, ∀ k, K ≤ k → nat_Mul.f k a b = some (lim (val a * val b)) := by
  obtain ⟨K, hK⟩ := mul_l0 a b ha hb hl _ 0 (List.replicate (a.length + b.length) 0) (by omega) rfl (U_replicate _) (by simp) (fun q _ => by
    rw [List.getD_eq_getElem?_getD, List.getElem?_replicate]
    split <;> rfl) (by rw [val_replicate, List.take_zero, val_nil, Int.zero_mul])
  refine ⟨K, fun k hk => ?_⟩
  unfold nat_Mul.f
  simp only [w64_add (show a.length + b.length < 9223372036854775808 by omega), Int.toNat_natCast]
  rw [if_pos (by omega), if_pos (by omega)]
  exact hK k hk

/-! moves by bits -/
theorem shl_eq {x : Int} {s : Nat} (h0 : 0 ≤ x) (hs : s ≤ 32) (h1 : x < 4294967296) : shl .u64 x (s : Int) = x * 2 ^ s ∧ 0 ≤ x * 2 ^ s ∧ x * 2 ^ s < 18446744073709551616 := by
  have hp := p2_pos s
  have hm := p2_mono hs
  have h2 := Int.mul_nonneg h0 (show (0 : Int) ≤ 2 ^ s by omega)
  have h3 := Int.mul_le_mul (a := x) (b := 2 ^ s) (c := 4294967295) (d := 2 ^ 32) (by omega) hm (by omega) (by omega)
  have e : (4294967295 : Int) * 2 ^ 32 = 18446744069414584320 := by decide
  have h4 : x * 2 ^ s < 18446744073709551616 := by omega
  refine ⟨?_, h2, h4⟩
  unfold shl
  have hmn : min (s : Int).toNat IntKind.u64.bits = s := by
    have : IntKind.u64.bits = 64 := rfl
    rw [this, Int.toNat_natCast]
    omega
  rw [hmn, u64w h2 h4]
theorem or_low {i : Nat} {s m : Int} (hi : i ≤ 32) (h0 : 0 ≤ s) (h1 : s < 2 ^ i) (hm0 : 0 ≤ m) (hm1 : m < 4294967296) (hm : m % 2 ^ i = 0) : Go.bits .or .u32 s m = s + m := by
  have h2 : s < 2 ^ 32 := Int.lt_of_lt_of_le h1 (p2_mono hi)
  rw [bits_or_comm, bits_join .u32 32 (by decide) wraps_u32 i m s hm0 hm hm1 h0 h1 h2, Int.add_comm]
theorem or_zero {m : Int} (hm0 : 0 ≤ m) (hm1 : m < 4294967296) : Go.bits .or .u32 0 m = m := by
  have := bits_join .u32 32 (by decide) wraps_u32 32 0 m (by decide) (by decide) (by decide) hm0 hm1 hm1
  omega
theorem mod_mod_p2 {x : Int} {s : Nat} (hs : s ≤ 32) : (x * 2 ^ s) % 4294967296 % 2 ^ s = 0 := by
  have e : (4294967296 : Int) = 2 ^ s * 2 ^ (32 - s) := by rw [← p2_add, show s + (32 - s) = 32 by omega]; rfl
  rw [e, Int.emod_emod_of_dvd _ (Int.dvd_mul_right _ _), Int.mul_emod_left]
theorem div_p2_lt {x : Int} {s : Nat} (hs : s ≤ 32) (h0 : 0 ≤ x) (h1 : x < 4294967296) : x * 2 ^ s / 4294967296 < 2 ^ s := by
  have hp := p2_pos s
  rw [Int.ediv_lt_iff_lt_mul (by decide), Int.mul_comm]
  exact Int.mul_lt_mul_of_pos_left h1 hp
theorem step_shl {V P y q r a A T : Int} (e : r + 4294967296 * q = y) (hy : y = a * T) {L i : Int} (hP : P = L * i) (hV : V = L * T * A) : V + P * r + 4294967296 * P * q = L * T * (A + i * a) := by
  have h : P * (r + 4294967296 * q) = P * y := by rw [e]
  subst hP hy hV
  grind
theorem shl_l0 (a : List Int) (ha : U a) (L s : Nat) (hs : s < 32) (hl : a.length + L + 1 ≤ 1073741824) (d : Nat) :
    ∀ (i : Nat) (o : List Int), i ≤ a.length → a.length - i = d → U o → o.length = a.length + L + 1 → o.getD (i + L) 0 < 2 ^ s → (∀ q, i + L < q → o.getD q 0 = 0) → val o = pw L * 2 ^ s * val (a.take i) →
      ∃ K, ∀ k, K ≤ k → nat_Shl.l0 k (L : Int) (s : Int) o a (a.length : Int) (i : Int) = some (lim (val a * 2 ^ (32 * L + s))) := by
  induction d with
  | zero =>
    intro i o hi hd ho hol hsm hz hv
    obtain rfl : i = a.length := by omega
    obtain ⟨K, hK⟩ := cuto_ev o ho (by omega)
    rw [hv, List.take_length, p2_limb, ← p2_add, Int.mul_comm] at hK
    refine ⟨K + 1, fun k hk => ?_⟩
    obtain ⟨k, rfl⟩ : ∃ m, k = m + 1 := ⟨k - 1, by omega⟩
    simp only [nat_Shl.l0]
    rw [if_neg (by omega), hK k (by omega), Option.bind_some]
  | succ d ih =>
    intro i o hi hd ho hol hsm hz hv
    have hai := U_getD ha i
    have hoi := U_getD ho (i + L)
    obtain ⟨hsh, hy0, hy1⟩ := shl_eq hai.1 (show s ≤ 32 by omega) hai.2
    have hq := div_p2_lt (show s ≤ 32 by omega) hai.1 hai.2
    have hmm := mod_mod_p2 (x := a.getD i 0) (show s ≤ 32 by omega)
    obtain ⟨y, hy⟩ : ∃ y, y = a.getD i 0 * 2 ^ s := ⟨_, rfl⟩
    rw [← hy] at hsh hy0 hy1 hq hmm
    have hor := or_low (show s ≤ 32 by omega) hoi.1 hsm (show 0 ≤ y % 4294967296 by omega) (by omega) hmm
    have h32 := p2_mono (show s ≤ 32 by omega)
    have e32 : (2 : Int) ^ 32 = 4294967296 := rfl
    have hrange : o.getD (i + L) 0 + y % 4294967296 < 4294967296 := by
      have e : (4294967296 : Int) = 2 ^ s * 2 ^ (32 - s) := by rw [← p2_add, show s + (32 - s) = 32 by omega]; rfl
      have hp := p2_pos s
      have hd1 := Int.mul_ediv_add_emod (y % 4294967296) (2 ^ s)
      rw [hmm] at hd1
      have hlt : 2 ^ s * (y % 4294967296 / 2 ^ s) < 2 ^ s * 2 ^ (32 - s) := by omega
      have hlt2 := Int.lt_of_mul_lt_mul_left hlt (by omega)
      have := Int.mul_le_mul_of_nonneg_left (show y % 4294967296 / 2 ^ s + 1 ≤ 2 ^ (32 - s) by omega) (show (0 : Int) ≤ 2 ^ s by omega)
      rw [Int.mul_add] at this
      omega
    have hz1 : (o.set (i + L) (o.getD (i + L) 0 + y % 4294967296)).getD (i + L + 1) 0 = 0 := by rw [getD_set_ne (by omega)]; exact hz _ (by omega)
    have hor2 := or_zero (m := y / 4294967296) (by omega) (by omega)
    have hqm : y / 4294967296 % 4294967296 = y / 4294967296 := by omega
    obtain ⟨K, hK⟩ := ih (i + 1) ((o.set (i + L) (o.getD (i + L) 0 + y % 4294967296)).set (i + L + 1) (y / 4294967296)) (by omega) (by omega)
      (U_set (U_set ho _ (by omega) hrange) _ (by omega) (by omega)) (by simpa using hol)
      (by rw [show i + 1 + L = i + L + 1 by omega, getD_set_self (by simp; omega)]; exact hq)
      (fun q hq => by rw [getD_set_ne (by omega), getD_set_ne (by omega)]; exact hz _ (by omega))
      (by
        rw [val_set (by simp; omega), hz1, val_set (by omega), val_take_succ', pw_succ]
        rw [show o.getD (i + L) 0 + y % 4294967296 - o.getD (i + L) 0 = y % 4294967296 by omega, Int.sub_zero]
        exact step_shl (Int.emod_add_mul_ediv y 4294967296) hy (by rw [Nat.add_comm, pw_add]) hv)
    refine ⟨K + 1, fun k hk => ?_⟩
    obtain ⟨k, rfl⟩ : ∃ m, k = m + 1 := ⟨k - 1, by omega⟩
    simp only [nat_Shl.l0, w64_add (show i + L < 9223372036854775808 by omega), w64_succ (show i + L < 4611686018427387904 by omega), w64_succ (show i < 4611686018427387904 by omega), Int.toNat_natCast, rd_eq, u64w hai.1 (show a.getD i 0 < 18446744073709551616 by omega), hsh, hor, Option.bind_some]
    simp only [hz1, hor2, hqm]
    rw [if_pos (by omega), if_pos (by omega), if_pos (by omega), if_pos (by omega), if_pos (by omega), if_pos (by omega), if_pos (by omega), if_pos (by omega)]
    exact hK k (by omega)
/-- A number moved up. -/
def shlv (v n : Int) : Int := if n < 1 then v else if n > 16777216 then 0 else v * 2 ^ n.toNat
theorem shl_ev (a : List Int) (n : Int) (ha : U a) (hl : a.length ≤ 536870912) : ∃ K, ∀ k, K ≤ k → nat_Shl.f k a n = some (lim (shlv (val a) n)) := by
  have na := val_nonneg ha
  have la := lim_len na a.length (val_lt ha)
  obtain ⟨K1, h1⟩ := cut_ev a ha (by omega)
  unfold shlv nat_Shl.f
  by_cases c1 : n < 1
  · refine ⟨K1, fun k hk => ?_⟩
    rw [h1 k hk, Option.bind_some, if_pos c1, if_pos c1, clone_eq _ (by omega), Option.bind_some]
  · by_cases c2 : n > 16777216
    · refine ⟨K1, fun k hk => ?_⟩
      rw [h1 k hk, Option.bind_some, if_neg c1, if_neg c1, if_pos c2, if_pos c2, lim_zero]
    · by_cases c3 : val a = 0
      · refine ⟨K1, fun k hk => ?_⟩
        rw [h1 k hk, Option.bind_some, if_neg c1, if_neg c1, if_neg c2, if_neg c2, c3, lim_zero, Int.zero_mul, lim_zero]
        rfl
      · obtain ⟨m, rfl⟩ : ∃ m : Nat, n = m := ⟨n.toNat, by omega⟩
        obtain ⟨K, hK⟩ := shl_l0 (lim (val a)) (U_lim na) (m / 32) (m % 32) (by omega) (by omega) _ 0 (List.replicate ((lim (val a)).length + m / 32 + 1) 0) (by omega) rfl (U_replicate _) (by simp)
          (by
            have := p2_pos (m % 32)
            rw [List.getD_eq_getElem?_getD, List.getElem?_replicate]
            split <;> exact this)
          (fun q _ => by
            rw [List.getD_eq_getElem?_getD, List.getElem?_replicate]
            split <;> rfl)
          (by rw [val_replicate, List.take_zero, val_nil, Int.mul_zero])
        refine ⟨K1 + K, fun k hk => ?_⟩
        have h2 := hK k (by omega)
        rw [val_lim na, show 32 * (m / 32) + m % 32 = m by omega] at h2
        have hne : ((lim (val a)).length : Int) ≠ 0 := fun h => c3 ((lim_nil_iff na).1 (by omega))
        rw [h1 k (by omega), Option.bind_some, if_neg c1, if_neg c1, if_neg c2, if_neg c2, if_neg hne]
        simp only [Int.tdiv_eq_ediv_of_nonneg (show (0 : Int) ≤ (m : Int) by omega), Int.tmod_eq_emod_of_nonneg (show (0 : Int) ≤ (m : Int) by omega), show (m : Int) / 32 = ((m / 32 : Nat) : Int) by omega, show (m : Int) % 32 = ((m % 32 : Nat) : Int) by omega, w64_nat (show m / 32 < 9223372036854775808 by omega), w64_add (show (lim (val a)).length + m / 32 < 9223372036854775808 by omega), w64_succ (show (lim (val a)).length + m / 32 < 4611686018427387904 by omega), Int.toNat_natCast]
        rw [if_pos (by omega), if_pos (by omega)]
        exact h2

theorem val_div {l : List Int} (h : U l) {i : Nat} (hi : i ≤ l.length) : val l / pw i = val (l.drop i) := by
  have e := val_split l i hi
  have h1 := val_lt (U_take h i)
  have h2 := val_nonneg (U_take h i)
  rw [List.length_take, Nat.min_eq_left hi] at h1
  have hp := pw_pos i
  have key : ∀ (A p t : Int), 0 ≤ A → A < p → 0 < p → (A + p * t) / p = t := fun A p t a1 a2 a3 => by
    rw [Int.add_mul_ediv_left _ _ (by omega), Int.ediv_eq_zero_of_lt a1 a2]
    omega
  have e5 := key _ _ (val (l.drop i)) h2 h1 hp
  rw [← e] at e5
  exact e5
theorem val_drop' (l : List Int) (i : Nat) : val (l.drop i) = l.getD i 0 + 4294967296 * val (l.drop (i + 1)) := by
  by_cases h : i < l.length
  · exact val_drop h
  · rw [List.drop_of_length_le (by omega), List.drop_of_length_le (by omega), getD_out l i (by omega)]
    rfl
theorem digit {x0 x1 R : Int} {s : Nat} (hs : s ≤ 32) : (x0 + 4294967296 * (x1 + 4294967296 * R)) / 2 ^ s % 4294967296 = (x0 + x1 * 4294967296) / 2 ^ s % 4294967296 := by
  have e : (4294967296 : Int) = 2 ^ s * 2 ^ (32 - s) := by rw [← p2_add, show s + (32 - s) = 32 by omega]; rfl
  have hp := p2_pos s
  have e2 : x0 + 4294967296 * (x1 + 4294967296 * R) = (x0 + x1 * 4294967296) + 2 ^ s * (4294967296 * (2 ^ (32 - s) * R)) := by
    have : 4294967296 * (4294967296 * R) = 4294967296 * (2 ^ s * 2 ^ (32 - s) * R) := by rw [← e]
    grind
  rw [e2, Int.add_mul_ediv_left _ _ (by omega), Int.add_mul_emod_self_left]
theorem emod_succ (X P : Int) (hP : 0 < P) : X % (4294967296 * P) = X % P + P * (X / P % 4294967296) := by
  have e1 := Int.mul_ediv_add_emod X P
  have e2 := Int.mul_ediv_add_emod (X / P) 4294967296
  have b1 := Int.emod_nonneg X (b := P) (by omega)
  have b2 := Int.emod_lt_of_pos X hP
  have b3 : 0 ≤ X / P % 4294967296 := by omega
  have b4 : X / P % 4294967296 ≤ 4294967295 := by omega
  have e3 : X = (X % P + P * (X / P % 4294967296)) + 4294967296 * P * (X / P / 4294967296) := by
    have : P * (4294967296 * (X / P / 4294967296) + X / P % 4294967296) = P * (X / P) := by rw [e2]
    grind
  have b5 := Int.mul_nonneg (show 0 ≤ P by omega) b3
  have b6 := Int.mul_le_mul_of_nonneg_left b4 (show 0 ≤ P by omega)
  conv => lhs; rw [e3]
  rw [Int.add_mul_emod_self_left, Int.emod_eq_of_lt (by omega) (by omega)]
theorem shr_eq {x : Int} {s : Nat} (hs : s ≤ 64) : shr .u64 x (s : Int) = x / 2 ^ s := by
  unfold shr
  have hmn : min (s : Int).toNat IntKind.u64.bits = s := by
    have : IntKind.u64.bits = 64 := rfl
    rw [this, Int.toNat_natCast]
    omega
  rw [hmn]
theorem getD_drop (l : List Int) (L i : Nat) : (l.drop L).getD i 0 = l.getD (L + i) 0 := by
  rw [List.getD_eq_getElem?_getD, List.getElem?_drop, List.getD_eq_getElem?_getD]
/-- A limb of a number that is moved down. -/
theorem shr_digit {d : List Int} (hd : U d) {i : Nat} (hi : i ≤ d.length) {s : Nat} (hs : s ≤ 32) : val d / 2 ^ s / pw i % 4294967296 = (d.getD i 0 + d.getD (i + 1) 0 * 4294967296) / 2 ^ s % 4294967296 := by
  rw [Int.ediv_ediv_of_nonneg (show (0 : Int) ≤ 2 ^ s by have := p2_pos s; omega), Int.mul_comm, ← Int.ediv_ediv_of_nonneg (by have := pw_pos i; omega), val_div hd hi, val_drop', val_drop', digit hs]
theorem shr_l0 (a : List Int) (ha : U a) (L s : Nat) (hs : s < 32) (hL : L ≤ a.length) (hl : a.length ≤ 1073741824) (d : Nat) :
    ∀ (i : Nat) (o : List Int), i ≤ a.length - L → a.length - L - i = d → U o → o.length = a.length - L → val (o.take i) = val (a.drop L) / 2 ^ s % pw i →
      ∃ K, ∀ k, K ≤ k → nat_Shr.l0 k a (L : Int) (s : Int) o ((a.length - L : Nat) : Int) (i : Int) = some (lim (val (a.drop L) / 2 ^ s)) := by
  have hdl : (a.drop L).length = a.length - L := List.length_drop
  induction d with
  | zero =>
    intro i o hi hd ho hol hv
    obtain rfl : i = a.length - L := by omega
    obtain ⟨K, hK⟩ := cuto_ev o ho (by omega)
    have hlt := val_lt (U_drop ha L)
    have h0 := val_nonneg (U_drop ha L)
    have hp := p2_pos s
    have hle := Int.ediv_le_self (b := 2 ^ s) h0
    have hge := Int.ediv_nonneg h0 (show (0 : Int) ≤ 2 ^ s by omega)
    rw [hdl] at hlt
    rw [Int.emod_eq_of_lt hge (by omega), take_out o _ (by omega)] at hv
    rw [hv] at hK
    refine ⟨K + 1, fun k hk => ?_⟩
    obtain ⟨k, rfl⟩ : ∃ m, k = m + 1 := ⟨k - 1, by omega⟩
    simp only [nat_Shr.l0]
    rw [if_neg (by omega), hK k (by omega), Option.bind_some]
  | succ d ih =>
    intro i o hi hd ho hol hv
    have hai := U_getD ha (i + L)
    have hbi := U_getD ha (i + L + 1)
    have hdig := shr_digit (U_drop ha L) (i := i) (by omega) (show s ≤ 32 by omega)
    rw [getD_drop, getD_drop, show L + i = i + L by omega, show L + (i + 1) = i + L + 1 by omega] at hdig
    obtain ⟨z, hz⟩ : ∃ z, z = (a.getD (i + L) 0 + a.getD (i + L + 1) 0 * 4294967296) / 2 ^ s % 4294967296 := ⟨_, rfl⟩
    have hz0 : 0 ≤ z ∧ z < 4294967296 := by omega
    obtain ⟨K, hK⟩ := ih (i + 1) (o.set i z) (by omega) (by omega) (U_set ho _ hz0.1 hz0.2) (by simpa using hol)
      (by rw [val_set_take (by omega), hv, pw_succ, emod_succ _ _ (pw_pos i), hdig, hz])
    refine ⟨K + 1, fun k hk => ?_⟩
    obtain ⟨k, rfl⟩ : ∃ m, k = m + 1 := ⟨k - 1, by omega⟩
    have hor := bits_join .u64 64 (by decide) wraps_u64 32 (a.getD (i + L + 1) 0 * 4294967296) (a.getD (i + L) 0) (by omega) (by omega) (by have : (2 : Int) ^ 64 = 18446744073709551616 := rfl; omega) hai.1 (by have : (2 : Int) ^ 32 = 4294967296 := rfl; omega) (by have : (2 : Int) ^ 64 = 18446744073709551616 := rfl; omega)
    rw [bits_or_comm, Int.add_comm] at hor
    simp only [nat_Shr.l0, w64_add (show i + L < 9223372036854775808 by omega), w64_succ (show i + L < 4611686018427387904 by omega), w64_succ (show i < 4611686018427387904 by omega), Int.toNat_natCast, rd_eq, u64w hai.1 (show a.getD (i + L) 0 < 18446744073709551616 by omega), u64w hbi.1 (show a.getD (i + L + 1) 0 < 18446744073709551616 by omega), u64w (show 0 ≤ a.getD (i + L + 1) 0 * 4294967296 by omega) (show a.getD (i + L + 1) 0 * 4294967296 < 18446744073709551616 by omega), hor, shr_eq (show s ≤ 64 by omega)]
    rw [if_pos (by omega), if_pos (by omega), if_pos (by omega)]
    by_cases hb : i + L + 1 < a.length
    · rw [if_pos (by omega), if_pos (by omega), if_pos (by omega), if_pos (by omega), if_pos (by omega), ← hz]
      exact hK k (by omega)
    · rw [getD_out a (i + L + 1) (by omega), Int.zero_mul, Int.add_zero] at hz
      rw [if_neg (by omega), if_pos (by omega), if_pos (by omega), if_pos (by omega), ← hz]
      exact hK k (by omega)
/-- A number moved down. -/
def shrv (v n : Int) : Int := if n < 1 then v else v / 2 ^ n.toNat
theorem shr_ev (a : List Int) (n : Int) (ha : U a) (hl : a.length ≤ 1073741824) : ∃ K, ∀ k, K ≤ k → nat_Shr.f k a n = some (lim (shrv (val a) n)) := by
  have na := val_nonneg ha
  have la := lim_len na a.length (val_lt ha)
  obtain ⟨K1, h1⟩ := cut_ev a ha (by omega)
  unfold shrv nat_Shr.f
  by_cases c1 : n < 1
  · refine ⟨K1, fun k hk => ?_⟩
    rw [h1 k hk, Option.bind_some, if_pos c1, if_pos c1, clone_eq _ (by omega), Option.bind_some]
  · obtain ⟨m, rfl⟩ : ∃ m : Nat, n = m := ⟨n.toNat, by omega⟩
    have hw : wrap64 (32 * ((lim (val a)).length : Int)) = 32 * ((lim (val a)).length : Int) := w64 (by omega) (by omega)
    by_cases c2 : m ≥ 32 * (lim (val a)).length
    · have hlt := val_lt (U_lim na)
      rw [val_lim na, p2_limb] at hlt
      have hm := p2_mono c2
      refine ⟨K1, fun k hk => ?_⟩
      rw [h1 k hk, Option.bind_some, if_neg c1, if_neg c1, hw, if_pos (by omega), Int.toNat_natCast, Int.ediv_eq_zero_of_lt na (by omega), lim_zero]
    · have hL : m / 32 ≤ (lim (val a)).length := by omega
      obtain ⟨K, hK⟩ := shr_l0 (lim (val a)) (U_lim na) (m / 32) (m % 32) (by omega) hL (by omega) _ 0 (List.replicate ((lim (val a)).length - m / 32) 0) (by omega) rfl (U_replicate _) (by simp)
        (by rw [List.take_zero, val_nil, pw_zero, Int.emod_one])
      refine ⟨K1 + K, fun k hk => ?_⟩
      have h2 := hK k (by omega)
      rw [← val_div (U_lim na) hL, val_lim na, p2_limb, Int.ediv_ediv_of_nonneg (show (0 : Int) ≤ 2 ^ (32 * (m / 32)) by have := p2_pos (32 * (m / 32)); omega), ← p2_add, show 32 * (m / 32) + m % 32 = m by omega] at h2
      rw [h1 k (by omega), Option.bind_some, if_neg c1, if_neg c1, hw, if_neg (by omega), Int.toNat_natCast]
      simp only [Int.tdiv_eq_ediv_of_nonneg (show (0 : Int) ≤ (m : Int) by omega), Int.tmod_eq_emod_of_nonneg (show (0 : Int) ≤ (m : Int) by omega), show (m : Int) / 32 = ((m / 32 : Nat) : Int) by omega, show (m : Int) % 32 = ((m % 32 : Nat) : Int) by omega, w64_nat (show m / 32 < 9223372036854775808 by omega), w64_sub hL (show (lim (val a)).length < 9223372036854775808 by omega), Int.toNat_natCast, Option.bind_some, List.length_replicate]
      rw [if_pos (by omega), if_pos (by omega)]
      exact h2
end Go.Proofs.Ytbejmpocgnldnaa.T
