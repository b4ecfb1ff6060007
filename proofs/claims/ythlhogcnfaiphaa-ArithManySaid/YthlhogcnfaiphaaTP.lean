/- Plain laws of values, bits and moves (those of T2 to TA that need no function of the program). -/
import Derived.Test.YthlhogcnfaiphaaT1
import Derived.Test.YthlhogcnfaiphaaVMore
namespace Go.Proofs.Ythlhogcnfaiphaa.T
set_option linter.unusedVariables false
set_option linter.unusedSimpArgs false
open Go.RowKit Go.Proofs.YthlhogcnfaiphaaW.PrintWords Go.Proofs.YthlhogcnfaiphaaW.PrintMore

/-- -1, 0 or 1. -/
def sgn (x : Int) : Int := if x < 0 then -1 else if 0 < x then 1 else 0
theorem sgn_neg {x : Int} (h : x < 0) : sgn x = -1 := by simp [sgn, h]
theorem sgn_pos {x : Int} (h : 0 < x) : sgn x = 1 := by unfold sgn; rw [if_neg (by omega), if_pos h]
theorem sgn_zero : sgn 0 = 0 := rfl
/-- How many bits a number has. -/
def bl (n : Int) : Int := if n ≤ 0 then 0 else (Nat.log2 n.toNat : Int) + 1
theorem bl_zero : bl 0 = 0 := rfl
theorem p2_pos (i : Nat) : (0 : Int) < 2 ^ i := Int.pow_pos (by decide)
theorem p2_succ (i : Nat) : (2 : Int) ^ (i + 1) = 2 * 2 ^ i := by rw [Int.pow_succ, Int.mul_comm]
theorem p2_add (i j : Nat) : (2 : Int) ^ (i + j) = 2 ^ i * 2 ^ j := Int.pow_add _ _ _
theorem p2_mono {i j : Nat} (h : i ≤ j) : (2 : Int) ^ i ≤ 2 ^ j := by
  obtain ⟨d, rfl⟩ := Nat.le.dest h
  rw [p2_add]
  have h1 := p2_pos i
  have h2 : (1 : Int) ≤ 2 ^ d := by have := p2_pos d; omega
  have := Int.mul_le_mul_of_nonneg_left h2 (c := 2 ^ i) (by omega)
  omega
theorem p2_lt {i j : Nat} (h : (2 : Int) ^ i < 2 ^ j) : i < j := by
  by_cases hq : i < j
  · exact hq
  · have := p2_mono (i := j) (j := i) (by omega)
    omega
theorem p2_limb (i : Nat) : pw i = 2 ^ (32 * i) := by
  rw [pw_eq, Int.pow_mul]
  rfl
theorem bl_pos {n : Int} (h : 0 < n) : 0 < bl n := by unfold bl; rw [if_neg (by omega)]; omega
theorem bl_nonneg (n : Int) : 0 ≤ bl n := by unfold bl; split <;> omega
theorem bl_ge {n : Int} (h : 0 < n) : (2 : Int) ^ (bl n - 1).toNat ≤ n := by
  obtain ⟨m, rfl⟩ : ∃ m : Nat, n = m := ⟨n.toNat, by omega⟩
  unfold bl
  rw [if_neg (by omega)]
  have := Nat.log2_self_le (n := m) (by omega)
  rw [Int.add_sub_cancel, Int.toNat_natCast, Int.toNat_natCast]
  exact_mod_cast this
theorem bl_lt {n : Int} (h : 0 ≤ n) : n < (2 : Int) ^ (bl n).toNat := by
  obtain ⟨m, rfl⟩ : ∃ m : Nat, n = m := ⟨n.toNat, by omega⟩
  unfold bl
  by_cases hm : m = 0
  · subst hm; decide
  · rw [if_neg (by omega)]
    have := Nat.lt_log2_self (n := m)
    have e : ((Nat.log2 (m : Int).toNat : Int) + 1).toNat = m.log2 + 1 := by rw [Int.toNat_natCast]; omega
    rw [e]
    exact_mod_cast this
theorem bl_eq {n : Int} {m : Nat} (h0 : (2 : Int) ^ m ≤ n) (h1 : n < 2 ^ (m + 1)) : bl n = (m : Int) + 1 := by
  have hp := p2_pos m
  have a := bl_ge (n := n) (by omega)
  have b := bl_lt (n := n) (by omega)
  have c := bl_pos (n := n) (by omega)
  have d := p2_lt (Int.lt_of_le_of_lt a h1)
  have e := p2_lt (Int.lt_of_le_of_lt h0 b)
  omega
theorem bl_le {n : Int} {m : Nat} (h1 : n < 2 ^ m) : bl n ≤ m := by
  by_cases h : 0 < n
  · have a := bl_ge h
    have d := p2_lt (Int.lt_of_le_of_lt a h1)
    omega
  · unfold bl; rw [if_pos (by omega)]; omega
theorem bl_shift {x : Int} (j : Nat) (h : 0 < x / 2 ^ j) : bl x = j + bl (x / 2 ^ j) := by
  have a := bl_ge h
  have b := bl_lt (n := x / 2 ^ j) (by omega)
  have c := bl_pos h
  have p := p2_pos j
  have h1 : (2 : Int) ^ (j + (bl (x / 2 ^ j) - 1).toNat) ≤ x := by
    rw [p2_add]
    have := Int.mul_le_mul_of_nonneg_left a (c := 2 ^ j) (by omega)
    have e := Int.mul_ediv_add_emod x (2 ^ j)
    have f := Int.emod_nonneg x (b := 2 ^ j) (by omega)
    omega
  have h2 : x < (2 : Int) ^ (j + (bl (x / 2 ^ j) - 1).toNat + 1) := by
    rw [show j + (bl (x / 2 ^ j) - 1).toNat + 1 = j + (bl (x / 2 ^ j)).toNat by omega, p2_add]
    have h3 : x / 2 ^ j + 1 ≤ 2 ^ (bl (x / 2 ^ j)).toNat := b
    have := Int.mul_le_mul_of_nonneg_left h3 (c := 2 ^ j) (by omega)
    have e := Int.mul_ediv_add_emod x (2 ^ j)
    have f := Int.emod_lt_of_pos x p
    rw [Int.mul_add] at this
    omega
  have := bl_eq h1 h2
  omega
def tab8 : ByteArray := ⟨#[0, 1, 2, 2, 3, 3, 3, 3, 4, 4, 4, 4, 4, 4, 4, 4, 5, 5, 5, 5, 5, 5, 5, 5, 5, 5, 5, 5, 5, 5, 5, 5, 6, 6, 6, 6, 6, 6, 6, 6, 6, 6, 6, 6, 6, 6, 6, 6, 6, 6, 6, 6, 6, 6, 6, 6, 6, 6, 6, 6, 6, 6, 6, 6, 7, 7, 7, 7, 7, 7, 7, 7, 7, 7, 7, 7, 7, 7, 7, 7, 7, 7, 7, 7, 7, 7, 7, 7, 7, 7, 7, 7, 7, 7, 7, 7, 7, 7, 7, 7, 7, 7, 7, 7, 7, 7, 7, 7, 7, 7, 7, 7, 7, 7, 7, 7, 7, 7, 7, 7, 7, 7, 7, 7, 7, 7, 7, 7, 8, 8, 8, 8, 8, 8, 8, 8, 8, 8, 8, 8, 8, 8, 8, 8, 8, 8, 8, 8, 8, 8, 8, 8, 8, 8, 8, 8, 8, 8, 8, 8, 8, 8, 8, 8, 8, 8, 8, 8, 8, 8, 8, 8, 8, 8, 8, 8, 8, 8, 8, 8, 8, 8, 8, 8, 8, 8, 8, 8, 8, 8, 8, 8, 8, 8, 8, 8, 8, 8, 8, 8, 8, 8, 8, 8, 8, 8, 8, 8, 8, 8, 8, 8, 8, 8, 8, 8, 8, 8, 8, 8, 8, 8, 8, 8, 8, 8, 8, 8, 8, 8, 8, 8, 8, 8, 8, 8, 8, 8, 8, 8, 8, 8, 8, 8, 8, 8, 8, 8, 8, 8, 8, 8, 8, 8, 8, 8]⟩
theorem tab8_fin : ∀ i : Fin 256, bt tab8 (i.val : Int) = bl (i.val : Int) := by decide +kernel
theorem tab8_eq {x : Int} (h0 : 0 ≤ x) (h1 : x < 256) : bt tab8 x = bl x := by
  have := tab8_fin ⟨x.toNat, by omega⟩
  simp only at this
  rw [show ((x.toNat : Nat) : Int) = x by omega] at this
  exact this
/-- The value of the limbs: the highest one, and what is behind it. -/
theorem val_top {n : Int} (h : 0 < n) : n / pw ((lim n).length - 1) = (lim n).getD ((lim n).length - 1) 0 := by
  have hl : 0 < (lim n).length := List.length_pos_iff.2 (lim_ne_nil h)
  have hu := U_lim (n := n) (by omega)
  have e := val_split (lim n) ((lim n).length - 1) (by omega)
  rw [val_lim (by omega), val_drop (by omega), show (lim n).length - 1 + 1 = (lim n).length by omega, List.drop_length, val_nil] at e
  have h1 := val_lt (U_take hu ((lim n).length - 1))
  have h2 := val_nonneg (U_take hu ((lim n).length - 1))
  rw [List.length_take, Nat.min_eq_left (by omega)] at h1
  have hp := pw_pos ((lim n).length - 1)
  rw [Int.mul_zero, Int.add_zero] at e
  have key : ∀ (A p t : Int), 0 ≤ A → A < p → 0 < p → (A + p * t) / p = t := fun A p t a1 a2 a3 => by
    rw [Int.add_mul_ediv_left _ _ (by omega), Int.ediv_eq_zero_of_lt a1 a2]
    omega
  have e5 := key _ _ ((lim n).getD ((lim n).length - 1) 0) h2 h1 hp
  rw [← e] at e5
  exact e5
theorem val_full {l : List Int} {n : Nat} (h : l.length = n + 1) : val l = val (l.take n) + pw n * l.getD n 0 := by
  have := val_take_succ (l := l) (i := n) (by omega)
  rw [← h, List.take_length] at this
  exact this
theorem take_out (l : List Int) (i : Nat) (h : l.length ≤ i) : l.take i = l := List.take_of_length_le h
theorem getD_out (l : List Int) (i : Nat) (h : l.length ≤ i) : l.getD i 0 = 0 := by
  rw [List.getD_eq_getElem?_getD, List.getElem?_eq_none h]
  rfl
theorem val_take_succ' (l : List Int) (i : Nat) : val (l.take (i + 1)) = val (l.take i) + pw i * l.getD i 0 := by
  by_cases h : i < l.length
  · exact val_take_succ h
  · rw [take_out l _ (by omega), take_out l _ (by omega), getD_out l i (by omega), Int.mul_zero, Int.add_zero]
theorem val_set_take {l : List Int} {i : Nat} (h : i < l.length) (x : Int) : val ((l.set i x).take (i + 1)) = val (l.take i) + pw i * x := by
  rw [val_take_succ (by simpa using h), take_set, getD_set_self h]

theorem step_add {P A A1 B1 c x y r q : Int} (e : r + 4294967296 * q = x + y + c) (he : A + P * c = A1 + B1) : A + P * r + 4294967296 * P * q = A1 + P * x + (B1 + P * y) := by
  have h : P * (r + 4294967296 * q) = P * (x + y + c) := by rw [e]
  grind
theorem step_sub {P A A1 B1 c x y r q : Int} (e : r + 4294967296 * q = x - y - c) (he : A - P * c = A1 - B1) : A + P * r - 4294967296 * P * (-q) = A1 + P * x - (B1 + P * y) := by
  have h : P * (r + 4294967296 * q) = P * (x - y - c) := by rw [e]
  grind
/-! bits -/
theorem bits_xor_gen (k : IntKind) (j : Nat) (hj : j ≤ k.bits) (hk : ∀ n : Int, 0 ≤ n → n < 2 ^ j → k.wrap n = n) (a b : Nat) (ha : a < 2 ^ j) (hb : b < 2 ^ j) :
    Go.bits .xor k a b = ((a ^^^ b : Nat) : Int) := by
  have hp : 2 ^ j ≤ 2 ^ k.bits := Nat.pow_le_pow_right (by decide) hj
  have ha' : a % 2 ^ k.bits = a := Nat.mod_eq_of_lt (Nat.lt_of_lt_of_le ha hp)
  have hb' : b % 2 ^ k.bits = b := Nat.mod_eq_of_lt (Nat.lt_of_lt_of_le hb hp)
  have cast : ∀ n : Nat, n < 2 ^ j → ((n : Nat) : Int) < 2 ^ j := fun n h => by exact_mod_cast h
  simp only [Go.bits, BitVec.ofInt_natCast, BitVec.toNat_xor, BitVec.toNat_ofNat, ha', hb']
  exact hk _ (Int.natCast_nonneg _) (cast _ (Nat.xor_lt_two_pow ha hb))
theorem wraps_u32 (n : Int) (h0 : 0 ≤ n) (h1 : n < 2 ^ 32) : IntKind.u32.wrap n = n := by rw [IntKind.wrap_u32]; omega
theorem bits_xor_nat (a b : Nat) (ha : a < 4294967296) (hb : b < 4294967296) : Go.bits .xor .u32 a b = ((a ^^^ b : Nat) : Int) := bits_xor_gen .u32 32 (by decide) wraps_u32 a b ha hb
theorem bits_or_comm (k : IntKind) (x y : Int) : Go.bits .or k x y = Go.bits .or k y x := by simp only [Go.bits, BitVec.or_comm]
theorem wraps_u64 (n : Int) (h0 : 0 ≤ n) (h1 : n < 2 ^ 64) : IntKind.u64.wrap n = n := u64w h0 (by omega)
theorem topb (n : Nat) (h : n < 4294967296) : n / 2147483648 = if n.testBit 31 = true then 1 else 0 := by
  rw [Nat.testBit_eq_decide_div_mod_eq]
  by_cases hq : n / 2 ^ 31 % 2 = 1
  · rw [decide_eq_true hq, if_pos rfl]; omega
  · rw [decide_eq_false hq, if_neg (by simp)]; omega
theorem topd (n : Nat) (h : n < 4294967296) : n.testBit 31 = decide (2147483648 ≤ n) := by
  rw [Nat.testBit_eq_decide_div_mod_eq]
  congr 1
  apply propext
  omega
theorem lim_len_mono {a b : Int} (ha : 0 ≤ a) (h : a ≤ b) : (lim a).length ≤ (lim b).length := by
  by_cases hq : (lim b).length < (lim a).length
  · have := lim_len_lt (a := b) (b := a) (by omega) hq
    omega
  · omega
theorem mul_bound {x y : Int} (hx : 0 ≤ x ∧ x < 4294967296) (hy : 0 ≤ y ∧ y < 4294967296) : 0 ≤ x * y ∧ x * y ≤ 18446744065119617025 := by
  refine ⟨Int.mul_nonneg hx.1 hy.1, ?_⟩
  have h1 := Int.mul_le_mul (a := x) (b := y) (c := 4294967295) (d := 4294967295) (by omega) (by omega) hy.1 (by omega)
  omega
theorem step_mul {V P Q x y old c r q W S : Int} (e : r + 4294967296 * q = x * y + old + c) : V + P * Q * (r - old) + 4294967296 * (P * Q) * q + P * x * (W - (S + Q * y)) = V + P * Q * c + P * x * (W - S) := by
  have h : P * Q * (r + 4294967296 * q) = P * Q * (x * y + old + c) := by rw [e]
  grind
/-! moves by bits -/
theorem shl_eq {x : Int} {s : Nat} (h0 : 0 ≤ x) (hs : s ≤ 32) (h1 : x < 4294967296) : shl .u64 x (s : Int) = x * 2 ^ s ∧ 0 ≤ x * 2 ^ s ∧ x * 2 ^ s < 18446744073709551616 := by
  have hp := p2_pos s
  have hm := p2_mono hs
  have h2 := Int.mul_nonneg h0 (show (0 : Int) ≤ 2 ^ s by omega)
  have h3 := Int.mul_le_mul (a := x) (b := 2 ^ s) (c := 4294967295) (d := 2 ^ 32) (by omega) hm (by omega) (by omega)
  have e : (4294967295 : Int) * 2 ^ 32 = 18446744069414584320 := by decide
  have h4 : x * 2 ^ s < 18446744073709551616 := by omega
  refine ⟨?_, h2, h4⟩
  unfold shl
  have hmn : min (s : Int).toNat IntKind.u64.bits = s := by
    have : IntKind.u64.bits = 64 := rfl
    rw [this, Int.toNat_natCast]
    omega
  rw [hmn, u64w h2 h4]
theorem or_low {i : Nat} {s m : Int} (hi : i ≤ 32) (h0 : 0 ≤ s) (h1 : s < 2 ^ i) (hm0 : 0 ≤ m) (hm1 : m < 4294967296) (hm : m % 2 ^ i = 0) : Go.bits .or .u32 s m = s + m := by
  have h2 : s < 2 ^ 32 := Int.lt_of_lt_of_le h1 (p2_mono hi)
  rw [bits_or_comm, bits_join .u32 32 (by decide) wraps_u32 i m s hm0 hm hm1 h0 h1 h2, Int.add_comm]
theorem or_zero {m : Int} (hm0 : 0 ≤ m) (hm1 : m < 4294967296) : Go.bits .or .u32 0 m = m := by
  have := bits_join .u32 32 (by decide) wraps_u32 32 0 m (by decide) (by decide) (by decide) hm0 hm1 hm1
  omega
theorem mod_mod_p2 {x : Int} {s : Nat} (hs : s ≤ 32) : (x * 2 ^ s) % 4294967296 % 2 ^ s = 0 := by
  have e : (4294967296 : Int) = 2 ^ s * 2 ^ (32 - s) := by rw [← p2_add, show s + (32 - s) = 32 by omega]; rfl
  rw [e, Int.emod_emod_of_dvd _ (Int.dvd_mul_right _ _), Int.mul_emod_left]
theorem div_p2_lt {x : Int} {s : Nat} (hs : s ≤ 32) (h0 : 0 ≤ x) (h1 : x < 4294967296) : x * 2 ^ s / 4294967296 < 2 ^ s := by
  have hp := p2_pos s
  rw [Int.ediv_lt_iff_lt_mul (by decide), Int.mul_comm]
  exact Int.mul_lt_mul_of_pos_left h1 hp
theorem step_shl {V P y q r a A T : Int} (e : r + 4294967296 * q = y) (hy : y = a * T) {L i : Int} (hP : P = L * i) (hV : V = L * T * A) : V + P * r + 4294967296 * P * q = L * T * (A + i * a) := by
  have h : P * (r + 4294967296 * q) = P * y := by rw [e]
  subst hP hy hV
  grind
/-- A number moved up. -/
def shlv (v n : Int) : Int := if n < 1 then v else if n > 16777216 then 0 else v * 2 ^ n.toNat
theorem val_div {l : List Int} (h : U l) {i : Nat} (hi : i ≤ l.length) : val l / pw i = val (l.drop i) := by
  have e := val_split l i hi
  have h1 := val_lt (U_take h i)
  have h2 := val_nonneg (U_take h i)
  rw [List.length_take, Nat.min_eq_left hi] at h1
  have hp := pw_pos i
  have key : ∀ (A p t : Int), 0 ≤ A → A < p → 0 < p → (A + p * t) / p = t := fun A p t a1 a2 a3 => by
    rw [Int.add_mul_ediv_left _ _ (by omega), Int.ediv_eq_zero_of_lt a1 a2]
    omega
  have e5 := key _ _ (val (l.drop i)) h2 h1 hp
  rw [← e] at e5
  exact e5
theorem val_drop' (l : List Int) (i : Nat) : val (l.drop i) = l.getD i 0 + 4294967296 * val (l.drop (i + 1)) := by
  by_cases h : i < l.length
  · exact val_drop h
  · rw [List.drop_of_length_le (by omega), List.drop_of_length_le (by omega), getD_out l i (by omega)]
    rfl
theorem digit {x0 x1 R : Int} {s : Nat} (hs : s ≤ 32) : (x0 + 4294967296 * (x1 + 4294967296 * R)) / 2 ^ s % 4294967296 = (x0 + x1 * 4294967296) / 2 ^ s % 4294967296 := by
  have e : (4294967296 : Int) = 2 ^ s * 2 ^ (32 - s) := by rw [← p2_add, show s + (32 - s) = 32 by omega]; rfl
  have hp := p2_pos s
  have e2 : x0 + 4294967296 * (x1 + 4294967296 * R) = (x0 + x1 * 4294967296) + 2 ^ s * (4294967296 * (2 ^ (32 - s) * R)) := by
    have : 4294967296 * (4294967296 * R) = 4294967296 * (2 ^ s * 2 ^ (32 - s) * R) := by rw [← e]
    grind
  rw [e2, Int.add_mul_ediv_left _ _ (by omega), Int.add_mul_emod_self_left]
theorem emod_succ (X P : Int) (hP : 0 < P) : X % (4294967296 * P) = X % P + P * (X / P % 4294967296) := by
  have e1 := Int.mul_ediv_add_emod X P
  have e2 := Int.mul_ediv_add_emod (X / P) 4294967296
  have b1 := Int.emod_nonneg X (b := P) (by omega)
  have b2 := Int.emod_lt_of_pos X hP
  have b3 : 0 ≤ X / P % 4294967296 := by omega
  have b4 : X / P % 4294967296 ≤ 4294967295 := by omega
  have e3 : X = (X % P + P * (X / P % 4294967296)) + 4294967296 * P * (X / P / 4294967296) := by
    have : P * (4294967296 * (X / P / 4294967296) + X / P % 4294967296) = P * (X / P) := by rw [e2]
    grind
  have b5 := Int.mul_nonneg (show 0 ≤ P by omega) b3
  have b6 := Int.mul_le_mul_of_nonneg_left b4 (show 0 ≤ P by omega)
  conv => lhs; rw [e3]
  rw [Int.add_mul_emod_self_left, Int.emod_eq_of_lt (by omega) (by omega)]
theorem shr_eq {x : Int} {s : Nat} (hs : s ≤ 64) : shr .u64 x (s : Int) = x / 2 ^ s := by
  unfold shr
  have hmn : min (s : Int).toNat IntKind.u64.bits = s := by
    have : IntKind.u64.bits = 64 := rfl
    rw [this, Int.toNat_natCast]
    omega
  rw [hmn]
theorem getD_drop (l : List Int) (L i : Nat) : (l.drop L).getD i 0 = l.getD (L + i) 0 := by
  rw [List.getD_eq_getElem?_getD, List.getElem?_drop, List.getD_eq_getElem?_getD]
/-- A limb of a number that is moved down. -/
theorem shr_digit {d : List Int} (hd : U d) {i : Nat} (hi : i ≤ d.length) {s : Nat} (hs : s ≤ 32) : val d / 2 ^ s / pw i % 4294967296 = (d.getD i 0 + d.getD (i + 1) 0 * 4294967296) / 2 ^ s % 4294967296 := by
  rw [Int.ediv_ediv_of_nonneg (show (0 : Int) ≤ 2 ^ s by have := p2_pos s; omega), Int.mul_comm, ← Int.ediv_ediv_of_nonneg (by have := pw_pos i; omega), val_div hd hi, val_drop', val_drop', digit hs]
/-- A number moved down. -/
def shrv (v n : Int) : Int := if n < 1 then v else v / 2 ^ n.toNat
theorem or_join64 {h l : Int} (h0 : 0 ≤ h) (h1 : h < 4294967296) (l0 : 0 ≤ l) (l1 : l < 4294967296) : Go.bits .or .u64 (h * 4294967296) l = h * 4294967296 + l := by
  have e64 : (2 : Int) ^ 64 = 18446744073709551616 := rfl
  have e32 : (2 : Int) ^ 32 = 4294967296 := rfl
  exact bits_join .u64 64 (by decide) wraps_u64 32 (h * 4294967296) l (by omega) (by omega) (by omega) l0 (by omega) (by omega)
theorem step_short {A Q l x q r D : Int} (e : D * q + r = l * 4294967296 + x) (h : A = D * Q + l) : x + 4294967296 * A = D * (q + 4294967296 * Q) + r := by
  subst h
  grind
/-! the guess of a quotient's limb -/
/-- The least of 2^32 - 1 and a quotient. -/
def gss (X V : Int) : Int := if 4294967295 ≤ X / V then 4294967295 else X / V
/-! so many times a number taken away; a number given back -/
theorem step_less {V P q S Q y c b r o r' b' h n : Int} (e1 : r' - 4294967296 * b' = o - r - b) (e2 : r + 4294967296 * h = n) (hn : n = y * q + c) : V - P * (q * S) + P * Q * (c + b) + P * Q * (r' - o) = V - P * (q * (S + Q * y)) + 4294967296 * (P * Q) * (h + b') := by
  have h1 : P * Q * (r' - 4294967296 * b') = P * Q * (o - r - b) := by rw [e1]
  have h2 : P * Q * (r + 4294967296 * h) = P * Q * (y * q + c) := by rw [e2, hn]
  grind
theorem step_more {V P S Q y c r o s n : Int} (e : r + 4294967296 * s = o + y + c) : V + P * S - P * Q * c + P * Q * (r - o) = V + P * (S + Q * y) - 4294967296 * (P * Q) * s := by
  have h1 : P * Q * (r + 4294967296 * s) = P * Q * (o + y + c) := by rw [e]
  grind
theorem val_zero_of {l : List Int} (h : ∀ q, l.getD q 0 = 0) : val l = 0 := by
  induction l with
  | nil => rfl
  | cons x l ih =>
    have h0 : x = 0 := h 0
    rw [val_cons, ih (fun q => h (q + 1)), h0]
    rfl
theorem zeros_above {l : List Int} (hu : U l) {j : Nat} (h : val l < pw j) (q : Nat) (hq : j ≤ q) : l.getD q 0 = 0 := by
  by_cases hl : q < l.length
  · have e := val_split l q (by omega)
    rw [val_drop hl] at e
    have h1 := val_nonneg (U_take hu q)
    have h2 := val_nonneg (U_drop hu (q + 1))
    have h3 := U_getD hu q
    have hm := pw_mono hq
    have hp := pw_pos q
    by_cases hz : l.getD q 0 = 0
    · exact hz
    · have := Int.mul_le_mul_of_nonneg_left (show 1 ≤ l.getD q 0 + 4294967296 * val (l.drop (q + 1)) by omega) (show 0 ≤ pw q by omega)
      omega
  · exact getD_out l q (by omega)
theorem lt_of_zeros {l : List Int} (hu : U l) {j : Nat} (h : ∀ q, j ≤ q → l.getD q 0 = 0) : val l < pw j := by
  by_cases hl : j ≤ l.length
  · have e := val_split l j hl
    have hz : val (l.drop j) = 0 := val_zero_of (fun q => by rw [getD_drop]; exact h _ (by omega))
    have h1 := val_lt (U_take hu j)
    rw [List.length_take, Nat.min_eq_left hl] at h1
    rw [hz, Int.mul_zero] at e
    omega
  · have h1 := val_lt hu
    have h2 := pw_mono (show l.length ≤ j by omega)
    omega
theorem gss_good {R D P Q V X : Int} (hP : 0 < P) (hQ : 0 < Q) (hD : 0 < D) (hR0 : 0 ≤ R) (hR : R < P * D * 4294967296) (hV : V = D / Q) (hVB : 4294967296 ≤ V) (hX : X = R / (P * Q)) :
    0 ≤ gss X V ∧ gss X V ≤ 4294967295 ∧ ((0 ≤ R - P * (gss X V * D) ∧ R - P * (gss X V * D) < P * D) ∨ (R - P * (gss X V * D) < 0 ∧ 1 ≤ gss X V ∧ 0 ≤ R - P * ((gss X V - 1) * D) ∧ R - P * ((gss X V - 1) * D) < P * D)) := by
  have hPD := Int.mul_pos hP hD
  have hPQ := Int.mul_pos hP hQ
  have hX0 : 0 ≤ X := by rw [hX]; exact Int.ediv_nonneg hR0 (by omega)
  have hXV := Int.ediv_nonneg hX0 (show 0 ≤ V by omega)
  obtain ⟨s, hs⟩ : ∃ s, s = R / (P * D) := ⟨_, rfl⟩
  have hs0 : 0 ≤ s := by rw [hs]; exact Int.ediv_nonneg hR0 (by omega)
  have hsB : s ≤ 4294967295 := by
    have : s < 4294967296 := by rw [hs, Int.ediv_lt_iff_lt_mul hPD]; rw [Int.mul_comm]; exact hR
    omega
  have hdm := Int.mul_ediv_add_emod R (P * D)
  have hm0 := Int.emod_nonneg R (show P * D ≠ 0 by omega)
  have hm1 := Int.emod_lt_of_pos R hPD
  rw [← hs] at hdm
  have hVQ : V * Q ≤ D := by
    have := Int.mul_ediv_add_emod D Q
    have h1 := Int.emod_nonneg D (show Q ≠ 0 by omega)
    rw [← hV] at this
    rw [Int.mul_comm]
    omega
  have hVQ2 : D < (V + 1) * Q := by
    have := Int.mul_ediv_add_emod D Q
    have h1 := Int.emod_lt_of_pos D hQ
    rw [← hV] at this
    rw [Int.add_mul, Int.mul_comm V]
    omega
  obtain ⟨t, ht⟩ : ∃ t, t = gss X V := ⟨_, rfl⟩
  rw [← ht]
  have ht0 : 0 ≤ t ∧ t ≤ 4294967295 ∧ t ≤ X / V := by
    rw [ht]; unfold gss; split <;> omega
  have hlow : s ≤ t := by
    have h1 : s ≤ X / V := by
      rw [Int.le_ediv_iff_mul_le (by omega), hX, Int.le_ediv_iff_mul_le hPQ]
      have h2 := Int.mul_le_mul_of_nonneg_left hVQ (show 0 ≤ s * P from Int.mul_nonneg hs0 (by omega))
      have e1 : s * V * (P * Q) = s * P * (V * Q) := by grind
      have e2 : s * P * D = P * D * s := by grind
      rw [e1]
      omega
    rw [ht]; unfold gss; split <;> omega
  have hup : t ≤ s + 1 := by
    by_cases hc : t ≤ s + 1
    · exact hc
    · have h1 : t * V ≤ X := (Int.le_ediv_iff_mul_le (by omega)).1 ht0.2.2
      rw [hX, Int.le_ediv_iff_mul_le hPQ] at h1
      have h2 : R < P * D * (s + 1) := by rw [Int.mul_add, Int.mul_one]; omega
      have h3 := Int.mul_le_mul_of_nonneg_left (show s + 1 ≤ t - 1 by omega) (show 0 ≤ P * D by omega)
      have h4 := Int.mul_le_mul_of_nonneg_left (show D ≤ (V + 1) * Q by omega) (show 0 ≤ P * (t - 1) from Int.mul_nonneg (by omega) (by omega))
      have e1 : P * (t - 1) * D = P * D * (t - 1) := by grind
      have e2 : P * (t - 1) * ((V + 1) * Q) = (V + 1) * (t - 1) * (P * Q) := by grind
      have h5 : t * V * (P * Q) < (V + 1) * (t - 1) * (P * Q) := by omega
      have h6 := Int.lt_of_mul_lt_mul_right h5 (by omega)
      have e3 : (V + 1) * (t - 1) = t * V + t - V - 1 := by grind
      omega
  refine ⟨ht0.1, ht0.2.1, ?_⟩
  have es : P * (s * D) = P * D * s := by grind
  rcases (show t = s ∨ t = s + 1 by omega) with rfl | rfl
  · exact .inl ⟨by omega, by omega⟩
  · right
    have e1 : P * ((s + 1) * D) = P * D * s + P * D := by grind
    have e2 : P * ((s + 1 - 1) * D) = P * D * s := by grind
    exact ⟨by omega, by omega, by omega, by omega⟩
theorem w64_sub2 {i : Nat} (h : 2 ≤ i) (h2 : i < 9223372036854775808) : wrap64 ((i : Int) - 2) = ((i - 2 : Nat) : Int) := by rw [w64 (by omega) (by omega)]; omega
/-- The value of a list of which nothing is cut off but noughts. -/
theorem val_take_of_lt {l : List Int} (hu : U l) {j : Nat} (h : val l < pw j) : val (l.take j) = val l := by
  by_cases hl : j ≤ l.length
  · have e := val_split l j hl
    have h0 := val_nonneg (U_take hu j)
    have h1 := val_nonneg (U_drop hu j)
    have hp := pw_pos j
    by_cases hz : val (l.drop j) = 0
    · rw [hz, Int.mul_zero] at e; omega
    · have := Int.mul_le_mul_of_nonneg_left (show 1 ≤ val (l.drop j) by omega) (show 0 ≤ pw j by omega)
      omega
  · rw [take_out l j (by omega)]
def isq : Nat → Nat
  | 0 => 0
  | n + 1 => if (isq n + 1) * (isq n + 1) ≤ n + 1 then isq n + 1 else isq n
/-- The greatest number whose square is not greater. -/
def sqv (n : Int) : Int := (isq n.toNat : Int)
theorem isq_le (n : Nat) : isq n * isq n ≤ n ∧ n < (isq n + 1) * (isq n + 1) := by
  induction n with
  | zero => decide
  | succ n ih =>
    unfold isq
    split
    · rename_i h
      refine ⟨h, ?_⟩
      have e : (isq n + 1 + 1) * (isq n + 1 + 1) = (isq n + 1) * (isq n + 1) + 2 * (isq n + 1) + 1 := by grind
      omega
    · rename_i h
      omega
theorem sqv_nonneg (n : Int) : 0 ≤ sqv n := by unfold sqv; omega
theorem sqv_le {n : Int} (h : 0 ≤ n) : sqv n * sqv n ≤ n ∧ n < (sqv n + 1) * (sqv n + 1) := by
  obtain ⟨m, rfl⟩ : ∃ m : Nat, n = m := ⟨n.toNat, by omega⟩
  unfold sqv
  rw [Int.toNat_natCast]
  have := isq_le m
  exact ⟨by exact_mod_cast this.1, by exact_mod_cast this.2⟩
theorem sq_lt {a b : Int} (ha : 0 ≤ a) (hb : 0 ≤ b) (h : a * a < b * b) : a < b := by
  by_cases hq : a < b
  · exact hq
  · have := Int.mul_le_mul (show b ≤ a by omega) (show b ≤ a by omega) hb ha
    omega
theorem sqv_eq {n r : Int} (h0 : 0 ≤ r) (h1 : r * r ≤ n) (h2 : n < (r + 1) * (r + 1)) : sqv n = r := by
  have hn : 0 ≤ n := by have := Int.mul_nonneg h0 h0; omega
  obtain ⟨a, b⟩ := sqv_le hn
  have s0 := sqv_nonneg n
  have c1 := sq_lt h0 (show 0 ≤ sqv n + 1 by omega) (by omega)
  have c2 := sq_lt s0 (show 0 ≤ r + 1 by omega) (by omega)
  omega
theorem sgn_beq (x y : Int) : (sgn (x - y) == 0) = (x == y) := by
  rcases Int.lt_trichotomy x y with h | h | h
  · rw [sgn_neg (by omega), (beq_eq_false_iff_ne (a := x) (b := y)).2 (by omega)]; rfl
  · subst h; rw [Int.sub_self, sgn_zero]; simp
  · rw [sgn_pos (by omega), (beq_eq_false_iff_ne (a := x) (b := y)).2 (by omega)]; rfl
theorem amgm (x y : Int) : 4 * (x * y) ≤ (x + y) * (x + y) := by
  have h : 0 ≤ (x - y) * (x - y) := by
    rcases Int.le_total 0 (x - y) with h | h
    · exact Int.mul_nonneg h h
    · have := Int.mul_nonneg (show 0 ≤ -(x - y) by omega) (show 0 ≤ -(x - y) by omega)
      rw [Int.neg_mul_neg] at this
      exact this
  have e1 : (x - y) * (x - y) = x * x - 2 * (x * y) + y * y := by grind
  have e2 : (x + y) * (x + y) = x * x + 2 * (x * y) + y * y := by grind
  omega
/-- One step of the way to the root. -/
theorem newton {n s : Int} (hn : 0 < n) (hs : 0 < s) (h : n < (s + 1) * (s + 1)) : (¬ (s + n / s) / 2 < s → s * s ≤ n) ∧ ((s + n / s) / 2 < s → 0 < (s + n / s) / 2 ∧ n < ((s + n / s) / 2 + 1) * ((s + n / s) / 2 + 1)) := by
  have e := Int.mul_ediv_add_emod n s
  have m0 := Int.emod_nonneg n (show s ≠ 0 by omega)
  have m1 := Int.emod_lt_of_pos n hs
  have q0 := Int.ediv_nonneg (show 0 ≤ n by omega) (show 0 ≤ s by omega)
  obtain ⟨q, hq⟩ : ∃ q, q = n / s := ⟨_, rfl⟩
  rw [← hq] at e q0 ⊢
  constructor
  · intro hc
    have h1 := Int.mul_le_mul_of_nonneg_left (show s ≤ q by omega) (show 0 ≤ s by omega)
    omega
  · intro hc
    obtain ⟨t, ht⟩ : ∃ t, t = (s + q) / 2 := ⟨_, rfl⟩
    rw [← ht] at hc ⊢
    have h1 := amgm s (q + 1)
    have h2 := Int.mul_le_mul (show s + (q + 1) ≤ 2 * (t + 1) by omega) (show s + (q + 1) ≤ 2 * (t + 1) by omega) (by omega) (by omega)
    have e2 : 2 * (t + 1) * (2 * (t + 1)) = 4 * ((t + 1) * (t + 1)) := by grind
    have e3 : s * (q + 1) = s * q + s := by grind
    have h3 : n < (t + 1) * (t + 1) := by omega
    refine ⟨?_, h3⟩
    by_cases hz : 0 < t
    · exact hz
    · have : t = 0 := by omega
      subst this
      omega
theorem lim_is {n : Int} (l : List Int) (hv : val l = n) (h : U l) (hn : 0 < l.length → l.getD (l.length - 1) 0 ≠ 0) : lim n = l := by rw [← hv]; exact lim_of_norm h hn
theorem len_of (l : List Int) (h : U l) : (lim (val l)).length ≤ l.length := lim_len (val_nonneg h) _ (val_lt h)
theorem len_add {a b : List Int} (ha : U a) (hb : U b) : (lim (val a + val b)).length ≤ max a.length b.length + 1 := by
  have h1 := val_lt ha
  have h2 := val_lt hb
  have h3 := val_nonneg ha
  have h4 := val_nonneg hb
  refine lim_len (by omega) _ ?_
  have h5 := pw_mono (show a.length ≤ max a.length b.length by omega)
  have h6 := pw_mono (show b.length ≤ max a.length b.length by omega)
  rw [pw_succ]
  omega
theorem len_mul {a b : List Int} (ha : U a) (hb : U b) : (lim (val a * val b)).length ≤ a.length + b.length := by
  have h1 := val_lt ha
  have h2 := val_lt hb
  have h3 := val_nonneg ha
  have h4 := val_nonneg hb
  refine lim_len (Int.mul_nonneg h3 h4) _ ?_
  have h5 := pw_pos a.length
  have e1 := Int.mul_le_mul_of_nonneg_right (show val a ≤ pw a.length by omega) h4
  have e2 := Int.mul_lt_mul_of_pos_left h2 h5
  rw [pw_add]
  omega
theorem shlv_eq {v n : Int} (h0 : 0 ≤ n) (h1 : n ≤ 16777216) : shlv v n = v * 2 ^ n.toNat := by
  unfold shlv
  by_cases hc : n < 1
  · rw [if_pos hc, show n = 0 by omega]; simp
  · rw [if_neg hc, if_neg (by omega)]
theorem shrv_eq {v n : Int} (h0 : 0 ≤ n) : shrv v n = v / 2 ^ n.toNat := by
  unfold shrv
  by_cases hc : n < 1
  · rw [if_pos hc, show n = 0 by omega]; simp
  · rw [if_neg hc]
theorem shlv_nonneg {v : Int} (h : 0 ≤ v) (n : Int) : 0 ≤ shlv v n := by
  unfold shlv
  have := p2_pos n.toNat
  split
  · exact h
  · split
    · omega
    · exact Int.mul_nonneg h (by omega)
theorem shrv_nonneg {v : Int} (h : 0 ≤ v) (n : Int) : 0 ≤ shrv v n ∧ shrv v n ≤ v := by
  unfold shrv
  have := p2_pos n.toNat
  split
  · omega
  · exact ⟨Int.ediv_nonneg h (by omega), Int.ediv_le_self _ h⟩
theorem len_shl {a : List Int} (ha : U a) (n : Int) : (lim (shlv (val a) n)).length ≤ a.length + 524289 := by
  have h1 := val_lt ha
  have h2 := val_nonneg ha
  refine lim_len (shlv_nonneg h2 n) _ ?_
  have h5 := pw_pos a.length
  have hm := pw_mono (show a.length ≤ a.length + 524289 by omega)
  unfold shlv
  split
  · omega
  · split
    · have := pw_pos (a.length + 524289); omega
    · have hp := p2_pos n.toNat
      have e0 : (2 : Int) ^ n.toNat ≤ pw 524289 := by rw [p2_limb]; exact p2_mono (by omega)
      have e1 := Int.mul_lt_mul_of_pos_right h1 hp
      have e2 := Int.mul_le_mul_of_nonneg_left e0 (show 0 ≤ pw a.length by omega)
      rw [pw_add]
      omega
theorem len_shr {a : List Int} (ha : U a) (n : Int) : (lim (shrv (val a) n)).length ≤ a.length := by
  have h := shrv_nonneg (val_nonneg ha) n
  exact Nat.le_trans (lim_len_mono h.1 h.2) (len_of a ha)
theorem sqv_le_self {n : Int} (h : 0 ≤ n) : sqv n ≤ n := by
  have h1 := (sqv_le h).1
  have h0 := sqv_nonneg n
  by_cases hz : sqv n = 0
  · omega
  · have := Int.mul_le_mul_of_nonneg_left (show 1 ≤ sqv n by omega) h0
    omega
theorem len_root {a : List Int} (ha : U a) : (lim (sqv (val a))).length ≤ a.length :=
  Nat.le_trans (lim_len_mono (sqv_nonneg _) (sqv_le_self (val_nonneg ha))) (len_of a ha)
theorem len_quot {a b : List Int} (ha : U a) (hb : U b) : (lim (val a / val b)).length ≤ a.length :=
  Nat.le_trans (lim_len_mono (Int.ediv_nonneg (val_nonneg ha) (val_nonneg hb)) (Int.ediv_le_self _ (val_nonneg ha))) (len_of a ha)
theorem len_rest {a b : List Int} (ha : U a) (hb : U b) (h : val b ≠ 0) : (lim (val a % val b)).length ≤ b.length := by
  have h0 := val_nonneg hb
  exact Nat.le_trans (lim_len_mono (Int.emod_nonneg _ h) (by have := Int.emod_lt_of_pos (val a) (show 0 < val b by omega); omega)) (len_of b hb)
theorem bl_mul {v : Int} (h : 0 < v) (n : Nat) : bl (v * 2 ^ n) = bl v + n := by
  have hp := p2_pos n
  have e : v * 2 ^ n / 2 ^ n = v := Int.mul_ediv_cancel _ (by omega)
  have := bl_shift (x := v * 2 ^ n) n (by rw [e]; exact h)
  rw [this, e, Int.add_comm]
theorem bl_beq {w : Int} (h : 0 ≤ w) : (bl w == 0) = decide (w = 0) := by
  by_cases hz : w = 0
  · subst hz; rfl
  · have := bl_pos (n := w) (by omega)
    rw [decide_eq_false hz, beq_eq_false_iff_ne]
    omega
theorem sgn_self (x : Int) : sgn (x - x) = 0 := by rw [Int.sub_self]; rfl
theorem sgn_opp (x : Int) : sgn (-x) = -sgn x := by
  unfold sgn
  split <;> split <;> (try split) <;> (try split) <;> omega
theorem sgn_bd (x : Int) : -1 ≤ sgn x ∧ sgn x ≤ 1 := by unfold sgn; split <;> (try split) <;> omega
end Go.Proofs.Ythlhogcnfaiphaa.T
