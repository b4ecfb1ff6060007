/- Whole numbers as numbers of 64 bits; what wakes the statements of layer 2. What layer 3 makes of a number and a power of two: the noughts at its end taken off. The numbers of layer 3, as the code and the document make them; what layer 5 rounds them to. The document's numbers of layer 3, and what it rounds them to. The document's products, half of one, twice as much. What the code's numbers of layer 3 come to: exact ones. The sum, the product, the order, the floor. What wakes the statements of layer 3. -/
import Derived.Test.YtaookeneeemfbaaDoorPAx1
import Derived.Test.YtaookeneeemfbaaDoorTQ2
namespace Go.Proofs.YtaookeneeemfbaaDoor.T
set_option linter.unusedVariables false
set_option linter.unusedSimpArgs false
open Go.RowKit Go.Proofs.YtaookeneeemfbaaDoorW.PrintWords Go.Proofs.YtaookeneeemfbaaDoorW.PrintMore Go.Proofs.YtaookeneeemfbaaDoor.PA

/-- The number, if 64 bits hold it. -/
def intv (s : Int) : Int × Bool := if -9223372036854775808 ≤ s ∧ s < 9223372036854775808 then (s, true) else (0, false)
theorem wr64 (x : Int) : wrap64 x = (x + 9223372036854775808) % 18446744073709551616 - 9223372036854775808 := by unfold wrap64; omega
/-- What comes behind the loop. -/
theorem int_end (k : Nat) (u : Int) (l m : List Int) (b : Bool) (i : Int) (u0 : 0 ≤ u) (u1 : u < 18446744073709551616) (hi : ¬ i < (l.length : Int)) :
    whole_Int.l0 (k + 1) u l (l.length : Int) i b m = some (intv (sg b u)) := by
  simp only [whole_Int.l0]
  rw [if_neg hi]
  have e1 : wrap64 u = if u < 9223372036854775808 then u else u - 18446744073709551616 := by rw [wr64]; split <;> omega
  have e2 : wrap64 (-(wrap64 u)) = if u ≤ 9223372036854775808 then -u else 18446744073709551616 - u := by
    rw [e1]
    split
    · rw [wr64]; split <;> omega
    · rw [wr64]; split <;> omega
  cases b
  · rw [if_neg (by decide), e1]
    unfold intv sg
    simp only [Bool.false_eq_true, if_false]
    by_cases z : u = 0
    · subst z; rfl
    · by_cases h : u < 9223372036854775808
      · rw [if_pos h, if_neg z, if_neg z, decide_eq_false (by omega), if_pos (by decide), if_pos (by omega)]
      · rw [if_neg h, if_neg (by omega), if_neg z, decide_eq_true (by omega), if_neg (by decide), if_neg (by omega)]
  · rw [if_pos rfl, e2]
    unfold intv sg
    simp only [if_true]
    by_cases z : u = 0
    · subst z; rfl
    · by_cases h : u ≤ 9223372036854775808
      · rw [if_pos h, if_neg (by omega), if_neg z, decide_eq_true (by omega), if_pos (by decide), if_pos (by omega)]
      · rw [if_neg h, if_neg (by omega), if_neg z, decide_eq_false (by omega), if_neg (by decide), if_neg (by omega)]
theorem int_step (k : Nat) (u : Int) (l m : List Int) (b : Bool) (i : Nat) (h : i < l.length) (hb : l.length ≤ 2) (hu : U l) :
    whole_Int.l0 (k + 1) u l (l.length : Int) (i : Int) b m = whole_Int.l0 k (Go.bits .or .u64 u (shl .u64 (l.getD i 0) ((32 * i : Nat) : Int))) l (l.length : Int) ((i + 1 : Nat) : Int) b m := by
  have hg := U_getD hu i
  simp only [whole_Int.l0, rd_eq, Int.toNat_natCast]
  have e : wrap64 (32 * (i : Int)) = ((32 * i : Nat) : Int) := by rw [w64 (by omega) (by omega)]; omega
  rw [if_pos (by omega), if_pos (by omega), if_pos (by omega), e, if_pos (by omega), u64w (x := l.getD i 0) (by omega) (by omega), w64_succ (by omega)]
theorem or64_zero {m : Int} (hm0 : 0 ≤ m) (hm1 : m < 18446744073709551616) : Go.bits .or .u64 0 m = m := by
  have e64 : (2 : Int) ^ 64 = 18446744073709551616 := rfl
  have := bits_join .u64 64 (by decide) wraps_u64 64 0 m (by decide) (by decide) (by decide) hm0 (by omega) (by omega)
  omega
theorem int_ev (b : Bool) (l : List Int) (h : U l) (hb : l.length ≤ 1073741824) : ∃ K, ∀ k, K ≤ k → whole_Int.f k b l = some (intv (sg b (val l))) := by
  obtain ⟨K, hK⟩ := trim_ev l h hb
  have nl := val_nonneg h
  refine ⟨K + 4, fun k hk => ?_⟩
  obtain ⟨k, rfl⟩ : ∃ m, k = m + 4 := ⟨k - 4, by omega⟩
  unfold whole_Int.f
  rw [hK _ (by omega), Option.bind_some]
  by_cases hl : (lim (val l)).length > 2
  · rw [if_pos (by omega)]
    have hv : ¬ val l < 18446744073709551616 := fun hv => by
      have := lim_len nl 2 (by rw [show pw 2 = 18446744073709551616 by decide]; exact hv)
      omega
    have hs : ¬ (-9223372036854775808 ≤ sg b (val l) ∧ sg b (val l) < 9223372036854775808) := by unfold sg; split <;> omega
    unfold intv
    rw [if_neg hs]
  · rw [if_neg (by omega)]
    have u := U_lim nl
    have hv := val_lim nl
    have hn := val_lt u
    generalize lim (val l) = x at *
    have hl2 : x.length ≤ 2 := by omega
    match x, hl2, u, hv with
    | [], _, _, hv =>
      have : (0 : Int) = val l := hv
      rw [← this]
      exact int_end _ 0 [] l b 0 (by decide) (by decide) (by decide)
    | [p], hl, u, hv =>
      have hp := u p (by simp)
      have e : val l = p := by rw [← hv]; simp
      have s := int_step (k + 3) 0 [p] l b 0 (by simp) (by simp) u
      refine s.trans ?_
      have e1 : Go.bits .or .u64 0 (shl .u64 ([p].getD 0 0) ((32 * 0 : Nat) : Int)) = p := by
        have := (shl_eq (x := p) (s := 0) hp.1 (by decide) hp.2).1
        rw [Int.pow_zero, Int.mul_one] at this
        rw [show [p].getD 0 0 = p from rfl, show 32 * 0 = 0 from rfl, this, or64_zero (by omega) (by omega)]
      rw [e1, e]
      exact int_end _ p [p] l b _ (by omega) (by omega) (by simp)
    | [p, q], hl, u, hv =>
      have hp := u p (by simp)
      have hq := u q (by simp)
      have e : val l = p + 4294967296 * q := by rw [← hv]; simp
      have s := int_step (k + 3) 0 [p, q] l b 0 (by simp) (by simp) u
      refine s.trans ?_
      have e1 : Go.bits .or .u64 0 (shl .u64 ([p, q].getD 0 0) ((32 * 0 : Nat) : Int)) = p := by
        have := (shl_eq (x := p) (s := 0) hp.1 (by decide) hp.2).1
        rw [Int.pow_zero, Int.mul_one] at this
        rw [show [p, q].getD 0 0 = p from rfl, show 32 * 0 = 0 from rfl, this, or64_zero (by omega) (by omega)]
      rw [e1]
      have s2 := int_step (k + 2) p [p, q] l b 1 (by simp) (by simp) u
      refine s2.trans ?_
      have e2 : Go.bits .or .u64 p (shl .u64 ([p, q].getD 1 0) ((32 * 1 : Nat) : Int)) = p + 4294967296 * q := by
        have := (shl_eq (x := q) (s := 32) hq.1 (by decide) hq.2).1
        rw [show [p, q].getD 1 0 = q from rfl, show 32 * 1 = 32 from rfl, this, show (2 : Int) ^ 32 = 4294967296 by decide, bits_or_comm, or_join64 hq.1 hq.2 hp.1 hp.2]
        omega
      rw [e2, e]
      exact int_end _ _ [p, q] l b _ (by omega) (by omega) (by simp)
/-- May a number be? -/
def mayw (b : Bool) (l : List Int) : Bool := if l.length = 0 then !b else (l.getD (l.length - 1) 0 != 0)
theorem may_eq (b : Bool) (l : List Int) (hb : l.length ≤ 1073741824) : whole_May.f b l = some (mayw b l) := by
  unfold whole_May.f mayw
  by_cases h : l.length = 0
  · rw [if_pos (by omega), if_pos h]
  · have w : wrap64 ((l.length : Int) - 1) = ((l.length - 1 : Nat) : Int) := w64_pred (by omega) (by omega)
    rw [if_neg (by omega), if_neg h, w, if_pos (by omega), if_pos (by omega), rd_eq, Int.toNat_natCast]
theorem rmay_eq (b : Bool) (l : List Int) (hb : l.length ≤ 1073741824) : pelorusref02_May.f b l = some (mayw b l) := by
  unfold pelorusref02_May.f mayw
  by_cases h : l.length = 0
  · rw [if_pos (by omega), if_pos h, if_neg (by omega)]
  · have w : wrap64 ((l.length : Int) - 1) = ((l.length - 1 : Nat) : Int) := w64_pred (by omega) (by omega)
    rw [if_neg (by omega), if_neg h, w, if_pos (by omega), if_pos (by omega), rd_eq, Int.toNat_natCast]
    by_cases z : l.getD (l.length - 1) 0 = 0
    · rw [if_pos z, z]; rfl
    · rw [if_neg z, if_pos (by omega)]
      congr 1
      exact (bne_iff_ne.2 z).symm
theorem mayw_nw (s : Int) : mayw (nw s).1 (nw s).2 = true := by
  unfold mayw nw
  simp only
  by_cases h : s = 0
  · subst h; rw [show ((Int.natAbs 0 : Nat) : Int) = 0 from rfl, show lim 0 = [] from limN_zero]; rfl
  · have hp : 0 < (s.natAbs : Int) := by omega
    have := lim_nil_iff (n := (s.natAbs : Int)) (by omega)
    rw [if_neg (by omega)]
    exact bne_iff_ne.2 (lim_last hp)
/-! what wakes the statements -/
theorem nw_small {s : Int} (h : s.natAbs < 4294967296) : (nw s).2.length ≤ 1 := B_len (B_small h)
end Go.Proofs.YtaookeneeemfbaaDoor.T

namespace Go.Proofs.YtaookeneeemfbaaDoor.T
set_option linter.unusedVariables false
set_option linter.unusedSimpArgs false
open Go.RowKit Go.Proofs.YtaookeneeemfbaaDoorW.PrintWords Go.Proofs.YtaookeneeemfbaaDoorW.PrintMore Go.Proofs.YtaookeneeemfbaaDoor.PA

theorem bits_and_nat (a b : Nat) (ha : a < 4294967296) (hb : b < 4294967296) : Go.bits .and .u32 a b = ((a &&& b : Nat) : Int) := by
  have ha' : a % 2 ^ IntKind.u32.bits = a := Nat.mod_eq_of_lt ha
  have hb' : b % 2 ^ IntKind.u32.bits = b := Nat.mod_eq_of_lt hb
  simp only [Go.bits, BitVec.ofInt_natCast, BitVec.toNat_and, BitVec.toNat_ofNat, ha', hb']
  exact wraps_u32 _ (Int.natCast_nonneg _) (by have := Nat.and_le_left (n := a) (m := b); omega)
theorem land_tz {o t : Nat} (ho : o % 2 = 1) (h : o * 2 ^ t < 2 ^ 32) : (o * 2 ^ t) &&& (2 ^ 32 - o * 2 ^ t) = 2 ^ t := by
  obtain ⟨y, hy⟩ : ∃ y, o * 2 ^ t = y + 1 := ⟨o * 2 ^ t - 1, by have := Nat.mul_pos (show 0 < o by omega) (Nat.two_pow_pos t); omega⟩
  have hy2 : y = 2 ^ t * (o - 1) + (2 ^ t - 1) := by
    have p := Nat.two_pow_pos t
    have e : 2 ^ t * (o - 1) + 2 ^ t = o * 2 ^ t := by
      obtain ⟨q, rfl⟩ : ∃ q, o = q + 1 := ⟨o - 1, by omega⟩
      rw [Nat.add_sub_cancel, Nat.add_mul, Nat.one_mul, Nat.mul_comm]
    omega
  apply Nat.eq_of_testBit_eq
  intro i
  have b1 : (2 ^ 32 - o * 2 ^ t).testBit i = (decide (i < 32) && !y.testBit i) := by
    rw [hy]
    exact Nat.testBit_two_pow_sub_succ (by omega) i
  rw [Nat.testBit_and, b1, Nat.testBit_mul_two_pow, Nat.testBit_two_pow, hy2, Nat.testBit_two_pow_mul_add _ (by have := Nat.two_pow_pos t; omega)]
  have i32 : t < 32 := by
    apply Nat.lt_of_not_le
    intro hh
    have := Nat.mul_le_mul (show 1 ≤ o by omega) (Nat.pow_le_pow_right (show 0 < 2 by decide) hh)
    omega
  by_cases h1 : i < t
  · rw [decide_eq_false (show ¬ t ≤ i by omega), decide_eq_false (show ¬ t = i by omega)]
    simp
  · rw [if_neg h1, decide_eq_true (show t ≤ i by omega), Bool.true_and]
    by_cases h2 : i = t
    · subst h2
      rw [decide_eq_true rfl, Nat.sub_self, decide_eq_true i32, Nat.testBit_zero, Nat.testBit_zero, decide_eq_true ho, decide_eq_false (show ¬ (o - 1) % 2 = 1 by omega)]
      rfl
    · rw [decide_eq_false (show ¬ t = i by omega)]
      obtain ⟨m, hm⟩ : ∃ m, i - t = m + 1 := ⟨i - t - 1, by omega⟩
      rw [hm, Nat.testBit_succ, Nat.testBit_succ, show (o - 1) / 2 = o / 2 by omega]
      cases (o / 2).testBit m <;> simp
theorem tz_tab : ∀ t : Fin 32, tz32tab.getD ((((2 ^ t.val : Nat) : Int) * 125613361 % 4294967296 / 134217728).toNat) 0 = (t.val : Int) ∧ 0 ≤ ((2 ^ t.val : Nat) : Int) * 125613361 % 4294967296 / 134217728 ∧ ((2 ^ t.val : Nat) : Int) * 125613361 % 4294967296 / 134217728 < 32 := by decide +kernel
theorem lt_32 {o : Int} {t : Nat} (o0 : 0 < o) (h : o * 2 ^ t < 4294967296) : t < 32 := by
  apply Nat.lt_of_not_le
  intro hh
  have h1 := p2_mono hh
  have h2 := mul_le_p t (show 1 ≤ o by omega)
  rw [show (2 : Int) ^ 32 = 4294967296 by decide] at h1
  omega
/-- How many noughts there are at a limb's end. -/
theorem tz_limb {x o : Int} {t : Nat} (o0 : 0 < o) (o1 : o % 2 = 1) (hx : x = o * 2 ^ t) (h1 : x < 4294967296) : bits_TrailingZeros32.f x = some (t : Int) := by
  have t32 : t < 32 := lt_32 o0 (by omega)
  obtain ⟨n, rfl⟩ := Int.eq_ofNat_of_zero_le (show 0 ≤ o by omega)
  have hxn : x = ((n * 2 ^ t : Nat) : Int) := by rw [hx]; push_cast; rfl
  have hn1 : n * 2 ^ t < 4294967296 := by omega
  have p := Nat.mul_pos (show 0 < n by omega) (Nat.two_pow_pos t)
  have hand : Go.bits .and .u32 x (-x % 4294967296) = ((2 ^ t : Nat) : Int) := by
    rw [hxn, show -((n * 2 ^ t : Nat) : Int) % 4294967296 = ((4294967296 - n * 2 ^ t : Nat) : Int) by omega, bits_and_nat _ _ hn1 (by omega)]
    congr 1
    exact land_tz (by omega) hn1
  have hix : tz32ix x = ((2 ^ t : Nat) : Int) * 125613361 % 4294967296 / 134217728 := by unfold tz32ix; rw [hand]
  obtain ⟨c0, c1, c2⟩ := tz_tab ⟨t, t32⟩
  unfold bits_TrailingZeros32.f
  rw [if_neg (by omega), hix, if_pos ⟨c1, c2⟩, c0, w64_nat (by omega)]
/-- How many noughts there are at a number's end. -/
theorem trail_l0 (l : List Int) (h : U l) (hb : l.length ≤ 1073741824) (n : Nat) : ∀ (i : Nat) (o : Int) (t : Nat), n + i = l.length → 0 < o → o % 2 = 1 → val (l.drop i) = o * 2 ^ t →
    ∃ K, ∀ k, K ≤ k → dy_trailing.l0 k ((32 * i : Nat) : Int) l (l.length : Int) (i : Int) = some ((32 * i + t : Nat) : Int) := by
  induction n with
  | zero =>
    intro i o t hi o0 o1 hv
    rw [show i = l.length by omega, List.drop_length, val_nil] at hv
    have := Int.mul_pos o0 (p2_pos t)
    omega
  | succ n ih =>
    intro i o t hi o0 o1 hv
    have hv0 := hv
    rw [val_drop (by omega)] at hv
    obtain ⟨g0, g1⟩ := U_getD h i
    by_cases hz : l.getD i 0 = 0
    · rw [hz, Int.zero_add] at hv
      have ht : 32 ≤ t := by
        apply Nat.le_of_not_lt
        intro hh
        have e : (4294967296 : Int) = 2 ^ (32 - t) * 2 ^ t := by rw [← p2_add, show 32 - t + t = 32 by omega]; decide
        rw [e, Int.mul_assoc, Int.mul_comm (2 ^ t), ← Int.mul_assoc] at hv
        have := eq_of_p t hv
        rw [show 32 - t = (31 - t) + 1 by omega, p2_succ, Int.mul_assoc] at this
        omega
      obtain ⟨m, rfl⟩ : ∃ m, t = m + 32 := ⟨t - 32, by omega⟩
      have hv2 : val (l.drop (i + 1)) = o * 2 ^ m := by
        rw [p2_add, show (2 : Int) ^ 32 = 4294967296 by decide, ← Int.mul_assoc] at hv
        omega
      obtain ⟨K, hK⟩ := ih (i + 1) o m (by omega) o0 o1 hv2
      refine ⟨K + 1, fun k hk => ?_⟩
      obtain ⟨k, rfl⟩ : ∃ m, k = m + 1 := ⟨k - 1, by omega⟩
      simp only [dy_trailing.l0]
      rw [if_pos (by omega), if_pos (by omega), if_pos (by omega), rd_eq, Int.toNat_natCast, if_pos hz, w64_succ (by omega), show wrap64 (((32 * i : Nat) : Int) + 32) = ((32 * (i + 1) : Nat) : Int) by rw [w64 (by omega) (by omega)]; omega, hK k (by omega)]
      congr 2
      omega
    · obtain ⟨o', ho'⟩ : ∃ o' : Int, 0 < o' ∧ o' % 2 = 1 ∧ l.getD i 0 = o' * 2 ^ t := by
        have ht : t < 32 := by
          apply Nat.lt_of_not_le
          intro hh
          obtain ⟨m, rfl⟩ : ∃ m, t = m + 32 := ⟨t - 32, by omega⟩
          rw [p2_add, show (2 : Int) ^ 32 = 4294967296 by decide, ← Int.mul_assoc] at hv
          omega
        have e : (4294967296 : Int) = 2 ^ (32 - t) * 2 ^ t := by rw [← p2_add, show 32 - t + t = 32 by omega]; decide
        have e1 : l.getD i 0 = (o - 2 ^ (32 - t) * val (l.drop (i + 1))) * 2 ^ t := by
          rw [Int.sub_mul, ← hv, Int.mul_assoc, Int.mul_comm (val _), ← Int.mul_assoc, ← e]
          omega
        refine ⟨_, pos_of_p t (by rw [← e1]; omega), ?_, e1⟩
        rw [show 32 - t = (31 - t) + 1 by omega, p2_succ, Int.mul_assoc]
        omega
      obtain ⟨q0, q1, q2⟩ := ho'
      refine ⟨1, fun k hk => ?_⟩
      obtain ⟨k, rfl⟩ : ∃ m, k = m + 1 := ⟨k - 1, by omega⟩
      have t32 : t < 32 := lt_32 q0 (by omega)
      simp only [dy_trailing.l0]
      rw [if_pos (by omega), if_pos (by omega), if_pos (by omega), rd_eq, Int.toNat_natCast, if_neg hz, tz_limb q0 q1 q2 g1, Option.bind_some, w64_add (by omega)]
theorem trail_ev (l : List Int) (h : U l) (hb : l.length ≤ 1073741824) {o : Int} {t : Nat} (o0 : 0 < o) (o1 : o % 2 = 1) (hv : val l = o * 2 ^ t) : ∃ K, ∀ k, K ≤ k → dy_trailing.f k l = some (t : Int) := by
  obtain ⟨K, hK⟩ := trail_l0 l h hb l.length 0 o t (by omega) o0 o1 (by simpa using hv)
  refine ⟨K, fun k hk => ?_⟩
  have := hK k hk
  unfold dy_trailing.f
  simpa using this
/-- A number's odd part, and how many noughts are at its end. -/
theorem odd_ex {v : Int} (h : 0 < v) : ∃ (o : Int) (t : Nat), 0 < o ∧ o % 2 = 1 ∧ v = o * 2 ^ t := by
  obtain ⟨n, hn⟩ : ∃ n : Nat, n = v.toNat := ⟨_, rfl⟩
  induction n using Nat.strongRecOn generalizing v with
  | ind n ih =>
    by_cases h2 : v % 2 = 1
    · exact ⟨v, 0, h, h2, by simp⟩
    · obtain ⟨o, t, o0, o1, ho⟩ := ih (v / 2).toNat (by omega) (v := v / 2) (by omega) rfl
      refine ⟨o, t + 1, o0, o1, ?_⟩
      rw [p2_succ, ← Int.mul_assoc, Int.mul_comm o 2, Int.mul_assoc, ← ho]
      omega
theorem odd_un {o o' : Int} {t t' : Nat} (o1 : o % 2 = 1) (o1' : o' % 2 = 1) (h : o * 2 ^ t = o' * 2 ^ t') : o = o' ∧ t = t' := by
  have key : ∀ {a b : Int} {s u : Nat}, a % 2 = 1 → a * 2 ^ s = b * 2 ^ u → u ≤ s := by
    intro a b s u ha hh
    apply Nat.le_of_not_lt
    intro hl
    obtain ⟨m, rfl⟩ : ∃ m, u = (m + 1) + s := ⟨u - s - 1, by omega⟩
    rw [p2_add, ← Int.mul_assoc] at hh
    have := eq_of_p s hh
    rw [p2_succ] at this
    have e : b * (2 * 2 ^ m) = 2 * (b * 2 ^ m) := by rw [← Int.mul_assoc, Int.mul_comm b 2, Int.mul_assoc]
    omega
  have e : t = t' := Nat.le_antisymm (key o1' h.symm) (key o1 h)
  subst e
  exact ⟨eq_of_p t h, rfl⟩
end Go.Proofs.YtaookeneeemfbaaDoor.T

namespace Go.Proofs.YtaookeneeemfbaaDoor.T
set_option linter.unusedVariables false
set_option linter.unusedSimpArgs false
open Go.RowKit Go.Proofs.YtaookeneeemfbaaDoorW.PrintWords Go.Proofs.YtaookeneeemfbaaDoorW.PrintMore Go.Proofs.YtaookeneeemfbaaDoor.PA

theorem wmay_eq (b : Bool) (l : List Int) (hb : l.length ≤ 1073741824) : whole_May.f b l = some (mayw b l) := by
  unfold whole_May.f mayw
  by_cases h : l.length = 0
  · rw [if_pos (by omega), if_pos h]
  · have w : wrap64 ((l.length : Int) - 1) = ((l.length - 1 : Nat) : Int) := w64_pred (by omega) (by omega)
    rw [if_neg (by omega), if_neg h, w, if_pos (by omega), if_pos (by omega), rd_eq, Int.toNat_natCast]
/-- Which number s * 2^e is, as the document has it: with odd limbs, or nought where an exponent is too far. -/
def Dv (d : Dd) (s e : Int) : Prop := (s = 0 ∧ d = (false, [], 0)) ∨ ∃ (o : Int) (t : Nat), 0 < o ∧ o % 2 = 1 ∧ s ≠ 0 ∧ (s.natAbs : Int) = o * 2 ^ t ∧
  d = if -4194304 ≤ e ∧ e ≤ 4194304 ∧ e + t ≤ 4194304 then (decide (s < 0), lim o, e + t) else (false, [], 0)
theorem Dv.ex (s e : Int) : ∃ d, Dv d s e := by
  by_cases h : s = 0
  · exact ⟨_, .inl ⟨h, rfl⟩⟩
  · obtain ⟨o, t, o0, o1, ho⟩ := odd_ex (v := s.natAbs) (by omega)
    exact ⟨_, .inr ⟨o, t, o0, o1, h, ho, rfl⟩⟩
theorem Dv.un {d d' : Dd} {s e : Int} (h : Dv d s e) (h' : Dv d' s e) : d = d' := by
  rcases h with ⟨h0, h⟩ | ⟨o, t, o0, o1, s0, hs, h⟩ <;> rcases h' with ⟨h0', h'⟩ | ⟨o', t', o0', o1', s0', hs', h'⟩
  · rw [h, h']
  · exact absurd h0 s0'
  · exact absurd h0' s0
  · obtain ⟨rfl, rfl⟩ := odd_un o1 o1' (hs.symm.trans hs')
    rw [h, h']
/-- What is made once is not turned by making it again. -/
theorem Dv.again {d : Dd} {s e : Int} (h : Dv d s e) : Dv d (sg d.1 (val d.2.1)) d.2.2 := by
  rcases h with ⟨h0, rfl⟩ | ⟨o, t, o0, o1, s0, hs, rfl⟩
  · exact .inl ⟨rfl, rfl⟩
  · split
    · rename_i hc
      simp only
      rw [val_lim (by omega)]
      refine .inr ⟨o, 0, o0, o1, sg_ne _ o0, by rw [sg_abs _ (by omega)]; simp, ?_⟩
      rw [if_pos ⟨by omega, by omega, by omega⟩, sg_lt _ o0]
      simp
    · exact .inl ⟨rfl, rfl⟩
theorem Dv.U {d : Dd} {s e : Int} (h : Dv d s e) : U d.2.1 := by
  rcases h with ⟨h0, rfl⟩ | ⟨o, t, o0, o1, s0, hs, rfl⟩
  · exact U_nil
  · split
    · exact U_lim (by omega)
    · exact U_nil
theorem Dv.le {d : Dd} {s e : Int} (h : Dv d s e) : val d.2.1 ≤ s.natAbs := by
  rcases h with ⟨h0, rfl⟩ | ⟨o, t, o0, o1, s0, hs, rfl⟩
  · simp
  · split
    · simp only
      rw [val_lim (by omega), hs]
      have := Int.mul_le_mul_of_nonneg_left (show 1 ≤ (2 : Int) ^ t by have := p2_pos t; omega) (show 0 ≤ o by omega)
      omega
    · simp
theorem Dv.len {d : Dd} {s e : Int} {L : Nat} (h : Dv d s e) (hb : B s L) : d.2.1.length ≤ L := by
  have l := h.le
  rcases h with ⟨h0, rfl⟩ | ⟨o, t, o0, o1, s0, hs, rfl⟩
  · simp
  · split at l
    · rename_i hc
      rw [if_pos hc]
      simp only at l ⊢
      rw [val_lim (by omega)] at l
      exact lim_len (by omega) _ (Int.lt_of_le_of_lt l hb)
    · rename_i hc
      rw [if_neg hc]; simp
theorem Dv.E {d : Dd} {s e : Int} (h : Dv d s e) : -4194304 ≤ d.2.2 ∧ d.2.2 ≤ 4194304 := by
  rcases h with ⟨h0, rfl⟩ | ⟨o, t, o0, o1, s0, hs, rfl⟩
  · simp
  · split
    · simp only; omega
    · simp
/-- One that is no nought: its odd limbs. -/
theorem Dv.odd {d : Dd} {s e : Int} (h : Dv d s e) : d = (false, [], 0) ∨ ∃ o : Int, 0 < o ∧ o % 2 = 1 ∧ d.2.1 = lim o := by
  rcases h with ⟨h0, rfl⟩ | ⟨o, t, o0, o1, s0, hs, rfl⟩
  · exact .inl rfl
  · split
    · exact .inr ⟨o, o0, o1, rfl⟩
    · exact .inl rfl
theorem within_eq (e : Int) : dy_within.f e = some (decide (-4194304 ≤ e ∧ e ≤ 4194304)) := by
  unfold dy_within.f
  by_cases h : e ≥ -4194304
  · rw [if_pos h]; congr 1; exact decide_eq_decide.2 ⟨fun h2 => ⟨h, h2⟩, fun h2 => h2.2⟩
  · rw [if_neg h, decide_eq_false (fun h2 => h h2.1)]
theorem sgn_ne {x : Int} (h : x ≠ 0) : sgn x ≠ 0 := by
  rcases Int.lt_trichotomy x 0 with h1 | h1 | h1
  · rw [sgn_neg h1]; decide
  · exact absurd h1 h
  · rw [sgn_pos h1]; decide
theorem t_le {l : List Int} (h : U l) {o : Int} {t : Nat} (o0 : 0 < o) (hv : val l = o * 2 ^ t) : t ≤ 32 * l.length := by
  apply Nat.le_of_not_lt
  intro hh
  have h1 := val_lt h
  rw [p2_limb] at h1
  have h2 := p2_mono (show 32 * l.length ≤ t by omega)
  have h3 := mul_le_p t (show 1 ≤ o by omega)
  omega
theorem shr_odd {o : Int} {t : Nat} (o0 : 0 < o) : shrv (o * 2 ^ t) t = o := by
  unfold shrv
  by_cases h : (t : Int) < 1
  · rw [if_pos h, show t = 0 by omega]; simp
  · rw [if_neg h, Int.toNat_natCast, Int.mul_ediv_cancel _ (by have := p2_pos t; omega)]
theorem mk_ev (neg : Bool) (l : List Int) (e : Int) (h : U l) (hb : l.length ≤ 100000000) {d : Dd} (hd : Dv d (sg neg (val l)) e) : ∃ K, ∀ k, K ≤ k → dy_Make.f k neg l e = some d := by
  obtain ⟨K1, h1⟩ := sign_ev neg l h (by omega)
  have hn := val_nonneg h
  rcases hd with ⟨hs, rfl⟩ | ⟨o, t, o0, o1, s0, hs, rfl⟩
  · refine ⟨K1 + 1, fun k hk => ?_⟩
    obtain ⟨k, rfl⟩ : ∃ m, k = m + 1 := ⟨k - 1, by omega⟩
    unfold dy_Make.f
    rw [h1 _ (by omega), Option.bind_some, hs, if_pos sgn_zero]
    simp [dy_Make.j0]
  · have s1 := sgn_ne s0
    rw [sg_abs neg hn] at hs
    have v0 : 0 < val l := by rw [hs]; exact Int.mul_pos o0 (p2_pos t)
    have tl := t_le h o0 hs
    have tE : wrap64 (e + (t : Int)) = e + t ∨ ¬ (-4194304 ≤ e ∧ e ≤ 4194304) := by
      by_cases hw : -4194304 ≤ e ∧ e ≤ 4194304
      · left; exact w64 (by omega) (by omega)
      · right; exact hw
    obtain ⟨K2, h2⟩ := trail_ev l h (by omega) o0 o1 hs
    obtain ⟨K3, h3⟩ := shr_ev l t h (by omega)
    rw [hs, shr_odd o0] at h3
    have lo : (lim o).length ≤ l.length := lim_len (by omega) _ (by
      have := val_lt h
      have q := Int.mul_le_mul_of_nonneg_left (show 1 ≤ (2 : Int) ^ t by have := p2_pos t; omega) (show 0 ≤ o by omega)
      omega)
    obtain ⟨K4, h4⟩ := make_ev neg (lim o) (U_lim (by omega)) (by omega)
    rw [val_lim (by omega)] at h4
    have hnw : nw (sg neg o) = (decide (sg neg (val l) < 0), lim o) := by
      unfold nw
      rw [sg_lt neg o0, sg_lt neg v0, sg_abs neg (by omega)]
    rw [hnw] at h4
    refine ⟨K1 + K2 + K3 + K4 + 1, fun k hk => ?_⟩
    obtain ⟨k, rfl⟩ : ∃ m, k = m + 1 := ⟨k - 1, by omega⟩
    unfold dy_Make.f
    rw [h1 _ (by omega), Option.bind_some, if_neg s1, within_eq, Option.bind_some]
    by_cases hw : -4194304 ≤ e ∧ e ≤ 4194304
    · rw [decide_eq_true hw]
      simp only [dy_Make.j0, Bool.not_true, Bool.false_eq_true, if_false]
      rw [h2 k (by omega), Option.bind_some, tE.resolve_right (fun x => x hw), within_eq, Option.bind_some]
      by_cases hw2 : e + t ≤ 4194304
      · rw [decide_eq_true ⟨by omega, hw2⟩, if_pos rfl, h3 k (by omega), Option.bind_some, h4 k (by omega), Option.bind_some, if_pos ⟨hw.1, hw.2, hw2⟩]
      · rw [decide_eq_false (fun x => hw2 x.2), if_neg (by decide), if_neg (fun x => hw2 x.2.2)]
    · rw [decide_eq_false hw]
      simp only [dy_Make.j0, Bool.not_false, if_true]
      rw [if_neg (fun x => hw ⟨x.1, x.2.1⟩)]
theorem val_mod2 {l : List Int} (h : 0 < l.length) : val l % 2 = l.getD 0 0 % 2 := by
  cases l with
  | nil => simp at h
  | cons x l => simp only [val_cons, List.getD_cons_zero]; omega
theorem and1_u32 {x : Int} (h0 : 0 ≤ x) (h1 : x < 4294967296) : Go.bits .and .u32 x 1 = x % 2 := by
  obtain ⟨n, rfl⟩ := Int.eq_ofNat_of_zero_le h0
  have := bits_and_nat n 1 (by omega) (by decide)
  rw [Nat.and_one_is_mod] at this
  exact this
/-- May one be: then it is what it is made. -/
def mayd (neg : Bool) (l : List Int) (e : Int) : Bool := if l.length = 0 then (!neg && e == 0) else (mayw neg l && decide (l.getD 0 0 % 2 = 1) && decide (-4194304 ≤ e ∧ e ≤ 4194304))
theorem dmay_eq (neg : Bool) (l : List Int) (e : Int) (h : U l) (hb : l.length ≤ 1073741824) : dy_May.f neg l e = some (mayd neg l e) := by
  unfold dy_May.f mayd
  have g := U_getD h 0
  by_cases hl : l.length = 0
  · rw [if_pos (by omega), if_pos hl]
    cases neg <;> simp
  · rw [if_neg (by omega), if_neg hl, wmay_eq neg l hb, Option.bind_some]
    cases mayw neg l
    · simp
    · rw [if_pos rfl, if_pos (by omega), rd_eq, show (0 : Int).toNat = 0 from rfl, and1_u32 g.1 g.2, within_eq]
      by_cases h1 : l.getD 0 0 % 2 = 1
      · rw [if_pos h1, decide_eq_true h1]; simp
      · rw [if_neg h1, decide_eq_false h1]; simp
theorem mayd_dv {neg : Bool} {l : List Int} {e : Int} (h : U l) (hm : mayd neg l e = true) : Dv (neg, l, e) (sg neg (val l)) e := by
  have hn := val_nonneg h
  unfold mayd at hm
  by_cases hl : l.length = 0
  · rw [if_pos hl] at hm
    obtain rfl : l = [] := List.length_eq_zero_iff.1 hl
    cases neg
    · simp at hm; subst hm; exact .inl ⟨rfl, rfl⟩
    · simp at hm
  · rw [if_neg hl] at hm
    simp only [Bool.and_eq_true, decide_eq_true_eq] at hm
    obtain ⟨⟨m1, m2⟩, m3⟩ := hm
    unfold mayw at m1
    rw [if_neg hl] at m1
    have hlim := lim_of_norm h (fun _ => bne_iff_ne.1 m1)
    have v2 := val_mod2 (l := l) (by omega)
    have v0 : 0 < val l := by omega
    refine .inr ⟨val l, 0, v0, by omega, sg_ne neg v0, by rw [sg_abs neg hn]; simp, ?_⟩
    rw [if_pos ⟨m3.1, m3.2, by omega⟩, sg_lt neg v0, hlim]
    simp
theorem dv_mayd {d : Dd} {s e : Int} (h : Dv d s e) : mayd d.1 d.2.1 d.2.2 = true := by
  have hE := h.E
  rcases h.odd with h | ⟨o, o0, o1, h⟩
  · rw [h]; rfl
  · rw [h]
    unfold mayd mayw
    have n := lim_nil_iff (n := o) (by omega)
    have v2 := val_mod2 (l := lim o) (by omega)
    rw [val_lim (by omega)] at v2
    rw [if_neg (by omega), if_neg (by omega), decide_eq_true (show (lim o).getD 0 0 % 2 = 1 by omega), decide_eq_true hE, Bool.and_true, Bool.and_true]
    exact bne_iff_ne.2 (lim_last o0)
theorem dfair_ev (neg : Bool) (l : List Int) (e : Int) (h : U l) (hb : l.length ≤ 100000000) {d : Dd} (hd : Dv d (sg neg (val l)) e) : ∃ K, ∀ k, K ≤ k → dy_fair.f k neg l e = some d := by
  obtain ⟨K1, h1⟩ := mk_ev neg l e h hb hd
  refine ⟨K1, fun k hk => ?_⟩
  unfold dy_fair.f
  rw [dmay_eq neg l e h (by omega), Option.bind_some]
  by_cases hm : mayd neg l e = true
  · rw [if_pos hm, hd.un (mayd_dv h hm)]
  · rw [if_neg hm, h1 k hk]; rfl
theorem move_ev (neg : Bool) (l : List Int) (e n : Int) (h : U l) (hb : l.length ≤ 100000000) {d d' : Dd} (hd : Dv d (sg neg (val l)) e) (n0 : -16777216 ≤ n) (n1 : n ≤ 16777216) (hd' : Dv d' (sg d.1 (val d.2.1)) (d.2.2 + n)) :
    ∃ K, ∀ k, K ≤ k → dy_Move.f k neg l e n = some d' := by
  obtain ⟨K1, h1⟩ := dfair_ev neg l e h hb hd
  have hl := hd.len (B_of neg h (Nat.le_refl _))
  have hE := hd.E
  obtain ⟨K2, h2⟩ := mk_ev d.1 d.2.1 (d.2.2 + n) hd.U (by omega) hd'
  refine ⟨K1 + K2, fun k hk => ?_⟩
  unfold dy_Move.f
  rw [h1 k (by omega), Option.bind_some, if_neg (by omega), if_neg (by omega), w64 (by omega) (by omega), h2 k (by omega)]
  rfl
theorem move0_ev (neg : Bool) (l : List Int) (e : Int) (h : U l) (hb : l.length ≤ 100000000) {d : Dd} (hd : Dv d (sg neg (val l)) e) : ∃ K, ∀ k, K ≤ k → dy_Move.f k neg l e 0 = some d :=
  move_ev neg l e 0 h hb hd (by decide) (by decide) (by rw [Int.add_zero]; exact hd.again)
/-! layer 5 -/
theorem or64_zero' {m : Int} (hm0 : 0 ≤ m) (hm1 : m < 18446744073709551616) : Go.bits .or .u64 0 m = m := by
  rw [bits_or_comm]
  have := (or_sum (h := m) (l := 0) (b := 0) (j := 64) rfl hm0 hm1 (by decide) (by decide)).1
  simpa using this
/-- What a number of layer 3 is rounded to. -/
def rdv (d : Dd) (up : Bool) : Nm := rnz (sg d.1 (val d.2.1)) d.2.2 up
end Go.Proofs.YtaookeneeemfbaaDoor.T

namespace Go.Proofs.YtaookeneeemfbaaDoor.T
set_option linter.unusedVariables false
set_option linter.unusedSimpArgs false
open Go.RowKit Go.Proofs.YtaookeneeemfbaaDoorW.PrintWords Go.Proofs.YtaookeneeemfbaaDoorW.PrintMore Go.Proofs.YtaookeneeemfbaaDoor.PA

/-- Halved as often as that goes; an exponent that is too far is none. -/
theorem m3_gen (neg : Bool) (n : Nat) : ∀ (v e i : Int), 0 < v → bl v = n → 0 ≤ i → i + n ≤ 4000000 → n ≤ 100000 → -4194304 ≤ e → e + n ≤ 8388608 →
    ∃ (o : Int) (t : Nat), 0 < o ∧ o % 2 = 1 ∧ v = o * 2 ^ t ∧ ∃ K, ∀ k, K ≤ k → pelorusref03_Make.l0 k e i neg (lim v) = some (if e + t ≤ 4194304 then (neg, lim o, e + t) else (false, [], 0)) := by
  induction n with
  | zero => intro v e i hv hb; have := bl_pos hv; omega
  | succ n ih =>
    intro v e i hv hb i0 i1 hn e0 e1
    have ev := even_eq (v := v) (by omega)
    by_cases h2 : v % 2 = 0
    · have hb2 := bl_half hv h2
      obtain ⟨o, t, o0, o1, ho, hE⟩ := ih (v / 2) (e + 1) (i + 1) (by omega) (by omega) (by omega) (by omega) (by omega) (by omega) (by omega)
      refine ⟨o, t + 1, o0, o1, ?_, ?_⟩
      · rw [p2_succ, ← Int.mul_assoc, Int.mul_comm o 2, Int.mul_assoc, ← ho]; omega
      · have hl := len_lim (v := v) (by omega) (bl v).toNat (bl_lt (by omega))
        have s := rshr_ev (lim v) 1 (U_lim (by omega)) (by omega)
        rw [val_lim (by omega)] at s
        have sv : shrv v 1 = v / 2 := by unfold shrv; rw [if_neg (by decide)]; rfl
        rw [sv] at s
        obtain ⟨K1, s⟩ := s
        obtain ⟨K2, hE⟩ := hE
        refine ⟨K1 + K2 + 1, fun k hk => ?_⟩
        obtain ⟨k, rfl⟩ : ∃ m, k = m + 1 := ⟨k - 1, by omega⟩
        simp only [pelorusref03_Make.l0]
        rw [if_pos (by omega), ev, Option.bind_some, decide_eq_true ⟨by omega, h2⟩, if_pos rfl, s k (by omega), Option.bind_some, w64 (by omega) (by omega), w64 (by omega) (by omega), hE k (by omega), show e + 1 + (t : Int) = e + ((t + 1 : Nat) : Int) by omega]
    · refine ⟨v, 0, hv, by omega, by simp, 1, fun k hk => ?_⟩
      obtain ⟨k, rfl⟩ : ∃ m, k = m + 1 := ⟨k - 1, by omega⟩
      simp only [pelorusref03_Make.l0]
      rw [if_pos (by omega), ev, Option.bind_some, decide_eq_false (fun h => h2 h.2), if_neg (by decide)]
      by_cases h3 : e > 4194304
      · rw [if_pos h3, if_neg (by omega)]
      · rw [if_neg h3, if_pos (by omega), show e + ((0 : Nat) : Int) = e by omega]
theorem rmk_ev (neg : Bool) (l : List Int) (e : Int) (h : U l) (hb : l.length ≤ 100000000) (hl : bl (val l) ≤ 100000) {d : Dd} (hd : Dv d (sg neg (val l)) e) : ∃ K, ∀ k, K ≤ k → pelorusref03_Make.f k neg l e = some d := by
  have hn := val_nonneg h
  obtain ⟨K, hK⟩ := make2_ev neg l h (by omega)
  have nl := lim_nil_iff hn
  rcases hd with ⟨hs, rfl⟩ | ⟨o, t, o0, o1, s0, hs, rfl⟩
  · have hz : val l = 0 := by have := sg_abs neg hn; rw [hs] at this; simpa using this.symm
    refine ⟨K + 1, fun k hk => ?_⟩
    obtain ⟨k, rfl⟩ : ∃ m, k = m + 1 := ⟨k - 1, by omega⟩
    unfold pelorusref03_Make.f
    rw [hK (k + 1) (by omega), Option.bind_some, hz, show lim 0 = [] from limN_zero]
    rfl
  · rw [sg_abs neg hn] at hs
    have v0 : 0 < val l := by rw [hs]; exact Int.mul_pos o0 (p2_pos t)
    have bp := bl_pos v0
    rw [sg_lt neg v0]
    by_cases he : -4194304 ≤ e ∧ e ≤ 4194304
    · obtain ⟨o', t', o0', o1', ho', K2, hE⟩ := m3_gen neg (bl (val l)).toNat (val l) e 0 v0 (by omega) (by decide) (by omega) (by omega) he.1 (by omega)
      obtain ⟨rfl, rfl⟩ := odd_un o1 o1' (hs.symm.trans ho')
      refine ⟨K + K2 + 1, fun k hk => ?_⟩
      obtain ⟨k, rfl⟩ : ∃ m, k = m + 1 := ⟨k - 1, by omega⟩
      unfold pelorusref03_Make.f
      rw [hK (k + 1) (by omega), Option.bind_some]
      simp only
      rw [if_neg (by omega), if_neg (by omega), decide_eq_false (show ¬ e > 4194304 by omega), decide_eq_true (show val l ≠ 0 by omega), Bool.and_true]
      simp only [pelorusref03_Make.j0, Bool.false_eq_true, if_false]
      rw [hE k (by omega)]
      by_cases h3 : e + (t : Int) ≤ 4194304
      · rw [if_pos h3, if_pos ⟨he.1, he.2, h3⟩]
      · rw [if_neg h3, if_neg (fun x => h3 x.2.2)]
    · refine ⟨K + 1, fun k hk => ?_⟩
      obtain ⟨k, rfl⟩ : ∃ m, k = m + 1 := ⟨k - 1, by omega⟩
      unfold pelorusref03_Make.f
      rw [hK (k + 1) (by omega), Option.bind_some, if_neg (show ¬ (-4194304 ≤ e ∧ e ≤ 4194304 ∧ e + (t : Int) ≤ 4194304) from fun x => he ⟨x.1, x.2.1⟩)]
      simp only
      rw [if_neg (show ¬ ((lim (val l)).length : Int) = 0 by omega)]
      by_cases h1 : e < -4194304
      · rw [if_pos h1]; simp [pelorusref03_Make.j0]
      · rw [if_neg h1, decide_eq_true (show e > 4194304 by omega)]; simp [pelorusref03_Make.j0]
theorem bl_dv {d : Dd} {s e : Int} (h : Dv d s e) {o : Int} (o0 : 0 < o) (ho : d.2.1 = lim o) : bl o ≤ bl s.natAbs := by
  have := h.le
  rw [ho, val_lim (by omega)] at this
  have h2 := bl_le (Int.lt_of_le_of_lt this (bl_lt (n := (s.natAbs : Int)) (by omega)))
  have h3 := bl_nonneg (s.natAbs : Int)
  omega
/-- A number that layer 3 can hold is rounded as it is. -/
theorem rdv_eq {d : Dd} {s e : Int} (h : Dv d s e) (up : Bool) (hs : s ≠ 0) (e0 : -4194304 ≤ e) (e1 : e + bl s.natAbs ≤ 4194304) : rdv d up = rnz s e up := by
  have bn := bl_nonneg (s.natAbs : Int)
  rcases h with ⟨h0, rfl⟩ | ⟨o, t, o0, o1, s0, ho, rfl⟩
  · exact absurd h0 hs
  · have bo := blp o0 t
    have po := bl_pos o0
    rw [← ho] at bo
    rw [if_pos ⟨e0, by omega, by omega⟩]
    unfold rdv
    simp only
    rw [val_lim (by omega), rnz_sg o0]
    unfold rnz
    rw [if_neg hs, ho, rnd_scale o0]
theorem rdv_zero {d : Dd} {e : Int} (h : Dv d 0 e) (up : Bool) : rdv d up = (0, false, 0, 0) := by
  rcases h with ⟨h0, rfl⟩ | ⟨o, t, o0, o1, s0, ho, rfl⟩
  · rfl
  · exact absurd rfl s0
theorem rdv_may (d : Dd) (up : Bool) : mayP (rdv d up) := rnz_may _ _ _
theorem of_rnz (a : Int) (h0 : -9223372036854775808 ≤ a) (h1 : a ≤ 9223372036854775807) (up : Bool) : rnz a 0 up = ofv a := by
  unfold rnz ofv
  by_cases hz : a = 0
  · rw [if_pos hz, if_pos hz]
  · rw [if_neg hz, if_neg hz]
    have b0 := bl_pos (n := (a.natAbs : Int)) (by omega)
    have b1 := bl_le (n := (a.natAbs : Int)) (m := 64) (by rw [p64]; omega)
    have b2 := bl_lt (n := (a.natAbs : Int)) (by omega)
    have b3 := bl_ge (n := (a.natAbs : Int)) (by omega)
    unfold rnd
    rw [if_pos (by omega), bnd_in (by omega) (by omega)]
    congr 3
    omega
end Go.Proofs.YtaookeneeemfbaaDoor.T

namespace Go.Proofs.YtaookeneeemfbaaDoor.T
set_option linter.unusedVariables false
set_option linter.unusedSimpArgs false
open Go.RowKit Go.Proofs.YtaookeneeemfbaaDoorW.PrintWords Go.Proofs.YtaookeneeemfbaaDoorW.PrintMore Go.Proofs.YtaookeneeemfbaaDoor.PA

/-- The product of two exact numbers. -/
theorem mul3_ev {p q : Dd} {s r f g : Int} (hp : Rep p s f) (hq : Rep q r g) (hs : bl s.natAbs ≤ 40000) (hr : bl r.natAbs ≤ 40000) (f0 : -2000000 ≤ f) (f1 : f ≤ 2000000) (g0 : -2000000 ≤ g) (g1 : g ≤ 2000000) :
    ∃ d, Rep d (s * r) (f + g) ∧ ∃ K, ∀ k, K ≤ k → pelorusref03_Mul.f k p.1 p.2.1 p.2.2 q.1 q.2.1 q.2.2 = some d := by
  obtain ⟨a, ha, K1, h1⟩ := rep_make hp (by omega) (by omega) (by omega)
  obtain ⟨b, hb, K2, h2⟩ := rep_make hq (by omega) (by omega) (by omega)
  -- each as a sign, a value and a power
  have key : ∀ {a : Dd} {s f : Int}, Rep a s f → bl s.natAbs ≤ 40000 → -2000000 ≤ f → f ≤ 2000000 → ∃ (n : Bool) (o e : Int) (t : Nat), a = (n, lim o, e) ∧ 0 ≤ o ∧ bl o ≤ 40000 ∧ -2000000 ≤ e ∧ e ≤ 2040000 ∧ (s = 0 ∧ o = 0 ∨ e = f + t ∧ sg n o * 2 ^ t = s) := by
    intro a s f h hb f0 f1
    rcases h with ⟨rfl, rfl⟩ | ⟨o, t, o0, o1, s0, ho, rfl⟩
    · exact ⟨false, 0, 0, 0, by rw [show lim 0 = [] from limN_zero], by decide, by decide, by decide, by decide, .inl ⟨rfl, rfl⟩⟩
    · have bo := blp o0 t
      rw [← ho] at bo
      have := bl_nonneg o
      refine ⟨_, o, _, t, rfl, by omega, by omega, by omega, by omega, .inr ⟨rfl, ?_⟩⟩
      rw [← sg_mulr, ← ho, sg_of]
  obtain ⟨n, o, e, t, rfl, o0, bo, e0, e1, hk⟩ := key ha hs f0 f1
  obtain ⟨n', o', e', t', rfl, o0', bo', e0', e1', hk'⟩ := key hb hr g0 g1
  have lo := len_lim (v := o) o0 40000 (Int.lt_of_lt_of_le (bl_lt o0) (p2_mono (by omega)))
  have lo' := len_lim (v := o') o0' 40000 (Int.lt_of_lt_of_le (bl_lt o0') (p2_mono (by omega)))
  obtain ⟨K3, h3⟩ := rmul_ev (lim o) (lim o') (U_lim o0) (U_lim o0') (by omega)
  rw [val_lim o0, val_lim o0'] at h3
  have oo0 := Int.mul_nonneg o0 o0'
  have oo1 : o * o' < 2 ^ 80000 := by
    have a1 := Int.lt_of_lt_of_le (bl_lt o0) (p2_mono (show (bl o).toNat ≤ 40000 by omega))
    have a2 := Int.lt_of_lt_of_le (bl_lt o0') (p2_mono (show (bl o').toNat ≤ 40000 by omega))
    have a3 := Int.mul_le_mul_of_nonneg_right (show o ≤ 2 ^ 40000 by omega) o0'
    have a4 := Int.mul_lt_mul_of_pos_left a2 (p2_pos 40000)
    rw [← p2_add] at a4
    exact Int.lt_of_le_of_lt a3 a4
  have loo := len_lim oo0 80000 oo1
  have boo := bl_le oo1
  have boo0 := bl_nonneg (o * o')
  obtain ⟨K4, h4⟩ := make2_ev (n != n') (lim (o * o')) (U_lim oo0) (by omega)
  rw [val_lim oo0] at h4
  obtain ⟨d, hd, K5, h5⟩ := make3_ev ((n != n') && decide (o * o' ≠ 0)) (lim (o * o')) (e + e') (U_lim oo0) (by omega) (by rw [val_lim oo0]; omega) (by omega) (by rw [val_lim oo0]; omega)
  rw [val_lim oo0] at hd
  refine ⟨d, ?_, K1 + K2 + K3 + K4 + K5, fun k hk => ?_⟩
  · have sgz : ∀ b : Bool, sg b 0 = 0 := fun b => by cases b <;> rfl
    have es : sg ((n != n') && decide (o * o' ≠ 0)) (o * o') = sg n o * sg n' o' := by
      by_cases z : o * o' = 0
      · rw [z, sgz]
        rcases Int.mul_eq_zero.1 z with z | z
        · rw [z, sgz, Int.zero_mul]
        · rw [z, sgz, Int.mul_zero]
      · rw [decide_eq_true z, Bool.and_true]
        unfold sg
        cases n <;> cases n' <;> simp [Int.neg_mul, Int.mul_neg]
    rw [es] at hd
    rcases hk with ⟨rfl, rfl⟩ | ⟨rfl, rfl⟩
    · rw [sgz, Int.zero_mul] at hd
      rw [Int.zero_mul]
      rcases hd with ⟨_, hd⟩ | ⟨_, _, _, _, hd, _⟩
      · exact .inl ⟨rfl, hd⟩
      · exact absurd rfl hd
    · rcases hk' with ⟨rfl, rfl⟩ | ⟨rfl, rfl⟩
      · rw [sgz, Int.mul_zero] at hd
        rw [Int.mul_zero]
        rcases hd with ⟨_, hd⟩ | ⟨_, _, _, _, hd, _⟩
        · exact .inl ⟨rfl, hd⟩
        · exact absurd rfl hd
      · have e2 : sg n o * 2 ^ t * (sg n' o' * 2 ^ t') = sg n o * sg n' o' * 2 ^ (t + t') := by rw [p2_add]; grind
        rw [e2]
        refine Rep.scale (t + t') ?_
        rw [show f + g + ((t + t' : Nat) : Int) = f + t + (g + t') by omega]
        exact hd
  · unfold pelorusref03_Mul.f
    rw [h1 k (by omega), Option.bind_some, h2 k (by omega), Option.bind_some]
    unfold pelorusref02_Two.f
    simp only
    rw [h3 k (by omega), Option.bind_some, h4 k (by omega), Option.bind_some, Option.bind_some]
    simp only
    rw [w64 (by omega) (by omega), h5 k (by omega), Option.bind_some]

end Go.Proofs.YtaookeneeemfbaaDoor.T

namespace Go.Proofs.YtaookeneeemfbaaDoor.T
set_option linter.unusedVariables false
set_option linter.unusedSimpArgs false
open Go.RowKit Go.Proofs.YtaookeneeemfbaaDoorW.PrintWords Go.Proofs.YtaookeneeemfbaaDoorW.PrintMore Go.Proofs.YtaookeneeemfbaaDoor.PA

/-- A number as it comes in, of limbs and a power of two: it is S * 2^f, S of no more than N bits. -/
structure Z (n : Bool) (l : List Int) (e f S : Int) (N : Nat) : Prop where
  u : U l
  len : l.length ≤ 2000
  lo : f ≤ e
  hi : e ≤ 1000000
  eq : S = sg n (val l) * 2 ^ (e - f).toNat
  bd : (S.natAbs : Int) < 2 ^ N
theorem Rep.un {d d' : Dd} {s f : Int} (h : Rep d s f) (h' : Rep d' s f) : d = d' := by
  rcases h with ⟨h0, h⟩ | ⟨o, t, o0, o1, s0, hs, h⟩ <;> rcases h' with ⟨h0', h'⟩ | ⟨o', t', o0', o1', s0', hs', h'⟩
  · rw [h, h']
  · exact absurd h0 s0'
  · exact absurd h0' s0
  · obtain ⟨rfl, rfl⟩ := odd_un o1 o1' (hs.symm.trans hs')
    rw [h, h']
theorem sg_mulp (n : Bool) (x y : Int) : sg n (x * y) = sg n x * y := by
  unfold sg; split
  · rw [Int.neg_mul]
  · rfl
theorem abs_mulp (s : Int) (j : Nat) : ((s * 2 ^ j).natAbs : Int) = s.natAbs * 2 ^ j := by
  have := p2_pos j
  rw [Int.natAbs_mul, Int.natCast_mul, show ((((2 : Int) ^ j).natAbs : Nat) : Int) = 2 ^ j from Int.natAbs_of_nonneg (by omega)]
theorem abs_le_mulp (s : Int) (j : Nat) : (s.natAbs : Int) ≤ ((s * 2 ^ j).natAbs : Int) := by
  rw [abs_mulp]
  have := Int.mul_le_mul_of_nonneg_left (show 1 ≤ (2 : Int) ^ j by have := p2_pos j; omega) (show 0 ≤ (s.natAbs : Int) by omega)
  omega
theorem Rep.val {d : Dd} {S f : Int} (h : Rep d S f) : (S = 0 ∧ d = (false, [], 0)) ∨ ∃ t : Nat, d.2.2 = f + t ∧ S = sg d.1 (val d.2.1) * 2 ^ t ∧ ∃ o : Int, 0 < o ∧ o % 2 = 1 ∧ d.2.1 = lim o ∧ (S.natAbs : Int) = o * 2 ^ t := by
  rcases h with h | ⟨o, t, o0, o1, s0, hs, rfl⟩
  · exact .inl h
  · refine .inr ⟨t, rfl, ?_, o, o0, o1, rfl, hs⟩
    simp only
    rw [val_lim (by omega), ← sg_mulp, ← hs, sg_of]
theorem Z.of_rep {d : Dd} {S f : Int} {N : Nat} (h : Rep d S f) (hb : (S.natAbs : Int) < 2 ^ N) (hN : N ≤ 60000) (f0 : -1000000 ≤ f) (f1 : f ≤ 0) : Z d.1 d.2.1 d.2.2 f S N := by
  rcases h.val with ⟨rfl, rfl⟩ | ⟨t, hE, hS, o, o0, o1, ho, hs⟩
  · exact ⟨U_nil, by simp, f1, by simp, by simp [sg], hb⟩
  · have b1 := mul_le_p t (show 1 ≤ o by omega)
    have b2 := Int.mul_le_mul_of_nonneg_left (show 1 ≤ (2 : Int) ^ t by have := p2_pos t; omega) (show 0 ≤ o by omega)
    have ht := p2_lt (show (2 : Int) ^ t < 2 ^ N by omega)
    have hl := len_lim (v := o) (by omega) N (by omega)
    refine ⟨by rw [ho]; exact U_lim (by omega), by rw [ho]; omega, by omega, by omega, ?_, hb⟩
    rw [show (d.2.2 - f).toNat = t by omega]
    exact hS
theorem Z.dv {n : Bool} {l : List Int} {e f S : Int} {N : Nat} (h : Z n l e f S N) (f0 : -1000000 ≤ f) : ∃ d, Rep d S f ∧ Dv d (sg n (val l)) e := by
  have hv := val_nonneg h.u
  have rs : ∀ {d : Dd}, Rep d (sg n (val l)) e → Rep d S f := fun {d} hr => by
    have hj : e = f + ((e - f).toNat : Nat) := by have := h.lo; omega
    have h2 : Rep d (sg n (val l)) (f + ((e - f).toNat : Nat)) := by rw [← hj]; exact hr
    have := h2.scale
    rw [← h.eq] at this
    exact this
  by_cases hz : val l = 0
  · have z : sg n (val l) = 0 := by rw [hz]; cases n <;> rfl
    exact ⟨(false, [], 0), rs (.inl ⟨z, rfl⟩), .inl ⟨z, rfl⟩⟩
  · obtain ⟨o, t, o0, o1, ho⟩ := odd_ex (v := val l) (by omega)
    have tl := t_le h.u o0 ho
    have ll := h.len
    have hh := h.hi
    have lo := h.lo
    have s0 := sg_ne n (show 0 < val l by omega)
    have sa := sg_abs n hv
    refine ⟨(decide (sg n (val l) < 0), lim o, e + t), rs (.inr ⟨o, t, o0, o1, s0, by rw [sa, ho], rfl⟩), .inr ⟨o, t, o0, o1, s0, by rw [sa, ho], ?_⟩⟩
    rw [if_pos ⟨by omega, by omega, by omega⟩]
theorem Z.nw {s e f : Int} {N : Nat} (lo : f ≤ e) (hi : e ≤ 1000000) (hN : N ≤ 60000) (hb : ((s * 2 ^ (e - f).toNat).natAbs : Int) < 2 ^ N) : Z (nw s).1 (nw s).2 e f (s * 2 ^ (e - f).toNat) N := by
  have h1 := abs_le_mulp s (e - f).toNat
  have hl := len_lim (v := (s.natAbs : Int)) (by omega) N (by omega)
  exact ⟨nw_U _, by show (lim s.natAbs).length ≤ 2000; omega, lo, hi, by rw [nw_sg], hb⟩
theorem fair_z {n : Bool} {l : List Int} {e f S : Int} {N : Nat} (h : Z n l e f S N) (f0 : -1000000 ≤ f) : ∃ d, Rep d S f ∧ ∃ K, ∀ k, K ≤ k → dy_fair.f k n l e = some d := by
  obtain ⟨d, hd, hv⟩ := h.dv f0
  have := h.len
  exact ⟨d, hd, dfair_ev n l e h.u (by omega) hv⟩
theorem mk_z {n : Bool} {l : List Int} {e f S : Int} {N : Nat} (h : Z n l e f S N) (f0 : -1000000 ≤ f) : ∃ d, Rep d S f ∧ ∃ K, ∀ k, K ≤ k → dy_Make.f k n l e = some d := by
  obtain ⟨d, hd, hv⟩ := h.dv f0
  have := h.len
  exact ⟨d, hd, mk_ev n l e h.u (by omega) hv⟩
theorem neg_z {n : Bool} {l : List Int} {e f S : Int} {N : Nat} (h : Z n l e f S N) (hN : N ≤ 60000) (f0 : -1000000 ≤ f) : ∃ d, Rep d (-S) f ∧ ∃ K, ∀ k, K ≤ k → dy_Neg.f k n l e = some d := by
  have hl := h.len
  obtain ⟨K1, h1⟩ := neg_ev n l h.u (by omega)
  have eS : -S = -sg n (val l) * 2 ^ (e - f).toNat := by rw [h.eq, Int.neg_mul]
  have z : Z (nw (-sg n (val l))).1 (nw (-sg n (val l))).2 e f (-S) N := by
    rw [eS]
    exact Z.nw h.lo h.hi hN (by rw [← eS, Int.natAbs_neg]; exact h.bd)
  obtain ⟨d, hd, K2, h2⟩ := mk_z z f0
  refine ⟨d, hd, K1 + K2, fun k hk => ?_⟩
  unfold dy_Neg.f
  rw [h1 k (by omega), Option.bind_some, h2 k (by omega)]
  rfl
/-- The sum of two that may be. -/
theorem add_z {p q : Dd} {S T f : Int} {N : Nat} (hp : Rep p S f) (hq : Rep q T f) (hS : (S.natAbs : Int) < 2 ^ N) (hT : (T.natAbs : Int) < 2 ^ N) (hN : N ≤ 50000) (f0 : -1000000 ≤ f) (f1 : f ≤ 0) :
    ∃ d, Rep d (S + T) f ∧ ∃ K, ∀ k, K ≤ k → dy_add.f k p.1 p.2.1 p.2.2 q.1 q.2.1 q.2.2 = some d := by
  have key : ∀ {p q : Dd} {S T : Int} {t t' : Nat} {o o' : Int}, p.2.2 = f + t → S = sg p.1 (val p.2.1) * 2 ^ t → (0 < o ∧ o % 2 = 1 ∧ p.2.1 = lim o ∧ (S.natAbs : Int) = o * 2 ^ t) → q.2.2 = f + t' → T = sg q.1 (val q.2.1) * 2 ^ t' →
      (0 < o' ∧ o' % 2 = 1 ∧ q.2.1 = lim o' ∧ (T.natAbs : Int) = o' * 2 ^ t') → (S.natAbs : Int) < 2 ^ N → (T.natAbs : Int) < 2 ^ N → t ≤ t' →
      ∃ d, Rep d (S + T) f ∧ ∃ K, ∀ k, K ≤ k → ((nat_Shl.f k q.2.1 (wrap64 (q.2.2 - p.2.2))).bind fun t => ((whole_Add.f k p.1 p.2.1 q.1 t).bind fun b => ((dy_Make.f k b.1 b.2 p.2.2).bind fun c => (some (c.1, c.2.1, c.2.2))))) = some d := by
    intro p q S T t t' o o' hE eS ho hE' eT ho' hS hT htt
    obtain ⟨j, rfl⟩ := Nat.le.dest htt
    obtain ⟨o0, o1, ho, hs⟩ := ho
    obtain ⟨o0', o1', ho', hs'⟩ := ho'
    have b1 := mul_le_p (t + j) (show 1 ≤ o' by omega)
    have ht := p2_lt (show (2 : Int) ^ (t + j) < 2 ^ N by omega)
    have zp := Z.of_rep (d := p) (.inr ⟨o, t, o0, o1, by intro h0; rw [h0] at hs; have := Int.mul_pos o0 (p2_pos t); simp at hs; omega, hs, by
      have : decide (S < 0) = p.1 := by
        rw [eS, ho, val_lim (by omega), ← sg_mulp]
        exact sg_lt _ (Int.mul_pos o0 (p2_pos t))
      rw [this, ← ho, ← hE]⟩) hS (by omega) f0 f1
    have zq := Z.of_rep (d := q) (.inr ⟨o', t + j, o0', o1', by intro h0; rw [h0] at hs'; have := Int.mul_pos o0' (p2_pos (t + j)); simp at hs'; omega, hs', by
      have : decide (T < 0) = q.1 := by
        rw [eT, ho', val_lim (by omega), ← sg_mulp]
        exact sg_lt _ (Int.mul_pos o0' (p2_pos (t + j)))
      rw [this, ← ho', ← hE']⟩) hT (by omega) f0 f1
    have lp := zp.len
    have lq := zq.len
    obtain ⟨K1, h1⟩ := shl_ev q.2.1 j zq.u (by omega)
    rw [shlv_eq (by omega) (by omega), Int.toNat_natCast] at h1
    have hvq := val_nonneg zq.u
    have v0 : 0 ≤ val q.2.1 * 2 ^ j := Int.mul_nonneg hvq (by have := p2_pos j; omega)
    have ll := len_lim v0 N (by
      have hq2 : val q.2.1 = o' := by rw [ho', val_lim (by omega)]
      rw [hq2]
      have h3 : o' * 2 ^ (t + j) = o' * 2 ^ j * 2 ^ t := by rw [Nat.add_comm, p2_add, Int.mul_assoc]
      have h4 := Int.mul_le_mul_of_nonneg_left (show 1 ≤ (2 : Int) ^ t by have := p2_pos t; omega) (show 0 ≤ o' * 2 ^ j by rw [hq2] at v0; exact v0)
      omega)
    obtain ⟨K2, h2⟩ := addw_ev p.1 q.1 p.2.1 (lim (val q.2.1 * 2 ^ j)) zp.u (U_lim v0) (by omega) (by omega)
    rw [val_lim v0, sg_mulp] at h2
    have eST : S + T = (sg p.1 (val p.2.1) + sg q.1 (val q.2.1) * 2 ^ j) * 2 ^ (p.2.2 - f).toNat := by
      rw [show (p.2.2 - f).toNat = t by omega, Int.add_mul, Int.mul_assoc, ← p2_add, Nat.add_comm j t, ← eS, ← eT]
    have pn := p2_succ N
    have zr : Z (nw (sg p.1 (val p.2.1) + sg q.1 (val q.2.1) * 2 ^ j)).1 (nw (sg p.1 (val p.2.1) + sg q.1 (val q.2.1) * 2 ^ j)).2 p.2.2 f (S + T) (N + 1) := by
      rw [eST]
      exact Z.nw zp.lo zp.hi (by omega) (by rw [← eST]; omega)
    obtain ⟨d, hd, K3, h3⟩ := mk_z zr f0
    refine ⟨d, hd, K1 + K2 + K3, fun k hk => ?_⟩
    rw [show wrap64 (q.2.2 - p.2.2) = (j : Int) by rw [w64 (by omega) (by omega)]; omega, h1 k (by omega), Option.bind_some, h2 k (by omega), Option.bind_some, h3 k (by omega)]
    rfl
  rcases hp.val with ⟨rfl, rfl⟩ | ⟨t, hE, eS, o, ho⟩
  · refine ⟨q, by rw [Int.zero_add]; exact hq, 1, fun k hk => ?_⟩
    unfold dy_add.f
    rfl
  have n1 := lim_nil_iff (n := o) (by have := ho.1; omega)
  rcases hq.val with ⟨rfl, rfl⟩ | ⟨t', hE', eT, o', ho'⟩
  · refine ⟨p, by rw [Int.add_zero]; exact hp, 1, fun k hk => ?_⟩
    unfold dy_add.f
    rw [if_neg (by rw [ho.2.2.1]; have := ho.1; omega)]
    rfl
  have n2 := lim_nil_iff (n := o') (by have := ho'.1; omega)
  by_cases hc : t ≤ t'
  · obtain ⟨d, hd, K, hK⟩ := key hE eS ho hE' eT ho' hS hT hc
    refine ⟨d, hd, K, fun k hk => ?_⟩
    unfold dy_add.f
    rw [if_neg (by rw [ho.2.2.1]; have := ho.1; omega), if_neg (by rw [ho'.2.2.1]; have := ho'.1; omega), if_neg (by omega)]
    exact hK k hk
  · obtain ⟨d, hd, K, hK⟩ := key hE' eT ho' hE eS ho hT hS (by omega)
    refine ⟨d, by rw [Int.add_comm]; exact hd, K, fun k hk => ?_⟩
    unfold dy_add.f
    rw [if_neg (by rw [ho.2.2.1]; have := ho.1; omega), if_neg (by rw [ho'.2.2.1]; have := ho'.1; omega), if_pos (by omega)]
    exact hK k hk
theorem abs_add_lt {S T : Int} {N : Nat} (hS : (S.natAbs : Int) < 2 ^ N) (hT : (T.natAbs : Int) < 2 ^ N) : ((S + T).natAbs : Int) < 2 ^ (N + 1) := by
  have := p2_succ N
  omega
theorem abs_mono {S : Int} {N M : Nat} (h : (S.natAbs : Int) < 2 ^ N) (hm : N ≤ M) : (S.natAbs : Int) < 2 ^ M := Int.lt_of_lt_of_le h (p2_mono hm)
theorem abs_neg {S : Int} {N : Nat} (h : (S.natAbs : Int) < 2 ^ N) : ((-S).natAbs : Int) < 2 ^ N := by omega
theorem abs_mul_lt {S T : Int} {N M : Nat} (hS : (S.natAbs : Int) < 2 ^ N) (hT : (T.natAbs : Int) < 2 ^ M) : ((S * T).natAbs : Int) < 2 ^ (N + M) := by
  rw [Int.natAbs_mul, Int.natCast_mul, p2_add]
  have h1 := Int.mul_le_mul_of_nonneg_right (show (S.natAbs : Int) ≤ 2 ^ N by omega) (show 0 ≤ (T.natAbs : Int) by omega)
  have h2 := Int.mul_lt_mul_of_pos_left hT (p2_pos N)
  omega
/-- The sum of a list, from some sum on. -/
theorem addl_z (l : List S27) (f : Int) (N : Nat) (hN : N ≤ 40000) (hl : l.length ≤ 1000) (f0 : -1000000 ≤ f) (f1 : f ≤ 0) (v : S27 → Int) (hz : ∀ x ∈ l, Z x.f0.f0 x.f0.f1 x.f1 f (v x) N) (m : Nat) :
    ∀ (i : Nat) (p : Dd) (S : Int), m + i = l.length → Rep p S f → (S.natAbs : Int) < 2 ^ (N + i) →
    ∃ d, Rep d (S + ((l.drop i).map v).sum) f ∧ ∃ K, ∀ k, K ≤ k → dy_Add.l0 k l (l.length : Int) (i : Int) p.1 p.2.1 p.2.2 = some d := by
  induction m with
  | zero =>
    intro i p S hi hp hS
    rw [List.drop_of_length_le (by omega)]
    obtain ⟨d, hd, K, hK⟩ := mk_z (Z.of_rep hp hS (by omega) f0 f1) f0
    refine ⟨d, by simpa using hd, K + 1, fun k hk => ?_⟩
    obtain ⟨k, rfl⟩ : ∃ m, k = m + 1 := ⟨k - 1, by omega⟩
    simp only [dy_Add.l0]
    rw [if_neg (by omega)]
    unfold dy_own.f
    rw [hK k (by omega)]
    rfl
  | succ m ih =>
    intro i p S hi hp hS
    have hli : i < l.length := by omega
    have hm : l[i] ∈ l := List.getElem_mem hli
    have hzi := hz _ hm
    obtain ⟨q, hq, K1, h1⟩ := fair_z hzi f0
    obtain ⟨d, hd, K2, h2⟩ := add_z hp hq hS (abs_mono hzi.bd (show N ≤ N + i by omega)) (by omega) f0 f1
    obtain ⟨r, hr, K3, h3⟩ := ih (i + 1) d (S + v l[i]) (by omega) hd (abs_add_lt hS (abs_mono hzi.bd (show N ≤ N + i by omega)))
    refine ⟨r, ?_, K1 + K2 + K3 + 1, fun k hk => ?_⟩
    · rw [List.drop_eq_getElem_cons hli, List.map_cons, List.sum_cons, ← Int.add_assoc]
      exact hr
    · obtain ⟨k, rfl⟩ : ∃ m, k = m + 1 := ⟨k - 1, by omega⟩
      have hrd : rd_T27 l (i : Int) = l[i] := by
        unfold rd_T27
        rw [Int.toNat_natCast, List.getD_eq_getElem?_getD, List.getElem?_eq_getElem hli]; rfl
      simp only [dy_Add.l0]
      rw [if_pos (by omega), if_pos (by omega), if_pos (by omega), hrd, h1 k (by omega), Option.bind_some, h2 k (by omega), Option.bind_some, w64_succ (by omega), h3 k (by omega)]
theorem addn_z (l : List S27) (f : Int) (N : Nat) (hN : N ≤ 40000) (hl : l.length ≤ 1000) (f0 : -1000000 ≤ f) (f1 : f ≤ 0) (v : S27 → Int) (hz : ∀ x ∈ l, Z x.f0.f0 x.f0.f1 x.f1 f (v x) N) :
    ∃ d, Rep d ((l.map v).sum) f ∧ ∃ K, ∀ k, K ≤ k → dy_Add.f k l = some d := by
  obtain ⟨d, hd, K, hK⟩ := addl_z l f N hN hl f0 f1 v hz l.length 0 (false, [], 0) 0 (by omega) (.inl ⟨rfl, rfl⟩) (by have := p2_pos (N + 0); simpa using this)
  exact ⟨d, by simpa using hd, K, fun k hk => by unfold dy_Add.f; exact hK k hk⟩
/-- A number's value at a power, as a function of it. -/
def zval (f : Int) (x : S27) : Int := sg x.f0.f0 (val x.f0.f1) * 2 ^ (x.f1 - f).toNat
theorem Z.at_ {n : Bool} {l : List Int} {e f S : Int} {N : Nat} (h : Z n l e f S N) : zval f ⟨⟨n, l⟩, e⟩ = S := h.eq.symm
theorem Z.self {n : Bool} {l : List Int} {e f S : Int} {N : Nat} (h : Z n l e f S N) : Z n l e f (zval f ⟨⟨n, l⟩, e⟩) N := by rw [h.at_]; exact h
theorem add2_z {n n' : Bool} {l l' : List Int} {e e' f S T : Int} {N : Nat} (h : Z n l e f S N) (h' : Z n' l' e' f T N) (hN : N ≤ 40000) (f0 : -1000000 ≤ f) (f1 : f ≤ 0) :
    ∃ d, Rep d (S + T) f ∧ ∃ K, ∀ k, K ≤ k → dy_Add.f k [⟨⟨n, l⟩, e⟩, ⟨⟨n', l'⟩, e'⟩] = some d := by
  have := addn_z [⟨⟨n, l⟩, e⟩, ⟨⟨n', l'⟩, e'⟩] f N hN (by simp) f0 f1 (zval f) (by simp [h.self, h'.self])
  simpa [h.at_, h'.at_] using this
theorem add3_z {n n' n'' : Bool} {l l' l'' : List Int} {e e' e'' f S T R : Int} {N : Nat} (h : Z n l e f S N) (h' : Z n' l' e' f T N) (h'' : Z n'' l'' e'' f R N) (hN : N ≤ 40000) (f0 : -1000000 ≤ f) (f1 : f ≤ 0) :
    ∃ d, Rep d (S + T + R) f ∧ ∃ K, ∀ k, K ≤ k → dy_Add.f k [⟨⟨n, l⟩, e⟩, ⟨⟨n', l'⟩, e'⟩, ⟨⟨n'', l''⟩, e''⟩] = some d := by
  have := addn_z [⟨⟨n, l⟩, e⟩, ⟨⟨n', l'⟩, e'⟩, ⟨⟨n'', l''⟩, e''⟩] f N hN (by simp) f0 f1 (zval f) (by simp [h.self, h'.self, h''.self])
  simpa [h.at_, h'.at_, h''.at_, Int.add_assoc] using this
theorem sub_z {n n' : Bool} {l l' : List Int} {e e' f S T : Int} {N : Nat} (h : Z n l e f S N) (h' : Z n' l' e' f T N) (hN : N ≤ 40000) (f0 : -1000000 ≤ f) (f1 : f ≤ 0) :
    ∃ d, Rep d (S - T) f ∧ ∃ K, ∀ k, K ≤ k → dy_Sub.f k n l e n' l' e' = some d := by
  obtain ⟨q, hq, K1, h1⟩ := neg_z h' (by omega) f0
  obtain ⟨d, hd, K2, h2⟩ := add2_z h (Z.of_rep hq (abs_neg h'.bd) (by omega) f0 f1) hN f0 f1
  refine ⟨d, by rw [Int.sub_eq_add_neg]; exact hd, K1 + K2, fun k hk => ?_⟩
  unfold dy_Sub.f
  rw [h1 k (by omega), Option.bind_some, h2 k (by omega)]
  rfl
theorem sgn_mulp (s : Int) (j : Nat) : sgn (s * 2 ^ j) = sgn s := by
  have hp := p2_pos j
  rcases Int.lt_trichotomy s 0 with h | h | h
  · rw [sgn_neg h, sgn_neg (Int.mul_neg_of_neg_of_pos h hp)]
  · rw [h, Int.zero_mul]
  · rw [sgn_pos h, sgn_pos (Int.mul_pos h hp)]
theorem sign_z {n : Bool} {l : List Int} {e f S : Int} {N : Nat} (h : Z n l e f S N) (hN : N ≤ 60000) (f0 : -1000000 ≤ f) (f1 : f ≤ 0) : ∃ K, ∀ k, K ≤ k → dy_Sign.f k n l e = some (sgn S) := by
  obtain ⟨d, hd, K1, h1⟩ := fair_z h f0
  have z := Z.of_rep hd h.bd hN f0 f1
  have hl := z.len
  obtain ⟨K2, h2⟩ := sign_ev d.1 d.2.1 z.u (by omega)
  refine ⟨K1 + K2, fun k hk => ?_⟩
  unfold dy_Sign.f
  rw [h1 k (by omega), Option.bind_some, h2 k (by omega), Option.bind_some, z.eq, sgn_mulp]
theorem cmp_z {n n' : Bool} {l l' : List Int} {e e' f S T : Int} {N : Nat} (h : Z n l e f S N) (h' : Z n' l' e' f T N) (hN : N ≤ 40000) (f0 : -1000000 ≤ f) (f1 : f ≤ 0) :
    ∃ K, ∀ k, K ≤ k → dy_Cmp.f k n l e n' l' e' = some (sgn (S - T)) := by
  obtain ⟨d, hd, K1, h1⟩ := sub_z h h' hN f0 f1
  obtain ⟨K2, h2⟩ := sign_z (Z.of_rep hd (by rw [Int.sub_eq_add_neg]; exact abs_add_lt h.bd (abs_neg h'.bd)) (by omega) f0 f1) (by omega) f0 f1
  refine ⟨K1 + K2, fun k hk => ?_⟩
  unfold dy_Cmp.f
  rw [h1 k (by omega), Option.bind_some, h2 k (by omega), Option.bind_some]
theorem mul_z {n n' : Bool} {l l' : List Int} {e e' f g S T : Int} {N M : Nat} (h : Z n l e f S N) (h' : Z n' l' e' g T M) (hN : N + M ≤ 30000) (f0 : -400000 ≤ f) (f1 : f ≤ 0) (g0 : -400000 ≤ g) (g1 : g ≤ 0) :
    ∃ d, Rep d (S * T) (f + g) ∧ ∃ K, ∀ k, K ≤ k → dy_Mul.f k n l e n' l' e' = some d := by
  obtain ⟨p, hp, K1, h1⟩ := fair_z h (by omega)
  obtain ⟨q, hq, K2, h2⟩ := fair_z h' (by omega)
  have zp := Z.of_rep hp h.bd (by omega) (by omega) f1
  have zq := Z.of_rep hq h'.bd (by omega) (by omega) g1
  have lp := zp.len
  have lq := zq.len
  have p0 := zp.lo
  have q0 := zq.lo
  -- exponents of what may be are small
  have ex : ∀ {d : Dd} {S f : Int} {N : Nat}, Rep d S f → (S.natAbs : Int) < 2 ^ N → f ≤ 0 → N ≤ 30000 → d.2.2 ≤ 40000 ∧ d.2.1.length ≤ 1000 := by
    intro d S f N hr hb f1 hN
    rcases hr.val with ⟨rfl, rfl⟩ | ⟨t, hE, hS, o, o0, o1, ho, hs⟩
    · simp
    · have b1 := mul_le_p t (show 1 ≤ o by omega)
      have b2 := Int.mul_le_mul_of_nonneg_left (show 1 ≤ (2 : Int) ^ t by have := p2_pos t; omega) (show 0 ≤ o by omega)
      have ht := p2_lt (show (2 : Int) ^ t < 2 ^ N by omega)
      have hl := len_lim (v := o) (by omega) N (by omega)
      rw [ho]
      omega
  have ⟨ep, lp2⟩ := ex hp h.bd f1 (by omega)
  have ⟨eq_, lq2⟩ := ex hq h'.bd g1 (by omega)
  obtain ⟨K3, h3⟩ := mulw_ev [⟨p.1, p.2.1⟩, ⟨q.1, q.2.1⟩] (by simp [zp.u, zq.u]) (by simp; omega) (by simp)
  have e3 : prodS [⟨p.1, p.2.1⟩, ⟨q.1, q.2.1⟩] = sg p.1 (val p.2.1) * sg q.1 (val q.2.1) := by
    rw [prodS_cons, prodS_cons, show prodS [] = 1 from rfl, Int.mul_one]
  rw [e3] at h3
  have eST : S * T = sg p.1 (val p.2.1) * sg q.1 (val q.2.1) * 2 ^ (p.2.2 + q.2.2 - (f + g)).toNat := by
    have a1 := zp.eq
    have a2 := zq.eq
    rw [show (p.2.2 + q.2.2 - (f + g)).toNat = (p.2.2 - f).toNat + (q.2.2 - g).toNat by omega, p2_add]
    rw [a1, a2]
    generalize sg p.1 (val p.2.1) = x
    generalize sg q.1 (val q.2.1) = y
    generalize (2 : Int) ^ (p.2.2 - f).toNat = u
    generalize (2 : Int) ^ (q.2.2 - g).toNat = v
    rw [Int.mul_assoc, Int.mul_left_comm u y v, ← Int.mul_assoc]
  have bST := abs_mul_lt h.bd h'.bd
  have zr : Z (nw (sg p.1 (val p.2.1) * sg q.1 (val q.2.1))).1 (nw (sg p.1 (val p.2.1) * sg q.1 (val q.2.1))).2 (p.2.2 + q.2.2) (f + g) (S * T) (N + M) := by
    rw [eST]
    exact Z.nw (by omega) (by omega) (by omega) (by rw [← eST]; exact bST)
  obtain ⟨d, hd, K4, h4⟩ := mk_z zr (by omega)
  refine ⟨d, hd, K1 + K2 + K3 + K4, fun k hk => ?_⟩
  unfold dy_Mul.f
  rw [h1 k (by omega), Option.bind_some, h2 k (by omega), Option.bind_some, h3 k (by omega), Option.bind_some, w64 (by omega) (by omega), h4 k (by omega)]
  rfl
theorem move_z {n : Bool} {l : List Int} {e f S : Int} {N : Nat} (h : Z n l e f S N) (m : Int) (m0 : -5000 ≤ m) (m1 : m ≤ 5000) (hN : N ≤ 40000) (f0 : -900000 ≤ f) (f1 : f ≤ 0) :
    ∃ d, Rep d S (f + m) ∧ ∃ K, ∀ k, K ≤ k → dy_Move.f k n l e m = some d := by
  obtain ⟨p, hp, K1, h1⟩ := fair_z h (by omega)
  have zp := Z.of_rep hp h.bd (by omega) (by omega) f1
  have lp := zp.len
  have p0 := zp.lo
  have ep : p.2.2 ≤ 40000 := by
    rcases hp.val with ⟨rfl, rfl⟩ | ⟨t, hE, hS, o, o0, o1, ho, hs⟩
    · simp
    · have b1 := mul_le_p t (show 1 ≤ o by omega)
      have b2 := h.bd
      have ht := p2_lt (show (2 : Int) ^ t < 2 ^ N by omega)
      omega
  have zr : Z p.1 p.2.1 (p.2.2 + m) (f + m) S N := ⟨zp.u, zp.len, by omega, by omega, by rw [show p.2.2 + m - (f + m) = p.2.2 - f by omega]; exact zp.eq, zp.bd⟩
  obtain ⟨d, hd, K2, h2⟩ := mk_z zr (by omega)
  refine ⟨d, hd, K1 + K2, fun k hk => ?_⟩
  unfold dy_Move.f
  rw [h1 k (by omega), Option.bind_some, if_neg (by omega), if_neg (by omega), w64 (by omega) (by omega), h2 k (by omega)]
  rfl
theorem rep_may {d : Dd} {S f : Int} {N : Nat} (h : Rep d S f) (hb : (S.natAbs : Int) < 2 ^ N) (hN : N ≤ 60000) (f0 : -1000000 ≤ f) (f1 : f ≤ 0) : dy_May.f d.1 d.2.1 d.2.2 = some true := by
  have z := Z.of_rep h hb hN f0 f1
  have hl := z.len
  obtain ⟨d', hd', hv⟩ := z.dv f0
  rw [dmay_eq _ _ _ z.u (by omega)]
  rw [h.un hd', dv_mayd hv]
/-- The greatest whole number that is not greater. -/
theorem floor_z {n : Bool} {l : List Int} {e f S : Int} {N : Nat} (h : Z n l e f S N) (hN : N ≤ 40000) (f0 : -900000 ≤ f) (f1 : f ≤ 0) :
    ∃ K, ∀ k, K ≤ k → dy_Floor.f k n l e = some (nw (S / 2 ^ (-f).toNat)) := by
  obtain ⟨p, hp, K1, h1⟩ := fair_z h (by omega)
  rcases hp.val with ⟨rfl, rfl⟩ | ⟨t, hE, hS, o, o0, o1, ho, hs⟩
  · obtain ⟨K2, h2⟩ := shl_ev [] 0 U_nil (by simp)
    rw [show lim (shlv (val []) 0) = [] from limN_zero] at h2
    obtain ⟨K3, h3⟩ := make_ev false [] U_nil (by simp)
    refine ⟨K1 + K2 + K3, fun k hk => ?_⟩
    unfold dy_Floor.f
    rw [h1 k (by omega), Option.bind_some]
    simp only
    rw [if_pos (by decide), h2 k (by omega), Option.bind_some, h3 k (by omega), Option.bind_some, Int.zero_ediv]
    rfl
  · have bd := h.bd
    have b1 := mul_le_p t (show 1 ≤ o by omega)
    have b2 := Int.mul_le_mul_of_nonneg_left (show 1 ≤ (2 : Int) ^ t by have := p2_pos t; omega) (show 0 ≤ o by omega)
    have ht := p2_lt (show (2 : Int) ^ t < 2 ^ N by omega)
    have hl := len_lim (v := o) (by omega) N (by omega)
    have hu := U_lim (n := o) (by omega)
    have hv := val_lim (n := o) (by omega)
    rw [ho, hv] at hS
    by_cases hc : p.2.2 ≥ 0
    · obtain ⟨j, hj⟩ : ∃ j : Nat, p.2.2 = j := ⟨p.2.2.toNat, by omega⟩
      obtain ⟨K2, h2⟩ := shl_ev (lim o) j hu (by omega)
      rw [hv, shlv_eq (by omega) (by omega), Int.toNat_natCast] at h2
      have v0 : 0 < o * 2 ^ j := Int.mul_pos o0 (p2_pos j)
      have lj := len_lim (v := o * 2 ^ j) (by omega) N (by
        have h3 : o * 2 ^ t = o * 2 ^ j * 2 ^ (-f).toNat := by rw [Int.mul_assoc, ← p2_add, show j + (-f).toNat = t by omega]
        have h4 := Int.mul_le_mul_of_nonneg_left (show 1 ≤ (2 : Int) ^ (-f).toNat by have := p2_pos (-f).toNat; omega) (show 0 ≤ o * 2 ^ j by omega)
        omega)
      obtain ⟨K3, h3⟩ := make_ev p.1 (lim (o * 2 ^ j)) (U_lim (by omega)) (by omega)
      rw [val_lim (by omega)] at h3
      have e : S / 2 ^ (-f).toNat = sg p.1 (o * 2 ^ j) := by
        rw [hS, show t = j + (-f).toNat by omega, p2_add, ← Int.mul_assoc, Int.mul_ediv_cancel _ (by have := p2_pos (-f).toNat; omega), sg_mulp]
      refine ⟨K1 + K2 + K3, fun k hk => ?_⟩
      unfold dy_Floor.f
      rw [h1 k (by omega), Option.bind_some, if_pos hc, ho, hj, h2 k (by omega), Option.bind_some, h3 k (by omega), Option.bind_some, e]
    · obtain ⟨j, hj⟩ : ∃ j : Nat, p.2.2 = -((j + 1 : Nat) : Int) := ⟨(-p.2.2 - 1).toNat, by omega⟩
      obtain ⟨K2, h2⟩ := shr_ev (lim o) ((j + 1 : Nat) : Int) hu (by omega)
      rw [hv, shrv_eq (by omega), Int.toNat_natCast] at h2
      have pj := p2_pos (j + 1)
      have q0 : 0 ≤ o / 2 ^ (j + 1) := Int.ediv_nonneg (by omega) (by omega)
      have q1 : o / 2 ^ (j + 1) ≤ o := Int.ediv_le_self _ (by omega)
      have lq := len_lim q0 N (by omega)
      have ef : (-f).toNat = (j + 1) + t := by omega
      have e0 : ∀ x : Int, x * 2 ^ t / 2 ^ (-f).toNat = x / 2 ^ (j + 1) := fun x => by
        rw [ef, p2_add, Int.mul_ediv_mul_of_pos_left _ _ (p2_pos t)]
      rw [hS, e0]
      by_cases hn : p.1 = true
      · obtain ⟨K3, h3⟩ := add_ev (lim (o / 2 ^ (j + 1))) [1] (U_lim q0) (by simp [U]) (by omega) (by simp)
        rw [val_lim q0, show val [1] = 1 by decide] at h3
        have l1 := len_lim (v := o / 2 ^ (j + 1) + 1) (by omega) (N + 1) (by have := p2_succ N; omega)
        obtain ⟨K4, h4⟩ := make_ev true (lim (o / 2 ^ (j + 1) + 1)) (U_lim (by omega)) (by omega)
        rw [val_lim (by omega)] at h4
        have e : sg p.1 o / 2 ^ (j + 1) = sg true (o / 2 ^ (j + 1) + 1) := by
          rw [hn]
          unfold sg
          rw [if_pos rfl, if_pos rfl]
          have hd := Int.mul_ediv_add_emod o (2 ^ (j + 1))
          have hm0 := Int.emod_nonneg o (show (2 : Int) ^ (j + 1) ≠ 0 by omega)
          have hm1 := Int.emod_lt_of_pos o pj
          have hm2 : o % 2 ^ (j + 1) ≠ 0 := by
            intro h
            rw [h, p2_succ, Int.mul_assoc] at hd
            omega
          refine (div_unique (D := 2 ^ (j + 1)) (Q := -(o / 2 ^ (j + 1) + 1)) (R := 2 ^ (j + 1) - o % 2 ^ (j + 1)) ?_ (by omega) (by omega)).1
          rw [Int.mul_neg, Int.mul_add, Int.mul_one]
          omega
        refine ⟨K1 + K2 + K3 + K4 + 1, fun k hk => ?_⟩
        obtain ⟨k, rfl⟩ : ∃ m, k = m + 1 := ⟨k - 1, by omega⟩
        unfold dy_Floor.f
        rw [h1 _ (by omega), Option.bind_some, if_neg hc, ho, show wrap64 (-p.2.2) = ((j + 1 : Nat) : Int) by rw [hj, w64 (by omega) (by omega)]; omega, h2 _ (by omega), Option.bind_some, if_pos hn, h3 _ (by omega), Option.bind_some, e]
        rw [hn, h4 _ (by omega), Option.bind_some]
      · obtain ⟨K4, h4⟩ := make_ev p.1 (lim (o / 2 ^ (j + 1))) (U_lim q0) (by omega)
        rw [val_lim q0] at h4
        have e : sg p.1 o / 2 ^ (j + 1) = sg p.1 (o / 2 ^ (j + 1)) := by
          unfold sg
          rw [if_neg hn, if_neg hn]
        refine ⟨K1 + K2 + K4 + 1, fun k hk => ?_⟩
        obtain ⟨k, rfl⟩ : ∃ m, k = m + 1 := ⟨k - 1, by omega⟩
        unfold dy_Floor.f
        rw [h1 _ (by omega), Option.bind_some, if_neg hc, ho, show wrap64 (-p.2.2) = ((j + 1 : Nat) : Int) by rw [hj, w64 (by omega) (by omega)]; omega, h2 _ (by omega), Option.bind_some, if_neg hn, e]
        rw [h4 _ (by omega), Option.bind_some]
/-- At a lower power. -/
theorem Z.down {n : Bool} {l : List Int} {e f S : Int} {N : Nat} (h : Z n l e f S N) (j : Nat) : Z n l e (f - j) (S * 2 ^ j) (N + j) := by
  have lo := h.lo
  refine ⟨h.u, h.len, by omega, h.hi, ?_, ?_⟩
  · rw [h.eq, Int.mul_assoc, ← p2_add, show (e - f).toNat + j = (e - (f - j)).toNat by omega]
  · rw [abs_mulp, p2_add]
    exact mul_lt_p j h.bd
theorem few_eq (n : Bool) (l : List Int) (e : Int) : peloruslaw03_Few.f n l e = some (decide (l.length ≤ 20 ∧ -1000 ≤ e ∧ e ≤ 1000)) := by
  unfold peloruslaw03_Few.f
  by_cases h1 : (l.length : Int) ≤ 20
  · rw [if_pos h1]
    by_cases h2 : e ≥ -1000
    · rw [if_pos h2]; congr 1; exact decide_eq_decide.2 ⟨fun h3 => ⟨by omega, by omega, by omega⟩, fun h3 => h3.2.2⟩
    · rw [if_neg h2, decide_eq_false (fun h3 => h2 h3.2.1)]
  · rw [if_neg h1, decide_eq_false (fun h3 => h1 (by omega))]
theorem few_z {n : Bool} {l : List Int} {e : Int} (h : U l) (hl : l.length ≤ 20) (e0 : -1000 ≤ e) (e1 : e ≤ 1000) : Z n l e (-1000) (sg n (val l) * 2 ^ (e + 1000).toNat) 2640 := by
  refine ⟨h, by omega, e0, by omega, by rw [show e - -1000 = e + 1000 by omega], ?_⟩
  rw [abs_mulp, sg_abs n (val_nonneg h)]
  have h1 := val_lt h
  have h2 := pw_mono hl
  rw [p2_limb 20] at h2
  have h3 := mul_lt_p (e + 1000).toNat (show val l < 2 ^ (32 * 20) by omega)
  rw [← p2_add] at h3
  exact Int.lt_of_lt_of_le h3 (p2_mono (by omega))
end Go.Proofs.YtaookeneeemfbaaDoor.T

namespace Go.Proofs.YtaookeneeemfbaaDoor.T
set_option linter.unusedVariables false
set_option linter.unusedSimpArgs false
open Go.RowKit Go.Proofs.YtaookeneeemfbaaDoorW.PrintWords Go.Proofs.YtaookeneeemfbaaDoorW.PrintMore Go.Proofs.YtaookeneeemfbaaDoor.PA

theorem lim1 : lim 1 = [1] := lim_is [1] (by decide) (by simp [U]) (by simp)
theorem lim3 : lim 3 = [3] := lim_is [3] (by decide) (by simp [U]) (by simp)
theorem awake3_ev : ∃ K, ∀ k, K ≤ k → peloruslaw03_awake.f k = some true := by
  obtain ⟨K1, h1⟩ := from_ev 12 (by decide) (by decide)
  obtain ⟨K2, h2⟩ := from_ev 1 (by decide) (by decide)
  obtain ⟨K3, h3⟩ := from_ev (-1) (by decide) (by decide)
  obtain ⟨d4, r4, K4, h4⟩ := mk_z (Z.nw (s := 12) (e := -3) (f := -3) (N := 10) (by decide) (by decide) (by decide) (by decide)) (by decide)
  obtain rfl := r4.un (d' := (false, lim 3, -1)) (.inr ⟨3, 2, by decide, by decide, by decide, by decide, rfl⟩)
  have z5 := Z.nw (s := 1) (e := -1) (f := -2) (N := 10) (by decide) (by decide) (by decide) (by decide)
  obtain ⟨d5, r5, K5, h5⟩ := mk_z z5 (by decide)
  have z6 := Z.nw (s := 1) (e := -2) (f := -2) (N := 10) (by decide) (by decide) (by decide) (by decide)
  obtain ⟨d6, r6, K6, h6⟩ := mk_z z6 (by decide)
  obtain ⟨d7, r7, K7, h7⟩ := add2_z (Z.of_rep r5 z5.bd (by decide) (by decide) (by decide)) (Z.of_rep r6 z6.bd (by decide) (by decide) (by decide)) (by decide) (by decide) (by decide)
  obtain rfl := r7.un (d' := (false, lim 3, -2)) (.inr ⟨3, 0, by decide, by decide, by decide, by decide, rfl⟩)
  have z8 := Z.nw (s := -1) (e := -1) (f := -1) (N := 10) (by decide) (by decide) (by decide) (by decide)
  obtain ⟨d8, r8, K8, h8⟩ := mk_z z8 (by decide)
  obtain ⟨K9, h9⟩ := floor_z (Z.of_rep r8 z8.bd (by decide) (by decide) (by decide)) (by decide) (by decide) (by decide)
  rw [show (-1 * 2 ^ ((-1 : Int) - -1).toNat : Int) / 2 ^ (- (-1 : Int)).toNat = -1 by decide] at h9
  have l10 := nw_small (s := -1) (by decide)
  obtain ⟨K10, h10⟩ := int_ev (nw (-1)).1 (nw (-1)).2 (nw_U _) (by omega)
  rw [nw_sg] at h10
  refine ⟨K1 + K2 + K3 + K4 + K5 + K6 + K7 + K8 + K9 + K10 + 1, fun k hk => ?_⟩
  unfold peloruslaw03_awake.f
  rw [h1 k (by omega), Option.bind_some, h4 k (by omega), Option.bind_some, h2 k (by omega), Option.bind_some, h5 k (by omega), Option.bind_some, Option.bind_some, h6 k (by omega), Option.bind_some, h7 k (by omega), Option.bind_some, h3 k (by omega), Option.bind_some, h8 k (by omega), Option.bind_some, h9 k (by omega), Option.bind_some, h10 k (by omega), Option.bind_some]
  rw [lim3]
  rfl
end Go.Proofs.YtaookeneeemfbaaDoor.T
