/- The plain theory of limbs: lists of whole numbers from 0 to 2^32 - 1, their value, and the limbs of a number. No program in sight. What the functions of package nat answer, in terms of values and limbs (first part: cut, clone, order, length, sums). What the functions of package nat answer (second part: sums, differences, products). What the functions of package nat answer (third part: products, moves by bits). Plain laws of values, bits and moves (those of T2 to TA that need no function of the program). Rounding to 64 bits and a power of two: what it is, and when something is it. Plain, no program in sight. What the sums and products of layer 6, and what they use of layer 5, compute: the exact ones, rounded. What wakes the statements; the calls of numbers that may be. The order of numbers, and that sums and products keep it. Plain. -/
import Derived.Test.YthlhogcnfaiphaaDoorPAx2
import Derived.RowKit
import Derived.DataShut
import Derived.Test.YthlhogcnfaiphaaDoorVWords
import Derived.Test.YthlhogcnfaiphaaDoorVMore
import Derived.Lib.Mul64
namespace Go.Proofs.YthlhogcnfaiphaaDoor.T
set_option linter.unusedVariables false
set_option linter.unusedSimpArgs false
open Go.RowKit Go.Proofs.YthlhogcnfaiphaaDoorW.PrintWords

/-- Each is a limb. -/
def U (l : List Int) : Prop := ∀ x ∈ l, 0 ≤ x ∧ x < 4294967296
/-- The value, the lowest limb first. -/
def val : List Int → Int
  | [] => 0
  | x :: xs => x + 4294967296 * val xs
def limN (n : Nat) : List Int := if n = 0 then [] else ((n % 4294967296 : Nat) : Int) :: limN (n / 4294967296)
termination_by n
decreasing_by omega
/-- The limbs of a number that is not below nought, without noughts at their end. -/
def lim (n : Int) : List Int := limN n.toNat

theorem U_nil : U [] := fun _ h => by simp at h
theorem U_cons {x : Int} {l : List Int} : U (x :: l) ↔ (0 ≤ x ∧ x < 4294967296) ∧ U l := by simp [U]
theorem U_take {l : List Int} (h : U l) (n : Nat) : U (l.take n) := fun x hx => h x (List.mem_of_mem_take hx)
theorem U_drop {l : List Int} (h : U l) (n : Nat) : U (l.drop n) := fun x hx => h x (List.mem_of_mem_drop hx)
theorem U_replicate (n : Nat) : U (List.replicate n (0 : Int)) := fun x hx => by
  have := List.eq_of_mem_replicate hx
  omega
theorem U_set {l : List Int} (h : U l) (i : Nat) {x : Int} (h0 : 0 ≤ x) (h1 : x < 4294967296) : U (l.set i x) := fun y hy => by
  rcases List.mem_or_eq_of_mem_set hy with hy | rfl
  · exact h y hy
  · exact ⟨h0, h1⟩
theorem U_getD {l : List Int} (h : U l) (i : Nat) : 0 ≤ l.getD i 0 ∧ l.getD i 0 < 4294967296 := by
  rw [List.getD_eq_getElem?_getD]
  by_cases hi : i < l.length
  · rw [List.getElem?_eq_getElem hi]
    exact h _ (List.getElem_mem hi)
  · rw [List.getElem?_eq_none (by omega)]
    simp
theorem U_single {x : Int} (h0 : 0 ≤ x) (h1 : x < 4294967296) : U [x] := by simp [U, h0, h1]
theorem u64_of_wf {x : Int} (h : (Lit.int .u64 x).wf = true) : 0 ≤ x ∧ x ≤ 18446744073709551615 := by
  have := (Lit.wf_int_iff .u64 x).1 h
  have e1 : IntKind.min .u64 = 0 := by decide
  have e2 : IntKind.max .u64 = 18446744073709551615 := by decide
  rw [e1, e2] at this
  exact this

/-- A power of 2^32, as a function of its own (the arithmetic's tactics take it as a letter). -/
def pw : Nat → Int
  | 0 => 1
  | n + 1 => 4294967296 * pw n
theorem pw_eq (i : Nat) : pw i = 4294967296 ^ i := by
  induction i with
  | zero => rfl
  | succ i ih => rw [pw, ih, Int.pow_succ, Int.mul_comm]
theorem pw_pos (i : Nat) : 0 < pw i := by
  induction i with
  | zero => decide
  | succ i ih => rw [pw]; omega
@[simp] theorem pw_zero : pw 0 = 1 := rfl
theorem pw_succ (i : Nat) : pw (i + 1) = 4294967296 * pw i := rfl
theorem pw_add (i j : Nat) : pw (i + j) = pw i * pw j := by
  induction i with
  | zero => rw [Nat.zero_add, pw_zero, Int.one_mul]
  | succ i ih => rw [show i + 1 + j = (i + j) + 1 by omega, pw_succ, pw_succ, ih, Int.mul_assoc]
theorem pw_mono {i j : Nat} (h : i ≤ j) : pw i ≤ pw j := by
  obtain ⟨d, rfl⟩ := Nat.le.dest h
  rw [pw_add]
  have h1 := pw_pos i
  have h2 : 1 ≤ pw d := by have := pw_pos d; omega
  have := Int.mul_le_mul_of_nonneg_left h2 (c := pw i) (by omega)
  omega

@[simp] theorem val_nil : val [] = 0 := rfl
@[simp] theorem val_cons (x : Int) (l : List Int) : val (x :: l) = x + 4294967296 * val l := rfl
theorem val_nonneg {l : List Int} (h : U l) : 0 ≤ val l := by
  induction l with
  | nil => exact Int.le_refl 0
  | cons x l ih =>
    obtain ⟨h1, h2⟩ := U_cons.1 h
    have := ih h2
    rw [val_cons]
    omega
theorem val_lt {l : List Int} (h : U l) : val l < pw l.length := by
  induction l with
  | nil => decide
  | cons x l ih =>
    obtain ⟨h1, h2⟩ := U_cons.1 h
    have := ih h2
    rw [val_cons, List.length_cons, pw_succ]
    omega
theorem val_append (a b : List Int) : val (a ++ b) = val a + pw a.length * val b := by
  induction a with
  | nil => simp
  | cons x a ih =>
    rw [List.cons_append, val_cons, val_cons, ih, List.length_cons, pw_succ]
    grind
theorem val_replicate (n : Nat) : val (List.replicate n 0) = 0 := by
  induction n with
  | zero => rfl
  | succ n ih => rw [List.replicate_succ, val_cons, ih]; rfl
theorem val_split (l : List Int) (i : Nat) (h : i ≤ l.length) : val l = val (l.take i) + pw i * val (l.drop i) := by
  have := val_append (l.take i) (l.drop i)
  rw [List.take_append_drop, List.length_take, Nat.min_eq_left h] at this
  exact this
theorem drop_eq {l : List Int} {i : Nat} (h : i < l.length) : l.drop i = l.getD i 0 :: l.drop (i + 1) := by
  rw [List.drop_eq_getElem_cons h, List.getD_eq_getElem?_getD, List.getElem?_eq_getElem h]
  rfl
theorem val_drop {l : List Int} {i : Nat} (h : i < l.length) : val (l.drop i) = l.getD i 0 + 4294967296 * val (l.drop (i + 1)) := by rw [drop_eq h, val_cons]
theorem take_succ {l : List Int} {i : Nat} (h : i < l.length) : l.take (i + 1) = l.take i ++ [l.getD i 0] := by
  rw [List.take_succ_eq_append_getElem h, List.getD_eq_getElem?_getD, List.getElem?_eq_getElem h]
  rfl
theorem val_take_succ {l : List Int} {i : Nat} (h : i < l.length) : val (l.take (i + 1)) = val (l.take i) + pw i * l.getD i 0 := by
  rw [take_succ h, val_append, List.length_take, Nat.min_eq_left (by omega)]
  simp
theorem val_set {l : List Int} {i : Nat} (h : i < l.length) (x : Int) : val (l.set i x) = val l + pw i * (x - l.getD i 0) := by
  induction l generalizing i with
  | nil => simp at h
  | cons y l ih =>
    cases i with
    | zero => simp; omega
    | succ i =>
      have := ih (i := i) (by simpa using h)
      rw [List.set_cons_succ, val_cons, val_cons, this, pw_succ]
      have e : (y :: l).getD (i + 1) 0 = l.getD i 0 := rfl
      rw [e]
      grind
theorem take_set {l : List Int} {i : Nat} {x : Int} : (l.set i x).take i = l.take i := by
  rw [List.take_set_of_le (by omega)]
theorem getD_set_self {l : List Int} {i : Nat} (h : i < l.length) (x : Int) : (l.set i x).getD i 0 = x := by
  rw [List.getD_eq_getElem?_getD, List.getElem?_set_self h]
  rfl
theorem getD_set_ne {l : List Int} {i j : Nat} (h : i ≠ j) (x : Int) : (l.set i x).getD j 0 = l.getD j 0 := by
  rw [List.getD_eq_getElem?_getD, List.getElem?_set_ne h, List.getD_eq_getElem?_getD]
theorem limN_zero : limN 0 = [] := by unfold limN; simp
theorem limN_pos {n : Nat} (h : 0 < n) : limN n = ((n % 4294967296 : Nat) : Int) :: limN (n / 4294967296) := by
  rw [limN, if_neg (by omega)]
@[simp] theorem lim_zero : lim 0 = [] := limN_zero
theorem lim_pos {n : Int} (h : 0 < n) : lim n = (n % 4294967296) :: lim (n / 4294967296) := by
  unfold lim
  rw [limN_pos (by omega)]
  have e1 : ((n.toNat % 4294967296 : Nat) : Int) = n % 4294967296 := by omega
  have e2 : n.toNat / 4294967296 = (n / 4294967296).toNat := by omega
  rw [e1, e2]
theorem lim_ind {motive : (n : Int) → 0 ≤ n → Prop} (zero : motive 0 (by omega)) (pos : ∀ (n : Int) (h : 0 < n), motive (n / 4294967296) (by omega) → motive n (by omega)) (n : Int) (h : 0 ≤ n) : motive n h := by
  obtain ⟨m, rfl⟩ : ∃ m : Nat, n = m := ⟨n.toNat, by omega⟩
  induction m using Nat.strongRecOn with
  | _ m ih =>
    by_cases hm : m = 0
    · subst hm; exact zero
    · exact pos m (by omega) (ih (m / 4294967296) (by omega) (by omega))
theorem val_lim {n : Int} (h : 0 ≤ n) : val (lim n) = n := by
  induction n, h using lim_ind with
  | zero => simp
  | pos n h ih => rw [lim_pos h, val_cons, ih]; omega
theorem U_lim {n : Int} (h : 0 ≤ n) : U (lim n) := by
  induction n, h using lim_ind with
  | zero => simpa using U_nil
  | pos n h ih => rw [lim_pos h]; exact U_cons.2 ⟨by omega, ih⟩
theorem lim_len {n : Int} (h : 0 ≤ n) (L : Nat) (hl : n < pw L) : (lim n).length ≤ L := by
  induction n, h using lim_ind generalizing L with
  | zero => simp
  | pos n h ih =>
    cases L with
    | zero => simp at hl; omega
    | succ L =>
      rw [lim_pos h, List.length_cons]
      have := ih L (by rw [pw_succ] at hl; omega)
      omega
theorem lim_ne_nil {n : Int} (h : 0 < n) : lim n ≠ [] := by rw [lim_pos h]; simp
theorem lim_nil_iff {n : Int} (h : 0 ≤ n) : (lim n).length = 0 ↔ n = 0 := by
  constructor
  · intro h0
    have h1 : lim n = [] := List.eq_nil_of_length_eq_zero h0
    have := val_lim h
    rw [h1] at this
    simpa using this.symm
  · rintro rfl; simp
/-- The last limb is not nought. -/
theorem lim_last {n : Int} (h : 0 < n) : (lim n).getD ((lim n).length - 1) 0 ≠ 0 := by
  have h0 : 0 ≤ n := by omega
  have key : 0 < n → (lim n).getD ((lim n).length - 1) 0 ≠ 0 := by
    induction n, h0 using lim_ind with
    | zero => intro h; omega
    | pos n h ih =>
      intro _
      rw [lim_pos h]
      by_cases hz : n / 4294967296 = 0
      · rw [hz, lim_zero]
        simp
        omega
      · have h1 := ih (by omega) (by omega)
        have h2 := lim_ne_nil (n := n / 4294967296) (by omega)
        have h3 : 0 < (lim (n / 4294967296)).length := List.length_pos_iff.2 h2
        have e : (n % 4294967296 :: lim (n / 4294967296)).length - 1 = ((lim (n / 4294967296)).length - 1) + 1 := by simp; omega
        rw [e]
        exact h1
  exact key h
theorem lim_of_norm {l : List Int} (h : U l) (hn : 0 < l.length → l.getD (l.length - 1) 0 ≠ 0) : lim (val l) = l := by
  induction l with
  | nil => simp
  | cons x l ih =>
    obtain ⟨h1, h2⟩ := U_cons.1 h
    have h0 := val_nonneg h2
    have hpos : 0 < val (x :: l) := by
      rw [val_cons]
      cases l with
      | nil => have := hn (by simp); simp at this; simp; omega
      | cons y l =>
        have h3 := ih h2 (fun _ => hn (by simp))
        by_cases hz : val (y :: l) = 0
        · rw [hz] at h3; simp at h3
        · omega
    rw [lim_pos hpos, val_cons]
    have e1 : (x + 4294967296 * val l) % 4294967296 = x := by omega
    have e2 : (x + 4294967296 * val l) / 4294967296 = val l := by omega
    rw [e1, e2, ih h2]
    intro hl
    have := hn (by simp)
    rw [List.length_cons, Nat.add_sub_cancel] at this
    obtain ⟨m, hm⟩ : ∃ m, l.length = m + 1 := ⟨l.length - 1, by omega⟩
    rw [hm] at this ⊢
    exact this

/-- A list whose last limb is nought has the value of what is ahead of it. -/
theorem val_take_last {l : List Int} (h0 : 0 < l.length) (hz : l.getD (l.length - 1) 0 = 0) : val (l.take (l.length - 1)) = val l := by
  have h1 := val_take_succ (l := l) (i := l.length - 1) (by omega)
  rw [hz, show l.length - 1 + 1 = l.length by omega, List.take_length] at h1
  omega

/-- Order: the highest limb that parts. -/
theorem val_lt_top {a b : List Int} {k : Nat} (ha : U a) (hb : U b) (hka : k < a.length) (hkb : k < b.length) (hd : a.drop (k + 1) = b.drop (k + 1)) (hlt : a.getD k 0 < b.getD k 0) : val a < val b := by
  rw [val_split a k (by omega), val_split b k (by omega), val_drop hka, val_drop hkb, hd]
  have h1 := val_lt (U_take ha k)
  have h2 := val_nonneg (U_take hb k)
  rw [List.length_take, Nat.min_eq_left (by omega)] at h1
  have h3 : pw k * (a.getD k 0 + 1) ≤ pw k * b.getD k 0 := Int.mul_le_mul_of_nonneg_left (by omega) (by have := pw_pos k; omega)
  grind
theorem lim_len_lt {a b : Int} (ha : 0 ≤ a) (h : (lim a).length < (lim b).length) : a < b := by
  by_cases hq : a < b
  · exact hq
  · have hb : b < pw (lim a).length := by
      have := val_lt (U_lim ha)
      rw [val_lim ha] at this
      omega
    by_cases hb0 : 0 ≤ b
    · have := lim_len hb0 _ hb
      omega
    · have hz : b.toNat = 0 := by omega
      unfold lim at h
      rw [hz, limN_zero] at h
      simp at h

theorem w64 {x : Int} (h0 : -9223372036854775808 ≤ x) (h1 : x < 9223372036854775808) : wrap64 x = x := by unfold wrap64; omega
theorem w64_succ {i : Nat} (h : i < 4611686018427387904) : wrap64 ((i : Int) + 1) = ((i + 1 : Nat) : Int) := by rw [w64 (by omega) (by omega)]; omega
theorem w64_nat {i : Nat} (h : i < 9223372036854775808) : wrap64 (i : Int) = (i : Int) := w64 (by omega) (by omega)
theorem w64_add {i j : Nat} (h : i + j < 9223372036854775808) : wrap64 ((i : Int) + (j : Int)) = ((i + j : Nat) : Int) := by rw [w64 (by omega) (by omega)]; omega
theorem w64_sub {i j : Nat} (h : j ≤ i) (h2 : i < 9223372036854775808) : wrap64 ((i : Int) - (j : Int)) = ((i - j : Nat) : Int) := by rw [w64 (by omega) (by omega)]; omega
theorem w64_pred {i : Nat} (h : 0 < i) (h2 : i < 9223372036854775808) : wrap64 ((i : Int) - 1) = ((i - 1 : Nat) : Int) := by rw [w64 (by omega) (by omega)]; omega
theorem u64w {x : Int} (h0 : 0 ≤ x) (h1 : x < 18446744073709551616) : IntKind.u64.wrap x = x := by
  simp only [IntKind.wrap, IntKind.signed, IntKind.bits]
  simp
  omega
theorem rd_eq (l : List Int) (i : Int) : rd l i = l.getD i.toNat 0 := rfl
end Go.Proofs.YthlhogcnfaiphaaDoor.T

namespace Go.Proofs.YthlhogcnfaiphaaDoor.T
set_option linter.unusedVariables false
set_option linter.unusedSimpArgs false
open Go.RowKit Go.Proofs.YthlhogcnfaiphaaDoorW.PrintWords Go.Proofs.YthlhogcnfaiphaaDoorW.PrintMore Go.Proofs.YthlhogcnfaiphaaDoor.PA

theorem cut_l0 : ∀ (n : Nat) (l : List Int), l.length = n → U l → n ≤ 1073741824 → ∃ K, ∀ k, K ≤ k → nat_cut.l0 k l = some (lim (val l)) := by
  intro n
  induction n using Nat.strongRecOn with
  | _ n ih =>
    intro l hn h hb
    by_cases h0 : 0 < l.length
    · have hw : wrap64 ((l.length : Int) - 1) = (l.length : Int) - 1 := w64 (by omega) (by omega)
      have ht : ((l.length : Int) - 1).toNat = l.length - 1 := by omega
      by_cases hz : l.getD (l.length - 1) 0 = 0
      · obtain ⟨K, hK⟩ := ih (l.length - 1) (by omega) (l.take (l.length - 1)) (by simp) (U_take h _) (by omega)
        refine ⟨K + 1, fun k hk => ?_⟩
        obtain ⟨k, rfl⟩ : ∃ m, k = m + 1 := ⟨k - 1, by omega⟩
        simp only [nat_cut.l0, hw, rd_eq, ht]
        rw [if_pos (by omega), if_pos (by omega), if_pos (by omega), if_pos hz, if_pos (by omega), hK k (by omega), val_take_last h0 hz]
      · refine ⟨1, fun k hk => ?_⟩
        obtain ⟨k, rfl⟩ : ∃ m, k = m + 1 := ⟨k - 1, by omega⟩
        simp only [nat_cut.l0, hw, rd_eq, ht]
        rw [if_pos (by omega), if_pos (by omega), if_pos (by omega), if_neg hz, lim_of_norm h (fun _ => hz)]
    · refine ⟨1, fun k hk => ?_⟩
      obtain ⟨k, rfl⟩ : ∃ m, k = m + 1 := ⟨k - 1, by omega⟩
      simp only [nat_cut.l0]
      rw [if_neg (by omega)]
      have : l = [] := List.eq_nil_of_length_eq_zero (by omega)
      subst this
      simp
theorem cut_ev (l : List Int) (h : U l) (hb : l.length ≤ 1073741824) : ∃ K, ∀ k, K ≤ k → nat_cut.f k l = some (lim (val l)) := cut_l0 _ l rfl h hb
theorem cuto_l0 (l : List Int) (k : Nat) : nat_cut_own.l0 k l = nat_cut.l0 k l := by
  induction k generalizing l with
  | zero => rfl
  | succ k ih => simp only [nat_cut_own.l0, nat_cut.l0, ih]
theorem cuto_ev (l : List Int) (h : U l) (hb : l.length ≤ 1073741824) : ∃ K, ∀ k, K ≤ k → nat_cut_own.f k l = some (lim (val l)) := by
  obtain ⟨K, hK⟩ := cut_ev l h hb
  exact ⟨K, fun k hk => (cuto_l0 l k).trans (hK k hk)⟩
theorem clone_eq (l : List Int) (hb : l.length ≤ 1073741824) : slices_Clone_uint32_uint32.f l = some l := by
  unfold slices_Clone_uint32_uint32.f
  rw [if_pos (by omega)]
theorem trim_ev (l : List Int) (h : U l) (hb : l.length ≤ 1073741824) : ∃ K, ∀ k, K ≤ k → nat_Trim.f k l = some (lim (val l)) := by
  obtain ⟨K, hK⟩ := cut_ev l h hb
  refine ⟨K, fun k hk => ?_⟩
  have h1 := lim_len (val_nonneg h) l.length (val_lt h)
  unfold nat_Trim.f
  rw [hK k hk]
  simp only [Option.bind_some]
  rw [clone_eq _ (by omega)]
  rfl

/-- -1, 0 or 1. -/
def sgn (x : Int) : Int := if x < 0 then -1 else if 0 < x then 1 else 0
theorem sgn_neg {x : Int} (h : x < 0) : sgn x = -1 := by simp [sgn, h]
theorem sgn_pos {x : Int} (h : 0 < x) : sgn x = 1 := by unfold sgn; rw [if_neg (by omega), if_pos h]
theorem sgn_zero : sgn 0 = 0 := rfl
theorem cmp_l0 (a b : List Int) (ha : U a) (hb : U b) (hl : a.length = b.length) (hc : a.length ≤ 1073741824) (d : Nat) :
    ∀ (i : Nat), i ≤ a.length → a.length - i = d → a.drop (a.length - i) = b.drop (a.length - i) → ∃ K, ∀ k, K ≤ k → nat_Cmp.l0 k a b (a.length : Int) (i : Int) = some (sgn (val a - val b)) := by
  induction d with
  | zero =>
    intro i hi hd he
    refine ⟨1, fun k hk => ?_⟩
    obtain ⟨k, rfl⟩ : ∃ m, k = m + 1 := ⟨k - 1, by omega⟩
    simp only [nat_Cmp.l0]
    rw [if_neg (by omega)]
    rw [show a.length - i = 0 by omega, List.drop_zero, List.drop_zero] at he
    rw [he, Int.sub_self, sgn_zero]
  | succ d ih =>
    intro i hi hd he
    have w1 : wrap64 ((a.length : Int) - 1) = (a.length : Int) - 1 := w64 (by omega) (by omega)
    have w2 : wrap64 ((a.length : Int) - 1 - i) = (a.length : Int) - 1 - i := w64 (by omega) (by omega)
    have w3 : wrap64 ((i : Int) + 1) = ((i + 1 : Nat) : Int) := by rw [w64 (by omega) (by omega)]; omega
    have ht : ((a.length : Int) - 1 - i).toNat = a.length - (i + 1) := by omega
    have hs : a.length - (i + 1) + 1 = a.length - i := by omega
    rcases Int.lt_trichotomy (a.getD (a.length - (i + 1)) 0) (b.getD (a.length - (i + 1)) 0) with hlt | heq | hgt
    · refine ⟨1, fun k hk => ?_⟩
      obtain ⟨k, rfl⟩ : ∃ m, k = m + 1 := ⟨k - 1, by omega⟩
      have := val_lt_top ha hb (k := a.length - (i + 1)) (by omega) (by omega) (by rw [hs]; exact he) hlt
      simp only [nat_Cmp.l0, w1, w2, w3, rd_eq, ht]
      rw [if_pos (by omega), if_pos (by omega), if_pos (by omega), if_pos (by omega), if_pos hlt, sgn_neg (by omega)]
    · obtain ⟨K, hK⟩ := ih (i + 1) (by omega) (by omega) (by rw [drop_eq (by omega), drop_eq (l := b) (by omega), heq, hs, he])
      refine ⟨K + 1, fun k hk => ?_⟩
      obtain ⟨k, rfl⟩ : ∃ m, k = m + 1 := ⟨k - 1, by omega⟩
      simp only [nat_Cmp.l0, w1, w2, w3, rd_eq, ht]
      rw [if_pos (by omega), if_pos (by omega), if_pos (by omega), if_pos (by omega), if_neg (by omega)]
      rw [if_neg (by omega)]
      exact hK k (by omega)
    · refine ⟨1, fun k hk => ?_⟩
      obtain ⟨k, rfl⟩ : ∃ m, k = m + 1 := ⟨k - 1, by omega⟩
      have := val_lt_top hb ha (k := a.length - (i + 1)) (by omega) (by omega) (by rw [hs]; exact he.symm) hgt
      simp only [nat_Cmp.l0, w1, w2, w3, rd_eq, ht]
      rw [if_pos (by omega), if_pos (by omega), if_pos (by omega), if_pos (by omega), if_neg (by omega)]
      rw [if_pos (by omega), sgn_pos (by omega)]
theorem cmp_ev (a b : List Int) (ha : U a) (hb : U b) (hla : a.length ≤ 1073741824) (hlb : b.length ≤ 1073741824) : ∃ K, ∀ k, K ≤ k → nat_Cmp.f k a b = some (sgn (val a - val b)) := by
  obtain ⟨K1, h1⟩ := cut_ev a ha hla
  obtain ⟨K2, h2⟩ := cut_ev b hb hlb
  have na := val_nonneg ha
  have nb := val_nonneg hb
  have la := lim_len na a.length (val_lt ha)
  have lb := lim_len nb b.length (val_lt hb)
  rcases Nat.lt_trichotomy (lim (val a)).length (lim (val b)).length with hlt | heq | hgt
  · refine ⟨K1 + K2, fun k hk => ?_⟩
    have := lim_len_lt na hlt
    unfold nat_Cmp.f
    rw [h1 k (by omega), Option.bind_some, h2 k (by omega), Option.bind_some, if_pos (by omega), sgn_neg (by omega)]
  · obtain ⟨K3, h3⟩ := cmp_l0 (lim (val a)) (lim (val b)) (U_lim na) (U_lim nb) heq (by omega) _ 0 (by omega) rfl (by simp [heq])
    refine ⟨K1 + K2 + K3, fun k hk => ?_⟩
    have h4 := h3 k (by omega)
    rw [val_lim na, val_lim nb] at h4
    unfold nat_Cmp.f
    rw [h1 k (by omega), Option.bind_some, h2 k (by omega), Option.bind_some, if_neg (by omega), if_neg (by omega)]
    exact h4
  · refine ⟨K1 + K2, fun k hk => ?_⟩
    have := lim_len_lt nb hgt
    unfold nat_Cmp.f
    rw [h1 k (by omega), Option.bind_some, h2 k (by omega), Option.bind_some, if_neg (by omega), if_pos (by omega), sgn_pos (by omega)]

/-- How many bits a number has. -/
def bl (n : Int) : Int := if n ≤ 0 then 0 else (Nat.log2 n.toNat : Int) + 1
theorem bl_zero : bl 0 = 0 := rfl
theorem p2_pos (i : Nat) : (0 : Int) < 2 ^ i := Int.pow_pos (by decide)
theorem p2_succ (i : Nat) : (2 : Int) ^ (i + 1) = 2 * 2 ^ i := by rw [Int.pow_succ, Int.mul_comm]
theorem p2_add (i j : Nat) : (2 : Int) ^ (i + j) = 2 ^ i * 2 ^ j := Int.pow_add _ _ _
theorem p2_mono {i j : Nat} (h : i ≤ j) : (2 : Int) ^ i ≤ 2 ^ j := by
  obtain ⟨d, rfl⟩ := Nat.le.dest h
  rw [p2_add]
  have h1 := p2_pos i
  have h2 : (1 : Int) ≤ 2 ^ d := by have := p2_pos d; omega
  have := Int.mul_le_mul_of_nonneg_left h2 (c := 2 ^ i) (by omega)
  omega
theorem p2_lt {i j : Nat} (h : (2 : Int) ^ i < 2 ^ j) : i < j := by
  by_cases hq : i < j
  · exact hq
  · have := p2_mono (i := j) (j := i) (by omega)
    omega
theorem p2_limb (i : Nat) : pw i = 2 ^ (32 * i) := by
  rw [pw_eq, Int.pow_mul]
  rfl
theorem bl_pos {n : Int} (h : 0 < n) : 0 < bl n := by unfold bl; rw [if_neg (by omega)]; omega
theorem bl_nonneg (n : Int) : 0 ≤ bl n := by unfold bl; split <;> omega
theorem bl_ge {n : Int} (h : 0 < n) : (2 : Int) ^ (bl n - 1).toNat ≤ n := by
  obtain ⟨m, rfl⟩ : ∃ m : Nat, n = m := ⟨n.toNat, by omega⟩
  unfold bl
  rw [if_neg (by omega)]
  have := Nat.log2_self_le (n := m) (by omega)
  rw [Int.add_sub_cancel, Int.toNat_natCast, Int.toNat_natCast]
  exact_mod_cast this
theorem bl_lt {n : Int} (h : 0 ≤ n) : n < (2 : Int) ^ (bl n).toNat := by
  obtain ⟨m, rfl⟩ : ∃ m : Nat, n = m := ⟨n.toNat, by omega⟩
  unfold bl
  by_cases hm : m = 0
  · subst hm; decide
  · rw [if_neg (by omega)]
    have := Nat.lt_log2_self (n := m)
    have e : ((Nat.log2 (m : Int).toNat : Int) + 1).toNat = m.log2 + 1 := by rw [Int.toNat_natCast]; omega
    rw [e]
    exact_mod_cast this
theorem bl_eq {n : Int} {m : Nat} (h0 : (2 : Int) ^ m ≤ n) (h1 : n < 2 ^ (m + 1)) : bl n = (m : Int) + 1 := by
  have hp := p2_pos m
  have a := bl_ge (n := n) (by omega)
  have b := bl_lt (n := n) (by omega)
  have c := bl_pos (n := n) (by omega)
  have d := p2_lt (Int.lt_of_le_of_lt a h1)
  have e := p2_lt (Int.lt_of_le_of_lt h0 b)
  omega
theorem bl_le {n : Int} {m : Nat} (h1 : n < 2 ^ m) : bl n ≤ m := by
  by_cases h : 0 < n
  · have a := bl_ge h
    have d := p2_lt (Int.lt_of_le_of_lt a h1)
    omega
  · unfold bl; rw [if_pos (by omega)]; omega
theorem bl_shift {x : Int} (j : Nat) (h : 0 < x / 2 ^ j) : bl x = j + bl (x / 2 ^ j) := by
  have a := bl_ge h
  have b := bl_lt (n := x / 2 ^ j) (by omega)
  have c := bl_pos h
  have p := p2_pos j
  have h1 : (2 : Int) ^ (j + (bl (x / 2 ^ j) - 1).toNat) ≤ x := by
    rw [p2_add]
    have := Int.mul_le_mul_of_nonneg_left a (c := 2 ^ j) (by omega)
    have e := Int.mul_ediv_add_emod x (2 ^ j)
    have f := Int.emod_nonneg x (b := 2 ^ j) (by omega)
    omega
  have h2 : x < (2 : Int) ^ (j + (bl (x / 2 ^ j) - 1).toNat + 1) := by
    rw [show j + (bl (x / 2 ^ j) - 1).toNat + 1 = j + (bl (x / 2 ^ j)).toNat by omega, p2_add]
    have h3 : x / 2 ^ j + 1 ≤ 2 ^ (bl (x / 2 ^ j)).toNat := b
    have := Int.mul_le_mul_of_nonneg_left h3 (c := 2 ^ j) (by omega)
    have e := Int.mul_ediv_add_emod x (2 ^ j)
    have f := Int.emod_lt_of_pos x p
    rw [Int.mul_add] at this
    omega
  have := bl_eq h1 h2
  omega
def tab8 : ByteArray := ⟨#[0, 1, 2, 2, 3, 3, 3, 3, 4, 4, 4, 4, 4, 4, 4, 4, 5, 5, 5, 5, 5, 5, 5, 5, 5, 5, 5, 5, 5, 5, 5, 5, 6, 6, 6, 6, 6, 6, 6, 6, 6, 6, 6, 6, 6, 6, 6, 6, 6, 6, 6, 6, 6, 6, 6, 6, 6, 6, 6, 6, 6, 6, 6, 6, 7, 7, 7, 7, 7, 7, 7, 7, 7, 7, 7, 7, 7, 7, 7, 7, 7, 7, 7, 7, 7, 7, 7, 7, 7, 7, 7, 7, 7, 7, 7, 7, 7, 7, 7, 7, 7, 7, 7, 7, 7, 7, 7, 7, 7, 7, 7, 7, 7, 7, 7, 7, 7, 7, 7, 7, 7, 7, 7, 7, 7, 7, 7, 7, 8, 8, 8, 8, 8, 8, 8, 8, 8, 8, 8, 8, 8, 8, 8, 8, 8, 8, 8, 8, 8, 8, 8, 8, 8, 8, 8, 8, 8, 8, 8, 8, 8, 8, 8, 8, 8, 8, 8, 8, 8, 8, 8, 8, 8, 8, 8, 8, 8, 8, 8, 8, 8, 8, 8, 8, 8, 8, 8, 8, 8, 8, 8, 8, 8, 8, 8, 8, 8, 8, 8, 8, 8, 8, 8, 8, 8, 8, 8, 8, 8, 8, 8, 8, 8, 8, 8, 8, 8, 8, 8, 8, 8, 8, 8, 8, 8, 8, 8, 8, 8, 8, 8, 8, 8, 8, 8, 8, 8, 8, 8, 8, 8, 8, 8, 8, 8, 8, 8, 8, 8, 8, 8, 8, 8, 8, 8, 8]⟩
theorem tab8_fin : ∀ i : Fin 256, bt tab8 (i.val : Int) = bl (i.val : Int) := by decide +kernel
theorem tab8_eq {x : Int} (h0 : 0 ≤ x) (h1 : x < 256) : bt tab8 x = bl x := by
  have := tab8_fin ⟨x.toNat, by omega⟩
  simp only at this
  rw [show ((x.toNat : Nat) : Int) = x by omega] at this
  exact this
theorem len32 {x : Int} (h0 : 0 ≤ x) (h1 : x < 4294967296) : bits_Len32.f x = some (bl x) := by
  have b8 : ∀ y : Int, 0 ≤ y → y < 256 → bl y ≤ 8 := fun y _ hy => bl_le (m := 8) hy
  unfold bits_Len32.f
  change (if x ≥ 65536 then (if (x / 65536) ≥ 256 then (if 0 ≤ (((x / 65536) / 256) % 256) then (if (((x / 65536) / 256) % 256) < 256 then (some (wrap64 ((16 + 8) + (wrap64 (bt tab8 (((x / 65536) / 256) % 256)))))) else (none)) else (none)) else (if 0 ≤ ((x / 65536) % 256) then (if ((x / 65536) % 256) < 256 then (some (wrap64 (16 + (wrap64 (bt tab8 ((x / 65536) % 256)))))) else (none)) else (none))) else (if x ≥ 256 then (if 0 ≤ ((x / 256) % 256) then (if ((x / 256) % 256) < 256 then (some (wrap64 ((0 + 8) + (wrap64 (bt tab8 ((x / 256) % 256)))))) else (none)) else (none)) else (if 0 ≤ (x % 256) then (if (x % 256) < 256 then (some (wrap64 (0 + (wrap64 (bt tab8 (x % 256)))))) else (none)) else (none)))) = some (bl x)
  by_cases c1 : x ≥ 65536
  · rw [if_pos c1]
    by_cases c2 : x / 65536 ≥ 256
    · rw [if_pos c2, if_pos (by omega), if_pos (by omega)]
      have e : x / 65536 / 256 % 256 = x / 2 ^ 24 := by omega
      have e2 := bl_shift (x := x) 24 (by omega)
      have e3 := b8 (x / 2 ^ 24) (by omega) (by omega)
      have e4 := bl_nonneg (x / 2 ^ 24)
      rw [e, tab8_eq (by omega) (by omega), w64 (x := bl _) (by omega) (by omega), w64 (by omega) (by omega), e2]
      congr 1
    · rw [if_neg c2, if_pos (by omega), if_pos (by omega)]
      have e : x / 65536 % 256 = x / 2 ^ 16 := by omega
      have e2 := bl_shift (x := x) 16 (by omega)
      have e3 := b8 (x / 2 ^ 16) (by omega) (by omega)
      have e4 := bl_nonneg (x / 2 ^ 16)
      rw [e, tab8_eq (by omega) (by omega), w64 (x := bl _) (by omega) (by omega), w64 (by omega) (by omega), e2]
      congr 1
  · rw [if_neg c1]
    by_cases c2 : x ≥ 256
    · rw [if_pos c2, if_pos (by omega), if_pos (by omega)]
      have e : x / 256 % 256 = x / 2 ^ 8 := by omega
      have e2 := bl_shift (x := x) 8 (by omega)
      have e3 := b8 (x / 2 ^ 8) (by omega) (by omega)
      have e4 := bl_nonneg (x / 2 ^ 8)
      rw [e, tab8_eq (by omega) (by omega), w64 (x := bl _) (by omega) (by omega), w64 (by omega) (by omega), e2]
      congr 1
    · rw [if_neg c2, if_pos (by omega), if_pos (by omega)]
      have e : x % 256 = x := by omega
      have e3 := b8 x (by omega) (by omega)
      have e4 := bl_nonneg x
      rw [e, tab8_eq (by omega) (by omega), w64 (x := bl _) (by omega) (by omega), w64 (by omega) (by omega)]
      congr 1
      omega
/-- The value of the limbs: the highest one, and what is behind it. -/
theorem val_top {n : Int} (h : 0 < n) : n / pw ((lim n).length - 1) = (lim n).getD ((lim n).length - 1) 0 := by
  have hl : 0 < (lim n).length := List.length_pos_iff.2 (lim_ne_nil h)
  have hu := U_lim (n := n) (by omega)
  have e := val_split (lim n) ((lim n).length - 1) (by omega)
  rw [val_lim (by omega), val_drop (by omega), show (lim n).length - 1 + 1 = (lim n).length by omega, List.drop_length, val_nil] at e
  have h1 := val_lt (U_take hu ((lim n).length - 1))
  have h2 := val_nonneg (U_take hu ((lim n).length - 1))
  rw [List.length_take, Nat.min_eq_left (by omega)] at h1
  have hp := pw_pos ((lim n).length - 1)
  rw [Int.mul_zero, Int.add_zero] at e
  have key : ∀ (A p t : Int), 0 ≤ A → A < p → 0 < p → (A + p * t) / p = t := fun A p t a1 a2 a3 => by
    rw [Int.add_mul_ediv_left _ _ (by omega), Int.ediv_eq_zero_of_lt a1 a2]
    omega
  have e5 := key _ _ ((lim n).getD ((lim n).length - 1) 0) h2 h1 hp
  rw [← e] at e5
  exact e5
theorem len_ev (l : List Int) (h : U l) (hb : l.length ≤ 1073741824) : ∃ K, ∀ k, K ≤ k → nat_Len.f k l = some (bl (val l)) := by
  obtain ⟨K, hK⟩ := cut_ev l h hb
  have hn := val_nonneg h
  have hl := lim_len hn l.length (val_lt h)
  have hz := lim_nil_iff hn
  refine ⟨K, fun k hk => ?_⟩
  unfold nat_Len.f
  rw [hK k hk, Option.bind_some]
  by_cases h0 : val l = 0
  · rw [if_pos (by have := hz.2 h0; omega), h0]
    rfl
  · have h1 : 0 < (lim (val l)).length := by
      by_cases hq : (lim (val l)).length = 0
      · exact absurd (hz.1 hq) h0
      · omega
    have hpos : 0 < val l := by omega
    have hw : wrap64 (((lim (val l)).length : Int) - 1) = ((lim (val l)).length : Int) - 1 := w64 (by omega) (by omega)
    have ht : (((lim (val l)).length : Int) - 1).toNat = (lim (val l)).length - 1 := by omega
    have hu := U_getD (U_lim hn) ((lim (val l)).length - 1)
    have hlast := lim_last hpos
    rw [if_neg (by omega)]
    simp only [hw, rd_eq, ht]
    rw [if_pos (by omega), if_pos (by omega), len32 hu.1 hu.2, Option.bind_some]
    have e1 := val_top hpos
    have e2 := bl_shift (x := val l) (32 * ((lim (val l)).length - 1)) (by rw [← p2_limb, e1]; omega)
    rw [← p2_limb, e1] at e2
    have e3 := bl_le (n := (lim (val l)).getD ((lim (val l)).length - 1) 0) (m := 32) hu.2
    have e4 := bl_nonneg ((lim (val l)).getD ((lim (val l)).length - 1) 0)
    rw [w64 (x := 32 * _) (by omega) (by omega), w64 (by omega) (by omega), e2]
    congr 1
    omega
end Go.Proofs.YthlhogcnfaiphaaDoor.T

namespace Go.Proofs.YthlhogcnfaiphaaDoor.T
set_option linter.unusedVariables false
set_option linter.unusedSimpArgs false
open Go.RowKit Go.Proofs.YthlhogcnfaiphaaDoorW.PrintWords Go.Proofs.YthlhogcnfaiphaaDoorW.PrintMore Go.Proofs.YthlhogcnfaiphaaDoor.PA

theorem val_full {l : List Int} {n : Nat} (h : l.length = n + 1) : val l = val (l.take n) + pw n * l.getD n 0 := by
  have := val_take_succ (l := l) (i := n) (by omega)
  rw [← h, List.take_length] at this
  exact this
theorem take_out (l : List Int) (i : Nat) (h : l.length ≤ i) : l.take i = l := List.take_of_length_le h
theorem getD_out (l : List Int) (i : Nat) (h : l.length ≤ i) : l.getD i 0 = 0 := by
  rw [List.getD_eq_getElem?_getD, List.getElem?_eq_none h]
  rfl
theorem val_take_succ' (l : List Int) (i : Nat) : val (l.take (i + 1)) = val (l.take i) + pw i * l.getD i 0 := by
  by_cases h : i < l.length
  · exact val_take_succ h
  · rw [take_out l _ (by omega), take_out l _ (by omega), getD_out l i (by omega), Int.mul_zero, Int.add_zero]
theorem val_set_take {l : List Int} {i : Nat} (h : i < l.length) (x : Int) : val ((l.set i x).take (i + 1)) = val (l.take i) + pw i * x := by
  rw [val_take_succ (by simpa using h), take_set, getD_set_self h]

theorem add32 {x y c : Int} (hx : 0 ≤ x ∧ x < 4294967296) (hy : 0 ≤ y ∧ y < 4294967296) (hc : 0 ≤ c ∧ c ≤ 1) : bits_Add32.f x y c = some ((x + y + c) % 4294967296, (x + y + c) / 4294967296) := by
  unfold bits_Add32.f
  rw [u64w (x := x) (by omega) (by omega), u64w (x := y) (by omega) (by omega), u64w (x := c) (by omega) (by omega), u64w (x := x + y) (by omega) (by omega), u64w (x := x + y + c) (by omega) (by omega), show (x + y + c) / 4294967296 % 4294967296 = (x + y + c) / 4294967296 by omega]

theorem step_add {P A A1 B1 c x y r q : Int} (e : r + 4294967296 * q = x + y + c) (he : A + P * c = A1 + B1) : A + P * r + 4294967296 * P * q = A1 + P * x + (B1 + P * y) := by
  have h : P * (r + 4294967296 * q) = P * (x + y + c) := by rw [e]
  grind
theorem step_sub {P A A1 B1 c x y r q : Int} (e : r + 4294967296 * q = x - y - c) (he : A - P * c = A1 - B1) : A + P * r - 4294967296 * P * (-q) = A1 + P * x - (B1 + P * y) := by
  have h : P * (r + 4294967296 * q) = P * (x - y - c) := by rw [e]
  grind
theorem add_l0 (a b : List Int) (ha : U a) (hb : U b) (hl : b.length ≤ a.length) (hc : a.length ≤ 1073741823) (d : Nat) :
    ∀ (i : Nat) (o : List Int) (c : Int), i ≤ a.length → a.length - i = d → U o → o.length = a.length + 1 → 0 ≤ c ∧ c ≤ 1 → val (o.take i) + pw i * c = val (a.take i) + val (b.take i) →
      ∃ K, ∀ k, K ≤ k → nat_Add.l0 k a b o c (a.length : Int) (i : Int) = some (lim (val a + val b)) := by
  induction d with
  | zero =>
    intro i o c hi hd ho hol hcc he
    obtain rfl : i = a.length := by omega
    have hu := U_set ho a.length (x := c) (by omega) (by omega)
    obtain ⟨K, hK⟩ := cuto_ev (o.set a.length c) hu (by simp; omega)
    have hv : val (o.set a.length c) = val a + val b := by
      rw [val_full (n := a.length) (by simpa using hol), take_set, getD_set_self (by omega), he, List.take_length, take_out b _ hl]
    refine ⟨K + 1, fun k hk => ?_⟩
    obtain ⟨k, rfl⟩ : ∃ m, k = m + 1 := ⟨k - 1, by omega⟩
    simp only [nat_Add.l0, Int.toNat_natCast]
    rw [if_neg (by omega), if_pos (by omega), if_pos (by omega), hK k (by omega), Option.bind_some, hv]
  | succ d ih =>
    intro i o c hi hd ho hol hcc he
    have hai := U_getD ha i
    have hbi := U_getD hb i
    have key : val ((o.set i ((a.getD i 0 + b.getD i 0 + c) % 4294967296)).take (i + 1)) + pw (i + 1) * ((a.getD i 0 + b.getD i 0 + c) / 4294967296) = val (a.take (i + 1)) + val (b.take (i + 1)) := by
      rw [val_set_take (by omega), val_take_succ', val_take_succ', pw_succ]
      exact step_add (Int.emod_add_mul_ediv (a.getD i 0 + b.getD i 0 + c) 4294967296) he
    obtain ⟨K, hK⟩ := ih (i + 1) (o.set i ((a.getD i 0 + b.getD i 0 + c) % 4294967296)) ((a.getD i 0 + b.getD i 0 + c) / 4294967296) (by omega) (by omega) (U_set ho i (by omega) (by omega)) (by simpa using hol) (by omega) key
    refine ⟨K + 1, fun k hk => ?_⟩
    obtain ⟨k, rfl⟩ : ∃ m, k = m + 1 := ⟨k - 1, by omega⟩
    simp only [nat_Add.l0, Int.toNat_natCast, rd_eq, w64_succ (show i < 4611686018427387904 by omega)]
    rw [if_pos (by omega)]
    by_cases hib : i < b.length
    · rw [if_pos (by omega), if_pos (by omega), if_pos (by omega), add32 hai hbi hcc, Option.bind_some]
      simp only
      rw [if_pos (by omega)]
      exact hK k (by omega)
    · have h5 := add32 hai hbi hcc
      have h6 := hK k (by omega)
      rw [getD_out b i (by omega)] at h5 h6
      rw [if_neg (by omega), if_pos (by omega), if_pos (by omega), h5, Option.bind_some]
      simp only
      rw [if_pos (by omega)]
      exact h6
theorem add_l1 (a b o : List Int) (c n i : Int) (k : Nat) : nat_Add.l1 k a b o c n i = nat_Add.l0 k a b o c n i := by
  induction k generalizing o c i with
  | zero => rfl
  | succ k ih => simp only [nat_Add.l1, nat_Add.l0, ih]
theorem add_ev (a b : List Int) (ha : U a) (hb : U b) (hla : a.length ≤ 1073741823) (hlb : b.length ≤ 1073741823) : ∃ K, ∀ k, K ≤ k → nat_Add.f k a b = some (lim (val a + val b)) := by
  unfold nat_Add.f
  by_cases hc : a.length < b.length
  · obtain ⟨K, hK⟩ := add_l0 b a hb ha (by omega) hlb _ 0 (List.replicate (b.length + 1) 0) 0 (by omega) rfl (U_replicate _) (by simp) (by omega) (by simp)
    refine ⟨K, fun k hk => ?_⟩
    simp only [w64_succ (show b.length < 4611686018427387904 by omega), Int.toNat_natCast]
    rw [if_pos (by omega), if_pos (by omega), if_pos (by omega), Int.add_comm (val a)]
    exact hK k hk
  · obtain ⟨K, hK⟩ := add_l0 a b ha hb (by omega) hla _ 0 (List.replicate (a.length + 1) 0) 0 (by omega) rfl (U_replicate _) (by simp) (by omega) (by simp)
    refine ⟨K, fun k hk => ?_⟩
    simp only [w64_succ (show a.length < 4611686018427387904 by omega), Int.toNat_natCast]
    rw [if_neg (by omega), if_pos (by omega), if_pos (by omega), add_l1]
    exact hK k hk

/-! bits -/
theorem bits_xor_gen (k : IntKind) (j : Nat) (hj : j ≤ k.bits) (hk : ∀ n : Int, 0 ≤ n → n < 2 ^ j → k.wrap n = n) (a b : Nat) (ha : a < 2 ^ j) (hb : b < 2 ^ j) :
    Go.bits .xor k a b = ((a ^^^ b : Nat) : Int) := by
  have hp : 2 ^ j ≤ 2 ^ k.bits := Nat.pow_le_pow_right (by decide) hj
  have ha' : a % 2 ^ k.bits = a := Nat.mod_eq_of_lt (Nat.lt_of_lt_of_le ha hp)
  have hb' : b % 2 ^ k.bits = b := Nat.mod_eq_of_lt (Nat.lt_of_lt_of_le hb hp)
  have cast : ∀ n : Nat, n < 2 ^ j → ((n : Nat) : Int) < 2 ^ j := fun n h => by exact_mod_cast h
  simp only [Go.bits, BitVec.ofInt_natCast, BitVec.toNat_xor, BitVec.toNat_ofNat, ha', hb']
  exact hk _ (Int.natCast_nonneg _) (cast _ (Nat.xor_lt_two_pow ha hb))
theorem wraps_u32 (n : Int) (h0 : 0 ≤ n) (h1 : n < 2 ^ 32) : IntKind.u32.wrap n = n := by rw [IntKind.wrap_u32]; omega
theorem bits_xor_nat (a b : Nat) (ha : a < 4294967296) (hb : b < 4294967296) : Go.bits .xor .u32 a b = ((a ^^^ b : Nat) : Int) := bits_xor_gen .u32 32 (by decide) wraps_u32 a b ha hb
theorem bits_or_comm (k : IntKind) (x y : Int) : Go.bits .or k x y = Go.bits .or k y x := by simp only [Go.bits, BitVec.or_comm]
theorem wraps_u64 (n : Int) (h0 : 0 ≤ n) (h1 : n < 2 ^ 64) : IntKind.u64.wrap n = n := u64w h0 (by omega)
theorem topb (n : Nat) (h : n < 4294967296) : n / 2147483648 = if n.testBit 31 = true then 1 else 0 := by
  rw [Nat.testBit_eq_decide_div_mod_eq]
  by_cases hq : n / 2 ^ 31 % 2 = 1
  · rw [decide_eq_true hq, if_pos rfl]; omega
  · rw [decide_eq_false hq, if_neg (by simp)]; omega
theorem topd (n : Nat) (h : n < 4294967296) : n.testBit 31 = decide (2147483648 ≤ n) := by
  rw [Nat.testBit_eq_decide_div_mod_eq]
  congr 1
  apply propext
  omega
theorem sub32 {x y c : Int} (hx : 0 ≤ x ∧ x < 4294967296) (hy : 0 ≤ y ∧ y < 4294967296) (hc : 0 ≤ c ∧ c ≤ 1) : bits_Sub32.f x y c = some ((x - y - c) % 4294967296, if x - y - c < 0 then 1 else 0) := by
  obtain ⟨X, rfl⟩ : ∃ n : Nat, x = n := ⟨x.toNat, by omega⟩
  obtain ⟨Y, rfl⟩ : ∃ n : Nat, y = n := ⟨y.toNat, by omega⟩
  obtain ⟨D, hD⟩ : ∃ n : Nat, (((X : Int) - Y) % 4294967296 - c) % 4294967296 = n := ⟨((((X : Int) - Y) % 4294967296 - c) % 4294967296).toNat, by omega⟩
  have hX : X < 4294967296 := by omega
  have hY : Y < 4294967296 := by omega
  have hDl : D < 4294967296 := by omega
  have hz := Nat.xor_lt_two_pow (n := 32) hX hY
  have hn : ∀ Z : Nat, Z < 4294967296 → (4294967295 ^^^ Z : Nat) < 4294967296 := fun Z h => Nat.xor_lt_two_pow (n := 32) (by decide) h
  have an := fun (p q : Nat) (hp : p < 4294967296) (hq : q < 4294967296) => bits_nat .u32 32 (by decide) wraps_u32 p q hp hq
  have al : ∀ p q : Nat, p < 4294967296 → q < 4294967296 → p &&& q < 4294967296 := fun p q _ hq => Nat.and_lt_two_pow (n := 32) p hq
  have ol : ∀ p q : Nat, p < 4294967296 → q < 4294967296 → p ||| q < 4294967296 := fun p q hp hq => Nat.or_lt_two_pow (n := 32) hp hq
  have c32 : ((4294967295 : Nat) : Int) = 4294967295 := rfl
  unfold bits_Sub32.f
  rw [hD, ← c32, bits_xor_nat _ _ (by decide) hX, bits_xor_nat X Y hX hY, bits_xor_nat _ _ (by decide) hz, (an _ _ (hn _ hX) hY).1, (an _ _ (hn _ hz) hDl).1, (an _ _ (al _ _ (hn _ hX) hY) (al _ _ (hn _ hz) hDl)).2]
  have e := topb _ (ol _ _ (al _ _ (hn _ hX) hY) (al _ _ (hn _ hz) hDl))
  simp only [Nat.testBit_or, Nat.testBit_and, Nat.testBit_xor, topd _ hX, topd _ hY, topd _ hDl, show Nat.testBit 4294967295 31 = true by decide] at e
  have e2 : ∀ n : Nat, ((n : Int) / 2147483648) = ((n / 2147483648 : Nat) : Int) := fun n => by omega
  rw [e2, e]
  have e3 : (X - Y - c) % 4294967296 = (D : Int) := by omega
  rw [e3]
  congr 2
  by_cases h1 : 2147483648 ≤ X <;> by_cases h2 : 2147483648 ≤ Y <;> by_cases h3 : 2147483648 ≤ D <;> simp only [h1, h2, h3, decide_true, decide_false, Bool.xor_true, Bool.xor_false, Bool.not_true, Bool.not_false, Bool.true_and, Bool.false_and, Bool.and_true, Bool.and_false, Bool.or_true, Bool.or_false, Bool.true_or, Bool.false_or, if_true, Bool.false_eq_true, if_false] <;> split <;> omega
theorem sub_l0 (a b : List Int) (ha : U a) (hb : U b) (hl : b.length ≤ a.length) (hc : a.length ≤ 1073741824) (hv : val b ≤ val a) (d : Nat) :
    ∀ (i : Nat) (o : List Int) (c : Int), i ≤ a.length → a.length - i = d → U o → o.length = a.length → 0 ≤ c ∧ c ≤ 1 → val (o.take i) - pw i * c = val (a.take i) - val (b.take i) →
      ∃ K, ∀ k, K ≤ k → nat_Sub.l0 k a b o c (a.length : Int) (i : Int) = some (lim (val a - val b), true) := by
  induction d with
  | zero =>
    intro i o c hi hd ho hol hcc he
    obtain rfl : i = a.length := by omega
    obtain ⟨K, hK⟩ := cuto_ev o ho (by omega)
    rw [List.take_length, take_out b _ hl, ← hol, List.take_length] at he
    have hlt := val_lt ho
    have hp := pw_pos o.length
    have hc0 : c = 0 := by
      rcases (show c = 0 ∨ c = 1 by omega) with h | h
      · exact h
      · subst h; omega
    subst hc0
    have hvo : val o = val a - val b := by omega
    refine ⟨K + 1, fun k hk => ?_⟩
    obtain ⟨k, rfl⟩ : ∃ m, k = m + 1 := ⟨k - 1, by omega⟩
    simp only [nat_Sub.l0]
    rw [if_neg (by omega), hK k (by omega), Option.bind_some, hvo]
  | succ d ih =>
    intro i o c hi hd ho hol hcc he
    have hai := U_getD ha i
    have hbi := U_getD hb i
    have hif : (if a.getD i 0 - b.getD i 0 - c < 0 then (1 : Int) else 0) = -((a.getD i 0 - b.getD i 0 - c) / 4294967296) := by split <;> omega
    have key : val ((o.set i ((a.getD i 0 - b.getD i 0 - c) % 4294967296)).take (i + 1)) - pw (i + 1) * (if a.getD i 0 - b.getD i 0 - c < 0 then 1 else 0) = val (a.take (i + 1)) - val (b.take (i + 1)) := by
      rw [val_set_take (by omega), val_take_succ', val_take_succ', pw_succ, hif]
      exact step_sub (Int.emod_add_mul_ediv (a.getD i 0 - b.getD i 0 - c) 4294967296) he
    obtain ⟨K, hK⟩ := ih (i + 1) (o.set i ((a.getD i 0 - b.getD i 0 - c) % 4294967296)) (if a.getD i 0 - b.getD i 0 - c < 0 then 1 else 0) (by omega) (by omega) (U_set ho i (by omega) (by omega)) (by simpa using hol) (by split <;> omega) key
    refine ⟨K + 1, fun k hk => ?_⟩
    obtain ⟨k, rfl⟩ : ∃ m, k = m + 1 := ⟨k - 1, by omega⟩
    simp only [nat_Sub.l0, Int.toNat_natCast, rd_eq, w64_succ (show i < 4611686018427387904 by omega)]
    rw [if_pos (by omega)]
    by_cases hib : i < b.length
    · rw [if_pos (by omega), if_pos (by omega), if_pos (by omega), sub32 hai hbi hcc, Option.bind_some]
      simp only
      rw [if_pos (by omega)]
      exact hK k (by omega)
    · have h5 := sub32 hai hbi hcc
      have h6 := hK k (by omega)
      rw [getD_out b i (by omega)] at h5 h6
      rw [if_neg (by omega), if_pos (by omega), if_pos (by omega), h5, Option.bind_some]
      simp only
      rw [if_pos (by omega)]
      exact h6
theorem lim_len_mono {a b : Int} (ha : 0 ≤ a) (h : a ≤ b) : (lim a).length ≤ (lim b).length := by
  by_cases hq : (lim b).length < (lim a).length
  · have := lim_len_lt (a := b) (b := a) (by omega) hq
    omega
  · omega
theorem sub_ev (a b : List Int) (ha : U a) (hb : U b) (hla : a.length ≤ 1073741824) (hlb : b.length ≤ 1073741824) : ∃ K, ∀ k, K ≤ k → nat_Sub.f k a b = some (if val a < val b then ([], false) else (lim (val a - val b), true)) := by
  have na := val_nonneg ha
  have nb := val_nonneg hb
  have la := lim_len na a.length (val_lt ha)
  have lb := lim_len nb b.length (val_lt hb)
  obtain ⟨K1, h1⟩ := cut_ev a ha hla
  obtain ⟨K2, h2⟩ := cut_ev b hb hlb
  obtain ⟨K3, h3⟩ := cmp_ev (lim (val a)) (lim (val b)) (U_lim na) (U_lim nb) (by omega) (by omega)
  rw [val_lim na, val_lim nb] at h3
  unfold nat_Sub.f
  by_cases hlt : val a < val b
  · refine ⟨K1 + K2 + K3, fun k hk => ?_⟩
    rw [h1 k (by omega), Option.bind_some, h2 k (by omega), Option.bind_some, h3 k (by omega), Option.bind_some, sgn_neg (by omega), if_pos (by omega), if_pos hlt]
  · have hm := lim_len_mono nb (show val b ≤ val a by omega)
    obtain ⟨K, hK⟩ := sub_l0 (lim (val a)) (lim (val b)) (U_lim na) (U_lim nb) hm (by omega) (by rw [val_lim na, val_lim nb]; omega) _ 0 (List.replicate (lim (val a)).length 0) 0 (by omega) rfl (U_replicate _) (by simp) (by omega) (by simp)
    refine ⟨K1 + K2 + K3 + K, fun k hk => ?_⟩
    have h4 := hK k (by omega)
    rw [val_lim na, val_lim nb] at h4
    have hs : ¬ sgn (val a - val b) < 0 := by unfold sgn; split <;> (try split) <;> omega
    rw [h1 k (by omega), Option.bind_some, h2 k (by omega), Option.bind_some, h3 k (by omega), Option.bind_some, if_neg hs, if_neg hlt, if_pos (by omega), if_pos (by omega), Int.toNat_natCast]
    exact h4
end Go.Proofs.YthlhogcnfaiphaaDoor.T

namespace Go.Proofs.YthlhogcnfaiphaaDoor.T
set_option linter.unusedVariables false
set_option linter.unusedSimpArgs false
open Go.RowKit Go.Proofs.YthlhogcnfaiphaaDoorW.PrintWords Go.Proofs.YthlhogcnfaiphaaDoorW.PrintMore Go.Proofs.YthlhogcnfaiphaaDoor.PA

theorem mul_bound {x y : Int} (hx : 0 ≤ x ∧ x < 4294967296) (hy : 0 ≤ y ∧ y < 4294967296) : 0 ≤ x * y ∧ x * y ≤ 18446744065119617025 := by
  refine ⟨Int.mul_nonneg hx.1 hy.1, ?_⟩
  have h1 := Int.mul_le_mul (a := x) (b := y) (c := 4294967295) (d := 4294967295) (by omega) (by omega) hy.1 (by omega)
  omega
theorem step_mul {V P Q x y old c r q W S : Int} (e : r + 4294967296 * q = x * y + old + c) : V + P * Q * (r - old) + 4294967296 * (P * Q) * q + P * x * (W - (S + Q * y)) = V + P * Q * c + P * x * (W - S) := by
  have h : P * Q * (r + 4294967296 * q) = P * Q * (x * y + old + c) := by rw [e]
  grind
theorem mul_l1 (a b : List Int) (hb : U b) (i : Nat) (x : Int) (hx : 0 ≤ x ∧ x < 4294967296) (hi : i < 1073741824) (hlb : b.length ≤ 1073741824) (d : Nat) :
    ∀ (j : Nat) (o : List Int) (c : Int), j ≤ b.length → b.length - j = d → U o → i + b.length < o.length → 0 ≤ c ∧ c < 4294967296 → o.getD (i + b.length) 0 = 0 →
      ∃ o', U o' ∧ o'.length = o.length ∧ (∀ q, i + b.length < q → o'.getD q 0 = o.getD q 0) ∧ val o' = val o + pw (i + j) * c + pw i * x * (val b - val (b.take j)) ∧
        ∀ f, nat_Mul.l1 (f + d + 1) b o (i : Int) x c a (a.length : Int) (i : Int) b (b.length : Int) (j : Int) = nat_Mul.l0 f b o' a (a.length : Int) ((i + 1 : Nat) : Int) := by
  induction d with
  | zero =>
    intro j o c hj hd ho hol hc hz
    obtain rfl : j = b.length := by omega
    refine ⟨o.set (i + b.length) c, U_set ho _ hc.1 hc.2, by simp, fun q hq => getD_set_ne (by omega) c, ?_, fun f => ?_⟩
    · rw [val_set hol, hz, List.take_length]
      grind
    · simp only [nat_Mul.l1, w64_add (show i + b.length < 9223372036854775808 by omega), Int.toNat_natCast, w64_succ (show i < 4611686018427387904 by omega)]
      rw [if_neg (by omega), if_pos (by omega), if_pos (by omega), Int.emod_eq_of_lt hc.1 hc.2]
  | succ d ih =>
    intro j o c hj hd ho hol hc hz
    have hbj := U_getD hb j
    have hoj := U_getD ho (i + j)
    have hm := mul_bound hx hbj
    obtain ⟨n, hn⟩ : ∃ n, n = x * b.getD j 0 + o.getD (i + j) 0 + c := ⟨_, rfl⟩
    obtain ⟨o', h1, h2, h3, h4, h5⟩ := ih (j + 1) (o.set (i + j) (n % 4294967296)) (n / 4294967296) (by omega) (by omega) (U_set ho _ (by omega) (by omega)) (by simpa using hol) (by omega) (by rw [getD_set_ne (by omega)]; exact hz)
    refine ⟨o', h1, by simpa using h2, fun q hq => (h3 q hq).trans (getD_set_ne (by omega) _), ?_, fun f => ?_⟩
    · rw [h4, val_set (by omega), val_take_succ', show i + (j + 1) = (i + j) + 1 by omega, pw_succ, pw_add]
      exact step_mul (by rw [← hn]; exact Int.emod_add_mul_ediv n 4294967296)
    · rw [← h5 f]
      simp only [nat_Mul.l1, w64_add (show i + j < 9223372036854775808 by omega), Int.toNat_natCast, rd_eq, w64_succ (show j < 4611686018427387904 by omega), u64w hx.1 (show x < 18446744073709551616 by omega), u64w hbj.1 (show b.getD j 0 < 18446744073709551616 by omega), u64w hoj.1 (show o.getD (i + j) 0 < 18446744073709551616 by omega), u64w hm.1 (show x * b.getD j 0 < 18446744073709551616 by omega), u64w (show 0 ≤ x * b.getD j 0 + o.getD (i + j) 0 by omega) (show x * b.getD j 0 + o.getD (i + j) 0 < 18446744073709551616 by omega), ← hn, u64w (show 0 ≤ n by omega) (show n < 18446744073709551616 by omega)]
      rw [if_pos (by omega), if_pos (by omega), if_pos (by omega), if_pos (by omega), if_pos (by omega)]
      rfl
theorem mul_l0 (a b : List Int) (ha : U a) (hb : U b) (hl : a.length + b.length ≤ 1073741824) (d : Nat) :
    ∀ (i : Nat) (o : List Int), i ≤ a.length → a.length - i = d → U o → o.length = a.length + b.length → (∀ q, i + b.length ≤ q → o.getD q 0 = 0) → val o = val (a.take i) * val b →
      ∃ K, ∀ k, K ≤ k → nat_Mul.l0 k b o a (a.length : Int) (i : Int) = some (lim (val a * val b)) := by
  induction d with
  | zero =>
    intro i o hi hd ho hol hz hv
    obtain rfl : i = a.length := by omega
    obtain ⟨K, hK⟩ := cuto_ev o ho (by omega)
    rw [hv, List.take_length] at hK
    refine ⟨K + 1, fun k hk => ?_⟩
    obtain ⟨k, rfl⟩ : ∃ m, k = m + 1 := ⟨k - 1, by omega⟩
    simp only [nat_Mul.l0]
    rw [if_neg (by omega), hK k (by omega), Option.bind_some]
  | succ d ih =>
    intro i o hi hd ho hol hz hv
    obtain ⟨o', h1, h2, h3, h4, h5⟩ := mul_l1 a b hb i (a.getD i 0) (U_getD ha i) (by omega) (by omega) _ 0 o 0 (by omega) rfl ho (by omega) (by omega) (hz _ (by omega))
    have hv' : val o' = val (a.take (i + 1)) * val b := by
      rw [h4, hv, val_take_succ', List.take_zero, val_nil]
      grind
    obtain ⟨K, hK⟩ := ih (i + 1) o' (by omega) (by omega) h1 (by omega) (fun q hq => by rw [h3 q (by omega)]; exact hz q (by omega)) hv'
    refine ⟨K + (b.length + 1) + 1, fun k hk => ?_⟩
    obtain ⟨k, rfl⟩ : ∃ m, k = (m + b.length + 1) + 1 := ⟨k - b.length - 2, by omega⟩
    have h6 := h5 k
    simp only [nat_Mul.l0, rd_eq, Int.toNat_natCast]
    rw [if_pos (by omega), if_pos (by omega), if_pos (by omega)]
    simp only [Nat.sub_zero] at h6
    exact h6.trans (hK k (by omega))
theorem mul_ev (a b : List Int) (ha : U a) (hb : U b) (hl : a.length + b.length ≤ 1073741824) : ∃ K, ∀ k, K ≤ k → nat_Mul.f k a b = some (lim (val a * val b)) := by
  obtain ⟨K, hK⟩ := mul_l0 a b ha hb hl _ 0 (List.replicate (a.length + b.length) 0) (by omega) rfl (U_replicate _) (by simp) (fun q _ => by
    rw [List.getD_eq_getElem?_getD, List.getElem?_replicate]
    split <;> rfl) (by rw [val_replicate, List.take_zero, val_nil, Int.zero_mul])
  refine ⟨K, fun k hk => ?_⟩
  unfold nat_Mul.f
  simp only [w64_add (show a.length + b.length < 9223372036854775808 by omega), Int.toNat_natCast]
  rw [if_pos (by omega), if_pos (by omega)]
  exact hK k hk

/-! moves by bits -/
theorem shl_eq {x : Int} {s : Nat} (h0 : 0 ≤ x) (hs : s ≤ 32) (h1 : x < 4294967296) : shl .u64 x (s : Int) = x * 2 ^ s ∧ 0 ≤ x * 2 ^ s ∧ x * 2 ^ s < 18446744073709551616 := by
  have hp := p2_pos s
  have hm := p2_mono hs
  have h2 := Int.mul_nonneg h0 (show (0 : Int) ≤ 2 ^ s by omega)
  have h3 := Int.mul_le_mul (a := x) (b := 2 ^ s) (c := 4294967295) (d := 2 ^ 32) (by omega) hm (by omega) (by omega)
  have e : (4294967295 : Int) * 2 ^ 32 = 18446744069414584320 := by decide
  have h4 : x * 2 ^ s < 18446744073709551616 := by omega
  refine ⟨?_, h2, h4⟩
  unfold shl
  have hmn : min (s : Int).toNat IntKind.u64.bits = s := by
    have : IntKind.u64.bits = 64 := rfl
    rw [this, Int.toNat_natCast]
    omega
  rw [hmn, u64w h2 h4]
theorem or_low {i : Nat} {s m : Int} (hi : i ≤ 32) (h0 : 0 ≤ s) (h1 : s < 2 ^ i) (hm0 : 0 ≤ m) (hm1 : m < 4294967296) (hm : m % 2 ^ i = 0) : Go.bits .or .u32 s m = s + m := by
  have h2 : s < 2 ^ 32 := Int.lt_of_lt_of_le h1 (p2_mono hi)
  rw [bits_or_comm, bits_join .u32 32 (by decide) wraps_u32 i m s hm0 hm hm1 h0 h1 h2, Int.add_comm]
theorem or_zero {m : Int} (hm0 : 0 ≤ m) (hm1 : m < 4294967296) : Go.bits .or .u32 0 m = m := by
  have := bits_join .u32 32 (by decide) wraps_u32 32 0 m (by decide) (by decide) (by decide) hm0 hm1 hm1
  omega
theorem mod_mod_p2 {x : Int} {s : Nat} (hs : s ≤ 32) : (x * 2 ^ s) % 4294967296 % 2 ^ s = 0 := by
  have e : (4294967296 : Int) = 2 ^ s * 2 ^ (32 - s) := by rw [← p2_add, show s + (32 - s) = 32 by omega]; rfl
  rw [e, Int.emod_emod_of_dvd _ (Int.dvd_mul_right _ _), Int.mul_emod_left]
theorem div_p2_lt {x : Int} {s : Nat} (hs : s ≤ 32) (h0 : 0 ≤ x) (h1 : x < 4294967296) : x * 2 ^ s / 4294967296 < 2 ^ s := by
  have hp := p2_pos s
  rw [Int.ediv_lt_iff_lt_mul (by decide), Int.mul_comm]
  exact Int.mul_lt_mul_of_pos_left h1 hp
theorem step_shl {V P y q r a A T : Int} (e : r + 4294967296 * q = y) (hy : y = a * T) {L i : Int} (hP : P = L * i) (hV : V = L * T * A) : V + P * r + 4294967296 * P * q = L * T * (A + i * a) := by
  have h : P * (r + 4294967296 * q) = P * y := by rw [e]
  subst hP hy hV
  grind
theorem shl_l0 (a : List Int) (ha : U a) (L s : Nat) (hs : s < 32) (hl : a.length + L + 1 ≤ 1073741824) (d : Nat) :
    ∀ (i : Nat) (o : List Int), i ≤ a.length → a.length - i = d → U o → o.length = a.length + L + 1 → o.getD (i + L) 0 < 2 ^ s → (∀ q, i + L < q → o.getD q 0 = 0) → val o = pw L * 2 ^ s * val (a.take i) →
      ∃ K, ∀ k, K ≤ k → nat_Shl.l0 k (L : Int) (s : Int) o a (a.length : Int) (i : Int) = some (lim (val a * 2 ^ (32 * L + s))) := by
  induction d with
  | zero =>
    intro i o hi hd ho hol hsm hz hv
    obtain rfl : i = a.length := by omega
    obtain ⟨K, hK⟩ := cuto_ev o ho (by omega)
    rw [hv, List.take_length, p2_limb, ← p2_add, Int.mul_comm] at hK
    refine ⟨K + 1, fun k hk => ?_⟩
    obtain ⟨k, rfl⟩ : ∃ m, k = m + 1 := ⟨k - 1, by omega⟩
    simp only [nat_Shl.l0]
    rw [if_neg (by omega), hK k (by omega), Option.bind_some]
  | succ d ih =>
    intro i o hi hd ho hol hsm hz hv
    have hai := U_getD ha i
    have hoi := U_getD ho (i + L)
    obtain ⟨hsh, hy0, hy1⟩ := shl_eq hai.1 (show s ≤ 32 by omega) hai.2
    have hq := div_p2_lt (show s ≤ 32 by omega) hai.1 hai.2
    have hmm := mod_mod_p2 (x := a.getD i 0) (show s ≤ 32 by omega)
    obtain ⟨y, hy⟩ : ∃ y, y = a.getD i 0 * 2 ^ s := ⟨_, rfl⟩
    rw [← hy] at hsh hy0 hy1 hq hmm
    have hor := or_low (show s ≤ 32 by omega) hoi.1 hsm (show 0 ≤ y % 4294967296 by omega) (by omega) hmm
    have h32 := p2_mono (show s ≤ 32 by omega)
    have e32 : (2 : Int) ^ 32 = 4294967296 := rfl
    have hrange : o.getD (i + L) 0 + y % 4294967296 < 4294967296 := by
      have e : (4294967296 : Int) = 2 ^ s * 2 ^ (32 - s) := by rw [← p2_add, show s + (32 - s) = 32 by omega]; rfl
      have hp := p2_pos s
      have hd1 := Int.mul_ediv_add_emod (y % 4294967296) (2 ^ s)
      rw [hmm] at hd1
      have hlt : 2 ^ s * (y % 4294967296 / 2 ^ s) < 2 ^ s * 2 ^ (32 - s) := by omega
      have hlt2 := Int.lt_of_mul_lt_mul_left hlt (by omega)
      have := Int.mul_le_mul_of_nonneg_left (show y % 4294967296 / 2 ^ s + 1 ≤ 2 ^ (32 - s) by omega) (show (0 : Int) ≤ 2 ^ s by omega)
      rw [Int.mul_add] at this
      omega
    have hz1 : (o.set (i + L) (o.getD (i + L) 0 + y % 4294967296)).getD (i + L + 1) 0 = 0 := by rw [getD_set_ne (by omega)]; exact hz _ (by omega)
    have hor2 := or_zero (m := y / 4294967296) (by omega) (by omega)
    have hqm : y / 4294967296 % 4294967296 = y / 4294967296 := by omega
    obtain ⟨K, hK⟩ := ih (i + 1) ((o.set (i + L) (o.getD (i + L) 0 + y % 4294967296)).set (i + L + 1) (y / 4294967296)) (by omega) (by omega)
      (U_set (U_set ho _ (by omega) hrange) _ (by omega) (by omega)) (by simpa using hol)
      (by rw [show i + 1 + L = i + L + 1 by omega, getD_set_self (by simp; omega)]; exact hq)
      (fun q hq => by rw [getD_set_ne (by omega), getD_set_ne (by omega)]; exact hz _ (by omega))
      (by
        rw [val_set (by simp; omega), hz1, val_set (by omega), val_take_succ', pw_succ]
        rw [show o.getD (i + L) 0 + y % 4294967296 - o.getD (i + L) 0 = y % 4294967296 by omega, Int.sub_zero]
        exact step_shl (Int.emod_add_mul_ediv y 4294967296) hy (by rw [Nat.add_comm, pw_add]) hv)
    refine ⟨K + 1, fun k hk => ?_⟩
    obtain ⟨k, rfl⟩ : ∃ m, k = m + 1 := ⟨k - 1, by omega⟩
    simp only [nat_Shl.l0, w64_add (show i + L < 9223372036854775808 by omega), w64_succ (show i + L < 4611686018427387904 by omega), w64_succ (show i < 4611686018427387904 by omega), Int.toNat_natCast, rd_eq, u64w hai.1 (show a.getD i 0 < 18446744073709551616 by omega), hsh, hor, Option.bind_some]
    simp only [hz1, hor2, hqm]
    rw [if_pos (by omega), if_pos (by omega), if_pos (by omega), if_pos (by omega), if_pos (by omega), if_pos (by omega), if_pos (by omega), if_pos (by omega)]
    exact hK k (by omega)
/-- A number moved up. -/
def shlv (v n : Int) : Int := if n < 1 then v else if n > 16777216 then 0 else v * 2 ^ n.toNat
theorem shl_ev (a : List Int) (n : Int) (ha : U a) (hl : a.length ≤ 536870912) : ∃ K, ∀ k, K ≤ k → nat_Shl.f k a n = some (lim (shlv (val a) n)) := by
  have na := val_nonneg ha
  have la := lim_len na a.length (val_lt ha)
  obtain ⟨K1, h1⟩ := cut_ev a ha (by omega)
  unfold shlv nat_Shl.f
  by_cases c1 : n < 1
  · refine ⟨K1, fun k hk => ?_⟩
    rw [h1 k hk, Option.bind_some, if_pos c1, if_pos c1, clone_eq _ (by omega), Option.bind_some]
  · by_cases c2 : n > 16777216
    · refine ⟨K1, fun k hk => ?_⟩
      rw [h1 k hk, Option.bind_some, if_neg c1, if_neg c1, if_pos c2, if_pos c2, lim_zero]
    · by_cases c3 : val a = 0
      · refine ⟨K1, fun k hk => ?_⟩
        rw [h1 k hk, Option.bind_some, if_neg c1, if_neg c1, if_neg c2, if_neg c2, c3, lim_zero, Int.zero_mul, lim_zero]
        rfl
      · obtain ⟨m, rfl⟩ : ∃ m : Nat, n = m := ⟨n.toNat, by omega⟩
        obtain ⟨K, hK⟩ := shl_l0 (lim (val a)) (U_lim na) (m / 32) (m % 32) (by omega) (by omega) _ 0 (List.replicate ((lim (val a)).length + m / 32 + 1) 0) (by omega) rfl (U_replicate _) (by simp)
          (by
            have := p2_pos (m % 32)
            rw [List.getD_eq_getElem?_getD, List.getElem?_replicate]
            split <;> exact this)
          (fun q _ => by
            rw [List.getD_eq_getElem?_getD, List.getElem?_replicate]
            split <;> rfl)
          (by rw [val_replicate, List.take_zero, val_nil, Int.mul_zero])
        refine ⟨K1 + K, fun k hk => ?_⟩
        have h2 := hK k (by omega)
        rw [val_lim na, show 32 * (m / 32) + m % 32 = m by omega] at h2
        have hne : ((lim (val a)).length : Int) ≠ 0 := fun h => c3 ((lim_nil_iff na).1 (by omega))
        rw [h1 k (by omega), Option.bind_some, if_neg c1, if_neg c1, if_neg c2, if_neg c2, if_neg hne]
        simp only [Int.tdiv_eq_ediv_of_nonneg (show (0 : Int) ≤ (m : Int) by omega), Int.tmod_eq_emod_of_nonneg (show (0 : Int) ≤ (m : Int) by omega), show (m : Int) / 32 = ((m / 32 : Nat) : Int) by omega, show (m : Int) % 32 = ((m % 32 : Nat) : Int) by omega, w64_nat (show m / 32 < 9223372036854775808 by omega), w64_add (show (lim (val a)).length + m / 32 < 9223372036854775808 by omega), w64_succ (show (lim (val a)).length + m / 32 < 4611686018427387904 by omega), Int.toNat_natCast]
        rw [if_pos (by omega), if_pos (by omega)]
        exact h2

theorem val_div {l : List Int} (h : U l) {i : Nat} (hi : i ≤ l.length) : val l / pw i = val (l.drop i) := by
  have e := val_split l i hi
  have h1 := val_lt (U_take h i)
  have h2 := val_nonneg (U_take h i)
  rw [List.length_take, Nat.min_eq_left hi] at h1
  have hp := pw_pos i
  have key : ∀ (A p t : Int), 0 ≤ A → A < p → 0 < p → (A + p * t) / p = t := fun A p t a1 a2 a3 => by
    rw [Int.add_mul_ediv_left _ _ (by omega), Int.ediv_eq_zero_of_lt a1 a2]
    omega
  have e5 := key _ _ (val (l.drop i)) h2 h1 hp
  rw [← e] at e5
  exact e5
theorem val_drop' (l : List Int) (i : Nat) : val (l.drop i) = l.getD i 0 + 4294967296 * val (l.drop (i + 1)) := by
  by_cases h : i < l.length
  · exact val_drop h
  · rw [List.drop_of_length_le (by omega), List.drop_of_length_le (by omega), getD_out l i (by omega)]
    rfl
theorem digit {x0 x1 R : Int} {s : Nat} (hs : s ≤ 32) : (x0 + 4294967296 * (x1 + 4294967296 * R)) / 2 ^ s % 4294967296 = (x0 + x1 * 4294967296) / 2 ^ s % 4294967296 := by
  have e : (4294967296 : Int) = 2 ^ s * 2 ^ (32 - s) := by rw [← p2_add, show s + (32 - s) = 32 by omega]; rfl
  have hp := p2_pos s
  have e2 : x0 + 4294967296 * (x1 + 4294967296 * R) = (x0 + x1 * 4294967296) + 2 ^ s * (4294967296 * (2 ^ (32 - s) * R)) := by
    have : 4294967296 * (4294967296 * R) = 4294967296 * (2 ^ s * 2 ^ (32 - s) * R) := by rw [← e]
    grind
  rw [e2, Int.add_mul_ediv_left _ _ (by omega), Int.add_mul_emod_self_left]
theorem emod_succ (X P : Int) (hP : 0 < P) : X % (4294967296 * P) = X % P + P * (X / P % 4294967296) := by
  have e1 := Int.mul_ediv_add_emod X P
  have e2 := Int.mul_ediv_add_emod (X / P) 4294967296
  have b1 := Int.emod_nonneg X (b := P) (by omega)
  have b2 := Int.emod_lt_of_pos X hP
  have b3 : 0 ≤ X / P % 4294967296 := by omega
  have b4 : X / P % 4294967296 ≤ 4294967295 := by omega
  have e3 : X = (X % P + P * (X / P % 4294967296)) + 4294967296 * P * (X / P / 4294967296) := by
    have : P * (4294967296 * (X / P / 4294967296) + X / P % 4294967296) = P * (X / P) := by rw [e2]
    grind
  have b5 := Int.mul_nonneg (show 0 ≤ P by omega) b3
  have b6 := Int.mul_le_mul_of_nonneg_left b4 (show 0 ≤ P by omega)
  conv => lhs; rw [e3]
  rw [Int.add_mul_emod_self_left, Int.emod_eq_of_lt (by omega) (by omega)]
theorem shr_eq {x : Int} {s : Nat} (hs : s ≤ 64) : shr .u64 x (s : Int) = x / 2 ^ s := by
  unfold shr
  have hmn : min (s : Int).toNat IntKind.u64.bits = s := by
    have : IntKind.u64.bits = 64 := rfl
    rw [this, Int.toNat_natCast]
    omega
  rw [hmn]
theorem getD_drop (l : List Int) (L i : Nat) : (l.drop L).getD i 0 = l.getD (L + i) 0 := by
  rw [List.getD_eq_getElem?_getD, List.getElem?_drop, List.getD_eq_getElem?_getD]
/-- A limb of a number that is moved down. -/
theorem shr_digit {d : List Int} (hd : U d) {i : Nat} (hi : i ≤ d.length) {s : Nat} (hs : s ≤ 32) : val d / 2 ^ s / pw i % 4294967296 = (d.getD i 0 + d.getD (i + 1) 0 * 4294967296) / 2 ^ s % 4294967296 := by
  rw [Int.ediv_ediv_of_nonneg (show (0 : Int) ≤ 2 ^ s by have := p2_pos s; omega), Int.mul_comm, ← Int.ediv_ediv_of_nonneg (by have := pw_pos i; omega), val_div hd hi, val_drop', val_drop', digit hs]
theorem shr_l0 (a : List Int) (ha : U a) (L s : Nat) (hs : s < 32) (hL : L ≤ a.length) (hl : a.length ≤ 1073741824) (d : Nat) :
    ∀ (i : Nat) (o : List Int), i ≤ a.length - L → a.length - L - i = d → U o → o.length = a.length - L → val (o.take i) = val (a.drop L) / 2 ^ s % pw i →
      ∃ K, ∀ k, K ≤ k → nat_Shr.l0 k a (L : Int) (s : Int) o ((a.length - L : Nat) : Int) (i : Int) = some (lim (val (a.drop L) / 2 ^ s)) := by
  have hdl : (a.drop L).length = a.length - L := List.length_drop
  induction d with
  | zero =>
    intro i o hi hd ho hol hv
    obtain rfl : i = a.length - L := by omega
    obtain ⟨K, hK⟩ := cuto_ev o ho (by omega)
    have hlt := val_lt (U_drop ha L)
    have h0 := val_nonneg (U_drop ha L)
    have hp := p2_pos s
    have hle := Int.ediv_le_self (b := 2 ^ s) h0
    have hge := Int.ediv_nonneg h0 (show (0 : Int) ≤ 2 ^ s by omega)
    rw [hdl] at hlt
    rw [Int.emod_eq_of_lt hge (by omega), take_out o _ (by omega)] at hv
    rw [hv] at hK
    refine ⟨K + 1, fun k hk => ?_⟩
    obtain ⟨k, rfl⟩ : ∃ m, k = m + 1 := ⟨k - 1, by omega⟩
    simp only [nat_Shr.l0]
    rw [if_neg (by omega), hK k (by omega), Option.bind_some]
  | succ d ih =>
    intro i o hi hd ho hol hv
    have hai := U_getD ha (i + L)
    have hbi := U_getD ha (i + L + 1)
    have hdig := shr_digit (U_drop ha L) (i := i) (by omega) (show s ≤ 32 by omega)
    rw [getD_drop, getD_drop, show L + i = i + L by omega, show L + (i + 1) = i + L + 1 by omega] at hdig
    obtain ⟨z, hz⟩ : ∃ z, z = (a.getD (i + L) 0 + a.getD (i + L + 1) 0 * 4294967296) / 2 ^ s % 4294967296 := ⟨_, rfl⟩
    have hz0 : 0 ≤ z ∧ z < 4294967296 := by omega
    obtain ⟨K, hK⟩ := ih (i + 1) (o.set i z) (by omega) (by omega) (U_set ho _ hz0.1 hz0.2) (by simpa using hol)
      (by rw [val_set_take (by omega), hv, pw_succ, emod_succ _ _ (pw_pos i), hdig, hz])
    refine ⟨K + 1, fun k hk => ?_⟩
    obtain ⟨k, rfl⟩ : ∃ m, k = m + 1 := ⟨k - 1, by omega⟩
    have hor := bits_join .u64 64 (by decide) wraps_u64 32 (a.getD (i + L + 1) 0 * 4294967296) (a.getD (i + L) 0) (by omega) (by omega) (by have : (2 : Int) ^ 64 = 18446744073709551616 := rfl; omega) hai.1 (by have : (2 : Int) ^ 32 = 4294967296 := rfl; omega) (by have : (2 : Int) ^ 64 = 18446744073709551616 := rfl; omega)
    rw [bits_or_comm, Int.add_comm] at hor
    simp only [nat_Shr.l0, w64_add (show i + L < 9223372036854775808 by omega), w64_succ (show i + L < 4611686018427387904 by omega), w64_succ (show i < 4611686018427387904 by omega), Int.toNat_natCast, rd_eq, u64w hai.1 (show a.getD (i + L) 0 < 18446744073709551616 by omega), u64w hbi.1 (show a.getD (i + L + 1) 0 < 18446744073709551616 by omega), u64w (show 0 ≤ a.getD (i + L + 1) 0 * 4294967296 by omega) (show a.getD (i + L + 1) 0 * 4294967296 < 18446744073709551616 by omega), hor, shr_eq (show s ≤ 64 by omega)]
    rw [if_pos (by omega), if_pos (by omega), if_pos (by omega)]
    by_cases hb : i + L + 1 < a.length
    · rw [if_pos (by omega), if_pos (by omega), if_pos (by omega), if_pos (by omega), if_pos (by omega), ← hz]
      exact hK k (by omega)
    · rw [getD_out a (i + L + 1) (by omega), Int.zero_mul, Int.add_zero] at hz
      rw [if_neg (by omega), if_pos (by omega), if_pos (by omega), if_pos (by omega), ← hz]
      exact hK k (by omega)
/-- A number moved down. -/
def shrv (v n : Int) : Int := if n < 1 then v else v / 2 ^ n.toNat
theorem shr_ev (a : List Int) (n : Int) (ha : U a) (hl : a.length ≤ 1073741824) : ∃ K, ∀ k, K ≤ k → nat_Shr.f k a n = some (lim (shrv (val a) n)) := by
  have na := val_nonneg ha
  have la := lim_len na a.length (val_lt ha)
  obtain ⟨K1, h1⟩ := cut_ev a ha (by omega)
  unfold shrv nat_Shr.f
  by_cases c1 : n < 1
  · refine ⟨K1, fun k hk => ?_⟩
    rw [h1 k hk, Option.bind_some, if_pos c1, if_pos c1, clone_eq _ (by omega), Option.bind_some]
  · obtain ⟨m, rfl⟩ : ∃ m : Nat, n = m := ⟨n.toNat, by omega⟩
    have hw : wrap64 (32 * ((lim (val a)).length : Int)) = 32 * ((lim (val a)).length : Int) := w64 (by omega) (by omega)
    by_cases c2 : m ≥ 32 * (lim (val a)).length
    · have hlt := val_lt (U_lim na)
      rw [val_lim na, p2_limb] at hlt
      have hm := p2_mono c2
      refine ⟨K1, fun k hk => ?_⟩
      rw [h1 k hk, Option.bind_some, if_neg c1, if_neg c1, hw, if_pos (by omega), Int.toNat_natCast, Int.ediv_eq_zero_of_lt na (by omega), lim_zero]
    · have hL : m / 32 ≤ (lim (val a)).length := by omega
      obtain ⟨K, hK⟩ := shr_l0 (lim (val a)) (U_lim na) (m / 32) (m % 32) (by omega) hL (by omega) _ 0 (List.replicate ((lim (val a)).length - m / 32) 0) (by omega) rfl (U_replicate _) (by simp)
        (by rw [List.take_zero, val_nil, pw_zero, Int.emod_one])
      refine ⟨K1 + K, fun k hk => ?_⟩
      have h2 := hK k (by omega)
      rw [← val_div (U_lim na) hL, val_lim na, p2_limb, Int.ediv_ediv_of_nonneg (show (0 : Int) ≤ 2 ^ (32 * (m / 32)) by have := p2_pos (32 * (m / 32)); omega), ← p2_add, show 32 * (m / 32) + m % 32 = m by omega] at h2
      rw [h1 k (by omega), Option.bind_some, if_neg c1, if_neg c1, hw, if_neg (by omega), Int.toNat_natCast]
      simp only [Int.tdiv_eq_ediv_of_nonneg (show (0 : Int) ≤ (m : Int) by omega), Int.tmod_eq_emod_of_nonneg (show (0 : Int) ≤ (m : Int) by omega), show (m : Int) / 32 = ((m / 32 : Nat) : Int) by omega, show (m : Int) % 32 = ((m % 32 : Nat) : Int) by omega, w64_nat (show m / 32 < 9223372036854775808 by omega), w64_sub hL (show (lim (val a)).length < 9223372036854775808 by omega), Int.toNat_natCast, Option.bind_some, List.length_replicate]
      rw [if_pos (by omega), if_pos (by omega)]
      exact h2
end Go.Proofs.YthlhogcnfaiphaaDoor.T

namespace Go.Proofs.YthlhogcnfaiphaaDoor.T
set_option linter.unusedVariables false
set_option linter.unusedSimpArgs false
open Go.RowKit Go.Proofs.YthlhogcnfaiphaaDoorW.PrintWords Go.Proofs.YthlhogcnfaiphaaDoorW.PrintMore





theorem shlv_eq {v n : Int} (h0 : 0 ≤ n) (h1 : n ≤ 16777216) : shlv v n = v * 2 ^ n.toNat := by
  unfold shlv
  by_cases hc : n < 1
  · rw [if_pos hc, show n = 0 by omega]; simp
  · rw [if_neg hc, if_neg (by omega)]
theorem bl_mul {v : Int} (h : 0 < v) (n : Nat) : bl (v * 2 ^ n) = bl v + n := by
  have hp := p2_pos n
  have e : v * 2 ^ n / 2 ^ n = v := Int.mul_ediv_cancel _ (by omega)
  have := bl_shift (x := v * 2 ^ n) n (by rw [e]; exact h)
  rw [this, e, Int.add_comm]
end Go.Proofs.YthlhogcnfaiphaaDoor.T

namespace Go.Proofs.YthlhogcnfaiphaaDoor.T
set_option linter.unusedVariables false
set_option linter.unusedSimpArgs false
open Go.RowKit Go.Proofs.YthlhogcnfaiphaaDoorW.PrintWords Go.Proofs.YthlhogcnfaiphaaDoorW.PrintMore

/-- A number: its kind, sign, 64 bits, exponent. -/
abbrev Nm := Int × Bool × Int × Int
/-- A number of a sign, 64 bits of which the highest is 1, and an exponent, kept within the bounds. -/
def bnd (neg : Bool) (m e : Int) (away : Bool) : Nm :=
  if e > 1048576 then (if away = true then (2, neg, 0, 0) else (1, neg, 18446744073709551615, 1048576))
  else if e < -1048576 then (if away = true then (1, neg, 9223372036854775808, -1048576) else (0, false, 0, 0))
  else (1, neg, m, e)
/-- Such a number, one farther if something was cut off, and away. -/
def grw (neg : Bool) (m e : Int) (cut away : Bool) : Nm :=
  if cut = true ∧ away = true then (if m + 1 = 18446744073709551616 then bnd neg 9223372036854775808 (e + 1) away else bnd neg (m + 1) e away) else bnd neg m e away
/-- v * 2^e, above nought, rounded away from nought or not. -/
def rnd (neg : Bool) (v e : Int) (away : Bool) : Nm :=
  if bl v ≤ 64 then bnd neg (v * 2 ^ (64 - bl v).toNat) (e + bl v - 64) away
  else grw neg (v / 2 ^ (bl v - 64).toNat) (e + bl v - 64) (decide (v % 2 ^ (bl v - 64).toNat ≠ 0)) away

theorem p63 : (2 : Int) ^ 63 = 9223372036854775808 := by decide
theorem p64 : (2 : Int) ^ 64 = 18446744073709551616 := by decide
theorem mul_le_p {a b : Int} (t : Nat) (h : a ≤ b) : a * 2 ^ t ≤ b * 2 ^ t := Int.mul_le_mul_of_nonneg_right h (by have := p2_pos t; omega)
theorem mul_lt_p {a b : Int} (t : Nat) (h : a < b) : a * 2 ^ t < b * 2 ^ t := Int.mul_lt_mul_of_pos_right h (p2_pos t)
theorem le_of_p {a b : Int} (t : Nat) (h : a * 2 ^ t ≤ b * 2 ^ t) : a ≤ b := Int.le_of_mul_le_mul_right h (p2_pos t)
theorem lt_of_p {a b : Int} (t : Nat) (h : a * 2 ^ t < b * 2 ^ t) : a < b := Int.lt_of_mul_lt_mul_right h (by have := p2_pos t; omega)
theorem eq_of_p {a b : Int} (t : Nat) (h : a * 2 ^ t = b * 2 ^ t) : a = b := by
  have h1 := le_of_p t (Int.le_of_eq h)
  have h2 := le_of_p t (Int.le_of_eq h.symm)
  omega
theorem pos_of_p {a : Int} (t : Nat) (h : 0 < a * 2 ^ t) : 0 < a := by
  refine lt_of_p (a := 0) t ?_
  omega
/-- How many bits a number has that lies so. -/
theorem bl_in {x q : Int} {t : Nat} (q0 : 9223372036854775808 ≤ q) (q1 : q < 18446744073709551616) (h1 : q * 2 ^ t ≤ x) (h2 : x < (q + 1) * 2 ^ t) : bl x = 64 + t := by
  have a := mul_le_p t q0
  have b := mul_le_p (a := q + 1) (b := 18446744073709551616) t (by omega)
  rw [← p63, ← p2_add] at a
  rw [← p64, ← p2_add] at b
  have := bl_eq (n := x) (m := 63 + t) (by omega) (by rw [show 63 + t + 1 = 64 + t by omega]; omega)
  omega
theorem blp {v : Int} (h : 0 < v) (n : Nat) : bl (v * 2 ^ n) = bl v + n := bl_mul h n
/-- q * 2^E is what is left of v * 2^e, if what is behind the 64 bits is cut off; c: was there something? -/
def Fit (v e q E : Int) (c : Bool) : Prop :=
  9223372036854775808 ≤ q ∧ q < 18446744073709551616 ∧ ∃ s t : Nat, e - s = E - t ∧ q * 2 ^ t ≤ v * 2 ^ s ∧ v * 2 ^ s < (q + 1) * 2 ^ t ∧ (c = true ↔ q * 2 ^ t ≠ v * 2 ^ s)
theorem rnd_fit {v e q E : Int} {c : Bool} (h : Fit v e q E c) (neg away : Bool) : rnd neg v e away = grw neg q E c away := by
  obtain ⟨q0, q1, s, t, he, h1, h2, hc⟩ := h
  have hv : 0 < v := by
    have := Int.mul_pos (show 0 < q by omega) (p2_pos t)
    exact pos_of_p s (by omega)
  have hb := bl_in q0 q1 h1 h2
  rw [blp hv] at hb
  unfold rnd
  by_cases hts : t ≤ s
  · obtain ⟨d, rfl⟩ := Nat.le.dest hts
    rw [if_pos (by omega)]
    rw [show (64 - bl v).toNat = d by omega, show e + bl v - 64 = E by omega]
    rw [Nat.add_comm t d, p2_add, ← Int.mul_assoc] at h1 h2 hc
    have e1 := le_of_p t h1
    have e2 := lt_of_p t h2
    have e3 : v * 2 ^ d = q := by omega
    rw [e3] at hc ⊢
    unfold grw
    rw [if_neg (fun hh => hc.1 hh.1 rfl)]
  · obtain ⟨d, rfl⟩ := Nat.le.dest (show s ≤ t by omega)
    rw [if_neg (by omega)]
    rw [show (bl v - 64).toNat = d by omega, show e + bl v - 64 = E by omega]
    rw [Nat.add_comm s d, p2_add, ← Int.mul_assoc] at h1 hc
    rw [Nat.add_comm s d, p2_add, ← Int.mul_assoc] at h2
    have e1 := le_of_p s h1
    have e2 := lt_of_p s h2
    have e4 : (v - q * 2 ^ d) = v - 2 ^ d * q := by rw [Int.mul_comm q]
    have hp := p2_pos d
    rw [Int.add_mul, Int.one_mul] at e2
    have e5 : v = (v - q * 2 ^ d) + 2 ^ d * q := by omega
    have e6 : v / 2 ^ d = q := by
      rw [e5, Int.add_mul_ediv_left _ _ (by omega), Int.ediv_eq_zero_of_lt (by omega) (by omega)]
      omega
    have e7 : v % 2 ^ d = v - q * 2 ^ d := by
      conv => lhs; rw [e5]
      rw [Int.add_mul_emod_self_left, Int.emod_eq_of_lt (by omega) (by omega)]
    rw [e6, e7]
    congr 1
    rw [Bool.eq_iff_iff, decide_eq_true_iff, hc]
    constructor
    · intro h3 h4; exact h3 (by have := eq_of_p s h4; omega)
    · intro h3 h4; exact h3 (by rw [show v = q * 2 ^ d by omega])
theorem fit_ex {v : Int} (e : Int) (hv : 0 < v) : ∃ q E c, Fit v e q E c := by
  have hb := bl_pos hv
  have hg := bl_ge hv
  have hl := bl_lt (n := v) (by omega)
  by_cases h : bl v ≤ 64
  · obtain ⟨d, hd⟩ : ∃ d : Nat, bl v = 64 - d := ⟨(64 - bl v).toNat, by omega⟩
    refine ⟨v * 2 ^ d, e - d, false, ?_, ?_, d, 0, by omega, by simp, ?_, by simp⟩
    · have := mul_le_p d hg
      rw [← p2_add, show (bl v - 1).toNat + d = 63 by omega, p63] at this
      exact this
    · have := mul_lt_p d hl
      rw [← p2_add, show (bl v).toNat + d = 64 by omega, p64] at this
      exact this
    · rw [Int.pow_zero, Int.mul_one]; omega
  · obtain ⟨d, hd⟩ : ∃ d : Nat, bl v = 64 + d := ⟨(bl v - 64).toNat, by omega⟩
    have hp := p2_pos d
    have e1 := Int.mul_ediv_add_emod v (2 ^ d)
    have e2 := Int.emod_nonneg v (b := 2 ^ d) (by omega)
    have e3 := Int.emod_lt_of_pos v hp
    rw [Int.mul_comm] at e1
    rw [show (bl v - 1).toNat = 63 + d by omega, p2_add, p63] at hg
    rw [show (bl v).toNat = 64 + d by omega, p2_add, p64] at hl
    refine ⟨v / 2 ^ d, e + d, decide (v % 2 ^ d ≠ 0), ?_, ?_, 0, d, by omega, by rw [Int.pow_zero, Int.mul_one]; omega, ?_, ?_⟩
    · exact Int.le_ediv_of_mul_le hp hg
    · exact Int.ediv_lt_of_lt_mul hp hl
    · rw [Int.pow_zero, Int.mul_one, Int.add_mul, Int.one_mul]; omega
    · rw [Int.pow_zero, Int.mul_one, decide_eq_true_iff]
      constructor
      · intro h3 h4; omega
      · intro h3 h4; exact h3 (by omega)
theorem Fit.pos {v e q E : Int} {c : Bool} (h : Fit v e q E c) : 0 < v := by
  obtain ⟨q0, q1, s, t, he, h1, h2, hc⟩ := h
  have := Int.mul_pos (show 0 < q by omega) (p2_pos t)
  exact pos_of_p s (by omega)
/-- A common factor plays no part. -/
theorem Fit.scale {v e q E : Int} {c : Bool} (j : Nat) (h : Fit v (e + j) q E c) : Fit (v * 2 ^ j) e q E c := by
  obtain ⟨q0, q1, s, t, he, h1, h2, hc⟩ := h
  have r : ∀ x : Int, x * 2 ^ (t + j) = x * 2 ^ t * 2 ^ j := fun x => by rw [p2_add, Int.mul_assoc]
  have r2 : v * 2 ^ j * 2 ^ s = v * 2 ^ s * 2 ^ j := by rw [Int.mul_right_comm]
  refine ⟨q0, q1, s, t + j, by omega, ?_, ?_, ?_⟩
  · rw [r, r2]; exact mul_le_p j h1
  · rw [r, r2]; exact mul_lt_p j h2
  · rw [r, r2, hc]
    constructor
    · intro h3 h4; exact h3 (eq_of_p j h4)
    · intro h3 h4; exact h3 (by rw [h4])
theorem rnd_scale {v : Int} (hv : 0 < v) (e : Int) (j : Nat) (neg away : Bool) : rnd neg (v * 2 ^ j) e away = rnd neg v (e + j) away := by
  obtain ⟨q, E, c, h⟩ := fit_ex (e + j) hv
  rw [rnd_fit h, rnd_fit h.scale]
/-! what is left of a number that is moved down -/
theorem div_fit {v e S : Int} {d : Nat} {c : Bool} (s0 : 9223372036854775808 ≤ S) (s1 : S < 18446744073709551616) (hs : v / 2 ^ d = S) (hc : c = true ↔ v % 2 ^ d ≠ 0) : Fit v e S (e + d) c := by
  have hp := p2_pos d
  have e1 := Int.mul_ediv_add_emod v (2 ^ d)
  have e2 := Int.emod_nonneg v (b := 2 ^ d) (by omega)
  have e3 := Int.emod_lt_of_pos v hp
  rw [hs, Int.mul_comm] at e1
  refine ⟨s0, s1, 0, d, by omega, by rw [Int.pow_zero, Int.mul_one]; omega, by rw [Int.pow_zero, Int.mul_one, Int.add_mul, Int.one_mul]; omega, ?_⟩
  rw [Int.pow_zero, Int.mul_one, hc]
  constructor
  · intro h3 h4; omega
  · intro h3 h4; exact h3 (by omega)
theorem rnd_self {m : Int} (m0 : 9223372036854775808 ≤ m) (m1 : m < 18446744073709551616) (neg : Bool) (e : Int) (away : Bool) : rnd neg m e away = bnd neg m e away := by
  rw [rnd_fit (q := m) (E := e) (c := false) ⟨m0, m1, 0, 0, by omega, Int.le_refl _, by rw [Int.pow_zero]; omega, by simp⟩]
  unfold grw
  rw [if_neg (by simp)]
theorem bnd_in {e : Int} (e0 : -1048576 ≤ e) (e1 : e ≤ 1048576) (neg : Bool) (m : Int) (away : Bool) : bnd neg m e away = (1, neg, m, e) := by
  unfold bnd
  rw [if_neg (by omega), if_neg (by omega)]
/-! what is a number that may be -/
def mayP (n : Nm) : Prop := (n.1 = 0 ∧ n.2.1 = false ∧ n.2.2.1 = 0 ∧ n.2.2.2 = 0) ∨ (n.1 = 1 ∧ 9223372036854775808 ≤ n.2.2.1 ∧ n.2.2.1 < 18446744073709551616 ∧ -1048576 ≤ n.2.2.2 ∧ n.2.2.2 ≤ 1048576) ∨ (n.1 = 2 ∧ n.2.2.1 = 0 ∧ n.2.2.2 = 0)
theorem may_fin {n : Nm} (h : mayP n) (h1 : n.1 = 1) : 9223372036854775808 ≤ n.2.2.1 ∧ n.2.2.1 < 18446744073709551616 ∧ -1048576 ≤ n.2.2.2 ∧ n.2.2.2 ≤ 1048576 := by
  rcases h with ⟨h2, _⟩ | ⟨_, h2⟩ | ⟨h2, _⟩
  · omega
  · exact h2
  · omega
theorem bnd_may {neg : Bool} {m e : Int} {away : Bool} (h0 : 9223372036854775808 ≤ m) (h1 : m < 18446744073709551616) : mayP (bnd neg m e away) := by
  unfold bnd
  split
  · split
    · exact .inr (.inr ⟨rfl, rfl, rfl⟩)
    · exact .inr (.inl ⟨rfl, by simp, by simp, by simp, by simp⟩)
  · split
    · split
      · exact .inr (.inl ⟨rfl, by simp, by simp, by simp, by simp⟩)
      · exact .inl ⟨rfl, rfl, rfl, rfl⟩
    · exact .inr (.inl ⟨rfl, h0, h1, by simp only; omega, by simp only; omega⟩)
theorem grw_may {neg : Bool} {m e : Int} {cut away : Bool} (h0 : 9223372036854775808 ≤ m) (h1 : m < 18446744073709551616) : mayP (grw neg m e cut away) := by
  unfold grw
  split
  · split
    · exact bnd_may (by omega) (by omega)
    · exact bnd_may (by omega) (by omega)
  · exact bnd_may h0 h1
theorem rnd_may {neg : Bool} {v e : Int} {away : Bool} (hv : 0 < v) : mayP (rnd neg v e away) := by
  obtain ⟨q, E, c, h⟩ := fit_ex e hv
  rw [rnd_fit h]
  exact grw_may h.1 h.2.1
/-! the opposite -/

/-- With the sign. -/
def sg (neg : Bool) (m : Int) : Int := if neg = true then -m else m
/-- An exact number, a whole one times a power of two, rounded. -/
def rnz (s e : Int) (up : Bool) : Nm := if s = 0 then (0, false, 0, 0) else rnd (decide (s < 0)) s.natAbs e (up != decide (s < 0))
/-- The exact sum of two finite ones, of which f is not above the exponents. -/
def exs (a b : Nm) (f : Int) : Int := sg a.2.1 a.2.2.1 * 2 ^ (a.2.2.2 - f).toNat + sg b.2.1 b.2.2.1 * 2 ^ (b.2.2.2 - f).toNat
/-- The sum of two that may be. -/
def addv (a b : Nm) (up : Bool) : Nm :=
  if a.1 = 2 ∧ b.1 = 2 ∧ a.2.1 ≠ b.2.1 then (2, !up, 0, 0)
  else if a.1 = 2 ∨ b.1 = 0 then a
  else if b.1 = 2 ∨ a.1 = 0 then b
  else rnz (exs a b (min a.2.2.2 b.2.2.2)) (min a.2.2.2 b.2.2.2) up
/-- The product of two that may be. -/
def mulv (a b : Nm) (up : Bool) : Nm :=
  if a.1 = 0 ∨ b.1 = 0 then (0, false, 0, 0)
  else if a.1 = 2 ∨ b.1 = 2 then (2, a.2.1 != b.2.1, 0, 0)
  else rnd (a.2.1 != b.2.1) (a.2.2.1 * b.2.2.1) (a.2.2.2 + b.2.2.2) (up != (a.2.1 != b.2.1))
theorem rnz_may (s e : Int) (up : Bool) : mayP (rnz s e up) := by
  unfold rnz
  split
  · exact .inl ⟨rfl, rfl, rfl, rfl⟩
  · exact rnd_may (by omega)
theorem rnz_scale (s e : Int) (j : Nat) (up : Bool) : rnz (s * 2 ^ j) e up = rnz s (e + j) up := by
  have hp := p2_pos j
  unfold rnz
  by_cases h : s = 0
  · rw [if_pos h, if_pos (by rw [h]; omega)]
  · have h1 : s * 2 ^ j ≠ 0 := Int.mul_ne_zero h (by omega)
    have h2 : decide (s * 2 ^ j < 0) = decide (s < 0) := by
      by_cases h2 : s < 0
      · rw [decide_eq_true h2, decide_eq_true (Int.mul_neg_of_neg_of_pos h2 hp)]
      · rw [decide_eq_false h2, decide_eq_false]
        have := Int.mul_pos (show 0 < s by omega) hp
        omega
    have h3 : ((s * 2 ^ j).natAbs : Int) = (s.natAbs : Int) * 2 ^ j := by
      rw [Int.natAbs_mul, Int.natCast_mul]
      rw [show ((((2 : Int) ^ j).natAbs : Nat) : Int) = 2 ^ j from Int.natAbs_of_nonneg (by omega)]
    rw [if_neg h1, if_neg h, h2, h3, rnd_scale (by omega)]
theorem exs_comm (a b : Nm) (f : Int) : exs a b f = exs b a f := by unfold exs; rw [Int.add_comm]
theorem sg_neg (n : Bool) (m : Int) : sg (!n) m = -sg n m := by cases n <;> simp [sg]
end Go.Proofs.YthlhogcnfaiphaaDoor.T

namespace Go.Proofs.YthlhogcnfaiphaaDoor.T
set_option linter.unusedVariables false
set_option linter.unusedSimpArgs false
open Go.RowKit Go.Proofs.YthlhogcnfaiphaaDoorW.PrintWords Go.Proofs.YthlhogcnfaiphaaDoorW.PrintMore Go.Proofs.YthlhogcnfaiphaaDoor.PA

instance (n : Nm) : Decidable (mayP n) := by unfold mayP; infer_instance
/-- One that may be. -/
def fairv (n : Nm) : Nm := if mayP n then n else (0, false, 0, 0)
theorem fairv_may (n : Nm) : mayP (fairv n) := by
  unfold fairv
  split
  · assumption
  · exact .inl ⟨rfl, rfl, rfl, rfl⟩
theorem fairv_of {n : Nm} (h : mayP n) : fairv n = n := if_pos h
theorem may_eq (a : Int) (b : Bool) (c d : Int) (h1 : c < 18446744073709551616) : num_May.f a b c d = some (decide (mayP (a, b, c, d))) := by
  unfold num_May.f mayP
  by_cases h0 : a = 0
  · subst h0; cases b <;> simp <;> rfl
  · rw [if_neg h0]
    by_cases h2 : a = 1
    · subst h2; simp [h1]
      by_cases q1 : 9223372036854775808 ≤ c
      · rw [if_pos q1]
        by_cases q2 : -1048576 ≤ d
        · rw [if_pos q2]; simp [q1, q2]
        · rw [if_neg q2]; simp [q2]
      · rw [if_neg q1]; simp [q1]
    · rw [if_neg h2]
      by_cases h3 : a = 2
      · subst h3; simp
        by_cases q1 : c = 0
        · rw [if_pos q1]; simp [q1]; rfl
        · rw [if_neg q1]; simp [q1]
      · rw [if_neg h3]; simp [h0, h2, h3]
theorem afair_eq (a : Int) (b : Bool) (c d : Int) (h1 : c < 18446744073709551616) : arith_fair.f a b c d = some (fairv (a, b, c, d)) := by
  unfold arith_fair.f fairv
  rw [may_eq a b c d h1, Option.bind_some]
  by_cases h : mayP (a, b, c, d)
  · rw [if_pos h, decide_eq_true h, if_pos rfl]
  · rw [if_neg h, decide_eq_false h]; rfl
theorem nfair_eq (a : Int) (b : Bool) (c d : Int) (h1 : c < 18446744073709551616) : num_fair.f a b c d = some (fairv (a, b, c, d)) := by
  unfold num_fair.f fairv
  rw [may_eq a b c d h1, Option.bind_some]
  by_cases h : mayP (a, b, c, d)
  · rw [if_pos h, decide_eq_true h, if_pos rfl]
  · rw [if_neg h, decide_eq_false h]; rfl
theorem bnd_eq (k : Nat) (hk : 2 ≤ k) (neg : Bool) (m e : Int) (away : Bool) : num_Bound.f k neg m e away = some (bnd neg m e away) := by
  obtain ⟨k, rfl⟩ : ∃ i, k = i + 2 := ⟨k - 2, by omega⟩
  unfold num_Bound.f bnd
  by_cases h : e > 1048576
  · rw [if_pos h, if_pos h]
    cases away
    · simp only [num_Bound.j0, Bool.false_eq_true, if_false, if_pos h, num_huge.f, Option.bind_some]
    · simp only [num_Bound.j0, if_true, num_Infinite.f, Option.bind_some]
  · rw [if_neg h, if_neg h]
    simp only [num_Bound.j0, num_Bound.j1, Bool.false_eq_true, if_false, if_neg h]
    by_cases h2 : e < -1048576
    · simp only [if_pos h2]
      cases away
      · simp only [Bool.false_eq_true, if_false, if_pos h2]
      · simp only [if_true, num_tiny.f, Option.bind_some]
    · simp only [if_neg h2]
theorem grw_eq (k : Nat) (hk : 3 ≤ k) (neg : Bool) (m e : Int) (cut away : Bool) (m0 : 9223372036854775808 ≤ m) (m1 : m < 18446744073709551616) (e0 : -9223372036854775808 ≤ e) (e1 : e < 9223372036854775807) : num_Grow.f k neg m e cut away = some (grw neg m e cut away) := by
  obtain ⟨k, rfl⟩ : ∃ i, k = i + 1 := ⟨k - 1, by omega⟩
  unfold num_Grow.f grw
  have q : num_Grow.j0 (k + 1) neg m e away false = some (bnd neg m e away) := by
    simp only [num_Grow.j0, Bool.false_eq_true, if_false, bnd_eq k (by omega), Option.bind_some]
  cases cut
  · rw [if_neg (by decide), if_neg (by simp)]; exact q
  · rw [if_pos rfl]
    cases away
    · rw [if_neg (by simp)]; exact q
    · rw [if_pos ⟨rfl, rfl⟩]
      simp only [num_Grow.j0, if_true, bnd_eq k (by omega), Option.bind_some]
      by_cases h : m + 1 = 18446744073709551616
      · have h2 : IntKind.u64.wrap (m + 1) = 0 := by rw [h]; rfl
        rw [if_pos h, if_pos h2, w64 (by omega) (by omega)]
      · have h2 : IntKind.u64.wrap (m + 1) = m + 1 := u64w (by omega) (by omega)
        rw [if_neg h, h2, if_neg (by omega)]
/-! 64 bits moved down, as 128 bits and whether more was cut off -/
theorem wrap_u64 (x : Int) : IntKind.u64.wrap x = x % 18446744073709551616 := by rw [IntKind.wrap_u64]
theorem shl64 {x : Int} {s : Nat} (hs : s ≤ 64) : shl .u64 x (s : Int) = (x * 2 ^ s) % 18446744073709551616 := by
  unfold shl
  have hmn : min (s : Int).toNat IntKind.u64.bits = s := by
    have : IntKind.u64.bits = 64 := rfl
    rw [this, Int.toNat_natCast]
    omega
  rw [hmn, wrap_u64]
theorem low_a {m : Int} {n j : Nat} (h : n + j = 64) : m * 18446744073709551616 / 2 ^ n = m * 2 ^ j ∧ m * 18446744073709551616 % 2 ^ n = 0 ∧ m / 2 ^ n = m * 2 ^ j / 18446744073709551616 := by
  have hW : (18446744073709551616 : Int) = 2 ^ j * 2 ^ n := by rw [← p2_add, Nat.add_comm, h, p64]
  have hn := p2_pos n
  have hj := p2_pos j
  rw [hW, ← Int.mul_assoc, Int.mul_ediv_cancel _ (by omega), Int.mul_emod_left]
  refine ⟨rfl, rfl, ?_⟩
  rw [Int.mul_comm (2 ^ j) (2 ^ n), Int.mul_ediv_mul_of_pos_left _ _ hj]
theorem em_mul (m a : Int) {b : Int} (hb : 0 < b) : (m * b) % (a * b) = (m % a) * b := by rw [Int.mul_comm m, Int.mul_comm a, Int.mul_emod_mul_of_pos _ _ hb, Int.mul_comm]
theorem low_b {m : Int} {n i : Nat} (h : n = i + 64) : m * 18446744073709551616 / 2 ^ n = m / 2 ^ i ∧ m * 18446744073709551616 % 2 ^ n = (m % 2 ^ i) * 18446744073709551616 := by
  subst h
  rw [p2_add, p64, Int.mul_ediv_mul_of_pos_left _ _ (by decide), em_mul _ _ (by decide)]
  exact ⟨rfl, rfl⟩
theorem low_c {m : Int} {i j : Nat} (h : i + j = 64) : (m * 2 ^ j) % 18446744073709551616 = (m % 2 ^ i) * 2 ^ j := by
  have hW : (18446744073709551616 : Int) = 2 ^ i * 2 ^ j := by rw [← p2_add, h, p64]
  rw [hW, em_mul _ _ (p2_pos j)]
theorem lower_eq {m : Int} {n : Nat} (m0 : 9223372036854775808 ≤ m) (m1 : m < 18446744073709551616) (hn : n ≤ 4194304) :
    ∃ hi lo cut, arith_lower.f m (n : Int) = some (hi, lo, cut) ∧ 0 ≤ hi ∧ hi < 18446744073709551616 ∧ 0 ≤ lo ∧ lo < 18446744073709551616 ∧ hi * 18446744073709551616 + lo = m * 18446744073709551616 / 2 ^ n ∧ (cut = true ↔ m * 18446744073709551616 % 2 ^ n ≠ 0) := by
  have hp := p2_pos n
  have d0 : ∀ i : Nat, 0 ≤ m / 2 ^ i ∧ m / 2 ^ i ≤ m := fun i => by
    have := p2_pos i
    exact ⟨Int.ediv_nonneg (by omega) (by omega), Int.ediv_le_self _ (by omega)⟩
  unfold arith_lower.f
  by_cases h : n < 64
  · obtain ⟨j, hj⟩ : ∃ j, n + j = 64 := ⟨64 - n, by omega⟩
    obtain ⟨a1, a2, a3⟩ := low_a (m := m) hj
    have w : wrap64 (64 - (n : Int)) = (j : Int) := by rw [w64 (by omega) (by omega)]; omega
    rw [if_pos (by omega), if_pos (by omega), w, if_pos (by omega), shr_eq (by omega), shl64 (by omega), a1, a2, a3]
    refine ⟨_, _, _, rfl, ?_, ?_, Int.emod_nonneg _ (by decide), Int.emod_lt_of_pos _ (by decide), ?_, ?_⟩
    · rw [← a3]; exact (d0 n).1
    · rw [← a3]; have := (d0 n).2; omega
    · have := Int.mul_ediv_add_emod (m * 2 ^ j) 18446744073709551616
      omega
    · simp
  · rw [if_neg (by omega)]
    by_cases h2 : n < 128
    · obtain ⟨i, hi⟩ : ∃ i, n = i + 64 := ⟨n - 64, by omega⟩
      obtain ⟨j, hj⟩ : ∃ j, i + j = 64 := ⟨64 - i, by omega⟩
      obtain ⟨b1, b2⟩ := low_b (m := m) hi
      have w : wrap64 ((n : Int) - 64) = (i : Int) := by rw [w64 (by omega) (by omega)]; omega
      have w2 : wrap64 (64 - (i : Int)) = (j : Int) := by rw [w64 (by omega) (by omega)]; omega
      rw [if_pos (by omega), w, if_pos (by omega), w2, if_pos (by omega), shr_eq (by omega), shl64 (by omega), b1, b2, low_c hj]
      refine ⟨_, _, _, rfl, by decide, by decide, (d0 i).1, by have := (d0 i).2; omega, by omega, ?_⟩
      have hpj := p2_pos j
      have hm := Int.emod_nonneg m (b := 2 ^ i) (by have := p2_pos i; omega)
      simp only [bne_iff_ne, ne_eq]
      constructor
      · intro q1 q2; exact q1 (by rw [show m % 2 ^ i = 0 by omega]; omega)
      · intro q1 q2
        have := Int.mul_eq_zero.1 q2
        rcases this with h3 | h3
        · exact q1 (by rw [h3]; rfl)
        · omega
    · rw [if_neg (by omega)]
      obtain ⟨i, rfl⟩ : ∃ i, n = 128 + i := ⟨n - 128, by omega⟩
      have hb := p2_mono (i := 128) (j := 128 + i) (by omega)
      have e128 : (2 : Int) ^ 128 = 340282366920938463463374607431768211456 := by decide
      have l1 : m * 18446744073709551616 < 2 ^ (128 + i) := by omega
      refine ⟨0, 0, true, rfl, by decide, by decide, by decide, by decide, ?_, ?_⟩
      · rw [Int.ediv_eq_zero_of_lt (by omega) l1]; rfl
      · rw [Int.emod_eq_of_lt (by omega) l1]
        simp
        omega

/-! how many bits 64 bits have -/
theorem len64_j0 {x n : Int} (h0 : 0 ≤ x) (h1 : x < 4294967296) (n0 : 0 ≤ n) (n1 : n ≤ 32) (k : Nat) : bits_Len64.j0 (k + 1) x n = some (n + bl x) := by
  have b8 : ∀ y : Int, 0 ≤ y → y < 256 → bl y ≤ 8 := fun y _ hy => bl_le (m := 8) hy
  unfold bits_Len64.j0
  change (if x ≥ 65536 then (if (x / 65536) ≥ 256 then (if 0 ≤ (((x / 65536) / 256) % 256) then (if (((x / 65536) / 256) % 256) < 256 then (some (wrap64 ((wrap64 ((wrap64 (n + 16)) + 8)) + (wrap64 (bt tab8 (((x / 65536) / 256) % 256)))))) else (none)) else (none)) else (if 0 ≤ ((x / 65536) % 256) then (if ((x / 65536) % 256) < 256 then (some (wrap64 ((wrap64 (n + 16)) + (wrap64 (bt tab8 ((x / 65536) % 256)))))) else (none)) else (none))) else (if x ≥ 256 then (if 0 ≤ ((x / 256) % 256) then (if ((x / 256) % 256) < 256 then (some (wrap64 ((wrap64 (n + 8)) + (wrap64 (bt tab8 ((x / 256) % 256)))))) else (none)) else (none)) else (if 0 ≤ (x % 256) then (if (x % 256) < 256 then (some (wrap64 (n + (wrap64 (bt tab8 (x % 256)))))) else (none)) else (none)))) = some (n + bl x)
  by_cases c1 : x ≥ 65536
  · rw [if_pos c1]
    by_cases c2 : x / 65536 ≥ 256
    · rw [if_pos c2, if_pos (by omega), if_pos (by omega)]
      have e : x / 65536 / 256 % 256 = x / 2 ^ 24 := by omega
      have e2 := bl_shift (x := x) 24 (by omega)
      have e3 := b8 (x / 2 ^ 24) (by omega) (by omega)
      have e4 := bl_nonneg (x / 2 ^ 24)
      rw [e, tab8_eq (by omega) (by omega), w64 (x := bl _) (by omega) (by omega), w64 (x := n + 16) (by omega) (by omega), w64 (x := n + 16 + 8) (by omega) (by omega), w64 (by omega) (by omega), e2]
      congr 1
      omega
    · rw [if_neg c2, if_pos (by omega), if_pos (by omega)]
      have e : x / 65536 % 256 = x / 2 ^ 16 := by omega
      have e2 := bl_shift (x := x) 16 (by omega)
      have e3 := b8 (x / 2 ^ 16) (by omega) (by omega)
      have e4 := bl_nonneg (x / 2 ^ 16)
      rw [e, tab8_eq (by omega) (by omega), w64 (x := bl _) (by omega) (by omega), w64 (x := n + 16) (by omega) (by omega), w64 (by omega) (by omega), e2]
      congr 1
      omega
  · rw [if_neg c1]
    by_cases c2 : x ≥ 256
    · rw [if_pos c2, if_pos (by omega), if_pos (by omega)]
      have e : x / 256 % 256 = x / 2 ^ 8 := by omega
      have e2 := bl_shift (x := x) 8 (by omega)
      have e3 := b8 (x / 2 ^ 8) (by omega) (by omega)
      have e4 := bl_nonneg (x / 2 ^ 8)
      rw [e, tab8_eq (by omega) (by omega), w64 (x := bl _) (by omega) (by omega), w64 (x := n + 8) (by omega) (by omega), w64 (by omega) (by omega), e2]
      congr 1
      omega
    · rw [if_neg c2, if_pos (by omega), if_pos (by omega)]
      have e : x % 256 = x := by omega
      have e3 := b8 x (by omega) (by omega)
      have e4 := bl_nonneg x
      rw [e, tab8_eq (by omega) (by omega), w64 (x := bl _) (by omega) (by omega), w64 (by omega) (by omega)]
theorem len64 {x : Int} (h0 : 0 ≤ x) (h1 : x < 18446744073709551616) (k : Nat) (hk : 1 ≤ k) : bits_Len64.f k x = some (bl x) := by
  obtain ⟨k, rfl⟩ : ∃ i, k = i + 1 := ⟨k - 1, by omega⟩
  unfold bits_Len64.f
  by_cases h : x ≥ 4294967296
  · have e2 := bl_shift (x := x) 32 (by omega)
    rw [if_pos h, len64_j0 (by omega) (by omega) (by decide) (by decide), e2]
    rfl
  · rw [if_neg h, len64_j0 h0 (by omega) (by decide) (by decide), Int.zero_add]
theorem lz64 {x : Int} (h0 : 0 ≤ x) (h1 : x < 18446744073709551616) (k : Nat) (hk : 1 ≤ k) : bits_LeadingZeros64.f k x = some (64 - bl x) := by
  unfold bits_LeadingZeros64.f
  have e3 := bl_le (n := x) (m := 64) (by rw [p64]; exact h1)
  have e4 := bl_nonneg x
  rw [len64 h0 h1 k hk, Option.bind_some, w64 (by omega) (by omega)]
/-! the sum of two of one sign -/
theorem low_hi {hi lo m : Int} {n : Nat} (m0 : 0 ≤ m) (l0 : 0 ≤ lo) (l1 : lo < 18446744073709551616) (h : hi * 18446744073709551616 + lo = m * 18446744073709551616 / 2 ^ n) :
    m / 2 ^ n = hi ∧ (m % 2 ^ n ≠ 0 ↔ lo ≠ 0 ∨ m * 18446744073709551616 % 2 ^ n ≠ 0) := by
  have hp := p2_pos n
  have a1 : m / 2 ^ n = hi := by
    have : m * 18446744073709551616 / 2 ^ n / 18446744073709551616 = m / 2 ^ n := by
      rw [Int.ediv_ediv_of_nonneg (by omega), Int.mul_ediv_mul_of_pos_left _ _ (by decide)]
    rw [← this, ← h]
    omega
  have a2 := Int.mul_ediv_add_emod m (2 ^ n)
  have a3 := Int.mul_ediv_add_emod (m * 18446744073709551616) (2 ^ n)
  rw [← h] at a3
  rw [a1] at a2
  have r0 := Int.emod_nonneg (m * 18446744073709551616) (b := 2 ^ n) (by omega)
  have t0 := Int.emod_nonneg m (b := 2 ^ n) (by omega)
  rw [Int.mul_add, ← Int.mul_assoc] at a3
  have b0 := Int.mul_nonneg (show (0 : Int) ≤ 2 ^ n by omega) l0
  have key : (m % 2 ^ n) * 18446744073709551616 = 2 ^ n * lo + m * 18446744073709551616 % 2 ^ n := by omega
  refine ⟨a1, ?_⟩
  constructor
  · intro q1
    by_cases q2 : lo = 0
    · refine .inr fun q3 => q1 ?_
      rw [q2, q3] at key
      omega
    · exact .inl q2
  · rintro (q | q) q1
    · rw [q1] at key
      have := Int.mul_pos hp (show 0 < lo by omega)
      omega
    · rw [q1] at key
      omega
theorem sum_div {am bm : Int} {d : Nat} : (am * 2 ^ d + bm) / 2 ^ d = am + bm / 2 ^ d ∧ (am * 2 ^ d + bm) % 2 ^ d = bm % 2 ^ d := by
  have hp := p2_pos d
  rw [Int.mul_comm am, Int.add_comm]
  rw [Int.add_mul_ediv_left _ _ (by omega), Int.add_mul_emod_self_left, Int.add_comm]
  exact ⟨rfl, rfl⟩
theorem div_succ (v : Int) (d : Nat) : v / 2 ^ (d + 1) = v / 2 ^ d / 2 ∧ (v % 2 ^ (d + 1) ≠ 0 ↔ v / 2 ^ d % 2 ≠ 0 ∨ v % 2 ^ d ≠ 0) := by
  have hp := p2_pos d
  have e1 : v / 2 ^ (d + 1) = v / 2 ^ d / 2 := by
    rw [Int.ediv_ediv_of_nonneg (by omega), Int.pow_succ]
  refine ⟨e1, ?_⟩
  have a1 := Int.mul_ediv_add_emod v (2 ^ (d + 1))
  have a2 := Int.mul_ediv_add_emod v (2 ^ d)
  have a3 := Int.mul_ediv_add_emod (v / 2 ^ d) 2
  have r0 := Int.emod_nonneg v (b := 2 ^ d) (by omega)
  have r1 := Int.emod_nonneg (v / 2 ^ d) (b := 2) (by omega)
  rw [e1, p2_succ] at a1
  rw [p2_succ]
  generalize v / 2 ^ d / 2 = Q at *
  generalize v / 2 ^ d % 2 = R at *
  generalize v / 2 ^ d = q at *
  subst a3
  have b := Int.mul_nonneg (show (0 : Int) ≤ 2 ^ d by omega) r1
  have key : v % (2 * 2 ^ d) = 2 ^ d * R + v % 2 ^ d := by
    rw [Int.mul_add, ← Int.mul_assoc, Int.mul_comm (2 ^ d) 2] at a2
    omega
  rw [key]
  constructor
  · intro q1
    by_cases q2 : R = 0
    · refine .inr fun q3 => q1 (by rw [q2, q3]; omega)
    · exact .inl q2
  · rintro (q | q) q1
    · have := Int.mul_pos hp (show 0 < R by omega)
      omega
    · omega
theorem and_one {x : Int} (h0 : 0 ≤ x) (h1 : x < 18446744073709551616) : Go.bits .and .u64 x 1 = x % 2 := by
  have := bits_mask .u64 64 (by decide) wraps_u64 1 (by decide) x h0 (by rw [p64]; exact h1)
  simpa using this
theorem and_low {x : Int} (h0 : 0 ≤ x) (h1 : x < 18446744073709551616) : Go.bits .and .u64 x 4294967295 = x % 4294967296 := by
  have := bits_mask .u64 64 (by decide) wraps_u64 32 (by decide) x h0 (by rw [p64]; exact h1)
  simpa using this
theorem or_top {x : Int} (h0 : 0 ≤ x) (h1 : x < 9223372036854775808) : Go.bits .or .u64 x 9223372036854775808 = x + 9223372036854775808 := by
  rw [bits_or_comm, bits_join .u64 64 (by decide) wraps_u64 63 9223372036854775808 x (by decide) (by decide) (by decide) h0 (by rw [p63]; exact h1) (by rw [p64]; omega), Int.add_comm]
theorem tup {α β γ δ : Type} (p : α × β × γ × δ) : (p.1, p.2.1, p.2.2.1, p.2.2.2) = p := rfl
theorem plus_eq (k : Nat) (hk : 3 ≤ k) {am ae bm be : Int} (q1 q2 : Int) (an bn up : Bool) {d : Nat} (a0 : 9223372036854775808 ≤ am) (a1 : am < 18446744073709551616) (b0 : 9223372036854775808 ≤ bm) (b1 : bm < 18446744073709551616) (e0 : -1048576 ≤ be) (e1 : ae ≤ 1048576) (hd : ae = be + d) :
    arith_plus.f k q1 an am ae q2 bn bm be up = some (rnd an (am * 2 ^ d + bm) be (up != an)) := by
  obtain ⟨hi, lo, cut, hl, i0, i1, l0, l1, hv, hc⟩ := lower_eq b0 b1 (n := d) (by omega)
  obtain ⟨hh, hr⟩ := low_hi (by omega) l0 l1 hv
  obtain ⟨s1, s2⟩ := sum_div (am := am) (bm := bm) (d := d)
  obtain ⟨s3, s4⟩ := div_succ (am * 2 ^ d + bm) d
  rw [hh] at s1
  rw [s1] at s3 s4
  rw [← hc] at hr
  rw [s2, hr] at s4
  have e : wrap64 (ae - be) = (d : Int) := by rw [w64 (by omega) (by omega)]; omega
  unfold arith_plus.f
  rw [e, hl, Option.bind_some]
  unfold bits_Add64.f
  rw [if_pos ⟨by omega, i0, by decide, by decide⟩, Option.bind_some]
  simp only [Int.add_zero]
  by_cases c : am + hi < 18446744073709551616
  · have m1 : (am + hi) % 18446744073709551616 = am + hi := by omega
    have m2 : (am + hi) / 18446744073709551616 = 0 := by omega
    have f : ∀ cc : Bool, (cc = true ↔ bm % 2 ^ d ≠ 0) → num_Grow.f k an (am + hi) ae cc (up != an) = some (rnd an (am * 2 ^ d + bm) be (up != an)) := fun cc h => by
      rw [grw_eq k hk _ _ _ _ _ (by omega) c (by omega) (by omega), rnd_fit (div_fit (c := cc) (by omega) c s1 (by rw [s2]; exact h)), hd]
    rw [m1, m2]
    cases cut
    · rw [if_neg (by decide), if_pos rfl, f (lo != 0) (by rw [hr]; simp), Option.bind_some]
    · rw [if_pos rfl, if_pos rfl, f true (by rw [hr]; simp), Option.bind_some]
  · have m1 : (am + hi) % 18446744073709551616 = am + hi - 18446744073709551616 := by omega
    have m2 : (am + hi) / 18446744073709551616 = 1 := by omega
    have w : wrap64 (ae + 1) = ae + 1 := w64 (by omega) (by omega)
    have o : Go.bits .or .u64 ((am + hi - 18446744073709551616) / 2) 9223372036854775808 = (am + hi) / 2 := by
      rw [or_top (by omega) (by omega)]; omega
    have f : ∀ cc : Bool, (cc = true ↔ (am * 2 ^ d + bm) % 2 ^ (d + 1) ≠ 0) → num_Grow.f k an ((am + hi) / 2) (ae + 1) cc (up != an) = some (rnd an (am * 2 ^ d + bm) be (up != an)) := fun cc h => by
      rw [grw_eq k hk _ _ _ _ _ (by omega) (by omega) (by omega) (by omega), rnd_fit (div_fit (c := cc) (by omega) (by omega) s3 h), hd, show be + (d : Int) + 1 = be + ((d + 1 : Nat) : Int) by omega]
    rw [m1, m2, o, w, and_one (by omega) (by omega)]
    have n1 : (1 : Int) ≠ 0 := by decide
    cases cut
    · rw [if_neg (by decide), if_neg n1]
      by_cases z : lo = 0
      · rw [if_pos z, f _ (by rw [s4]; simp [z]; omega), Option.bind_some]
      · rw [if_neg z, f true (by rw [s4]; simp [z]), Option.bind_some]
    · rw [if_pos rfl, if_neg n1, f true (by rw [s4]; simp), Option.bind_some]
theorem or_sum {h l : Int} {b j : Nat} (hb : b + j = 64) (h0 : 0 ≤ h) (h1 : h < 2 ^ j) (l0 : 0 ≤ l) (l1 : l < 2 ^ b) : Go.bits .or .u64 (h * 2 ^ b) l = h * 2 ^ b + l ∧ h * 2 ^ b < 18446744073709551616 := by
  have hp := p2_pos b
  have hW : (18446744073709551616 : Int) = 2 ^ j * 2 ^ b := by rw [← p2_add, Nat.add_comm, hb, p64]
  have a1 := mul_lt_p b h1
  rw [← hW] at a1
  have a2 := Int.mul_nonneg h0 (show (0 : Int) ≤ 2 ^ b by omega)
  have a3 := p2_mono (i := b) (j := 64) (by omega)
  rw [p64] at a3
  refine ⟨?_, a1⟩
  exact bits_join .u64 64 (by decide) wraps_u64 b _ _ a2 (Int.mul_emod_left _ _) (by rw [p64]; exact a1) l0 l1 (by rw [p64]; omega)
/-- Two words, moved up so that the highest bit is 1. -/
theorem norm128 {hi lo : Int} {b j : Nat} (hb : b + j = 64) (h0 : 0 < hi) (hbl : bl hi = j) (l0 : 0 ≤ lo) (l1 : lo < 18446744073709551616) :
    9223372036854775808 ≤ hi * 2 ^ b + lo / 2 ^ j ∧ hi * 2 ^ b + lo / 2 ^ j < 18446744073709551616 ∧ (hi * 2 ^ b + lo / 2 ^ j) * 18446744073709551616 + (lo * 2 ^ b) % 18446744073709551616 = (hi * 18446744073709551616 + lo) * 2 ^ b ∧
    (lo * 2 ^ b) % 18446744073709551616 + 2 ^ b ≤ 18446744073709551616 ∧ 0 ≤ (lo * 2 ^ b) % 18446744073709551616 ∧
    Go.bits .or .u64 ((hi * 2 ^ b) % 18446744073709551616) (lo / 2 ^ j) = hi * 2 ^ b + lo / 2 ^ j := by
  have hW : (18446744073709551616 : Int) = 2 ^ j * 2 ^ b := by rw [← p2_add, Nat.add_comm, hb, p64]
  have pb := p2_pos b
  have pj := p2_pos j
  have g := bl_ge h0
  have l := bl_lt (n := hi) (by omega)
  rw [hbl] at g l
  rw [Int.toNat_natCast] at l
  have hj : 1 ≤ j := by have := bl_pos h0; omega
  rw [show ((j : Int) - 1).toNat = j - 1 by omega] at g
  have g2 := mul_le_p b g
  rw [← p2_add, show j - 1 + b = 63 by omega, p63] at g2
  have d0 : 0 ≤ lo / 2 ^ j := Int.ediv_nonneg l0 (by omega)
  have d1 : lo / 2 ^ j < 2 ^ b := Int.ediv_lt_of_lt_mul pj (by rw [Int.mul_comm, ← hW]; exact l1)
  obtain ⟨o1, o2⟩ := or_sum hb (by omega) l d0 d1
  have m1 : (lo * 2 ^ b) % 18446744073709551616 = (lo % 2 ^ j) * 2 ^ b := by rw [hW, em_mul _ _ pb]
  have r0 := Int.emod_nonneg lo (b := 2 ^ j) (by omega)
  have r1 : lo % 2 ^ j + 1 ≤ 2 ^ j := Int.emod_lt_of_pos lo pj
  have r2 := mul_le_p b r1
  rw [← hW, Int.add_mul, Int.one_mul] at r2
  have r3 := Int.mul_nonneg r0 (show (0 : Int) ≤ 2 ^ b by omega)
  have a5 : (hi + 1) * 2 ^ b ≤ 2 ^ j * 2 ^ b := mul_le_p b (by omega)
  rw [← hW, Int.add_mul, Int.one_mul] at a5
  have a6 := Int.mul_nonneg (show 0 ≤ hi by omega) (show (0 : Int) ≤ 2 ^ b by omega)
  refine ⟨by omega, by omega, ?_, by rw [m1]; exact r2, by rw [m1]; exact r3, by rw [Int.emod_eq_of_lt a6 o2]; exact o1⟩
  have e1 := Int.mul_ediv_add_emod lo (2 ^ j)
  rw [m1]
  have e2 : lo * 2 ^ b = (lo / 2 ^ j) * 18446744073709551616 + lo % 2 ^ j * 2 ^ b := by
    rw [hW, ← Int.mul_assoc, ← Int.add_mul]
    congr 1
    rw [Int.mul_comm (lo / 2 ^ j)]
    exact e1.symm
  rw [Int.add_mul, Int.add_mul, e2, Int.mul_right_comm hi]
  omega
/-- What is left of a difference, of which 128 bits are known. -/
theorem diff_fit {v e D q E r l : Int} {d b : Nat} {c : Bool} (q0 : 9223372036854775808 ≤ q) (q1 : q < 18446744073709551616) (hv : v * 18446744073709551616 = D * 2 ^ d + r) (r0 : 0 ≤ r) (r1 : r < 2 ^ d) (hq : q * 18446744073709551616 + l = D * 2 ^ b) (l0 : 0 ≤ l) (l1 : l + 2 ^ b ≤ 18446744073709551616) (he : e - b = E - d) (hc : c = true ↔ l ≠ 0 ∨ r ≠ 0) : Fit v e q E c := by
  have pb := p2_pos b
  have pd := p2_pos d
  have a1 : v * 2 ^ b * 18446744073709551616 = q * 2 ^ d * 18446744073709551616 + (l * 2 ^ d + r * 2 ^ b) := by
    have h1 : v * 18446744073709551616 * 2 ^ b = (D * 2 ^ d + r) * 2 ^ b := by rw [hv]
    have h2 : (q * 18446744073709551616 + l) * 2 ^ d = D * 2 ^ b * 2 ^ d := by rw [hq]
    rw [Int.add_mul] at h1 h2
    rw [Int.mul_right_comm D] at h2
    rw [Int.mul_right_comm v, ← h2] at h1
    rw [Int.mul_right_comm q] at h1
    omega
  have a2 := Int.mul_nonneg l0 (show (0 : Int) ≤ 2 ^ d by omega)
  have a3 := Int.mul_nonneg r0 (show (0 : Int) ≤ 2 ^ b by omega)
  have a4 : l * 2 ^ d + r * 2 ^ b < 2 ^ d * 18446744073709551616 := by
    have b1 := mul_le_p d l1
    rw [Int.add_mul] at b1
    have b2 : r * 2 ^ b < 2 ^ b * 2 ^ d := by
      have := mul_lt_p b r1
      rw [Int.mul_comm (2 ^ b) (2 ^ d)]
      exact this
    rw [Int.mul_comm (2 ^ d)]
    omega
  refine ⟨q0, q1, b, d, he, ?_, ?_, ?_⟩
  · refine le_of_p 64 ?_
    rw [p64]
    omega
  · refine lt_of_p 64 ?_
    rw [p64, Int.add_mul, Int.one_mul, Int.add_mul]
    omega
  · rw [hc]
    constructor
    · intro h1 h2
      rw [h2] at a1
      rcases h1 with h1 | h1
      · have := Int.mul_pos (show 0 < l by omega) pd
        omega
      · have := Int.mul_pos (show 0 < r by omega) pb
        omega
    · intro h1
      by_cases z : l = 0
      · refine .inr fun z2 => h1 ?_
        rw [z, z2] at a1
        refine eq_of_p 64 ?_
        rw [p64]
        omega
      · exact .inl z
theorem minus_eq (k : Nat) (hk : 5 ≤ k) {am ae bm be : Int} (q1 q2 : Int) (an bn up : Bool) {d : Nat} (a0 : 9223372036854775808 ≤ am) (a1 : am < 18446744073709551616) (b0 : 9223372036854775808 ≤ bm) (b1 : bm < 18446744073709551616) (e0 : -1048576 ≤ be) (e1 : ae ≤ 1048576) (hd : ae = be + d) (hv : 0 < am * 2 ^ d - bm) :
    arith_minus.f k q1 an am ae q2 bn bm be up = some (rnd an (am * 2 ^ d - bm) be (up != an)) := by
  obtain ⟨k, rfl⟩ : ∃ i, k = i + 2 := ⟨k - 2, by omega⟩
  obtain ⟨hi, lo, cut, hl, i0, i1, l0, l1, hX, hc⟩ := lower_eq b0 b1 (n := d) (by omega)
  obtain ⟨hh, -⟩ := low_hi (by omega) l0 l1 hX
  have pd := p2_pos d
  have x1 := Int.mul_ediv_add_emod (bm * 18446744073709551616) (2 ^ d)
  have x2 := Int.emod_nonneg (bm * 18446744073709551616) (b := 2 ^ d) (by omega)
  have x3 := Int.emod_lt_of_pos (bm * 18446744073709551616) pd
  rw [← hX] at x1
  have e : wrap64 (ae - be) = (d : Int) := by rw [w64 (by omega) (by omega)]; omega
  -- the 128 bits of the difference, and what is behind them
  obtain ⟨D, r, hD, hr0, hr1, hDv, hcr⟩ : ∃ D r : Int, D = am * 18446744073709551616 - (hi * 18446744073709551616 + lo) - (if cut = true then 1 else 0) ∧ 0 ≤ r ∧ r < 2 ^ d ∧ (am * 2 ^ d - bm) * 18446744073709551616 = D * 2 ^ d + r ∧ (cut = true ↔ r ≠ 0) := by
    have y1 : (am * 2 ^ d - bm) * 18446744073709551616 = (am * 18446744073709551616 - (hi * 18446744073709551616 + lo)) * 2 ^ d - bm * 18446744073709551616 % 2 ^ d := by
      rw [Int.sub_mul, Int.sub_mul, Int.mul_right_comm am, Int.mul_comm _ (2 ^ d)] at *
      have : 2 ^ d * (hi * 18446744073709551616 + lo) = (hi * 18446744073709551616 + lo) * 2 ^ d := Int.mul_comm _ _
      omega
    cases hcut : cut
    · have z : bm * 18446744073709551616 % 2 ^ d = 0 := by
        by_cases z : bm * 18446744073709551616 % 2 ^ d = 0
        · exact z
        · rw [hc.2 z] at hcut; exact absurd hcut (by decide)
      refine ⟨_, 0, rfl, by decide, pd, ?_, by simp⟩
      rw [y1, z]
      simp
    · have z := hc.1 hcut
      refine ⟨_, 2 ^ d - bm * 18446744073709551616 % 2 ^ d, rfl, by omega, by omega, ?_, ?_⟩
      · rw [y1, if_pos rfl, Int.sub_mul (am * 18446744073709551616 - (hi * 18446744073709551616 + lo)) 1, Int.one_mul]
        omega
      · simp; omega
  have vW : 2 ^ d ≤ (am * 2 ^ d - bm) * 18446744073709551616 := by
    by_cases z : d ≤ 64
    · have := p2_mono z
      rw [p64] at this
      omega
    · have h1 := p2_mono (i := 64) (j := d) (by omega)
      rw [p64] at h1
      have h2 := mul_le_p d a0
      omega
  have D0 : 0 ≤ D := by
    have := Int.mul_pos hv (show (0 : Int) < 18446744073709551616 by decide)
    by_cases z : 0 ≤ D
    · exact z
    · have := mul_le_p d (show D ≤ -1 by omega)
      omega
  have D1 : D < 340282366920938463463374607431768211456 := by
    split at hD <;> omega
  -- the two words
  obtain ⟨h1, h2, hw⟩ : ∃ h1 h2 : Int, h1 = D / 18446744073709551616 ∧ h2 = D % 18446744073709551616 := ⟨_, _, rfl, rfl⟩
  have sub : (bits_Sub64.f 0 lo (if cut = true then 1 else 0)).bind (fun t => (bits_Sub64.f am hi t.2).bind fun u => some (t.1, u.1)) = some (h2, h1) := by
    unfold bits_Sub64.f
    cases cut
    · simp only [Bool.false_eq_true, if_false] at hD ⊢
      rw [if_pos ⟨by decide, l0, l1, by decide, by decide⟩, Option.bind_some]
      by_cases z : 0 < lo + 0
      · simp only [if_pos z]
        rw [if_pos ⟨by omega, i0, i1, by decide, by decide⟩, Option.bind_some]
        congr 2 <;> omega
      · simp only [if_neg z]
        rw [if_pos ⟨by omega, i0, i1, by decide, by decide⟩, Option.bind_some]
        congr 2 <;> omega
    · simp only [if_true] at hD ⊢
      rw [if_pos ⟨by decide, l0, l1, by decide, by decide⟩, Option.bind_some]
      have z : 0 < lo + 1 := by omega
      simp only [if_pos z]
      rw [if_pos ⟨by omega, i0, i1, by decide, by decide⟩, Option.bind_some]
      congr 2 <;> omega
  have g0 : 0 ≤ h1 ∧ h1 < 18446744073709551616 := by omega
  have g1 : 0 ≤ h2 ∧ h2 < 18446744073709551616 := by omega
  have gD : D = h1 * 18446744073709551616 + h2 := by omega
  -- what comes behind them
  have tail : ∀ (v' e' x1 x0 E : Int), 0 < x1 → x1 < 18446744073709551616 → 0 ≤ x0 → x0 < 18446744073709551616 → v' * 18446744073709551616 = (x1 * 18446744073709551616 + x0) * 2 ^ d + r → E = e' + d → -4194304 ≤ E → E ≤ 4194304 → ∀ i m w, arith_minus.j1 (k + 1) up x0 x1 E i an m w hi lo cut = some (rnd an v' e' (up != an)) := by
    intro v' e' x1 x0 E p0 p1 p2 p3 pv pe pE0 pE1 i m w
    have b0 := bl_pos p0
    have b1 := bl_le (n := x1) (m := 64) (by rw [p64]; exact p1)
    obtain ⟨j, hj⟩ : ∃ j : Nat, bl x1 = j := ⟨(bl x1).toNat, by omega⟩
    obtain ⟨b, hb⟩ : ∃ b : Nat, b + j = 64 := ⟨64 - j, by omega⟩
    obtain ⟨n1, n2, n3, n4, n5, n6⟩ := norm128 hb p0 hj p2 p3
    have f : ∀ cc : Bool, (cc = true ↔ (x0 * 2 ^ b) % 18446744073709551616 ≠ 0 ∨ r ≠ 0) → num_Grow.f k an (x1 * 2 ^ b + x0 / 2 ^ j) (E - b) cc (up != an) = some (rnd an v' e' (up != an)) := fun cc h => by
      rw [grw_eq k (by omega) _ _ _ _ _ n1 n2 (by omega) (by omega), rnd_fit (diff_fit n1 n2 pv hr0 hr1 n3 n5 n4 (show e' - b = (E - b) - d by omega) h)]
    simp only [arith_minus.j1]
    rw [lz64 (by omega) p1 k (by omega), Option.bind_some, hj, show (64 : Int) - (j : Int) = (b : Int) by omega]
    have s1 : shl .u64 x1 (b : Int) = (x1 * 2 ^ b) % 18446744073709551616 := shl64 (by omega)
    have s2 : shl .u64 x0 (b : Int) = (x0 * 2 ^ b) % 18446744073709551616 := shl64 (by omega)
    have s3 : wrap64 (64 - (b : Int)) = (j : Int) := by rw [w64 (by omega) (by omega)]; omega
    have s4 : shr .u64 x0 (j : Int) = x0 / 2 ^ j := shr_eq (by omega)
    have s5 : wrap64 (E - (b : Int)) = E - b := w64 (by omega) (by omega)
    by_cases z : (b : Int) > 0
    · rw [if_pos z, if_pos (by omega), s3, if_pos (by omega), s1, s2, s4, s5, n6]
      cases hcut : cut
      · rw [if_neg (by decide), f _ (by rw [← hcr, hcut]; simp), Option.bind_some]
      · rw [if_pos rfl, f true (by rw [← hcr, hcut]; simp), Option.bind_some]
    · have zb : b = 0 := by omega
      subst zb
      have zj : j = 64 := by omega
      subst zj
      have e1 : x0 / 2 ^ 64 = 0 := by rw [p64]; omega
      rw [e1, Int.pow_zero, Int.mul_one, Int.mul_one, Int.add_zero, Int.emod_eq_of_lt p2 p3, show E - ((0 : Nat) : Int) = E by omega] at f
      rw [if_neg z]
      cases hcut : cut
      · rw [if_neg (by decide), f _ (by rw [← hcr, hcut]; simp), Option.bind_some]
      · rw [if_pos rfl, f true (by rw [← hcr, hcut]; simp), Option.bind_some]
  -- joined
  have j0 : arith_minus.j0 (k + 2) up (if cut = true then 1 else 0) q1 an am ae hi lo cut = some (rnd an (am * 2 ^ d - bm) be (up != an)) := by
    cases hs1 : bits_Sub64.f 0 lo (if cut = true then 1 else 0) with
    | none => rw [hs1] at sub; exact absurd sub (by simp)
    | some t1 =>
      rw [hs1, Option.bind_some] at sub
      cases hs2 : bits_Sub64.f am hi t1.2 with
      | none => rw [hs2] at sub; exact absurd sub (by simp)
      | some t2 =>
        rw [hs2, Option.bind_some] at sub
        obtain ⟨g2, g3⟩ := Prod.mk.inj (Option.some.inj sub)
        simp only [arith_minus.j0]
        rw [hs1, Option.bind_some, hs2, Option.bind_some, g2, g3]
        by_cases z : h1 = 0
        · rw [if_pos z]
          have Dpos : 0 < h2 := by
            by_cases z2 : 0 < h2
            · exact z2
            · have : D = 0 := by omega
              rw [this, Int.zero_mul] at hDv
              omega
          -- so far down the difference is only where nothing is behind the 128 bits
          have hr : r = 0 := by
            have t1 : (am * 2 ^ d - bm) * 18446744073709551616 < 18446744073709551616 * 2 ^ d := by
              have := mul_le_p d (show D + 1 ≤ 18446744073709551616 by omega)
              rw [Int.add_mul, Int.one_mul] at this
              omega
            have t2 : (9223372036854775808 - 1) * 2 ^ d ≤ (am - 1) * 2 ^ d := mul_le_p d (by omega)
            rw [Int.sub_mul] at t2
            rw [Int.sub_mul am] at t2
            have t3 : d < 2 := by
              by_cases z3 : d < 2
              · exact z3
              · have := p2_mono (i := 2) (j := d) (by omega)
                omega
            by_cases z4 : r = 0
            · exact z4
            · have t4 := hcr.2 z4
              have t5 := hc.1 t4
              have : d = 0 ∨ d = 1 := by omega
              rcases this with rfl | rfl <;> omega
          have w : wrap64 (ae - 64) = ae - 64 := w64 (by omega) (by omega)
          rw [w, tail ((am * 2 ^ d - bm) * 2 ^ 64) (be - 64) h2 0 (ae - 64) Dpos g1.2 (by decide) (by decide) (by rw [p64, hDv, hr, gD, z]; simp [Int.mul_right_comm]) (by omega) (by omega) (by omega), rnd_scale hv, show be - 64 + ((64 : Nat) : Int) = be by omega]
        · rw [if_neg z]
          exact tail _ be h1 h2 ae (by omega) g0.2 g1.1 g1.2 (by rw [hDv, gD]) hd (by omega) (by omega) _ _ _
  unfold arith_minus.f
  rw [e, hl, Option.bind_some]
  cases hcut : cut
  · rw [hcut] at j0
    exact j0
  · rw [hcut] at j0
    exact j0

theorem rnz_sg {v : Int} (hv : 0 < v) (n : Bool) (e : Int) (up : Bool) : rnz (sg n v) e up = rnd n v e (up != n) := by
  unfold rnz sg
  cases n
  · simp only [Bool.false_eq_true, if_false]
    rw [if_neg (by omega), decide_eq_false (by omega), Int.natAbs_of_nonneg (by omega)]
  · simp only [if_true]
    rw [if_neg (by omega), decide_eq_true (by omega), Int.natAbs_neg, Int.natAbs_of_nonneg (by omega)]
/-- The sum of two finite ones, of which the first one is not the nearer to nought. -/
theorem add3 (k : Nat) (hk : 6 ≤ k) {am ae bm be : Int} (an bn up : Bool) (a0 : 9223372036854775808 ≤ am) (a1 : am < 18446744073709551616) (b0 : 9223372036854775808 ≤ bm) (b1 : bm < 18446744073709551616) (e0 : -1048576 ≤ be) (e1 : ae ≤ 1048576) (hle : be < ae ∨ be = ae ∧ bm ≤ am) :
    arith_Add.j3 k up 1 an am ae 1 bn bm be = some (rnz (exs (1, an, am, ae) (1, bn, bm, be) be) be up) := by
  obtain ⟨k, rfl⟩ : ∃ i, k = i + 1 := ⟨k - 1, by omega⟩
  obtain ⟨d, hd⟩ : ∃ d : Nat, ae = be + d := ⟨(ae - be).toNat, by omega⟩
  have pd := p2_pos d
  have ex : exs (1, an, am, ae) (1, bn, bm, be) be = sg an am * 2 ^ d + sg bn bm := by
    unfold exs
    simp only [show (ae - be).toNat = d by omega, show (be - be).toNat = 0 by omega, Int.pow_zero, Int.mul_one]
  have ad := mul_le_p d a0
  simp only [arith_Add.j3]
  by_cases h : an = bn
  · subst h
    have vp : 0 < am * 2 ^ d + bm := by omega
    have es : sg an am * 2 ^ d + sg an bm = sg an (am * 2 ^ d + bm) := by
      unfold sg
      cases an
      · simp
      · simp only [if_true]; rw [Int.neg_mul]; omega
    rw [if_pos (by simp), plus_eq k (by omega) _ _ _ _ _ a0 a1 b0 b1 e0 e1 hd, Option.bind_some, ex, es, rnz_sg vp]
  · have hn : bn = !an := by cases an <;> cases bn <;> simp_all
    subst hn
    have es : sg an am * 2 ^ d + sg (!an) bm = sg an (am * 2 ^ d - bm) := by
      unfold sg
      cases an
      · simp only [Bool.not_false, if_true, Bool.false_eq_true, if_false]; omega
      · simp only [if_true, Bool.not_true, Bool.false_eq_true, if_false]; rw [Int.neg_mul]; omega
    rw [if_neg (by simp)]
    have m : 0 < am * 2 ^ d - bm → arith_minus.f k 1 an am ae 1 (!an) bm be up = some (rnz (exs (1, an, am, ae) (1, !an, bm, be) be) be up) := fun hv => by
      rw [minus_eq k (by omega) _ _ _ _ _ a0 a1 b0 b1 e0 e1 hd hv, ex, es, rnz_sg hv]
    by_cases h2 : ae = be
    · have d0 : d = 0 := by omega
      subst d0
      simp only [Int.pow_zero, Int.mul_one] at m es
      rw [if_pos h2]
      by_cases h3 : am = bm
      · rw [if_pos h3, ex, Int.pow_zero, Int.mul_one, es, h3, Int.sub_self]
        unfold rnz sg
        simp
      · rw [if_neg h3, m (by omega), Option.bind_some]
    · rw [if_neg h2, m, Option.bind_some]
      have := p2_mono (i := 1) (j := d) (by omega)
      rw [Int.pow_one] at this
      have := Int.mul_le_mul_of_nonneg_left this (show 0 ≤ am by omega)
      omega
theorem addv_fin {a b : Nm} (ha : a.1 = 1) (hb : b.1 = 1) (up : Bool) : addv a b up = rnz (exs a b (min a.2.2.2 b.2.2.2)) (min a.2.2.2 b.2.2.2) up := by
  unfold addv
  rw [ha, hb]
  simp
theorem mulv_fin {a b : Nm} (ha : a.1 = 1) (hb : b.1 = 1) (up : Bool) : mulv a b up = rnd (a.2.1 != b.2.1) (a.2.2.1 * b.2.2.1) (a.2.2.2 + b.2.2.2) (up != (a.2.1 != b.2.1)) := by
  unfold mulv
  rw [ha, hb]
  simp
theorem add_eq (k : Nat) (hk : 9 ≤ k) (a1 : Int) (a2 : Bool) (a3 a4 b1 : Int) (b2 : Bool) (b3 b4 : Int) (up : Bool) (ha : a3 < 18446744073709551616) (hb : b3 < 18446744073709551616) :
    arith_Add.f k a1 a2 a3 a4 b1 b2 b3 b4 up = some (addv (fairv (a1, a2, a3, a4)) (fairv (b1, b2, b3, b4)) up) := by
  obtain ⟨k, rfl⟩ : ∃ i, k = i + 3 := ⟨k - 3, by omega⟩
  unfold arith_Add.f
  rw [afair_eq a1 a2 a3 a4 ha, Option.bind_some, afair_eq b1 b2 b3 b4 hb, Option.bind_some]
  have ma := fairv_may (a1, a2, a3, a4)
  have mb := fairv_may (b1, b2, b3, b4)
  generalize fairv (a1, a2, a3, a4) = a at ma
  generalize fairv (b1, b2, b3, b4) = b at mb
  clear ha hb a1 a2 a3 a4 b1 b2 b3 b4
  obtain ⟨a1, a2, a3, a4⟩ := a
  obtain ⟨b1, b2, b3, b4⟩ := b
  rcases ma with ⟨h1, h2, h3, h4⟩ | ⟨h1, h2, h3, h4, h5⟩ | ⟨h1, h2, h3⟩ <;> rcases mb with ⟨g1, g2, g3, g4⟩ | ⟨g1, g2, g3, g4, g5⟩ | ⟨g1, g2, g3⟩ <;> simp only at h1 g1 <;> subst h1 g1
  case inr.inl.inr.inl =>
    simp only at h2 h3 h4 h5 g2 g3 g4 g5
    have c2 : ¬ ((1 : Int) = 2) := by decide
    have c0 : ¬ ((1 : Int) = 0) := by decide
    rw [addv_fin rfl rfl]
    simp only [if_neg c2, arith_Add.j0, arith_Add.j1, Bool.false_eq_true, if_false, show ((1 : Int) == 0) = false from rfl, if_neg c0]
    by_cases z : b4 > a4
    · rw [if_pos z]
      simp only [arith_Add.j2, if_true]
      rw [add3 k (by omega) _ _ _ g2 g3 h2 h3 (by omega) (by omega) (.inl z), exs_comm, Int.min_eq_left (by omega)]
    · rw [if_neg z]
      by_cases z2 : b4 = a4
      · rw [if_pos z2]
        by_cases z3 : b3 > a3
        · simp only [arith_Add.j2, decide_eq_true z3, if_true]
          rw [add3 k (by omega) _ _ _ g2 g3 h2 h3 (by omega) (by omega) (.inr ⟨z2.symm, by omega⟩), exs_comm, Int.min_eq_left (by omega)]
        · simp only [arith_Add.j2, decide_eq_false z3, Bool.false_eq_true, if_false]
          rw [add3 k (by omega) _ _ _ h2 h3 g2 g3 (by omega) (by omega) (.inr ⟨z2, by omega⟩), Int.min_eq_right (by omega)]
      · rw [if_neg z2]
        simp only [arith_Add.j2, Bool.false_eq_true, if_false]
        rw [add3 k (by omega) _ _ _ h2 h3 g2 g3 (by omega) (by omega) (.inl (by omega)), Int.min_eq_right (by omega)]
  all_goals simp only at h2 h3 g2 g3
  all_goals simp [arith_Add.j0, arith_Add.j1, addv, num_Infinite.f]
  all_goals (cases a2 <;> cases b2 <;> simp_all)
/-! products -/
theorem mul64_eq {x y : Int} (x0 : 0 ≤ x) (x1 : x < 18446744073709551616) (y0 : 0 ≤ y) (y1 : y < 18446744073709551616) : bits_Mul64.f x y = some (x * y / 18446744073709551616, x * y % 18446744073709551616) := by
  have bd : ∀ a b : Int, 0 ≤ a → a < 4294967296 → 0 ≤ b → b < 4294967296 → 0 ≤ a * b ∧ a * b ≤ 18446744065119617025 := fun a b ha ha' hb hb' => mul_bound ⟨ha, ha'⟩ ⟨hb, hb'⟩
  unfold bits_Mul64.f
  rw [and_low x0 x1, and_low y0 y1]
  obtain ⟨xh, xl, hx, xh0, xh1, xl0, xl1⟩ : ∃ xh xl : Int, x = xh * 4294967296 + xl ∧ 0 ≤ xh ∧ xh < 4294967296 ∧ 0 ≤ xl ∧ xl < 4294967296 := ⟨x / 4294967296, x % 4294967296, by omega, by omega, by omega, by omega, by omega⟩
  obtain ⟨yh, yl, hy, yh0, yh1, yl0, yl1⟩ : ∃ yh yl : Int, y = yh * 4294967296 + yl ∧ 0 ≤ yh ∧ yh < 4294967296 ∧ 0 ≤ yl ∧ yl < 4294967296 := ⟨y / 4294967296, y % 4294967296, by omega, by omega, by omega, by omega, by omega⟩
  rw [show x / 4294967296 = xh by omega, show x % 4294967296 = xl by omega, show y / 4294967296 = yh by omega, show y % 4294967296 = yl by omega]
  have hp : x * y = xh * yh * 18446744073709551616 + (xh * yl + xl * yh) * 4294967296 + xl * yl := by rw [hx, hy]; grind
  obtain ⟨p1, p2⟩ := bd xh yh xh0 xh1 yh0 yh1
  obtain ⟨p3, p4⟩ := bd xh yl xh0 xh1 yl0 yl1
  obtain ⟨p5, p6⟩ := bd xl yh xl0 xl1 yh0 yh1
  obtain ⟨p7, p8⟩ := bd xl yl xl0 xl1 yl0 yl1
  rw [hp]
  generalize xh * yh = A at *
  generalize xh * yl = B at *
  generalize xl * yh = C at *
  generalize xl * yl = D at *
  clear hp hx hy x0 x1 y0 y1 xh0 xh1 xl0 xl1 yh0 yh1 yl0 yl1 bd
  rw [u64w (x := D) (by omega) (by omega), u64w (x := B) (by omega) (by omega), u64w (x := B + D / 4294967296) (by omega) (by omega), u64w (x := C) (by omega) (by omega), u64w (x := A) (by omega) (by omega), and_low (x := B + D / 4294967296) (by omega) (by omega)]
  rw [u64w (x := A + (B + D / 4294967296) / 4294967296) (by omega) (by omega), u64w (x := (B + D / 4294967296) % 4294967296 + C) (by omega) (by omega), u64w (by omega) (by omega), wrap_u64]
  congr 2
  omega
theorem mul_eq (k : Nat) (hk : 4 ≤ k) (a1 : Int) (a2 : Bool) (a3 a4 b1 : Int) (b2 : Bool) (b3 b4 : Int) (up : Bool) (ha : a3 < 18446744073709551616) (hb : b3 < 18446744073709551616) :
    arith_Mul.f k a1 a2 a3 a4 b1 b2 b3 b4 up = some (mulv (fairv (a1, a2, a3, a4)) (fairv (b1, b2, b3, b4)) up) := by
  obtain ⟨k, rfl⟩ : ∃ i, k = i + 1 := ⟨k - 1, by omega⟩
  unfold arith_Mul.f
  rw [afair_eq a1 a2 a3 a4 ha, Option.bind_some, afair_eq b1 b2 b3 b4 hb, Option.bind_some]
  have ma := fairv_may (a1, a2, a3, a4)
  have mb := fairv_may (b1, b2, b3, b4)
  generalize fairv (a1, a2, a3, a4) = a at ma
  generalize fairv (b1, b2, b3, b4) = b at mb
  clear ha hb a1 a2 a3 a4 b1 b2 b3 b4
  obtain ⟨a1, a2, a3, a4⟩ := a
  obtain ⟨b1, b2, b3, b4⟩ := b
  rcases ma with ⟨h1, h2, h3, h4⟩ | ⟨h1, h2, h3, h4, h5⟩ | ⟨h1, h2, h3⟩ <;> rcases mb with ⟨g1, g2, g3, g4⟩ | ⟨g1, g2, g3, g4, g5⟩ | ⟨g1, g2, g3⟩ <;> simp only at h1 g1 <;> subst h1 g1
  case inr.inl.inr.inl =>
    simp only at h2 h3 h4 h5 g2 g3 g4 g5
    have c2 : ¬ ((1 : Int) = 2) := by decide
    have c0 : ¬ ((1 : Int) = 0) := by decide
    rw [mulv_fin rfl rfl]
    simp only [if_neg c2, arith_Mul.j0, Bool.false_eq_true, if_false, show ((1 : Int) == 0) = false from rfl, if_neg c0]
    rw [mul64_eq (by omega) h3 (by omega) g3, Option.bind_some]
    have q1 : 9223372036854775808 * 9223372036854775808 ≤ a3 * b3 := Int.mul_le_mul h2 g2 (by decide) (by omega)
    have q2 : a3 * b3 ≤ 18446744073709551615 * 18446744073709551615 := Int.mul_le_mul (by omega) (by omega) (by omega) (by decide)
    generalize a3 * b3 = P at q1 q2
    have w1 : wrap64 (a4 + b4) = a4 + b4 := w64 (by omega) (by omega)
    have w2 : wrap64 (a4 + b4 + 64) = a4 + b4 + 64 := w64 (by omega) (by omega)
    have w3 : wrap64 (a4 + b4 + 64 - 1) = a4 + b4 + (63 : Nat) := by rw [w64 (by omega) (by omega)]; omega
    simp only [w1, w2, w3]
    by_cases z : P / 18446744073709551616 < 9223372036854775808
    · rw [if_pos z]
      have o := (or_sum (h := P / 18446744073709551616) (l := P % 18446744073709551616 / 9223372036854775808) (b := 1) (j := 63) rfl (by omega) (by rw [p63]; exact z) (by omega) (by rw [Int.pow_one]; omega)).1
      rw [Int.pow_one] at o
      rw [u64w (by omega) (by omega), o, wrap_u64, grw_eq k (by omega) _ _ _ _ _ (by omega) (by omega) (by omega) (by omega), Option.bind_some]
      congr 1
      refine (rnd_fit (div_fit (d := 63) (by omega) (by omega) (by rw [p63]; omega) ?_) _ _).symm
      rw [p63, bne_iff_ne]
      omega
    · rw [if_neg z, grw_eq k (by omega) _ _ _ _ _ (by omega) (by omega) (by omega) (by omega), Option.bind_some]
      congr 1
      refine (rnd_fit (e := a4 + b4) (div_fit (d := 64) (by omega) (by omega) (by rw [p64]) ?_) _ _).symm
      rw [p64, bne_iff_ne]
  all_goals simp only at h2 h3 g2 g3
  all_goals simp [arith_Mul.j0, mulv, num_Infinite.f]
/-! whole numbers, and the next one -/
/-- A whole number. -/
def ofv (a : Int) : Nm := if a = 0 then (0, false, 0, 0) else (1, decide (a < 0), (a.natAbs : Int) * 2 ^ (64 - bl a.natAbs).toNat, bl a.natAbs - 64)
theorem of_eq (k : Nat) (hk : 1 ≤ k) (a : Int) (h0 : -9223372036854775808 ≤ a) (h1 : a ≤ 9223372036854775807) : num_Of.f k a = some (ofv a) := by
  have key : ∀ u : Int, u = a.natAbs → (bits_LeadingZeros64.f k u).bind (fun t => if u = 0 then some (0, false, 0, 0) else if 0 ≤ t then some ((1 : Int), decide (a < 0), shl .u64 u t, wrap64 (-t)) else none) = some (ofv a) := by
    intro u hu
    rw [lz64 (by omega) (by omega) k hk, Option.bind_some]
    unfold ofv
    by_cases z : a = 0
    · rw [if_pos (by omega), if_pos z]
    · rw [if_neg (by omega), if_neg z, ← hu]
      have b0 := bl_pos (n := u) (by omega)
      have b1 := bl_le (n := u) (m := 64) (by rw [p64]; omega)
      have b2 := bl_lt (n := u) (by omega)
      obtain ⟨b, hb⟩ : ∃ b : Nat, 64 - bl u = b := ⟨(64 - bl u).toNat, by omega⟩
      have c := mul_lt_p b b2
      rw [← p2_add, show (bl u).toNat + b = 64 by omega, p64] at c
      have c0 := Int.mul_nonneg (show 0 ≤ u by omega) (show (0 : Int) ≤ 2 ^ b by have := p2_pos b; omega)
      rw [hb, if_pos (by omega), shl64 (by omega), Int.emod_eq_of_lt c0 c, w64 (by omega) (by omega), Int.toNat_natCast, show -(b : Int) = bl u - 64 by omega]
  unfold num_Of.f
  by_cases z : a < 0
  · have e : IntKind.u64.wrap (-(IntKind.u64.wrap a)) = a.natAbs := by rw [wrap_u64, wrap_u64]; omega
    rw [if_pos z]
    exact key _ e
  · have e : IntKind.u64.wrap a = a.natAbs := by rw [wrap_u64]; omega
    rw [if_neg z]
    exact key _ e
/-- The next number above, or below, of one that may be. -/
def nextv (n : Nm) (up : Bool) : Nm :=
  if n.1 = 0 then (1, !up, 9223372036854775808, -1048576)
  else if n.1 = 2 then (if n.2.1 = up then (1, n.2.1, 18446744073709551615, 1048576) else n)
  else if n.2.1 ≠ up then grw n.2.1 n.2.2.1 n.2.2.2 true true
  else if n.2.2.1 = 9223372036854775808 then bnd n.2.1 18446744073709551615 (n.2.2.2 - 1) false
  else (n.1, n.2.1, n.2.2.1 - 1, n.2.2.2)
theorem next_eq (k : Nat) (hk : 4 ≤ k) (a1 : Int) (a2 : Bool) (a3 a4 : Int) (up : Bool) (ha : a3 < 18446744073709551616) : num_Next.f k a1 a2 a3 a4 up = some (nextv (fairv (a1, a2, a3, a4)) up) := by
  obtain ⟨k, rfl⟩ : ∃ i, k = i + 1 := ⟨k - 1, by omega⟩
  unfold num_Next.f
  rw [nfair_eq a1 a2 a3 a4 ha, Option.bind_some]
  have ma := fairv_may (a1, a2, a3, a4)
  generalize fairv (a1, a2, a3, a4) = a at ma
  clear ha a1 a2 a3 a4
  obtain ⟨a1, a2, a3, a4⟩ := a
  unfold nextv
  rcases ma with ⟨h1, h2, h3, h4⟩ | ⟨h1, h2, h3, h4, h5⟩ | ⟨h1, h2, h3⟩ <;> simp only at h1 <;> subst h1
  · rfl
  · simp only at h2 h3 h4 h5
    have c2 : ¬ ((1 : Int) = 2) := by decide
    have c0 : ¬ ((1 : Int) = 0) := by decide
    simp only [if_neg c2, if_neg c0, num_Next.j0, Bool.false_eq_true, if_false, bne_iff_ne]
    by_cases z : a2 ≠ up
    · rw [if_pos z, if_pos z, grw_eq k (by omega) _ _ _ _ _ h2 h3 (by omega) (by omega), Option.bind_some]
    · rw [if_neg z, if_neg z]
      by_cases z2 : a3 = 9223372036854775808
      · rw [if_pos z2, if_pos z2, w64 (by omega) (by omega), bnd_eq k (by omega), Option.bind_some]
      · rw [if_neg z2, if_neg z2, u64w (by omega) (by omega)]
  · simp only at h2 h3
    subst h2 h3
    simp only [show ¬ ((2 : Int) = 0) by decide, if_false, if_true, num_Next.j0, num_huge.f, Option.bind_some]
    by_cases z : a2 = up
    · rw [if_pos z, if_pos (by simpa using z)]
    · rw [if_neg z, if_neg (by simpa using z)]

theorem may_lt {n : Nm} (h : mayP n) : n.2.2.1 < 18446744073709551616 := by
  rcases h with ⟨_, _, h3, _⟩ | ⟨_, _, h3, _⟩ | ⟨_, h2, _⟩ <;> omega
theorem add_g (k : Nat) (hk : 9 ≤ k) (p q : Nm) (up : Bool) (hp : mayP p) (hq : mayP q) : arith_Add.f k p.1 p.2.1 p.2.2.1 p.2.2.2 q.1 q.2.1 q.2.2.1 q.2.2.2 up = some (addv p q up) := by
  rw [add_eq k hk _ _ _ _ _ _ _ _ _ (may_lt hp) (may_lt hq)]
  simp only [tup, fairv_of hp, fairv_of hq]
theorem mul_g (k : Nat) (hk : 4 ≤ k) (p q : Nm) (up : Bool) (hp : mayP p) (hq : mayP q) : arith_Mul.f k p.1 p.2.1 p.2.2.1 p.2.2.2 q.1 q.2.1 q.2.2.1 q.2.2.2 up = some (mulv p q up) := by
  rw [mul_eq k hk _ _ _ _ _ _ _ _ _ (may_lt hp) (may_lt hq)]
  simp only [tup, fairv_of hp, fairv_of hq]
theorem next_g (k : Nat) (hk : 4 ≤ k) (p : Nm) (up : Bool) (hp : mayP p) : num_Next.f k p.1 p.2.1 p.2.2.1 p.2.2.2 up = some (nextv p up) := by
  rw [next_eq k hk _ _ _ _ _ (may_lt hp)]
  simp only [tup, fairv_of hp]
theorem nm_beq {a b : Nm} (h : a = b) : (a.1 == b.1 && (a.2.1 == b.2.1 && (a.2.2.1 == b.2.2.1 && (a.2.2.2 == b.2.2.2)))) = true := by subst h; simp
theorem awake_ev (k : Nat) (hk : 9 ≤ k) : peloruslaw06_awake.f k = some true := by
  have m1 : mayP (ofv 1) := by decide +kernel
  have m2 : mayP (ofv (-2)) := by decide +kernel
  have m3 : mayP (1, false, 9223372036854775808, -133) := by decide +kernel
  have m4 : mayP (2, false, 0, 0) := by decide +kernel
  have e1 : addv (ofv 1) (1, false, 9223372036854775808, -133) true = nextv (ofv 1) true := by decide +kernel
  have e2 : addv (ofv 1) (1, false, 9223372036854775808, -133) false = ofv 1 := by decide +kernel
  have e3 : mulv (2, false, 0, 0) (ofv (-2)) true = (2, true, 0, 0) := by decide +kernel
  have a1 := add_g k hk (ofv 1) (1, false, 9223372036854775808, -133) true m1 m3
  have a2 := add_g k hk (ofv 1) (1, false, 9223372036854775808, -133) false m1 m3
  have a3 := mul_g k (by omega) (2, false, 0, 0) (ofv (-2)) true m4 m2
  have a4 := next_g k (by omega) (ofv 1) true m1
  simp only at a1 a2 a3
  unfold peloruslaw06_awake.f
  rw [of_eq k (by omega) 1 (by decide) (by decide), Option.bind_some, a1, Option.bind_some, a4, Option.bind_some, if_pos (nm_beq e1), a2, Option.bind_some, if_pos (nm_beq e2), if_pos (by decide +kernel)]
  simp only [num_Infinite.f, Option.bind_some]
  rw [of_eq k (by omega) (-2) (by decide) (by decide), Option.bind_some, a3, Option.bind_some, e3]
  rfl
theorem m_lt {x : Int} (h : (Lit.int .u64 x).wf = true) : x < 18446744073709551616 := by have := u64_of_wf h; omega
/-- What a parameter counts as. -/
def nm (x : S24) : Nm := fairv (x.f0, x.f1, x.f2, x.f3)
theorem add_ss (k : Nat) (hk : 9 ≤ k) {x y : S24} (up : Bool) (hx : ok24 x) (hy : ok24 y) : arith_Add.f k x.f0 x.f1 x.f2 x.f3 y.f0 y.f1 y.f2 y.f3 up = some (addv (nm x) (nm y) up) := add_eq k hk _ _ _ _ _ _ _ _ _ (m_lt hx.2.2.1) (m_lt hy.2.2.1)
theorem mul_ss (k : Nat) (hk : 4 ≤ k) {x y : S24} (up : Bool) (hx : ok24 x) (hy : ok24 y) : arith_Mul.f k x.f0 x.f1 x.f2 x.f3 y.f0 y.f1 y.f2 y.f3 up = some (mulv (nm x) (nm y) up) := mul_eq k hk _ _ _ _ _ _ _ _ _ (m_lt hx.2.2.1) (m_lt hy.2.2.1)
theorem may_s {x : S24} (hx : ok24 x) : num_May.f x.f0 x.f1 x.f2 x.f3 = some (decide (mayP (x.f0, x.f1, x.f2, x.f3))) := may_eq _ _ _ _ (m_lt hx.2.2.1)
end Go.Proofs.YthlhogcnfaiphaaDoor.T

namespace Go.Proofs.YthlhogcnfaiphaaDoor.T
set_option linter.unusedVariables false
set_option linter.unusedSimpArgs false
open Go.RowKit Go.Proofs.YthlhogcnfaiphaaDoorW.PrintWords Go.Proofs.YthlhogcnfaiphaaDoorW.PrintMore

/-- How far from nought: nought is 0, the nearest finite one 1, each next one 1 more. -/
def mg (n : Nm) : Int := if n.1 = 0 then 0 else if n.1 = 2 then 2097153 * 9223372036854775808 + 1 else (n.2.2.2 + 1048576) * 9223372036854775808 + (n.2.2.1 - 9223372036854775808) + 1
/-- With the sign. -/
def kv (n : Nm) : Int := sg n.2.1 (mg n)
theorem mg_bd {n : Nm} (h : mayP n) : 0 ≤ mg n ∧ mg n ≤ 2097153 * 9223372036854775808 + 1 := by
  unfold mg
  rcases h with ⟨h1, _⟩ | ⟨h1, h2, h3, h4, h5⟩ | ⟨h1, _⟩
  · rw [if_pos h1]; omega
  · rw [if_neg (by omega), if_neg (by omega)]; omega
  · rw [if_neg (by omega), if_pos h1]; omega
end Go.Proofs.YthlhogcnfaiphaaDoor.T
