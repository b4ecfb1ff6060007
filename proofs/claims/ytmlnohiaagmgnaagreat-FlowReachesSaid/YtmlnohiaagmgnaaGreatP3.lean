/- Plain laws: what the functions answer, without the program's memory (part 3). No condition. -/
import Derived.Test.YtmlnohiaagmgnaaGreatP2
import Derived.KernelRfl
import Derived.DataShut
import Derived.Laws.BitsLemmas
import Derived.Lib.EndianBits
namespace Go.Proofs.YtmlnohiaagmgnaaGreat.Rf.Pl
open Go Go.Proofs
set_option linter.unusedVariables false
set_option linter.unusedSimpArgs false
/-! ### limbs and their values -/
/-- Each is a limb. -/
def U (l : List Int) : Prop := ∀ x ∈ l, 0 ≤ x ∧ x < 4294967296
/-- The value, the lowest limb first. -/
def val : List Int → Int
  | [] => 0
  | x :: xs => x + 4294967296 * val xs
def limN (n : Nat) : List Int := if n = 0 then [] else ((n % 4294967296 : Nat) : Int) :: limN (n / 4294967296)
termination_by n
decreasing_by omega
/-- The limbs of a number that is not below nought, without noughts at their end. -/
def lim (n : Int) : List Int := limN n.toNat

theorem U_nil : U [] := fun _ h => by simp at h
theorem U_cons {x : Int} {l : List Int} : U (x :: l) ↔ (0 ≤ x ∧ x < 4294967296) ∧ U l := by simp [U]
theorem U_append {a b : List Int} : U (a ++ b) ↔ U a ∧ U b := by
  simp only [U, List.mem_append]
  exact ⟨fun h => ⟨fun x hx => h x (.inl hx), fun x hx => h x (.inr hx)⟩, fun h x hx => hx.elim (h.1 x) (h.2 x)⟩
theorem U_take {l : List Int} (h : U l) (n : Nat) : U (l.take n) := fun x hx => h x (List.mem_of_mem_take hx)
theorem U_drop {l : List Int} (h : U l) (n : Nat) : U (l.drop n) := fun x hx => h x (List.mem_of_mem_drop hx)
theorem U_replicate (n : Nat) : U (List.replicate n (0 : Int)) := fun x hx => by
  have := List.eq_of_mem_replicate hx
  omega
theorem U_set {l : List Int} (h : U l) (i : Nat) {x : Int} (h0 : 0 ≤ x) (h1 : x < 4294967296) : U (l.set i x) := fun y hy => by
  rcases List.mem_or_eq_of_mem_set hy with hy | rfl
  · exact h y hy
  · exact ⟨h0, h1⟩
theorem U_getD {l : List Int} (h : U l) (i : Nat) : 0 ≤ l.getD i 0 ∧ l.getD i 0 < 4294967296 := by
  rw [List.getD_eq_getElem?_getD]
  by_cases hi : i < l.length
  · rw [List.getElem?_eq_getElem hi]
    exact h _ (List.getElem_mem hi)
  · rw [List.getElem?_eq_none (by omega)]
    simp
theorem U_single {x : Int} (h0 : 0 ≤ x) (h1 : x < 4294967296) : U [x] := by simp [U, h0, h1]
/-- A power of 2^32, as a function of its own (the arithmetic's tactics take it as a letter). -/
def pw : Nat → Int
  | 0 => 1
  | n + 1 => 4294967296 * pw n
theorem pw_eq (i : Nat) : pw i = 4294967296 ^ i := by
  induction i with
  | zero => rfl
  | succ i ih => rw [pw, ih, Int.pow_succ, Int.mul_comm]
theorem pw_pos (i : Nat) : 0 < pw i := by
  induction i with
  | zero => decide
  | succ i ih => rw [pw]; omega
@[simp] theorem pw_zero : pw 0 = 1 := rfl
theorem pw_succ (i : Nat) : pw (i + 1) = 4294967296 * pw i := rfl
theorem pw_add (i j : Nat) : pw (i + j) = pw i * pw j := by
  induction i with
  | zero => rw [Nat.zero_add, pw_zero, Int.one_mul]
  | succ i ih => rw [show i + 1 + j = (i + j) + 1 by omega, pw_succ, pw_succ, ih, Int.mul_assoc]
theorem pw_mono {i j : Nat} (h : i ≤ j) : pw i ≤ pw j := by
  obtain ⟨d, rfl⟩ := Nat.le.dest h
  rw [pw_add]
  have h1 := pw_pos i
  have h2 : 1 ≤ pw d := by have := pw_pos d; omega
  have := Int.mul_le_mul_of_nonneg_left h2 (c := pw i) (by omega)
  omega

@[simp] theorem val_nil : val [] = 0 := rfl
@[simp] theorem val_cons (x : Int) (l : List Int) : val (x :: l) = x + 4294967296 * val l := rfl
theorem val_nonneg {l : List Int} (h : U l) : 0 ≤ val l := by
  induction l with
  | nil => exact Int.le_refl 0
  | cons x l ih =>
    obtain ⟨h1, h2⟩ := U_cons.1 h
    have := ih h2
    rw [val_cons]
    omega
theorem val_lt {l : List Int} (h : U l) : val l < pw l.length := by
  induction l with
  | nil => decide
  | cons x l ih =>
    obtain ⟨h1, h2⟩ := U_cons.1 h
    have := ih h2
    rw [val_cons, List.length_cons, pw_succ]
    omega
theorem val_append (a b : List Int) : val (a ++ b) = val a + pw a.length * val b := by
  induction a with
  | nil => simp
  | cons x a ih =>
    rw [List.cons_append, val_cons, val_cons, ih, List.length_cons, pw_succ]
    grind
theorem val_replicate (n : Nat) : val (List.replicate n 0) = 0 := by
  induction n with
  | zero => rfl
  | succ n ih => rw [List.replicate_succ, val_cons, ih]; rfl
theorem val_split (l : List Int) (i : Nat) (h : i ≤ l.length) : val l = val (l.take i) + pw i * val (l.drop i) := by
  have := val_append (l.take i) (l.drop i)
  rw [List.take_append_drop, List.length_take, Nat.min_eq_left h] at this
  exact this
theorem drop_eq {l : List Int} {i : Nat} (h : i < l.length) : l.drop i = l.getD i 0 :: l.drop (i + 1) := by
  rw [List.drop_eq_getElem_cons h, List.getD_eq_getElem?_getD, List.getElem?_eq_getElem h]
  rfl
theorem val_drop {l : List Int} {i : Nat} (h : i < l.length) : val (l.drop i) = l.getD i 0 + 4294967296 * val (l.drop (i + 1)) := by rw [drop_eq h, val_cons]
theorem take_succ {l : List Int} {i : Nat} (h : i < l.length) : l.take (i + 1) = l.take i ++ [l.getD i 0] := by
  rw [List.take_succ_eq_append_getElem h, List.getD_eq_getElem?_getD, List.getElem?_eq_getElem h]
  rfl
theorem val_take_succ {l : List Int} {i : Nat} (h : i < l.length) : val (l.take (i + 1)) = val (l.take i) + pw i * l.getD i 0 := by
  rw [take_succ h, val_append, List.length_take, Nat.min_eq_left (by omega)]
  simp
theorem val_set {l : List Int} {i : Nat} (h : i < l.length) (x : Int) : val (l.set i x) = val l + pw i * (x - l.getD i 0) := by
  induction l generalizing i with
  | nil => simp at h
  | cons y l ih =>
    cases i with
    | zero => simp; omega
    | succ i =>
      have := ih (i := i) (by simpa using h)
      rw [List.set_cons_succ, val_cons, val_cons, this, pw_succ]
      have e : (y :: l).getD (i + 1) 0 = l.getD i 0 := rfl
      rw [e]
      grind
theorem take_set {l : List Int} {i : Nat} {x : Int} : (l.set i x).take i = l.take i := by
  rw [List.take_set_of_le (by omega)]
theorem getD_set_self {l : List Int} {i : Nat} (h : i < l.length) (x : Int) : (l.set i x).getD i 0 = x := by
  rw [List.getD_eq_getElem?_getD, List.getElem?_set_self h]
  rfl
theorem getD_set_ne {l : List Int} {i j : Nat} (h : i ≠ j) (x : Int) : (l.set i x).getD j 0 = l.getD j 0 := by
  rw [List.getD_eq_getElem?_getD, List.getElem?_set_ne h, List.getD_eq_getElem?_getD]
theorem drop_set_lt {l : List Int} {i j : Nat} (h : i < j) (x : Int) : (l.set i x).drop j = l.drop j := by
  rw [List.drop_set_of_lt h]

theorem limN_zero : limN 0 = [] := by unfold limN; simp
theorem limN_pos {n : Nat} (h : 0 < n) : limN n = ((n % 4294967296 : Nat) : Int) :: limN (n / 4294967296) := by
  rw [limN, if_neg (by omega)]
@[simp] theorem lim_zero : lim 0 = [] := limN_zero
theorem lim_pos {n : Int} (h : 0 < n) : lim n = (n % 4294967296) :: lim (n / 4294967296) := by
  unfold lim
  rw [limN_pos (by omega)]
  have e1 : ((n.toNat % 4294967296 : Nat) : Int) = n % 4294967296 := by omega
  have e2 : n.toNat / 4294967296 = (n / 4294967296).toNat := by omega
  rw [e1, e2]
theorem lim_ind {motive : (n : Int) → 0 ≤ n → Prop} (zero : motive 0 (by omega)) (pos : ∀ (n : Int) (h : 0 < n), motive (n / 4294967296) (by omega) → motive n (by omega)) (n : Int) (h : 0 ≤ n) : motive n h := by
  obtain ⟨m, rfl⟩ : ∃ m : Nat, n = m := ⟨n.toNat, by omega⟩
  induction m using Nat.strongRecOn with
  | _ m ih =>
    by_cases hm : m = 0
    · subst hm; exact zero
    · exact pos m (by omega) (ih (m / 4294967296) (by omega) (by omega))
theorem val_lim {n : Int} (h : 0 ≤ n) : val (lim n) = n := by
  induction n, h using lim_ind with
  | zero => simp
  | pos n h ih => rw [lim_pos h, val_cons, ih]; omega
theorem U_lim {n : Int} (h : 0 ≤ n) : U (lim n) := by
  induction n, h using lim_ind with
  | zero => simpa using U_nil
  | pos n h ih => rw [lim_pos h]; exact U_cons.2 ⟨by omega, ih⟩
theorem lim_len {n : Int} (h : 0 ≤ n) (L : Nat) (hl : n < pw L) : (lim n).length ≤ L := by
  induction n, h using lim_ind generalizing L with
  | zero => simp
  | pos n h ih =>
    cases L with
    | zero => simp at hl; omega
    | succ L =>
      rw [lim_pos h, List.length_cons]
      have := ih L (by rw [pw_succ] at hl; omega)
      omega
theorem lim_len_gt {n : Int} (L : Nat) (hl : pw L ≤ n) : L < (lim n).length := by
  have h : 0 ≤ n := by have := pw_pos L; omega
  have h1 := val_lt (U_lim h)
  rw [val_lim h] at h1
  by_cases hq : L < (lim n).length
  · exact hq
  · have := pw_mono (i := (lim n).length) (j := L) (by omega)
    omega
theorem lim_ne_nil {n : Int} (h : 0 < n) : lim n ≠ [] := by rw [lim_pos h]; simp
theorem lim_nil_iff {n : Int} (h : 0 ≤ n) : (lim n).length = 0 ↔ n = 0 := by
  constructor
  · intro h0
    have h1 : lim n = [] := List.eq_nil_of_length_eq_zero h0
    have := val_lim h
    rw [h1] at this
    simpa using this.symm
  · rintro rfl; simp
/-- The last limb is not nought. -/
theorem lim_last {n : Int} (h : 0 < n) : (lim n).getD ((lim n).length - 1) 0 ≠ 0 := by
  have h0 : 0 ≤ n := by omega
  have key : 0 < n → (lim n).getD ((lim n).length - 1) 0 ≠ 0 := by
    induction n, h0 using lim_ind with
    | zero => intro h; omega
    | pos n h ih =>
      intro _
      rw [lim_pos h]
      by_cases hz : n / 4294967296 = 0
      · rw [hz, lim_zero]
        simp
        omega
      · have h1 := ih (by omega) (by omega)
        have h2 := lim_ne_nil (n := n / 4294967296) (by omega)
        have h3 : 0 < (lim (n / 4294967296)).length := List.length_pos_iff.2 h2
        have e : (n % 4294967296 :: lim (n / 4294967296)).length - 1 = ((lim (n / 4294967296)).length - 1) + 1 := by simp; omega
        rw [e]
        exact h1
  exact key h
theorem lim_of_norm {l : List Int} (h : U l) (hn : 0 < l.length → l.getD (l.length - 1) 0 ≠ 0) : lim (val l) = l := by
  induction l with
  | nil => simp
  | cons x l ih =>
    obtain ⟨h1, h2⟩ := U_cons.1 h
    have h0 := val_nonneg h2
    have hpos : 0 < val (x :: l) := by
      rw [val_cons]
      cases l with
      | nil => have := hn (by simp); simp at this; simp; omega
      | cons y l =>
        have h3 := ih h2 (fun _ => hn (by simp))
        by_cases hz : val (y :: l) = 0
        · rw [hz] at h3; simp at h3
        · omega
    rw [lim_pos hpos, val_cons]
    have e1 : (x + 4294967296 * val l) % 4294967296 = x := by omega
    have e2 : (x + 4294967296 * val l) / 4294967296 = val l := by omega
    rw [e1, e2, ih h2]
    intro hl
    have := hn (by simp)
    rw [List.length_cons, Nat.add_sub_cancel] at this
    obtain ⟨m, hm⟩ : ∃ m, l.length = m + 1 := ⟨l.length - 1, by omega⟩
    rw [hm] at this ⊢
    exact this
theorem lim_inj {a b : Int} (ha : 0 ≤ a) (hb : 0 ≤ b) (h : lim a = lim b) : a = b := by
  rw [← val_lim ha, ← val_lim hb, h]
/-- A list whose last limb is nought has the value of what is ahead of it. -/
theorem val_take_last {l : List Int} (h0 : 0 < l.length) (hz : l.getD (l.length - 1) 0 = 0) : val (l.take (l.length - 1)) = val l := by
  have h1 := val_take_succ (l := l) (i := l.length - 1) (by omega)
  rw [hz, show l.length - 1 + 1 = l.length by omega, List.take_length] at h1
  omega
theorem U_ext {a b : List Int} (ha : U a) (hb : U b) (hl : a.length = b.length) (hv : val a = val b) : a = b := by
  induction a generalizing b with
  | nil => cases b with
    | nil => rfl
    | cons _ _ => simp at hl
  | cons x a ih => cases b with
    | nil => simp at hl
    | cons y b =>
      obtain ⟨h1, h2⟩ := U_cons.1 ha
      obtain ⟨h3, h4⟩ := U_cons.1 hb
      rw [val_cons, val_cons] at hv
      have e1 : x = y := by omega
      have e2 : val a = val b := by omega
      rw [e1, ih h2 h4 (by simpa using hl) e2]
/-- Order: the highest limb that parts. -/
theorem val_lt_top {a b : List Int} {k : Nat} (ha : U a) (hb : U b) (hka : k < a.length) (hkb : k < b.length) (hd : a.drop (k + 1) = b.drop (k + 1)) (hlt : a.getD k 0 < b.getD k 0) : val a < val b := by
  rw [val_split a k (by omega), val_split b k (by omega), val_drop hka, val_drop hkb, hd]
  have h1 := val_lt (U_take ha k)
  have h2 := val_nonneg (U_take hb k)
  rw [List.length_take, Nat.min_eq_left (by omega)] at h1
  have h3 : pw k * (a.getD k 0 + 1) ≤ pw k * b.getD k 0 := Int.mul_le_mul_of_nonneg_left (by omega) (by have := pw_pos k; omega)
  grind
theorem lim_len_lt {a b : Int} (ha : 0 ≤ a) (h : (lim a).length < (lim b).length) : a < b := by
  by_cases hq : a < b
  · exact hq
  · have hb : b < pw (lim a).length := by
      have := val_lt (U_lim ha)
      rw [val_lim ha] at this
      omega
    by_cases hb0 : 0 ≤ b
    · have := lim_len hb0 _ hb
      omega
    · have hz : b.toNat = 0 := by omega
      unfold lim at h
      rw [hz, limN_zero] at h
      simp at h

/-- -1, 0 or 1. -/
def sgz (x : Int) : Int := if x < 0 then -1 else if 0 < x then 1 else 0
theorem sgz_neg {x : Int} (h : x < 0) : sgz x = -1 := by simp [sgz, h]
theorem sgz_pos {x : Int} (h : 0 < x) : sgz x = 1 := by unfold sgz; rw [if_neg (by omega), if_pos h]
theorem sgz_zero : sgz 0 = 0 := rfl
theorem p2_limb (i : Nat) : pw i = 2 ^ (32 * i) := by
  rw [pw_eq, Int.pow_mul]
  rfl
/-- The value of the limbs: the highest one, and what is behind it. -/
theorem val_top {n : Int} (h : 0 < n) : n / pw ((lim n).length - 1) = (lim n).getD ((lim n).length - 1) 0 := by
  have hl : 0 < (lim n).length := List.length_pos_iff.2 (lim_ne_nil h)
  have hu := U_lim (n := n) (by omega)
  have e := val_split (lim n) ((lim n).length - 1) (by omega)
  rw [val_lim (by omega), val_drop (by omega), show (lim n).length - 1 + 1 = (lim n).length by omega, List.drop_length, val_nil] at e
  have h1 := val_lt (U_take hu ((lim n).length - 1))
  have h2 := val_nonneg (U_take hu ((lim n).length - 1))
  rw [List.length_take, Nat.min_eq_left (by omega)] at h1
  have hp := pw_pos ((lim n).length - 1)
  rw [Int.mul_zero, Int.add_zero] at e
  have key : ∀ (A p t : Int), 0 ≤ A → A < p → 0 < p → (A + p * t) / p = t := fun A p t a1 a2 a3 => by
    rw [Int.add_mul_ediv_left _ _ (by omega), Int.ediv_eq_zero_of_lt a1 a2]
    omega
  have e5 := key _ _ ((lim n).getD ((lim n).length - 1) 0) h2 h1 hp
  rw [← e] at e5
  exact e5
theorem val_full {l : List Int} {n : Nat} (h : l.length = n + 1) : val l = val (l.take n) + pw n * l.getD n 0 := by
  have := val_take_succ (l := l) (i := n) (by omega)
  rw [← h, List.take_length] at this
  exact this
theorem take_out (l : List Int) (i : Nat) (h : l.length ≤ i) : l.take i = l := List.take_of_length_le h
theorem getD_out (l : List Int) (i : Nat) (h : l.length ≤ i) : l.getD i 0 = 0 := by
  rw [List.getD_eq_getElem?_getD, List.getElem?_eq_none h]
  rfl
theorem val_take_succ' (l : List Int) (i : Nat) : val (l.take (i + 1)) = val (l.take i) + pw i * l.getD i 0 := by
  by_cases h : i < l.length
  · exact val_take_succ h
  · rw [take_out l _ (by omega), take_out l _ (by omega), getD_out l i (by omega), Int.mul_zero, Int.add_zero]
theorem val_set_take {l : List Int} {i : Nat} (h : i < l.length) (x : Int) : val ((l.set i x).take (i + 1)) = val (l.take i) + pw i * x := by
  rw [val_take_succ (by simpa using h), take_set, getD_set_self h]

theorem step_add {P A A1 B1 c x y r q : Int} (e : r + 4294967296 * q = x + y + c) (he : A + P * c = A1 + B1) : A + P * r + 4294967296 * P * q = A1 + P * x + (B1 + P * y) := by
  have h : P * (r + 4294967296 * q) = P * (x + y + c) := by rw [e]
  grind
theorem step_sub {P A A1 B1 c x y r q : Int} (e : r + 4294967296 * q = x - y - c) (he : A - P * c = A1 - B1) : A + P * r - 4294967296 * P * (-q) = A1 + P * x - (B1 + P * y) := by
  have h : P * (r + 4294967296 * q) = P * (x - y - c) := by rw [e]
  grind
theorem lim_len_mono {a b : Int} (ha : 0 ≤ a) (h : a ≤ b) : (lim a).length ≤ (lim b).length := by
  by_cases hq : (lim b).length < (lim a).length
  · have := lim_len_lt (a := b) (b := a) (by omega) hq
    omega
  · omega
/-- A number moved up. -/
def shlv (v n : Int) : Int := if n < 1 then v else if n > 16777216 then 0 else v * 2 ^ n.toNat
theorem val_div {l : List Int} (h : U l) {i : Nat} (hi : i ≤ l.length) : val l / pw i = val (l.drop i) := by
  have e := val_split l i hi
  have h1 := val_lt (U_take h i)
  have h2 := val_nonneg (U_take h i)
  rw [List.length_take, Nat.min_eq_left hi] at h1
  have hp := pw_pos i
  have key : ∀ (A p t : Int), 0 ≤ A → A < p → 0 < p → (A + p * t) / p = t := fun A p t a1 a2 a3 => by
    rw [Int.add_mul_ediv_left _ _ (by omega), Int.ediv_eq_zero_of_lt a1 a2]
    omega
  have e5 := key _ _ (val (l.drop i)) h2 h1 hp
  rw [← e] at e5
  exact e5
theorem val_drop' (l : List Int) (i : Nat) : val (l.drop i) = l.getD i 0 + 4294967296 * val (l.drop (i + 1)) := by
  by_cases h : i < l.length
  · exact val_drop h
  · rw [List.drop_of_length_le (by omega), List.drop_of_length_le (by omega), getD_out l i (by omega)]
    rfl
/-- A number moved down. -/
def shrv (v n : Int) : Int := if n < 1 then v else v / 2 ^ n.toNat
theorem val_zero_of {l : List Int} (h : ∀ q, l.getD q 0 = 0) : val l = 0 := by
  induction l with
  | nil => rfl
  | cons x l ih =>
    have h0 : x = 0 := h 0
    rw [val_cons, ih (fun q => h (q + 1)), h0]
    rfl
theorem zeros_above {l : List Int} (hu : U l) {j : Nat} (h : val l < pw j) (q : Nat) (hq : j ≤ q) : l.getD q 0 = 0 := by
  by_cases hl : q < l.length
  · have e := val_split l q (by omega)
    rw [val_drop hl] at e
    have h1 := val_nonneg (U_take hu q)
    have h2 := val_nonneg (U_drop hu (q + 1))
    have h3 := U_getD hu q
    have hm := pw_mono hq
    have hp := pw_pos q
    by_cases hz : l.getD q 0 = 0
    · exact hz
    · have := Int.mul_le_mul_of_nonneg_left (show 1 ≤ l.getD q 0 + 4294967296 * val (l.drop (q + 1)) by omega) (show 0 ≤ pw q by omega)
      omega
  · exact getD_out l q (by omega)
/-- The value of a list of which nothing is cut off but noughts. -/
theorem val_take_of_lt {l : List Int} (hu : U l) {j : Nat} (h : val l < pw j) : val (l.take j) = val l := by
  by_cases hl : j ≤ l.length
  · have e := val_split l j hl
    have h0 := val_nonneg (U_take hu j)
    have h1 := val_nonneg (U_drop hu j)
    have hp := pw_pos j
    by_cases hz : val (l.drop j) = 0
    · rw [hz, Int.mul_zero] at e; omega
    · have := Int.mul_le_mul_of_nonneg_left (show 1 ≤ val (l.drop j) by omega) (show 0 ≤ pw j by omega)
      omega
  · rw [take_out l j (by omega)]
theorem len_of (l : List Int) (h : U l) : (lim (val l)).length ≤ l.length := lim_len (val_nonneg h) _ (val_lt h)
theorem shlv_eq {v n : Int} (h0 : 0 ≤ n) (h1 : n ≤ 16777216) : shlv v n = v * 2 ^ n.toNat := by
  unfold shlv
  by_cases hc : n < 1
  · rw [if_pos hc, show n = 0 by omega]; simp
  · rw [if_neg hc, if_neg (by omega)]
theorem shrv_eq {v n : Int} (h0 : 0 ≤ n) : shrv v n = v / 2 ^ n.toNat := by
  unfold shrv
  by_cases hc : n < 1
  · rw [if_pos hc, show n = 0 by omega]; simp
  · rw [if_neg hc]
theorem snoc_val (l : List Int) (x : Int) : val (l ++ [x]) = val l + pw l.length * x := by rw [val_append]; simp
theorem U_snoc {l : List Int} (h : U l) {x : Int} (h0 : 0 ≤ x) (h1 : x < 4294967296) : U (l ++ [x]) := U_append.2 ⟨h, U_single h0 h1⟩
theorem step_row {V P S x y c r q : Int} (e : r + 4294967296 * q = x * y + c) (h : V + P * c = S * y) : V + P * r + 4294967296 * P * q = (S + P * x) * y := by
  have h1 : P * (r + 4294967296 * q) = P * (x * y + c) := by rw [e]
  grind
theorem p2_31 {s : Nat} (hs : s < 32) : 0 < (2 : Int) ^ s ∧ (2 : Int) ^ s ≤ 2147483648 := by
  have h2 := p2_mono (show s ≤ 31 by omega)
  have e : (2 : Int) ^ 31 = 2147483648 := rfl
  exact ⟨p2_pos s, by omega⟩
theorem val_div' {l : List Int} (h : U l) (i : Nat) : val l / pw i = val (l.drop i) := by
  by_cases hi : i ≤ l.length
  · exact val_div h hi
  · have h1 := val_lt h
    have h2 := pw_mono (show l.length ≤ i by omega)
    rw [List.drop_of_length_le (by omega), val_nil, Int.ediv_eq_zero_of_lt (val_nonneg h) (by omega)]
theorem bit_eq {l : List Int} (h : U l) (i : Nat) : (val l / 2 ^ i) % 2 = (l.getD (i / 32) 0 / 2 ^ (i % 32)) % 2 := by
  have hp := p2_pos (i % 32)
  have e1 : val l / 2 ^ i = val (l.drop (i / 32)) / 2 ^ (i % 32) := by
    rw [← val_div' h, p2_limb, Int.ediv_ediv_of_nonneg (by have := p2_pos (32 * (i / 32)); omega), ← p2_add, show 32 * (i / 32) + i % 32 = i by omega]
  have e2 : (4294967296 : Int) = 2 ^ (i % 32) * (2 * 2 ^ (31 - i % 32)) := by
    rw [← p2_succ, ← p2_add, show i % 32 + (31 - i % 32 + 1) = 32 by omega]
    rfl
  rw [e1, val_drop', e2, Int.mul_assoc, Int.add_mul_ediv_left _ _ (by omega), Int.mul_assoc, Int.add_mul_emod_self_left]
theorem div_unique {v D Q R : Int} (h : v = D * Q + R) (h0 : 0 ≤ R) (h1 : R < D) : v / D = Q ∧ v % D = R := by
  subst h
  rw [Int.add_comm]
  exact ⟨by rw [Int.add_mul_ediv_left _ _ (by omega), Int.ediv_eq_zero_of_lt h0 h1, Int.zero_add], by rw [Int.add_mul_emod_self_left, Int.emod_eq_of_lt h0 h1]⟩
theorem len_lim {v : Int} (hv : 0 ≤ v) (n : Nat) (h : v < 2 ^ n) : (lim v).length ≤ n / 32 + 1 := by
  refine lim_len hv _ ?_
  rw [p2_limb]
  exact Int.lt_of_lt_of_le h (p2_mono (by omega))
theorem bl_half {v : Int} (hv : 0 < v) (he : v % 2 = 0) : bl v = bl (v / 2) + 1 := by
  have := blp (v := v / 2) (by omega) 1
  rw [Int.pow_one, show v / 2 * 2 = v by omega] at this
  exact this
abbrev Dd := Bool × List Int × Int
/-- Which number s * 2^f is, its limbs odd. -/
def Rep (d : Dd) (s f : Int) : Prop := (s = 0 ∧ d = (false, [], 0)) ∨ ∃ (o : Int) (t : Nat), 0 < o ∧ o % 2 = 1 ∧ s ≠ 0 ∧ (s.natAbs : Int) = o * 2 ^ t ∧ d = (decide (s < 0), lim o, f + t)
theorem Rep.scale {d : Dd} {s f : Int} (j : Nat) (h : Rep d s (f + j)) : Rep d (s * 2 ^ j) f := by
  have hp := p2_pos j
  rcases h with ⟨rfl, h⟩ | ⟨o, t, o0, o1, s0, hs, hd⟩
  · exact .inl ⟨by omega, h⟩
  · refine .inr ⟨o, t + j, o0, o1, Int.mul_ne_zero s0 (by omega), ?_, ?_⟩
    · rw [Int.natAbs_mul, Int.natCast_mul, show ((((2 : Int) ^ j).natAbs : Nat) : Int) = 2 ^ j from Int.natAbs_of_nonneg (by omega), hs, p2_add, Int.mul_assoc]
    · rw [hd]
      have : decide (s * 2 ^ j < 0) = decide (s < 0) := by
        by_cases h2 : s < 0
        · rw [decide_eq_true h2, decide_eq_true (Int.mul_neg_of_neg_of_pos h2 hp)]
        · rw [decide_eq_false h2, decide_eq_false]
          have := Int.mul_pos (show 0 < s by omega) hp
          omega
      rw [this]
      congr 2
      omega
theorem sg_abs (neg : Bool) {v : Int} (hv : 0 ≤ v) : ((sg neg v).natAbs : Int) = v := by
  unfold sg
  cases neg
  · simp only [Bool.false_eq_true, if_false]; exact Int.natAbs_of_nonneg hv
  · simp only [if_true, Int.natAbs_neg]; exact Int.natAbs_of_nonneg hv
theorem sg_lt (neg : Bool) {v : Int} (hv : 0 < v) : decide (sg neg v < 0) = neg := by
  unfold sg
  cases neg
  · simp only [Bool.false_eq_true, if_false]; exact decide_eq_false (by omega)
  · simp only [if_true]; exact decide_eq_true (by omega)
theorem sg_ne (neg : Bool) {v : Int} (hv : 0 < v) : sg neg v ≠ 0 := by
  unfold sg
  cases neg
  · simp only [Bool.false_eq_true, if_false]; omega
  · simp only [if_true]; omega
theorem sg_of (s : Int) : sg (decide (s < 0)) s.natAbs = s := by
  unfold sg
  by_cases h : s < 0
  · rw [decide_eq_true h, if_pos rfl]; omega
  · rw [decide_eq_false h, if_neg (by decide)]; omega
theorem natAbs_lt_p {s : Int} {n : Nat} (h : bl s.natAbs ≤ n) : (s.natAbs : Int) < 2 ^ n := by
  have h1 := bl_lt (n := (s.natAbs : Int)) (by omega)
  have h2 := bl_nonneg (s.natAbs : Int)
  have h3 := p2_mono (show (bl (s.natAbs : Int)).toNat ≤ n by omega)
  omega
theorem bl_abs {s : Int} {n : Nat} (h0 : -(2 ^ n) < s) (h1 : s < 2 ^ n) : bl s.natAbs ≤ n := bl_le (by omega)
theorem mul_neg_p (x : Int) (n : Nat) : (-x) * 2 ^ n = -(x * 2 ^ n) := Int.neg_mul _ _
theorem sg_mulr (n : Bool) (x y : Int) : sg n (x * y) = sg n x * y := by
  unfold sg; split
  · rw [Int.neg_mul]
  · rfl
/-- The whole number of a finite one, or nought. -/
def sv (n : Nm) : Int := if n.1 = 1 then sg n.2.1 n.2.2.1 else 0
theorem sg_bd (n : Bool) {m : Int} (h0 : 0 ≤ m) {b : Int} (h1 : m < b) : -b < sg n m ∧ sg n m < b := by
  unfold sg; split <;> omega
theorem rnz_sv {a : Nm} (ha : mayP a) (h2 : a.1 ≠ 2) (up : Bool) : rnz (sv a) a.2.2.2 up = a := by
  obtain ⟨a1, a2, a3, a4⟩ := a
  rcases ha with ⟨h1, q2, q3, q4⟩ | ⟨h1, q2, q3, q4, q5⟩ | ⟨h1, _⟩ <;> simp only at h1
  · simp only at q2 q3 q4
    subst h1 q2 q3 q4
    rfl
  · subst h1
    simp only at q2 q3 q4 q5
    have e : sv (1, a2, a3, a4) = sg a2 a3 := rfl
    rw [e]
    simp only
    rw [rnz_sg (by omega), rnd_self q2 q3, bnd_in q4 q5]
  · exact absurd h1 h2
theorem sv_zero {a : Nm} (h : a.1 = 0) : sv a = 0 := by unfold sv; rw [if_neg (by omega)]
theorem addv_sv {a b : Nm} (ha : mayP a) (hb : mayP b) (a2 : a.1 ≠ 2) (b2 : b.1 ≠ 2) (up : Bool) (i j : Nat) (f : Int) (hi : f = a.2.2.2 - i) (hj : f = b.2.2.2 - j) (hf : f = min a.2.2.2 b.2.2.2) : rnz (sv a * 2 ^ i + sv b * 2 ^ j) f up = addv a b up := by
  have ha' := ha
  rcases ha with ⟨h1, _⟩ | ⟨h1, _⟩ | ⟨h1, _⟩
  · unfold addv
    rw [if_neg (fun h => a2 h.1), sv_zero h1, Int.zero_mul, Int.zero_add, hj, rnz_scale, show b.2.2.2 - (j : Int) + j = b.2.2.2 by omega, rnz_sv hb b2]
    by_cases z : b.1 = 0
    · rw [if_pos (.inr z)]
      rcases hb with ⟨g1, g2, g3, g4⟩ | ⟨g1, _⟩ | ⟨g1, _⟩
      · rcases ha' with ⟨_, k2, k3, k4⟩ | ⟨k1, _⟩ | ⟨k1, _⟩
        · obtain ⟨a1, a2, a3, a4⟩ := a
          obtain ⟨b1, b2, b3, b4⟩ := b
          simp only at h1 k2 k3 k4 g1 g2 g3 g4
          subst h1 k2 k3 k4 g1 g2 g3 g4
          rfl
        · omega
        · omega
      · omega
      · omega
    · rw [if_neg (by omega), if_pos (.inr h1)]
  · rcases hb with ⟨g1, _⟩ | ⟨g1, _⟩ | ⟨g1, _⟩
    · unfold addv
      rw [if_neg (fun h => a2 h.1), sv_zero g1, Int.zero_mul, Int.add_zero, hi, rnz_scale, show a.2.2.2 - (i : Int) + i = a.2.2.2 by omega, rnz_sv ha' a2, if_pos (.inr g1)]
    · rw [addv_fin h1 g1, hf]
      unfold exs sv
      rw [if_pos h1, if_pos g1]
      rw [show (a.2.2.2 - min a.2.2.2 b.2.2.2).toNat = i by omega, show (b.2.2.2 - min a.2.2.2 b.2.2.2).toNat = j by omega]
    · exact absurd g1 b2
  · exact absurd h1 a2
/-! ### the document's answers for layer 1: Trim, Cmp, Add, Sub -/
theorem gd {l : List Int} {i : Nat} (h : i < l.length) : l[i]? = some (l.getD i 0) := by
  rw [List.getElem?_eq_getElem h, List.getD_eq_getElem?_getD, List.getElem?_eq_getElem h]; rfl
theorem wsu {i : Nat} (h : i < 4611686018427387904) : IntKind.i64.wrap ((i : Int) + 1) = ((i + 1 : Nat) : Int) := by rw [w64 (by omega) (by omega)]; omega
theorem wpr {i : Nat} (h : i < 4611686018427387904) : IntKind.i64.wrap (((i + 1 : Nat) : Int) - 1) = (i : Int) := by rw [w64 (by omega) (by omega)]; omega
theorem u32w {x : Int} (h0 : 0 ≤ x) (h1 : x < 4294967296) : IntKind.u32.wrap x = x := by
  simp only [IntKind.wrap, IntKind.bits, IntKind.signed]
  simp
  omega
theorem rtrim_l0 (k : Nat) (l : List Int) (h : U l) (hb : l.length ≤ 1073741824) : ∀ (n m : Nat), n < m → n ≤ l.length → val (l.take n) = val l →
    ∃ j : Nat, j ≤ l.length ∧ l.take j = lim (val l) ∧ pelorusref01_Trim_l0 k m ((l, (n : Int), ()), ()) = some (Sum.inl ((l, (j : Int), ()), ())) := by
  intro n
  induction n with
  | zero =>
    intro m hm hn hv
    obtain ⟨m, rfl⟩ : ∃ i, m = i + 1 := ⟨m - 1, by omega⟩
    refine ⟨0, by omega, ?_, ?_⟩
    · rw [← hv, List.take_zero, val_nil, show lim 0 = [] from limN_zero]
    · simp only [pelorusref01_Trim_l0]
      rw [cond_f (show ¬ ((0 : Nat) : Int) > 0 by decide)]
  | succ n ih =>
    intro m hm hn hv
    obtain ⟨m, rfl⟩ : ∃ i, m = i + 1 := ⟨m - 1, by omega⟩
    have hq : ((n + 1 : Nat) : Int) > 0 := by omega
    by_cases hz : l.getD n 0 = 0
    · obtain ⟨j, h1, h2, h3⟩ := ih m (by omega) (by omega) (by rw [val_take_succ', hz] at hv; omega)
      refine ⟨j, h1, h2, ?_⟩
      simp only [pelorusref01_Trim_l0]
      rw [cond_t hq, wpr (by omega), if_pos (Int.natCast_nonneg n), Int.toNat_natCast, gd (show n < l.length by omega), Option.bind_some, beq_t hz, cond_true, h3]
    · have hl : lim (val l) = l.take (n + 1) := by
        rw [← hv]
        refine lim_of_norm (U_take h _) (fun _ => ?_)
        rw [List.length_take, Nat.min_eq_left hn, Nat.add_sub_cancel, List.getD_eq_getElem?_getD, List.getElem?_take, if_pos (by omega), ← List.getD_eq_getElem?_getD]
        exact hz
      refine ⟨n + 1, hn, hl.symm, ?_⟩
      simp only [pelorusref01_Trim_l0]
      rw [cond_t hq, wpr (by omega), if_pos (Int.natCast_nonneg n), Int.toNat_natCast, gd (show n < l.length by omega), Option.bind_some, beq_f hz, cond_false]
theorem rtrim_eq (l : List Int) (h : U l) (hb : l.length ≤ 1073741824) (k : Nat) (hk : l.length + 1 ≤ k) : pelorusref01_Trim k l = some (lim (val l), ()) := by
  obtain ⟨j, h1, h2, h3⟩ := rtrim_l0 k l h hb l.length k (by omega) (Nat.le_refl _) (by rw [List.take_length])
  simp only [pelorusref01_Trim]
  rw [h3]
  simp only [Option.bind_some, Sum.elim_inl]
  rw [if_pos (show (0 : Int) ≤ 0 ∧ 0 ≤ (j : Int) ∧ (j : Int) ≤ (l.length : Int) from ⟨by omega, by omega, by omega⟩), Int.toNat_natCast, h2, show Int.toNat 0 = 0 from rfl, List.drop_zero, if_pos (by
    have := congrArg List.length h2
    rw [List.length_take] at this
    omega)]
theorem rtrim_ev (l : List Int) (h : U l) (hb : l.length ≤ 1073741824) : ∃ K, ∀ k, K ≤ k → pelorusref01_Trim k l = some (lim (val l), ()) := ⟨l.length + 1, fun k hk => rtrim_eq l h hb k hk⟩
theorem rcmp_l0 (k : Nat) (a b : List Int) (ha : U a) (hb : U b) (hl : a.length = b.length) (hc : a.length ≤ 1073741824) : ∀ (n m : Nat), n < m →
    n ≤ a.length → a.drop n = b.drop n → pelorusref01_Cmp_l0 k m ((a, b, (n : Int) - 1, ()), ()) = some (if sgz (val a - val b) = 0 then Sum.inr (Sum.inl ((), ())) else Sum.inl ((sgz (val a - val b), ()), ())) := by
  intro n
  induction n with
  | zero =>
    intro m hm hi he
    obtain ⟨m, rfl⟩ : ∃ i, m = i + 1 := ⟨m - 1, by omega⟩
    simp only [pelorusref01_Cmp_l0]
    rw [List.drop_zero, List.drop_zero] at he
    rw [cond_f (show ¬ ((0 : Nat) : Int) - 1 ≥ 0 by decide), he, Int.sub_self, sgz_zero, if_pos rfl]
  | succ n ih =>
    intro m hm hi he
    obtain ⟨m, rfl⟩ : ∃ i, m = i + 1 := ⟨m - 1, by omega⟩
    have ht : ((n + 1 : Nat) : Int) - 1 = (n : Int) := by omega
    have hg : (n : Int) ≥ 0 := by omega
    have w : IntKind.i64.wrap ((n : Int) - 1) = (n : Int) - 1 := w64 (by omega) (by omega)
    simp only [pelorusref01_Cmp_l0, ht, cond_t hg, if_pos (Int.natCast_nonneg n), Int.toNat_natCast, gd (show n < a.length by omega), gd (show n < b.length by omega), Option.bind_some, w]
    rcases Int.lt_trichotomy (a.getD n 0) (b.getD n 0) with hlt | heq | hgt
    · have := val_lt_top ha hb (k := n) (by omega) (by omega) he hlt
      rw [cond_t hlt, sgz_neg (by omega), if_neg (by decide)]
    · have h1 : ¬ a.getD n 0 < b.getD n 0 := by omega
      have h2 : ¬ a.getD n 0 > b.getD n 0 := by omega
      rw [cond_f h1, cond_f h2]
      exact ih m (by omega) (by omega) (by rw [drop_eq (by omega), drop_eq (l := b) (by omega), heq, he])
    · have := val_lt_top hb ha (k := n) (by omega) (by omega) he.symm hgt
      have h1 : ¬ a.getD n 0 < b.getD n 0 := by omega
      rw [cond_f h1, cond_t hgt, sgz_pos (by omega), if_neg (by decide)]
theorem rcmp_ev (a b : List Int) (ha : U a) (hb : U b) (hla : a.length ≤ 1073741824) (hlb : b.length ≤ 1073741824) : ∃ K, ∀ k, K ≤ k → pelorusref01_Cmp k a b = some (sgz (val a - val b), ()) := by
  obtain ⟨K1, h1⟩ := rtrim_ev a ha hla
  obtain ⟨K2, h2⟩ := rtrim_ev b hb hlb
  have na := val_nonneg ha
  have nb := val_nonneg hb
  have la := lim_len na a.length (val_lt ha)
  have lb := lim_len nb b.length (val_lt hb)
  rcases Nat.lt_trichotomy (lim (val a)).length (lim (val b)).length with hlt | heq | hgt
  · refine ⟨K1 + K2, fun k hk => ?_⟩
    have := lim_len_lt na hlt
    have e : (((lim (val a)).length : Int) != ((lim (val b)).length : Int)) = true := by simp; omega
    have e2 : ((lim (val a)).length : Int) < ((lim (val b)).length : Int) := by omega
    simp only [pelorusref01_Cmp, h1 k (by omega), h2 k (by omega), Option.bind_some, e, cond_true, cond_t e2]
    rw [sgz_neg (by omega)]
  · refine ⟨K1 + K2 + a.length + 2, fun k hk => ?_⟩
    have e : (((lim (val a)).length : Int) != ((lim (val b)).length : Int)) = false := by simp; omega
    have h3 := rcmp_l0 k (lim (val a)) (lim (val b)) (U_lim na) (U_lim nb) heq (by omega) _ k (by omega) (Nat.le_refl _) (by rw [List.drop_length, heq, List.drop_length])
    rw [val_lim na, val_lim nb] at h3
    simp only [pelorusref01_Cmp, h1 k (by omega), h2 k (by omega), Option.bind_some, e, cond_false]
    rw [w64 (by omega) (by omega), h3]
    by_cases hs : sgz (val a - val b) = 0
    · rw [if_pos hs, hs]; rfl
    · rw [if_neg hs]; rfl
  · refine ⟨K1 + K2, fun k hk => ?_⟩
    have := lim_len_lt nb hgt
    have e : (((lim (val a)).length : Int) != ((lim (val b)).length : Int)) = true := by simp; omega
    have e2 : ¬ ((lim (val a)).length : Int) < ((lim (val b)).length : Int) := by omega
    simp only [pelorusref01_Cmp, h1 k (by omega), h2 k (by omega), Option.bind_some, e, cond_true, cond_f e2]
    rw [sgz_pos (by omega)]
theorem rat (k : Nat) (l : List Int) (h : U l) (i : Nat) : pelorusref01_at k l (i : Int) = some (l.getD i 0, ()) := by
  have hu := U_getD h i
  simp only [pelorusref01_at]
  by_cases hi : i < l.length
  · have e : ¬ (i : Int) ≥ (l.length : Int) := by omega
    rw [cond_f e, if_pos (Int.natCast_nonneg i), Int.toNat_natCast, gd hi, Option.bind_some, u64w hu.1 (by omega)]
  · have e : (i : Int) ≥ (l.length : Int) := by omega
    rw [cond_t e, getD_out l i (by omega)]
theorem radd_l0 (k : Nat) (a b : List Int) (ha : U a) (hb : U b) (hla : a.length ≤ 1073741823) (hlb : b.length ≤ 1073741823) :
    ∀ (d m i : Nat) (o : List Int) (c : Int), d < m → max a.length b.length + 1 - i = d → i ≤ max a.length b.length + 1 → o.length = i → U o → 0 ≤ c ∧ c ≤ 1 → (i = max a.length b.length + 1 → c = 0) → val o + pw i * c = val (a.take i) + val (b.take i) →
      ∃ o', U o' ∧ val o' = val a + val b ∧ o'.length ≤ max a.length b.length + 1 ∧ pelorusref01_Add_l0 k m ((a, b, (), c, (i : Int), ()), (o, ())) = some (Sum.inl (((), ()), (o', ()))) := by
  intro d
  induction d with
  | zero =>
    intro m i o c hm hd hi hol ho hc hz he
    obtain ⟨m, rfl⟩ : ∃ i, m = i + 1 := ⟨m - 1, by omega⟩
    have hc0 := hz (by omega)
    subst hc0
    rw [take_out a i (by omega), take_out b i (by omega), Int.mul_zero, Int.add_zero] at he
    refine ⟨o, ho, he, by omega, ?_⟩
    have e1 : ¬ (i : Int) < (a.length : Int) := by omega
    have e2 : ¬ (i : Int) < (b.length : Int) := by omega
    have e3 : ¬ (0 : Int) > 0 := by decide
    simp only [pelorusref01_Add_l0, cond_f e1, cond_f e2, cond_f e3]
  | succ d ih =>
    intro m i o c hm hd hi hol ho hc hz he
    obtain ⟨m, rfl⟩ : ∃ i, m = i + 1 := ⟨m - 1, by omega⟩
    have hai := U_getD ha i
    have hbi := U_getD hb i
    obtain ⟨n, hn⟩ : ∃ n, n = a.getD i 0 + b.getD i 0 + c := ⟨_, rfl⟩
    by_cases hgo : i < a.length ∨ i < b.length ∨ 0 < c
    · have key : val (o ++ [n % 4294967296]) + pw (i + 1) * (n / 4294967296) = val (a.take (i + 1)) + val (b.take (i + 1)) := by
        rw [snoc_val, hol, val_take_succ', val_take_succ', pw_succ]
        exact step_add (by rw [← hn]; exact Int.emod_add_mul_ediv n 4294967296) he
      have hlast : i + 1 = max a.length b.length + 1 → n / 4294967296 = 0 := by
        intro hq
        have e1 := getD_out a i (by omega)
        have e2 := getD_out b i (by omega)
        omega
      obtain ⟨o', q1, q2, q3, q4⟩ := ih m (i + 1) (o ++ [n % 4294967296]) (n / 4294967296) (by omega) (by omega) (by omega) (by rw [List.length_append]; simp; omega) (U_snoc ho (by omega) (by omega)) (by omega) hlast key
      refine ⟨o', q1, q2, q3, ?_⟩
      have w1 : IntKind.u64.wrap (a.getD i 0 + b.getD i 0) = a.getD i 0 + b.getD i 0 := u64w (by omega) (by omega)
      have w2 : IntKind.u64.wrap (a.getD i 0 + b.getD i 0 + c) = n := by rw [← hn]; exact u64w (by omega) (by omega)
      have w3 : Int.tmod n 4294967296 = n % 4294967296 := Int.tmod_eq_emod_of_nonneg (by omega)
      have w4 : Int.tdiv n 4294967296 = n / 4294967296 := Int.tdiv_eq_ediv_of_nonneg (by omega)
      have w5 : IntKind.u64.wrap (n / 4294967296) = n / 4294967296 := u64w (by omega) (by omega)
      have w6 : IntKind.u32.wrap (n % 4294967296) = n % 4294967296 := u32w (by omega) (by omega)
      have gl : (o.length + [n % 4294967296].length) * 4 ≤ 140737488355328 := by simp; omega
      simp only [pelorusref01_Add_l0, rat k a ha, rat k b hb, Option.bind_some, w1, w2, w3, w4, w5, w6, if_pos gl, wsu (show i < 4611686018427387904 by omega)]
      by_cases g1 : (i : Int) < (a.length : Int)
      · rw [cond_t g1]; exact q4
      · rw [cond_f g1]
        by_cases g2 : (i : Int) < (b.length : Int)
        · rw [cond_t g2]; exact q4
        · rw [cond_f g2, cond_t (show c > 0 by omega)]; exact q4
    · have hc0 : c = 0 := by omega
      subst hc0
      rw [take_out a i (by omega), take_out b i (by omega), Int.mul_zero, Int.add_zero] at he
      refine ⟨o, ho, he, by omega, ?_⟩
      have e1 : ¬ (i : Int) < (a.length : Int) := by omega
      have e2 : ¬ (i : Int) < (b.length : Int) := by omega
      have e3 : ¬ (0 : Int) > 0 := by decide
      simp only [pelorusref01_Add_l0, cond_f e1, cond_f e2, cond_f e3]
theorem radd_ev (a b : List Int) (ha : U a) (hb : U b) (hla : a.length ≤ 1073741823) (hlb : b.length ≤ 1073741823) : ∃ K, ∀ k, K ≤ k → pelorusref01_Add k a b = some (lim (val a + val b), ()) := by
  refine ⟨max a.length b.length + 3, fun k hk => ?_⟩
  obtain ⟨o, h1, h2, h3, h4⟩ := radd_l0 k a b ha hb hla hlb _ k 0 [] 0 (by omega) rfl (by omega) rfl U_nil (by omega) (fun h => by omega) (by simp)
  simp only [pelorusref01_Add]
  rw [show ((0 : Nat) : Int) = 0 from rfl] at h4
  rw [h4]
  simp only [Option.bind_some, Sum.elim_inl]
  rw [rtrim_eq o h1 (by omega) k (by omega), h2]
  rfl
theorem rsub_l0 (k : Nat) (a b : List Int) (ha : U a) (hb : U b) (hla : a.length ≤ 1073741823) (hv : val b ≤ val a) :
    ∀ (d m i : Nat) (o : List Int) (c : Int), d < m → a.length - i = d → i ≤ a.length → o.length = i → U o → 0 ≤ c ∧ c ≤ 1 → val o - pw i * c = val (a.take i) - val (b.take i) →
      ∃ o', U o' ∧ val o' = val a - val b ∧ o'.length ≤ a.length ∧ pelorusref01_Sub_l0 k m ((a, b, (), c, (i : Int), ()), (o, ())) = some (Sum.inl (((), ()), (o', ()))) := by
  intro d
  induction d with
  | zero =>
    intro m i o c hm hd hi hol ho hc he
    obtain ⟨m, rfl⟩ : ∃ i, m = i + 1 := ⟨m - 1, by omega⟩
    obtain rfl : i = a.length := by omega
    have hbl : val (b.take a.length) = val b := val_take_of_lt hb (Int.lt_of_le_of_lt hv (val_lt ha))
    rw [List.take_length, hbl] at he
    have hlt := val_lt ho
    have hp := pw_pos o.length
    have hc0 : c = 0 := by
      rcases (show c = 0 ∨ c = 1 by omega) with h | h
      · exact h
      · subst h
        rw [hol] at hlt hp
        omega
    subst hc0
    refine ⟨o, ho, by omega, by omega, ?_⟩
    have e1 : ¬ (a.length : Int) < (a.length : Int) := by omega
    simp only [pelorusref01_Sub_l0, cond_f e1]
  | succ d ih =>
    intro m i o c hm hd hi hol ho hc he
    obtain ⟨m, rfl⟩ : ∃ i, m = i + 1 := ⟨m - 1, by omega⟩
    have hai := U_getD ha i
    have hbi := U_getD hb i
    obtain ⟨n, hn⟩ : ∃ n, n = 4294967296 + a.getD i 0 - b.getD i 0 - c := ⟨_, rfl⟩
    have key : val (o ++ [n % 4294967296]) - pw (i + 1) * (1 - n / 4294967296) = val (a.take (i + 1)) - val (b.take (i + 1)) := by
      rw [snoc_val, hol, val_take_succ', val_take_succ', pw_succ]
      have := step_sub (P := pw i) (A := val o) (q := n / 4294967296 - 1) (r := n % 4294967296) (x := a.getD i 0) (y := b.getD i 0) (c := c) (by omega) he
      rw [show -(n / 4294967296 - 1) = 1 - n / 4294967296 by omega] at this
      exact this
    obtain ⟨o', q1, q2, q3, q4⟩ := ih m (i + 1) (o ++ [n % 4294967296]) (1 - n / 4294967296) (by omega) (by omega) (by omega) (by rw [List.length_append]; simp; omega) (U_snoc ho (by omega) (by omega)) (by omega) key
    refine ⟨o', q1, q2, q3, ?_⟩
    have e1 : (i : Int) < (a.length : Int) := by omega
    have w1 : IntKind.u64.wrap (4294967296 + a.getD i 0) = 4294967296 + a.getD i 0 := u64w (by omega) (by omega)
    have w1' : IntKind.u64.wrap (4294967296 + a.getD i 0 - b.getD i 0) = 4294967296 + a.getD i 0 - b.getD i 0 := u64w (by omega) (by omega)
    have w2 : IntKind.u64.wrap (4294967296 + a.getD i 0 - b.getD i 0 - c) = n := by rw [← hn]; exact u64w (by omega) (by omega)
    have w3 : Int.tmod n 4294967296 = n % 4294967296 := Int.tmod_eq_emod_of_nonneg (by omega)
    have w4 : Int.tdiv n 4294967296 = n / 4294967296 := Int.tdiv_eq_ediv_of_nonneg (by omega)
    have w5 : IntKind.u64.wrap (n / 4294967296) = n / 4294967296 := u64w (by omega) (by omega)
    have w7 : IntKind.u64.wrap (1 - n / 4294967296) = 1 - n / 4294967296 := u64w (by omega) (by omega)
    have w6 : IntKind.u32.wrap (n % 4294967296) = n % 4294967296 := u32w (by omega) (by omega)
    have gl : (o.length + [n % 4294967296].length) * 4 ≤ 140737488355328 := by simp; omega
    simp only [pelorusref01_Sub_l0, cond_t e1, rat k a ha, rat k b hb, Option.bind_some, w1, w1', w2, w3, w4, w5, w6, w7, if_pos gl, wsu (show i < 4611686018427387904 by omega)]
    exact q4
theorem rsub_ev (a b : List Int) (ha : U a) (hb : U b) (hla : a.length ≤ 1073741823) (hlb : b.length ≤ 1073741823) : ∃ K, ∀ k, K ≤ k → pelorusref01_Sub k a b = some (if val a < val b then ([], false, ()) else (lim (val a - val b), true, ())) := by
  obtain ⟨K1, h1⟩ := rcmp_ev a b ha hb (by omega) (by omega)
  by_cases hlt : val a < val b
  · refine ⟨K1, fun k hk => ?_⟩
    simp only [pelorusref01_Sub]
    rw [h1 k hk, Option.bind_some, sgz_neg (by omega), cond_t (show (-1 : Int) < 0 by decide), if_pos hlt]
  · have hs : ¬ sgz (val a - val b) < 0 := by unfold sgz; split <;> (try split) <;> omega
    refine ⟨K1 + a.length + 3, fun k hk => ?_⟩
    obtain ⟨o, q1, q2, q3, q4⟩ := rsub_l0 k a b ha hb hla (by omega) _ k 0 [] 0 (by omega) rfl (by omega) rfl U_nil (by omega) (by simp)
    rw [show ((0 : Nat) : Int) = 0 from rfl] at q4
    simp only [pelorusref01_Sub]
    rw [h1 k (by omega), Option.bind_some, cond_f hs, if_neg hlt, q4]
    simp only [Option.bind_some, Sum.elim_inl]
    rw [rtrim_eq o q1 (by omega) k (by omega), q2]
    rfl
/-! ### the document's answers for layer 1: Mul, Len, Shl, Div, Shr -/
theorem td32 {m : Nat} (h : m < 4611686018427387904) : IntKind.i64.wrap (Int.tdiv (m : Int) 32) = ((m / 32 : Nat) : Int) := by
  rw [Int.tdiv_eq_ediv_of_nonneg (by omega), w64 (by omega) (by omega)]; omega
theorem tm32 (m : Nat) : IntKind.u64.wrap (Int.tmod (m : Int) 32) = ((m % 32 : Nat) : Int) := by
  rw [Int.tmod_eq_emod_of_nonneg (by omega), u64w (by omega) (by omega)]; omega
theorem one32 {s : Nat} (hs : s < 32) : IntKind.u32.wrap (1 * 2 ^ min (Int.toNat (s : Int)) IntKind.u32.bits) = 2 ^ s := by
  have hp := p2_31 hs
  rw [Int.toNat_natCast, show IntKind.u32.bits = 32 from rfl, Nat.min_eq_left (by omega), Int.one_mul, u32w (by omega) (by omega)]
theorem rmul_l1 (k : Nat) (a b : List Int) (ha : U a) (i : Nat) (hi : i < b.length) (hb : U b) (hla : a.length ≤ 1073741822) (o : List Int) :
    ∀ (d m j : Nat) (row : List Int) (c : Int), d < m → a.length - j = d → j ≤ a.length → row.length = j → U row → 0 ≤ c ∧ c < 4294967296 → val row + pw j * c = val (a.take j) * b.getD i 0 →
      ∃ (row' : List Int) (c' : Int), U row' ∧ row'.length = a.length ∧ 0 ≤ c' ∧ c' < 4294967296 ∧ val row' + pw a.length * c' = val a * b.getD i 0 ∧
        pelorusref01_Mul_l1 k m ((a, b, (), (i : Int), (), c, (j : Int), ()), (o, row, ())) = some (Sum.inl ((a, b, (), (i : Int), (), c', ()), (o, row', ()))) := by
  intro d
  induction d with
  | zero =>
    intro m j row c hm hd hj hl hr hc he
    obtain ⟨m, rfl⟩ : ∃ i, m = i + 1 := ⟨m - 1, by omega⟩
    obtain rfl : j = a.length := by omega
    refine ⟨row, c, hr, hl, hc.1, hc.2, by rw [he, List.take_length], ?_⟩
    have e : ¬ (a.length : Int) < (a.length : Int) := by omega
    simp only [pelorusref01_Mul_l1, cond_f e]
  | succ d ih =>
    intro m j row c hm hd hj hl hr hc he
    obtain ⟨m, rfl⟩ : ∃ i, m = i + 1 := ⟨m - 1, by omega⟩
    have hx := U_getD ha j
    have hy := U_getD hb i
    have hmb := mul_bound hx hy
    obtain ⟨n, hn⟩ : ∃ n, n = a.getD j 0 * b.getD i 0 + c := ⟨_, rfl⟩
    obtain ⟨row', c', h1, h2, h3, h4, h5, h6⟩ := ih m (j + 1) (row ++ [n % 4294967296]) (n / 4294967296) (by omega) (by omega) (by omega) (by simp [hl]) (U_snoc hr (by omega) (by omega)) (by omega)
      (by
        rw [snoc_val, hl, val_take_succ', pw_succ]
        exact step_row (by rw [← hn]; exact Int.emod_add_mul_ediv n 4294967296) he)
    refine ⟨row', c', h1, h2, h3, h4, h5, ?_⟩
    have e : (j : Int) < (a.length : Int) := by omega
    have w0 : IntKind.u64.wrap (a.getD j 0) = a.getD j 0 := u64w hx.1 (by omega)
    have w0' : IntKind.u64.wrap (b.getD i 0) = b.getD i 0 := u64w hy.1 (by omega)
    have w1 : IntKind.u64.wrap (a.getD j 0 * b.getD i 0) = a.getD j 0 * b.getD i 0 := u64w hmb.1 (by omega)
    have w2 : IntKind.u64.wrap (a.getD j 0 * b.getD i 0 + c) = n := by rw [← hn]; exact u64w (by omega) (by omega)
    have w3 : Int.tmod n 4294967296 = n % 4294967296 := Int.tmod_eq_emod_of_nonneg (by omega)
    have w4 : Int.tdiv n 4294967296 = n / 4294967296 := Int.tdiv_eq_ediv_of_nonneg (by omega)
    have w5 : IntKind.u64.wrap (n / 4294967296) = n / 4294967296 := u64w (by omega) (by omega)
    have w6 : IntKind.u32.wrap (n % 4294967296) = n % 4294967296 := u32w (by omega) (by omega)
    have gl : (row.length + [n % 4294967296].length) * 4 ≤ 140737488355328 := by simp; omega
    simp only [pelorusref01_Mul_l1, cond_t e, if_pos (Int.natCast_nonneg j), if_pos (Int.natCast_nonneg i), Int.toNat_natCast, gd (show j < a.length by omega), gd hi, Option.bind_some, w0, w0', w1, w2, w3, w4, w5, w6, if_pos gl, wsu (show j < 4611686018427387904 by omega)]
    exact h6
theorem rmul_l0 (a b : List Int) (ha : U a) (hb : U b) (hl : a.length + b.length ≤ 1073741820) (n : Nat) :
    ∀ (o : List Int), n ≤ b.length → U o → o.length ≤ a.length + (b.length - n) + 1 → val o = val a * val (b.drop n) →
      ∃ o', U o' ∧ val o' = val a * val b ∧ o'.length ≤ a.length + b.length + 1 ∧ ∃ K, ∀ k m, K ≤ k → K ≤ m → pelorusref01_Mul_l0 k m ((a, b, o, (n : Int) - 1, ()), ()) = some (Sum.inl ((o', ()), ())) := by
  induction n with
  | zero =>
    intro o hn ho hol hv
    refine ⟨o, ho, by rw [hv, List.drop_zero], by omega, 1, fun k m hk hm => ?_⟩
    obtain ⟨m, rfl⟩ : ∃ i, m = i + 1 := ⟨m - 1, by omega⟩
    have e : ¬ ((0 : Nat) : Int) - 1 ≥ 0 := by decide
    simp only [pelorusref01_Mul_l0, cond_f e]
  | succ n ih =>
    intro o hn ho hol hv
    have hon : U ([0] ++ o) := U_append.2 ⟨U_single (by omega) (by omega), ho⟩
    have hov : val ([0] ++ o) = 4294967296 * val o := by simp
    have na := val_nonneg ha
    have nd := val_nonneg (U_drop hb n)
    have hp0 := Int.mul_nonneg na nd
    have hlen : (lim (val a * val (b.drop n))).length ≤ a.length + (b.length - n) := by
      refine lim_len hp0 _ ?_
      have l1 := val_lt ha
      have l2 := val_lt (U_drop hb n)
      rw [List.length_drop] at l2
      rw [pw_add]
      have hpa := pw_pos a.length
      have e1 := Int.mul_le_mul_of_nonneg_right (show val a ≤ pw a.length by omega) nd
      have e2 := Int.mul_lt_mul_of_pos_left l2 hpa
      omega
    obtain ⟨o', q1, q2, q3, K2, h6⟩ := ih (lim (val a * val (b.drop n))) (by omega) (U_lim hp0) (by omega) (by rw [val_lim hp0])
    -- the row does not hang on the fuel
    obtain ⟨row, c, r1, r2, r3, r4, r5, _⟩ := rmul_l1 (a.length + 1) a b ha n (by omega) hb (by omega) ([0] ++ o) _ (a.length + 1) 0 [] 0 (by omega) rfl (by omega) rfl U_nil (by omega) (by simp)
    have hrow : ∀ k, a.length + 1 ≤ k → ∃ (row : List Int) (c : Int), U row ∧ row.length = a.length ∧ 0 ≤ c ∧ c < 4294967296 ∧ val row + pw a.length * c = val a * b.getD n 0 ∧
        pelorusref01_Mul_l1 k k ((a, b, (), (n : Int), (), 0, ((0 : Nat) : Int), ()), ([0] ++ o, [], ())) = some (Sum.inl ((a, b, (), (n : Int), (), c, ()), ([0] ++ o, row, ()))) := fun k hk =>
      rmul_l1 k a b ha n (by omega) hb (by omega) ([0] ++ o) _ k 0 [] 0 (by omega) rfl (by omega) rfl U_nil (by omega) (by simp)
    have hadd : ∀ row : List Int, ∀ c : Int, U row → row.length = a.length → 0 ≤ c → c < 4294967296 → val row + pw a.length * c = val a * b.getD n 0 → U (row ++ [c]) ∧ val ([0] ++ o) + val (row ++ [c]) = val a * val (b.drop n) ∧ (row ++ [c]).length = a.length + 1 := by
      intro row c u1 u2 u3 u4 u5
      refine ⟨U_snoc u1 u3 u4, ?_, by simp [u2]⟩
      rw [snoc_val, u2, hov, u5, hv, val_drop (l := b) (i := n) (by omega)]
      grind
    -- one row serves: values and lengths settle it
    have uniq : ∀ row' : List Int, ∀ c' : Int, U row' → row'.length = a.length → 0 ≤ c' → c' < 4294967296 → val row' + pw a.length * c' = val a * b.getD n 0 → row' ++ [c'] = row ++ [c] := by
      intro row' c' u1 u2 u3 u4 u5
      exact U_ext (U_snoc u1 u3 u4) (U_snoc r1 r3 r4) (by simp [u2, r2]) (by rw [snoc_val, snoc_val, u2, r2, u5, r5])
    obtain ⟨g1, g2, g3⟩ := hadd row c r1 r2 r3 r4 r5
    obtain ⟨K1, h5⟩ := radd_ev ([0] ++ o) (row ++ [c]) hon g1 (by simp; omega) (by omega)
    rw [g2] at h5
    refine ⟨o', q1, q2, q3, K1 + K2 + a.length + 2, fun k m hk hm => ?_⟩
    obtain ⟨m, rfl⟩ : ∃ i, m = i + 1 := ⟨m - 1, by omega⟩
    obtain ⟨row', c', u1, u2, u3, u4, u5, u6⟩ := hrow k (by omega)
    have e : ((n + 1 : Nat) : Int) - 1 = (n : Int) := by omega
    have e' : (n : Int) ≥ 0 := by omega
    have gl : (([0] : List Nat).length + o.length) * 4 ≤ 140737488355328 := by simp; omega
    have gl2 : (row'.length + [c'].length) * 4 ≤ 140737488355328 := by simp; omega
    have w : IntKind.i64.wrap ((n : Int) - 1) = (n : Int) - 1 := w64 (by omega) (by omega)
    rw [show ((0 : Nat) : Int) = 0 from rfl] at u6
    have e3 := uniq row' c' u1 u2 u3 u4 u5
    simp only [pelorusref01_Mul_l0, e, cond_t e', if_pos gl]
    rw [u6]
    simp only [Option.bind_some, Sum.elim_inl, u32w u3 u4, if_pos gl2, e3]
    rw [h5 k (by omega), Option.bind_some, w]
    exact h6 k m (by omega) (by omega)
theorem rmul_ev (a b : List Int) (ha : U a) (hb : U b) (hl : a.length + b.length ≤ 1073741820) : ∃ K, ∀ k, K ≤ k → pelorusref01_Mul k a b = some (lim (val a * val b), ()) := by
  obtain ⟨o, h1, h2, h3, K, hK⟩ := rmul_l0 a b ha hb hl b.length [] (Nat.le_refl _) U_nil (by simp) (by rw [List.drop_length]; simp)
  refine ⟨K + o.length + 1, fun k hk => ?_⟩
  simp only [pelorusref01_Mul]
  rw [w64 (by omega) (by omega), hK k k (by omega) (by omega)]
  simp only [Option.bind_some, Sum.elim_inl]
  rw [rtrim_eq o h1 (by omega) k (by omega), h2]
  rfl
theorem rlen_l0 (k : Nat) (m : Nat) : ∀ (x n : Int), x = (m : Int) → x < 4294967296 → 0 ≤ n → n + bl x ≤ 4611686018427387904 → ∀ q : Nat, bl x < q → pelorusref01_Len_l0 k q ((n, x, ()), ()) = some (Sum.inl ((n + bl x, ()), ())) := by
  induction m using Nat.strongRecOn with
  | _ m ih =>
    intro x n hx hx1 hn hn1 q hq
    have hb0' := bl_nonneg x
    obtain ⟨q, rfl⟩ : ∃ i, q = i + 1 := ⟨q - 1, by omega⟩
    by_cases h0 : x = 0
    · have e : ¬ x > 0 := by omega
      simp only [pelorusref01_Len_l0, cond_f e]
      rw [h0, bl_zero, Int.add_zero]
    · have hb : bl x = 1 + bl (x / 2) := by
        by_cases h1 : x = 1
        · subst h1; rfl
        · have := bl_shift (x := x) 1 (by omega)
          exact this
      have hb0 := bl_nonneg (x / 2)
      have e : x > 0 := by omega
      have h := ih (x / 2).toNat (by omega) (x / 2) (n + 1) (by omega) (by omega) (by omega) (by omega) q (by omega)
      have w1 : IntKind.i64.wrap (n + 1) = n + 1 := w64 (by omega) (by omega)
      have w2 : IntKind.u32.wrap (Int.tdiv x 2) = x / 2 := by rw [Int.tdiv_eq_ediv_of_nonneg (by omega), u32w (by omega) (by omega)]
      simp only [pelorusref01_Len_l0, cond_t e, w1, w2]
      rw [h, hb, Int.add_assoc]
theorem rlen_ev (l : List Int) (h : U l) (hb : l.length ≤ 1073741824) : ∃ K, ∀ k, K ≤ k → pelorusref01_Len k l = some (bl (val l), ()) := by
  obtain ⟨K, hK⟩ := rtrim_ev l h hb
  have hn := val_nonneg h
  have hl := lim_len hn l.length (val_lt h)
  by_cases h0 : val l = 0
  · refine ⟨K, fun k hk => ?_⟩
    simp only [pelorusref01_Len]
    rw [hK k hk, Option.bind_some, h0, show lim 0 = [] from limN_zero]
    rfl
  · have hpos : 0 < val l := by omega
    have h1 : 0 < (lim (val l)).length := by
      by_cases hq : (lim (val l)).length = 0
      · exact absurd ((lim_nil_iff hn).1 hq) h0
      · omega
    have hu := U_getD (U_lim hn) ((lim (val l)).length - 1)
    have e1 := val_top hpos
    have hlast := lim_last hpos
    have e2 := bl_shift (x := val l) (32 * ((lim (val l)).length - 1)) (by rw [← p2_limb, e1]; omega)
    rw [← p2_limb, e1] at e2
    have e3 := bl_le (n := (lim (val l)).getD ((lim (val l)).length - 1) 0) (m := 32) hu.2
    have e4 := bl_nonneg ((lim (val l)).getD ((lim (val l)).length - 1) 0)
    refine ⟨K + 40, fun k hk => ?_⟩
    have h2 := rlen_l0 k ((lim (val l)).getD ((lim (val l)).length - 1) 0).toNat _ (32 * (((lim (val l)).length - 1 : Nat) : Int)) (by omega) hu.2 (by omega) (by omega) k (by omega)
    have w1 : IntKind.i64.wrap (((lim (val l)).length : Int) - 1) = (((lim (val l)).length - 1 : Nat) : Int) := by rw [w64 (by omega) (by omega)]; omega
    have w2 : IntKind.i64.wrap (32 * (((lim (val l)).length - 1 : Nat) : Int)) = 32 * (((lim (val l)).length - 1 : Nat) : Int) := w64 (by omega) (by omega)
    have e5 : ¬ ((lim (val l)).length : Int) = 0 := by omega
    simp only [pelorusref01_Len]
    rw [hK k (by omega), Option.bind_some, beq_f e5, cond_false, w1, if_pos (Int.natCast_nonneg _), Int.toNat_natCast, gd (show (lim (val l)).length - 1 < (lim (val l)).length by omega), Option.bind_some, w2, h2]
    simp only [Option.bind_some, Sum.elim_inl]
    rw [e2]
    rfl
theorem rshl_ev (a : List Int) (n : Int) (ha : U a) (hl : a.length ≤ 268435456) : ∃ K, ∀ k, K ≤ k → pelorusref01_Shl k a n = some (lim (shlv (val a) n), ()) := by
  unfold shlv
  by_cases c1 : n < 1
  · obtain ⟨K, hK⟩ := rtrim_ev a ha (by omega)
    refine ⟨K, fun k hk => ?_⟩
    simp only [pelorusref01_Shl]
    rw [cond_t c1, if_pos c1, hK k hk]; rfl
  · by_cases c2 : n > 16777216
    · refine ⟨0, fun k _ => ?_⟩
      simp only [pelorusref01_Shl]
      rw [cond_f c1, if_neg c1, cond_t c2, if_pos c2, show lim 0 = [] from limN_zero]
    · obtain ⟨m, rfl⟩ : ∃ m : Nat, n = m := ⟨n.toNat, by omega⟩
      have hp := p2_31 (s := m % 32) (by omega)
      obtain ⟨K, hK⟩ := rmul_ev (List.replicate (m / 32) 0 ++ a) [2 ^ (m % 32)] (U_append.2 ⟨U_replicate _, ha⟩) (U_single (by omega) (by omega)) (by simp; omega)
      have hv : val (List.replicate (m / 32) 0 ++ a) * val [2 ^ (m % 32)] = val a * 2 ^ m := by
        rw [val_append, val_replicate, List.length_replicate, p2_limb]
        simp only [val_cons, val_nil, Int.mul_zero, Int.add_zero, Int.zero_add]
        have e : (2 : Int) ^ m = 2 ^ (32 * (m / 32)) * 2 ^ (m % 32) := by rw [← p2_add]; congr 1; omega
        rw [e]
        grind
      rw [hv] at hK
      refine ⟨K, fun k hk => ?_⟩
      simp only [pelorusref01_Shl]
      rw [cond_f c1, if_neg c1, cond_f c2, if_neg c2, td32 (by omega), tm32, if_pos ⟨trivial, by omega, by rw [Int.toNat_natCast]; omega⟩, Int.toNat_natCast, if_pos (by rw [List.length_replicate]; omega), if_neg (by omega), one32 (by omega), hK k hk, Int.toNat_natCast]
      rfl
theorem rbit_eq (k : Nat) (l : List Int) (h : U l) (i : Nat) (hi : i < 4611686018427387904) : pelorusref01_bit k l (i : Int) = some ((val l / 2 ^ i) % 2 == 1, ()) := by
  have hu := U_getD h (i / 32)
  have hp := p2_pos (i % 32)
  have hd := Int.ediv_nonneg hu.1 (show (0 : Int) ≤ 2 ^ (i % 32) by omega)
  simp only [pelorusref01_bit]
  rw [td32 hi, tm32, rat k l h, Option.bind_some, if_neg (by omega), shrR (by omega), Int.tmod_eq_emod_of_nonneg hd, bit_eq h]
theorem rset_l0 (k i : Nat) (hi : i < 4611686018427387904) : ∀ (d m : Nat) (l : List Int), d < m → U l → i / 32 + 1 - l.length = d → l.length ≤ 1073741824 → i / 32 < 1073741824 →
    ∃ r, U r ∧ val r = val l ∧ r.length = max l.length (i / 32 + 1) ∧ pelorusref01_set_l0 k m (((i : Int), (), ()), (l, ())) = some (Sum.inl (((i : Int), (), ()), (r, ()))) := by
  intro d
  induction d with
  | zero =>
    intro m l hm hu hd hl hi2
    obtain ⟨m, rfl⟩ : ∃ i, m = i + 1 := ⟨m - 1, by omega⟩
    refine ⟨l, hu, rfl, by omega, ?_⟩
    have e : ¬ (l.length : Int) ≤ ((i / 32 : Nat) : Int) := by omega
    simp only [pelorusref01_set_l0, td32 hi, cond_f e]
  | succ d ih =>
    intro m l hm hu hd hl hi2
    obtain ⟨m, rfl⟩ : ∃ i, m = i + 1 := ⟨m - 1, by omega⟩
    have hu2 := U_snoc hu (show (0 : Int) ≤ 0 by omega) (show (0 : Int) < 4294967296 by omega)
    have hv2 : val (l ++ [0]) = val l := by rw [snoc_val, Int.mul_zero, Int.add_zero]
    obtain ⟨r, h1, h2, h3, h4⟩ := ih m (l ++ [0]) (by omega) hu2 (by simp; omega) (by simp; omega) hi2
    refine ⟨r, h1, by rw [h2, hv2], by rw [h3]; simp; omega, ?_⟩
    have e : (l.length : Int) ≤ ((i / 32 : Nat) : Int) := by omega
    have gl : (l.length + ([0] : List Nat).length) * 4 ≤ 140737488355328 := by simp; omega
    simp only [pelorusref01_set_l0, td32 hi, cond_t e, if_pos gl]
    exact h4
theorem rset_ev (l : List Int) (i : Nat) (hu : U l) (hi : i / 32 < 1073741824) (hl : l.length ≤ 1073741824) (hbit : (val l / 2 ^ i) % 2 = 0) :
    ∃ r, (∃ K, ∀ k, K ≤ k → pelorusref01_set k l (i : Int) = some (r, ())) ∧ U r ∧ val r = val l + 2 ^ i ∧ r.length = max l.length (i / 32 + 1) := by
  obtain ⟨p, p1, p2, p3, _⟩ := rset_l0 0 i (by omega) _ (i / 32 + 2) l (by omega) hu rfl hl hi
  have hp := p2_31 (s := i % 32) (by omega)
  have hx := U_getD p1 (i / 32)
  rw [← p2, bit_eq p1] at hbit
  have hsum : p.getD (i / 32) 0 + 2 ^ (i % 32) < 4294967296 := by
    have e2 : (4294967296 : Int) = 2 ^ (i % 32) * (2 * 2 ^ (31 - i % 32)) := by
      rw [← p2_succ, ← p2_add, show i % 32 + (31 - i % 32 + 1) = 32 by omega]
      rfl
    have e3 := Int.mul_ediv_add_emod (p.getD (i / 32) 0) (2 ^ (i % 32))
    have e4 := Int.emod_lt_of_pos (p.getD (i / 32) 0) hp.1
    have e5 := Int.emod_nonneg (p.getD (i / 32) 0) (show (2 : Int) ^ (i % 32) ≠ 0 by omega)
    have h1 : 2 ^ (i % 32) * (p.getD (i / 32) 0 / 2 ^ (i % 32)) < 2 ^ (i % 32) * (2 * 2 ^ (31 - i % 32)) := by omega
    have h2 := Int.lt_of_mul_lt_mul_left h1 (by omega)
    have h3 := Int.mul_le_mul_of_nonneg_left (show p.getD (i / 32) 0 / 2 ^ (i % 32) + 2 ≤ 2 * 2 ^ (31 - i % 32) by omega) (show (0 : Int) ≤ 2 ^ (i % 32) by omega)
    rw [Int.mul_add] at h3
    omega
  refine ⟨p.set (i / 32) (p.getD (i / 32) 0 + 2 ^ (i % 32)), ⟨i / 32 + 3, fun k hk => ?_⟩, U_set p1 _ (by omega) hsum, ?_, by simp; omega⟩
  · obtain ⟨r, r1, r2, r3, r4⟩ := rset_l0 k i (by omega) _ k l (by omega) hu rfl hl hi
    have er : r = p := U_ext r1 p1 (by omega) (by rw [r2, p2])
    subst er
    have gl : l.length * 4 ≤ 140737488355328 := by omega
    have hlt : i / 32 < r.length := by omega
    simp only [pelorusref01_set, if_pos gl]
    rw [r4]
    simp only [Option.bind_some, Sum.elim_inl, td32 (show i < 4611686018427387904 by omega), tm32, if_pos (Int.natCast_nonneg (i / 32)), Int.toNat_natCast, gd hlt]
    rw [if_neg (by omega)]
    have o := one32 (show i % 32 < 32 by omega)
    rw [Int.toNat_natCast] at o
    rw [o, u32w (by omega) hsum]
  · rw [val_set (by omega), show p.getD (i / 32) 0 + 2 ^ (i % 32) - p.getD (i / 32) 0 = 2 ^ (i % 32) by omega, p2_limb, ← p2_add, show 32 * (i / 32) + i % 32 = i by omega, p2]
theorem rdiv_l0 (a : List Int) (D : Int) (ha : U a) (hD : 0 < D) (L : Nat) (hL : L ≤ 268435456) (hDl : (lim D).length ≤ L) (hal : a.length ≤ L) (n : Nat) :
    ∀ (q : List Int) (R Q : Int), n ≤ 32 * a.length → U q → q.length ≤ L + 1 → 0 ≤ R → R < D → val q = 2 ^ n * Q → val a / 2 ^ n = D * Q + R →
      ∃ q', U q' ∧ q'.length ≤ L + 1 ∧ val q' = val a / D ∧ ∃ K, ∀ k m, K ≤ k → K ≤ m → pelorusref01_Div_l0 k m ((a, lim D, q, lim R, (n : Int) - 1, ()), ()) = some (Sum.inl ((q', lim (val a % D), ()), ())) := by
  induction n with
  | zero =>
    intro q R Q hn hq hql h0 h1 hv he
    rw [show (2 : Int) ^ 0 = 1 from rfl, Int.ediv_one] at he
    rw [show (2 : Int) ^ 0 = 1 from rfl, Int.one_mul] at hv
    obtain ⟨e1, e2⟩ := div_unique he h0 h1
    refine ⟨q, hq, hql, by rw [hv, e1], 1, fun k m hk hm => ?_⟩
    obtain ⟨m, rfl⟩ : ∃ i, m = i + 1 := ⟨m - 1, by omega⟩
    have e : ¬ ((0 : Nat) : Int) - 1 ≥ 0 := by decide
    simp only [pelorusref01_Div_l0, cond_f e]
    rw [e2]
  | succ n ih =>
    intro q R Q hn hq hql h0 h1 hv he
    have hp := p2_pos n
    have hD0 : 0 ≤ D := by omega
    have hRl : (lim R).length ≤ L := Nat.le_trans (lim_len_mono h0 (by omega)) hDl
    obtain ⟨b, hb⟩ : ∃ b, b = (val a / 2 ^ n) % 2 := ⟨_, rfl⟩
    have hb2 : 0 ≤ b ∧ b ≤ 1 := by omega
    have hva : val a / 2 ^ n = 2 * (D * Q + R) + b := by
      have e : val a / 2 ^ (n + 1) = val a / 2 ^ n / 2 := by rw [Int.ediv_ediv_of_nonneg (by omega), p2_succ, Int.mul_comm]
      omega
    have hqbit : (val q / 2 ^ n) % 2 = 0 := by
      rw [hv, p2_succ, Int.mul_comm 2, Int.mul_assoc, Int.mul_ediv_cancel_left _ (by omega)]
      omega
    have l2 : (lim (2 * R)).length ≤ L + 1 := by
      refine lim_len (by omega) _ ?_
      have := val_lt (U_lim h0)
      rw [val_lim h0] at this
      have := pw_mono hRl
      rw [pw_succ]
      omega
    have l3 : (lim (2 * R + b)).length ≤ L + 1 := by
      refine lim_len (by omega) _ ?_
      have := val_lt (U_lim h0)
      rw [val_lim h0] at this
      have := pw_mono hRl
      rw [pw_succ]
      omega
    obtain ⟨K1, c1⟩ := radd_ev (lim R) (lim R) (U_lim h0) (U_lim h0) (by omega) (by omega)
    rw [val_lim h0, show R + R = 2 * R by omega] at c1
    obtain ⟨K2, c2⟩ := radd_ev (lim (2 * R)) [1] (U_lim (by omega)) (U_single (by omega) (by omega)) (by omega) (by simp)
    rw [val_lim (by omega), show val [1] = 1 by simp] at c2
    obtain ⟨K3, c3⟩ := rsub_ev (lim (2 * R + b)) (lim D) (U_lim (by omega)) (U_lim hD0) (by omega) (by omega)
    rw [val_lim (by omega), val_lim hD0] at c3
    have e : ((n + 1 : Nat) : Int) - 1 = (n : Int) := by omega
    have e' : (n : Int) ≥ 0 := by omega
    have w : IntKind.i64.wrap ((n : Int) - 1) = (n : Int) - 1 := w64 (by omega) (by omega)
    have bit : ∀ k, pelorusref01_bit k a (n : Int) = some (b == 1, ()) := fun k => by rw [rbit_eq k a ha n (by omega), ← hb]
    -- the step behind the bit, in both its copies
    have fin : ∀ (K0 : Nat) (G : Nat → Nat → Option (denS pelorusref01_Div_l0_o)) (q' : List Int), (∀ k m, K0 ≤ k → K0 ≤ m → pelorusref01_Div_l0 k (m + 1) ((a, lim D, q, lim R, (n : Int), ()), ()) = G k m) → (∃ K, ∀ k m, K ≤ k → K ≤ m → G k m = some (Sum.inl ((q', lim (val a % D), ()), ()))) →
        ∃ K, ∀ k m, K ≤ k → K ≤ m → pelorusref01_Div_l0 k m ((a, lim D, q, lim R, (n : Int), ()), ()) = some (Sum.inl ((q', lim (val a % D), ()), ())) := by
      intro K0 G q' h ⟨K, hK⟩
      refine ⟨K0 + K + 1, fun k m hk hm => ?_⟩
      obtain ⟨m, rfl⟩ : ∃ i, m = i + 1 := ⟨m - 1, by omega⟩
      rw [h k m (by omega) (by omega), hK k m (by omega) (by omega)]
    rw [e]
    by_cases hlt : 2 * R + b < D
    · obtain ⟨q', i1, i2, i3, K4, c4⟩ := ih q (2 * R + b) (2 * Q) (by omega) hq hql (by omega) hlt (by rw [hv, p2_succ]; grind) (by rw [hva]; grind)
      refine ⟨q', i1, i2, i3, fin (K1 + K2 + K3) (fun k m => pelorusref01_Div_l0 k m ((a, lim D, q, lim (2 * R + b), (n : Int) - 1, ()), ())) q' (fun k m hk hm => ?_) ⟨K4, c4⟩⟩
      have d3 := c3 k (by omega)
      rw [if_pos hlt] at d3
      simp only [pelorusref01_Div_l0, cond_t e', c1 k (by omega), Option.bind_some, bit]
      rcases (show b = 0 ∨ b = 1 by omega) with hb0 | hb1
      · rw [hb0, Int.add_zero] at d3 ⊢
        rw [show ((0 : Int) == 1) = false from rfl, cond_false, d3, Option.bind_some, cond_false, w]
      · rw [hb1] at d3 ⊢
        have d2 := c2 k (by omega)
        rw [show ((1 : Int) == 1) = true from rfl, cond_true, d2, Option.bind_some, d3, Option.bind_some, cond_false, w]
    · obtain ⟨s, ⟨K5, c5⟩, hq', hv', hl'⟩ := rset_ev q n hq (by omega) (by omega) hqbit
      obtain ⟨q', i1, i2, i3, K4, c4⟩ := ih s (2 * R + b - D) (2 * Q + 1) (by omega) hq' (by omega) (by omega) (by omega) (by rw [hv', hv, p2_succ]; grind) (by rw [hva]; grind)
      refine ⟨q', i1, i2, i3, fin (K1 + K2 + K3 + K5) (fun k m => pelorusref01_Div_l0 k m ((a, lim D, s, lim (2 * R + b - D), (n : Int) - 1, ()), ())) q' (fun k m hk hm => ?_) ⟨K4, c4⟩⟩
      have d3 := c3 k (by omega)
      have d5 := c5 k (by omega)
      rw [if_neg hlt] at d3
      simp only [pelorusref01_Div_l0, cond_t e', c1 k (by omega), Option.bind_some, bit]
      rcases (show b = 0 ∨ b = 1 by omega) with hb0 | hb1
      · rw [hb0, Int.add_zero] at d3 ⊢
        rw [show ((0 : Int) == 1) = false from rfl, cond_false, d3, Option.bind_some, cond_true, d5, Option.bind_some, w]
      · rw [hb1] at d3 ⊢
        have d2 := c2 k (by omega)
        rw [show ((1 : Int) == 1) = true from rfl, cond_true, d2, Option.bind_some, d3, Option.bind_some, cond_true, d5, Option.bind_some, w]
theorem rdiv_ev (a b : List Int) (ha : U a) (hb : U b) (hla : a.length ≤ 134217728) (hlb : b.length ≤ 134217728) (c0 : val b ≠ 0) :
    ∃ K, ∀ k, K ≤ k → pelorusref01_Div k a b = some (lim (val a / val b), lim (val a % val b), true, ()) := by
  have na := val_nonneg ha
  have nb := val_nonneg hb
  have lb := lim_len nb b.length (val_lt hb)
  obtain ⟨K1, h1⟩ := rtrim_ev b hb (by omega)
  have hne : ¬ ((lim (val b)).length : Int) = 0 := fun h => c0 ((lim_nil_iff nb).1 (by omega))
  obtain ⟨K2, h2⟩ := rlen_ev a ha (by omega)
  have hb1 := bl_nonneg (val a)
  have hb2 := bl_le (n := val a) (m := 32 * a.length) (by rw [← p2_limb]; exact val_lt ha)
  obtain ⟨n, hn⟩ : ∃ n : Nat, bl (val a) = (n : Int) := ⟨(bl (val a)).toNat, by omega⟩
  have hlt := bl_lt na
  rw [hn, Int.toNat_natCast] at hlt
  obtain ⟨q, i1, i2, i3, K3, h3⟩ := rdiv_l0 a (val b) ha (by omega) (max a.length b.length) (by omega) (by omega) (by omega) n [] 0 0 (by omega) U_nil (by simp) (by omega) (by omega) (by simp) (by rw [Int.ediv_eq_zero_of_lt na hlt]; simp)
  rw [show lim 0 = [] from limN_zero] at h3
  have hm0 := Int.emod_nonneg (val a) c0
  have hm1 := Int.emod_lt_of_pos (val a) (show 0 < val b by omega)
  have lm := lim_len_mono hm0 (show val a % val b ≤ val b by omega)
  obtain ⟨K4, h4⟩ := rtrim_ev q i1 (by omega)
  obtain ⟨K5, h5⟩ := rtrim_ev (lim (val a % val b)) (U_lim hm0) (by omega)
  rw [val_lim hm0] at h5
  refine ⟨K1 + K2 + K3 + K4 + K5, fun k hk => ?_⟩
  simp only [pelorusref01_Div]
  rw [h1 k (by omega), Option.bind_some, beq_f hne, cond_false, h2 k (by omega), Option.bind_some, hn, w64 (by omega) (by omega), h3 k k (by omega) (by omega)]
  simp only [Option.bind_some, Sum.elim_inl]
  rw [h4 k (by omega), Option.bind_some, h5 k (by omega), i3]
  rfl
theorem rshr_ev (a : List Int) (n : Int) (ha : U a) (hl : a.length ≤ 134217728) : ∃ K, ∀ k, K ≤ k → pelorusref01_Shr k a n = some (lim (shrv (val a) n), ()) := by
  have na := val_nonneg ha
  unfold shrv
  by_cases c1 : n < 1
  · obtain ⟨K, hK⟩ := rtrim_ev a ha (by omega)
    refine ⟨K, fun k hk => ?_⟩
    simp only [pelorusref01_Shr]
    rw [cond_t c1, if_pos c1, hK k hk]; rfl
  · obtain ⟨m, rfl⟩ : ∃ m : Nat, n = m := ⟨n.toNat, by omega⟩
    by_cases c2 : m ≥ 32 * a.length
    · have hlt := val_lt ha
      rw [p2_limb] at hlt
      have hm := p2_mono c2
      refine ⟨0, fun k _ => ?_⟩
      have e : (m : Int) ≥ 32 * (a.length : Int) := by omega
      simp only [pelorusref01_Shr]
      rw [cond_f c1, if_neg c1, w64 (by omega) (by omega), cond_t e, Int.toNat_natCast, Int.ediv_eq_zero_of_lt na (by omega), show lim 0 = [] from limN_zero]
    · have hud := U_drop ha (m / 32)
      have nd := val_nonneg hud
      obtain ⟨K1, h1⟩ := rtrim_ev (a.drop (m / 32)) hud (by rw [List.length_drop]; omega)
      have hp := p2_31 (s := m % 32) (by omega)
      have ld := lim_len nd (a.drop (m / 32)).length (val_lt hud)
      rw [List.length_drop] at ld
      have e1 : val [(2 : Int) ^ (m % 32)] = 2 ^ (m % 32) := by simp
      obtain ⟨K2, h2⟩ := rdiv_ev (lim (val (a.drop (m / 32)))) [2 ^ (m % 32)] (U_lim nd) (U_single (by omega) (by omega)) (by omega) (by simp) (by rw [e1]; omega)
      rw [val_lim nd, e1, ← val_div' ha, p2_limb, Int.ediv_ediv_of_nonneg (by have := p2_pos (32 * (m / 32)); omega), ← p2_add, show 32 * (m / 32) + m % 32 = m by omega] at h2
      refine ⟨K1 + K2, fun k hk => ?_⟩
      have e : ¬ (m : Int) ≥ 32 * (a.length : Int) := by omega
      have h2' := h2 k (by omega)
      simp only [pelorusref01_Shr]
      rw [cond_f c1, if_neg c1, w64 (by omega) (by omega), cond_f e, td32 (by omega), tm32, if_pos ⟨by omega, by omega, by omega⟩, Int.toNat_natCast, Int.toNat_natCast, List.take_length, h1 k (by omega), Option.bind_some, if_neg (by omega), one32 (by omega)]
      rw [← val_div' ha, p2_limb] at *
      erw [h2']
      rw [Int.toNat_natCast]
      rfl
end Go.Proofs.YtmlnohiaagmgnaaGreat.Rf.Pl
