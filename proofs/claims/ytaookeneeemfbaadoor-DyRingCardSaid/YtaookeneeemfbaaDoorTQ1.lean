/- The plain theory of limbs: lists of whole numbers from 0 to 2^32 - 1, their value, and the limbs of a number. No program in sight. What the functions of package nat answer, in terms of values and limbs (first part: cut, clone, order, length, sums). What the functions of package nat answer (second part: sums, differences, products). What the functions of package nat answer (third part: products, moves by bits). What the functions of package nat answer (fourth part: quotients). What the functions of package nat answer (fifth part: the long quotient, and the root). Plain laws of values, bits and moves (those of T2 to TA that need no function of the program). -/
import Derived.Test.YtaookeneeemfbaaDoorPAx1
import Derived.RowKit
import Derived.DataShut
import Derived.Test.YtaookeneeemfbaaDoorVWords
import Derived.Test.YtaookeneeemfbaaDoorVMore
namespace Go.Proofs.YtaookeneeemfbaaDoor.T
set_option linter.unusedVariables false
set_option linter.unusedSimpArgs false
open Go.RowKit Go.Proofs.YtaookeneeemfbaaDoorW.PrintWords

/-- Each is a limb. -/
def U (l : List Int) : Prop := ∀ x ∈ l, 0 ≤ x ∧ x < 4294967296
/-- The value, the lowest limb first. -/
def val : List Int → Int
  | [] => 0
  | x :: xs => x + 4294967296 * val xs
def limN (n : Nat) : List Int := if n = 0 then [] else ((n % 4294967296 : Nat) : Int) :: limN (n / 4294967296)
termination_by n
decreasing_by omega
/-- The limbs of a number that is not below nought, without noughts at their end. -/
def lim (n : Int) : List Int := limN n.toNat

theorem U_nil : U [] := fun _ h => by simp at h
theorem U_cons {x : Int} {l : List Int} : U (x :: l) ↔ (0 ≤ x ∧ x < 4294967296) ∧ U l := by simp [U]
theorem U_append {a b : List Int} : U (a ++ b) ↔ U a ∧ U b := by
  simp only [U, List.mem_append]
  exact ⟨fun h => ⟨fun x hx => h x (.inl hx), fun x hx => h x (.inr hx)⟩, fun h x hx => hx.elim (h.1 x) (h.2 x)⟩
theorem U_take {l : List Int} (h : U l) (n : Nat) : U (l.take n) := fun x hx => h x (List.mem_of_mem_take hx)
theorem U_drop {l : List Int} (h : U l) (n : Nat) : U (l.drop n) := fun x hx => h x (List.mem_of_mem_drop hx)
theorem U_replicate (n : Nat) : U (List.replicate n (0 : Int)) := fun x hx => by
  have := List.eq_of_mem_replicate hx
  omega
theorem U_set {l : List Int} (h : U l) (i : Nat) {x : Int} (h0 : 0 ≤ x) (h1 : x < 4294967296) : U (l.set i x) := fun y hy => by
  rcases List.mem_or_eq_of_mem_set hy with hy | rfl
  · exact h y hy
  · exact ⟨h0, h1⟩
theorem U_getD {l : List Int} (h : U l) (i : Nat) : 0 ≤ l.getD i 0 ∧ l.getD i 0 < 4294967296 := by
  rw [List.getD_eq_getElem?_getD]
  by_cases hi : i < l.length
  · rw [List.getElem?_eq_getElem hi]
    exact h _ (List.getElem_mem hi)
  · rw [List.getElem?_eq_none (by omega)]
    simp
theorem U_single {x : Int} (h0 : 0 ≤ x) (h1 : x < 4294967296) : U [x] := by simp [U, h0, h1]
theorem U_of_wf {l : List Int} (h : ∀ x ∈ l, (Lit.int .u32 x).wf = true) : U l := fun x hx => by
  have := (Lit.wf_int_iff .u32 x).1 (h x hx)
  have e1 : IntKind.min .u32 = 0 := by decide
  have e2 : IntKind.max .u32 = 4294967295 := by decide
  rw [e1, e2] at this
  omega
theorem i64_of_wf {x : Int} (h : (Lit.int .i64 x).wf = true) : -9223372036854775808 ≤ x ∧ x ≤ 9223372036854775807 := by
  have := (Lit.wf_int_iff .i64 x).1 h
  have e1 : IntKind.min .i64 = -9223372036854775808 := by decide
  have e2 : IntKind.max .i64 = 9223372036854775807 := by decide
  rw [e1, e2] at this
  exact this
theorem u64_of_wf {x : Int} (h : (Lit.int .u64 x).wf = true) : 0 ≤ x ∧ x ≤ 18446744073709551615 := by
  have := (Lit.wf_int_iff .u64 x).1 h
  have e1 : IntKind.min .u64 = 0 := by decide
  have e2 : IntKind.max .u64 = 18446744073709551615 := by decide
  rw [e1, e2] at this
  exact this

/-- A power of 2^32, as a function of its own (the arithmetic's tactics take it as a letter). -/
def pw : Nat → Int
  | 0 => 1
  | n + 1 => 4294967296 * pw n
theorem pw_eq (i : Nat) : pw i = 4294967296 ^ i := by
  induction i with
  | zero => rfl
  | succ i ih => rw [pw, ih, Int.pow_succ, Int.mul_comm]
theorem pw_pos (i : Nat) : 0 < pw i := by
  induction i with
  | zero => decide
  | succ i ih => rw [pw]; omega
@[simp] theorem pw_zero : pw 0 = 1 := rfl
theorem pw_succ (i : Nat) : pw (i + 1) = 4294967296 * pw i := rfl
theorem pw_add (i j : Nat) : pw (i + j) = pw i * pw j := by
  induction i with
  | zero => rw [Nat.zero_add, pw_zero, Int.one_mul]
  | succ i ih => rw [show i + 1 + j = (i + j) + 1 by omega, pw_succ, pw_succ, ih, Int.mul_assoc]
theorem pw_mono {i j : Nat} (h : i ≤ j) : pw i ≤ pw j := by
  obtain ⟨d, rfl⟩ := Nat.le.dest h
  rw [pw_add]
  have h1 := pw_pos i
  have h2 : 1 ≤ pw d := by have := pw_pos d; omega
  have := Int.mul_le_mul_of_nonneg_left h2 (c := pw i) (by omega)
  omega

@[simp] theorem val_nil : val [] = 0 := rfl
@[simp] theorem val_cons (x : Int) (l : List Int) : val (x :: l) = x + 4294967296 * val l := rfl
theorem val_nonneg {l : List Int} (h : U l) : 0 ≤ val l := by
  induction l with
  | nil => exact Int.le_refl 0
  | cons x l ih =>
    obtain ⟨h1, h2⟩ := U_cons.1 h
    have := ih h2
    rw [val_cons]
    omega
theorem val_lt {l : List Int} (h : U l) : val l < pw l.length := by
  induction l with
  | nil => decide
  | cons x l ih =>
    obtain ⟨h1, h2⟩ := U_cons.1 h
    have := ih h2
    rw [val_cons, List.length_cons, pw_succ]
    omega
theorem val_append (a b : List Int) : val (a ++ b) = val a + pw a.length * val b := by
  induction a with
  | nil => simp
  | cons x a ih =>
    rw [List.cons_append, val_cons, val_cons, ih, List.length_cons, pw_succ]
    grind
theorem val_replicate (n : Nat) : val (List.replicate n 0) = 0 := by
  induction n with
  | zero => rfl
  | succ n ih => rw [List.replicate_succ, val_cons, ih]; rfl
theorem val_split (l : List Int) (i : Nat) (h : i ≤ l.length) : val l = val (l.take i) + pw i * val (l.drop i) := by
  have := val_append (l.take i) (l.drop i)
  rw [List.take_append_drop, List.length_take, Nat.min_eq_left h] at this
  exact this
theorem drop_eq {l : List Int} {i : Nat} (h : i < l.length) : l.drop i = l.getD i 0 :: l.drop (i + 1) := by
  rw [List.drop_eq_getElem_cons h, List.getD_eq_getElem?_getD, List.getElem?_eq_getElem h]
  rfl
theorem val_drop {l : List Int} {i : Nat} (h : i < l.length) : val (l.drop i) = l.getD i 0 + 4294967296 * val (l.drop (i + 1)) := by rw [drop_eq h, val_cons]
theorem take_succ {l : List Int} {i : Nat} (h : i < l.length) : l.take (i + 1) = l.take i ++ [l.getD i 0] := by
  rw [List.take_succ_eq_append_getElem h, List.getD_eq_getElem?_getD, List.getElem?_eq_getElem h]
  rfl
theorem val_take_succ {l : List Int} {i : Nat} (h : i < l.length) : val (l.take (i + 1)) = val (l.take i) + pw i * l.getD i 0 := by
  rw [take_succ h, val_append, List.length_take, Nat.min_eq_left (by omega)]
  simp
theorem val_set {l : List Int} {i : Nat} (h : i < l.length) (x : Int) : val (l.set i x) = val l + pw i * (x - l.getD i 0) := by
  induction l generalizing i with
  | nil => simp at h
  | cons y l ih =>
    cases i with
    | zero => simp; omega
    | succ i =>
      have := ih (i := i) (by simpa using h)
      rw [List.set_cons_succ, val_cons, val_cons, this, pw_succ]
      have e : (y :: l).getD (i + 1) 0 = l.getD i 0 := rfl
      rw [e]
      grind
theorem take_set {l : List Int} {i : Nat} {x : Int} : (l.set i x).take i = l.take i := by
  rw [List.take_set_of_le (by omega)]
theorem getD_set_self {l : List Int} {i : Nat} (h : i < l.length) (x : Int) : (l.set i x).getD i 0 = x := by
  rw [List.getD_eq_getElem?_getD, List.getElem?_set_self h]
  rfl
theorem getD_set_ne {l : List Int} {i j : Nat} (h : i ≠ j) (x : Int) : (l.set i x).getD j 0 = l.getD j 0 := by
  rw [List.getD_eq_getElem?_getD, List.getElem?_set_ne h, List.getD_eq_getElem?_getD]
theorem drop_set_lt {l : List Int} {i j : Nat} (h : i < j) (x : Int) : (l.set i x).drop j = l.drop j := by
  rw [List.drop_set_of_lt h]

theorem limN_zero : limN 0 = [] := by unfold limN; simp
theorem limN_pos {n : Nat} (h : 0 < n) : limN n = ((n % 4294967296 : Nat) : Int) :: limN (n / 4294967296) := by
  rw [limN, if_neg (by omega)]
@[simp] theorem lim_zero : lim 0 = [] := limN_zero
theorem lim_pos {n : Int} (h : 0 < n) : lim n = (n % 4294967296) :: lim (n / 4294967296) := by
  unfold lim
  rw [limN_pos (by omega)]
  have e1 : ((n.toNat % 4294967296 : Nat) : Int) = n % 4294967296 := by omega
  have e2 : n.toNat / 4294967296 = (n / 4294967296).toNat := by omega
  rw [e1, e2]
theorem lim_ind {motive : (n : Int) → 0 ≤ n → Prop} (zero : motive 0 (by omega)) (pos : ∀ (n : Int) (h : 0 < n), motive (n / 4294967296) (by omega) → motive n (by omega)) (n : Int) (h : 0 ≤ n) : motive n h := by
  obtain ⟨m, rfl⟩ : ∃ m : Nat, n = m := ⟨n.toNat, by omega⟩
  induction m using Nat.strongRecOn with
  | _ m ih =>
    by_cases hm : m = 0
    · subst hm; exact zero
    · exact pos m (by omega) (ih (m / 4294967296) (by omega) (by omega))
theorem val_lim {n : Int} (h : 0 ≤ n) : val (lim n) = n := by
  induction n, h using lim_ind with
  | zero => simp
  | pos n h ih => rw [lim_pos h, val_cons, ih]; omega
theorem U_lim {n : Int} (h : 0 ≤ n) : U (lim n) := by
  induction n, h using lim_ind with
  | zero => simpa using U_nil
  | pos n h ih => rw [lim_pos h]; exact U_cons.2 ⟨by omega, ih⟩
theorem lim_len {n : Int} (h : 0 ≤ n) (L : Nat) (hl : n < pw L) : (lim n).length ≤ L := by
  induction n, h using lim_ind generalizing L with
  | zero => simp
  | pos n h ih =>
    cases L with
    | zero => simp at hl; omega
    | succ L =>
      rw [lim_pos h, List.length_cons]
      have := ih L (by rw [pw_succ] at hl; omega)
      omega
theorem lim_len_gt {n : Int} (L : Nat) (hl : pw L ≤ n) : L < (lim n).length := by
  have h : 0 ≤ n := by have := pw_pos L; omega
  have h1 := val_lt (U_lim h)
  rw [val_lim h] at h1
  by_cases hq : L < (lim n).length
  · exact hq
  · have := pw_mono (i := (lim n).length) (j := L) (by omega)
    omega
theorem lim_ne_nil {n : Int} (h : 0 < n) : lim n ≠ [] := by rw [lim_pos h]; simp
theorem lim_nil_iff {n : Int} (h : 0 ≤ n) : (lim n).length = 0 ↔ n = 0 := by
  constructor
  · intro h0
    have h1 : lim n = [] := List.eq_nil_of_length_eq_zero h0
    have := val_lim h
    rw [h1] at this
    simpa using this.symm
  · rintro rfl; simp
/-- The last limb is not nought. -/
theorem lim_last {n : Int} (h : 0 < n) : (lim n).getD ((lim n).length - 1) 0 ≠ 0 := by
  have h0 : 0 ≤ n := by omega
  have key : 0 < n → (lim n).getD ((lim n).length - 1) 0 ≠ 0 := by
    induction n, h0 using lim_ind with
    | zero => intro h; omega
    | pos n h ih =>
      intro _
      rw [lim_pos h]
      by_cases hz : n / 4294967296 = 0
      · rw [hz, lim_zero]
        simp
        omega
      · have h1 := ih (by omega) (by omega)
        have h2 := lim_ne_nil (n := n / 4294967296) (by omega)
        have h3 : 0 < (lim (n / 4294967296)).length := List.length_pos_iff.2 h2
        have e : (n % 4294967296 :: lim (n / 4294967296)).length - 1 = ((lim (n / 4294967296)).length - 1) + 1 := by simp; omega
        rw [e]
        exact h1
  exact key h
theorem lim_of_norm {l : List Int} (h : U l) (hn : 0 < l.length → l.getD (l.length - 1) 0 ≠ 0) : lim (val l) = l := by
  induction l with
  | nil => simp
  | cons x l ih =>
    obtain ⟨h1, h2⟩ := U_cons.1 h
    have h0 := val_nonneg h2
    have hpos : 0 < val (x :: l) := by
      rw [val_cons]
      cases l with
      | nil => have := hn (by simp); simp at this; simp; omega
      | cons y l =>
        have h3 := ih h2 (fun _ => hn (by simp))
        by_cases hz : val (y :: l) = 0
        · rw [hz] at h3; simp at h3
        · omega
    rw [lim_pos hpos, val_cons]
    have e1 : (x + 4294967296 * val l) % 4294967296 = x := by omega
    have e2 : (x + 4294967296 * val l) / 4294967296 = val l := by omega
    rw [e1, e2, ih h2]
    intro hl
    have := hn (by simp)
    rw [List.length_cons, Nat.add_sub_cancel] at this
    obtain ⟨m, hm⟩ : ∃ m, l.length = m + 1 := ⟨l.length - 1, by omega⟩
    rw [hm] at this ⊢
    exact this
theorem lim_inj {a b : Int} (ha : 0 ≤ a) (hb : 0 ≤ b) (h : lim a = lim b) : a = b := by
  rw [← val_lim ha, ← val_lim hb, h]
/-- A list whose last limb is nought has the value of what is ahead of it. -/
theorem val_take_last {l : List Int} (h0 : 0 < l.length) (hz : l.getD (l.length - 1) 0 = 0) : val (l.take (l.length - 1)) = val l := by
  have h1 := val_take_succ (l := l) (i := l.length - 1) (by omega)
  rw [hz, show l.length - 1 + 1 = l.length by omega, List.take_length] at h1
  omega
theorem U_ext {a b : List Int} (ha : U a) (hb : U b) (hl : a.length = b.length) (hv : val a = val b) : a = b := by
  induction a generalizing b with
  | nil => cases b with
    | nil => rfl
    | cons _ _ => simp at hl
  | cons x a ih => cases b with
    | nil => simp at hl
    | cons y b =>
      obtain ⟨h1, h2⟩ := U_cons.1 ha
      obtain ⟨h3, h4⟩ := U_cons.1 hb
      rw [val_cons, val_cons] at hv
      have e1 : x = y := by omega
      have e2 : val a = val b := by omega
      rw [e1, ih h2 h4 (by simpa using hl) e2]
/-- Order: the highest limb that parts. -/
theorem val_lt_top {a b : List Int} {k : Nat} (ha : U a) (hb : U b) (hka : k < a.length) (hkb : k < b.length) (hd : a.drop (k + 1) = b.drop (k + 1)) (hlt : a.getD k 0 < b.getD k 0) : val a < val b := by
  rw [val_split a k (by omega), val_split b k (by omega), val_drop hka, val_drop hkb, hd]
  have h1 := val_lt (U_take ha k)
  have h2 := val_nonneg (U_take hb k)
  rw [List.length_take, Nat.min_eq_left (by omega)] at h1
  have h3 : pw k * (a.getD k 0 + 1) ≤ pw k * b.getD k 0 := Int.mul_le_mul_of_nonneg_left (by omega) (by have := pw_pos k; omega)
  grind
theorem lim_len_lt {a b : Int} (ha : 0 ≤ a) (h : (lim a).length < (lim b).length) : a < b := by
  by_cases hq : a < b
  · exact hq
  · have hb : b < pw (lim a).length := by
      have := val_lt (U_lim ha)
      rw [val_lim ha] at this
      omega
    by_cases hb0 : 0 ≤ b
    · have := lim_len hb0 _ hb
      omega
    · have hz : b.toNat = 0 := by omega
      unfold lim at h
      rw [hz, limN_zero] at h
      simp at h

theorem w64 {x : Int} (h0 : -9223372036854775808 ≤ x) (h1 : x < 9223372036854775808) : wrap64 x = x := by unfold wrap64; omega
theorem w64_succ {i : Nat} (h : i < 4611686018427387904) : wrap64 ((i : Int) + 1) = ((i + 1 : Nat) : Int) := by rw [w64 (by omega) (by omega)]; omega
theorem w64_nat {i : Nat} (h : i < 9223372036854775808) : wrap64 (i : Int) = (i : Int) := w64 (by omega) (by omega)
theorem w64_add {i j : Nat} (h : i + j < 9223372036854775808) : wrap64 ((i : Int) + (j : Int)) = ((i + j : Nat) : Int) := by rw [w64 (by omega) (by omega)]; omega
theorem w64_sub {i j : Nat} (h : j ≤ i) (h2 : i < 9223372036854775808) : wrap64 ((i : Int) - (j : Int)) = ((i - j : Nat) : Int) := by rw [w64 (by omega) (by omega)]; omega
theorem w64_pred {i : Nat} (h : 0 < i) (h2 : i < 9223372036854775808) : wrap64 ((i : Int) - 1) = ((i - 1 : Nat) : Int) := by rw [w64 (by omega) (by omega)]; omega
theorem u64w {x : Int} (h0 : 0 ≤ x) (h1 : x < 18446744073709551616) : IntKind.u64.wrap x = x := by
  simp only [IntKind.wrap, IntKind.signed, IntKind.bits]
  simp
  omega
theorem rd_eq (l : List Int) (i : Int) : rd l i = l.getD i.toNat 0 := rfl
/-- More rounds, from some number on. -/
theorem ev_succ {α : Type} {g : Nat → Option α} {r : α} (h : Ev (fun k => g (k + 1)) r) : Ev g r := by
  obtain ⟨K, h⟩ := h
  refine ⟨K + 1, fun k hk => ?_⟩
  obtain ⟨m, rfl⟩ : ∃ m, k = m + 1 := ⟨k - 1, by omega⟩
  exact h m (by omega)
theorem ev_const {α : Type} {x : Option α} {r : α} (h : x = some r) : Ev (fun _ => x) r := ⟨0, fun _ _ => h⟩
theorem ev_bind {α β : Type} {g : Nat → Option α} {f : Nat → α → Option β} {a : α} {r : β} (h : Ev g a) (k : Ev (fun n => f n a) r) : Ev (fun n => (g n).bind (f n)) r := Ev.bind h k
end Go.Proofs.YtaookeneeemfbaaDoor.T

namespace Go.Proofs.YtaookeneeemfbaaDoor.T
set_option linter.unusedVariables false
set_option linter.unusedSimpArgs false
open Go.RowKit Go.Proofs.YtaookeneeemfbaaDoorW.PrintWords Go.Proofs.YtaookeneeemfbaaDoorW.PrintMore Go.Proofs.YtaookeneeemfbaaDoor.PA

theorem cut_l0 : ∀ (n : Nat) (l : List Int), l.length = n → U l → n ≤ 1073741824 → ∃ K, ∀ k, K ≤ k → nat_cut.l0 k l = some (lim (val l)) := by
  intro n
  induction n using Nat.strongRecOn with
  | _ n ih =>
    intro l hn h hb
    by_cases h0 : 0 < l.length
    · have hw : wrap64 ((l.length : Int) - 1) = (l.length : Int) - 1 := w64 (by omega) (by omega)
      have ht : ((l.length : Int) - 1).toNat = l.length - 1 := by omega
      by_cases hz : l.getD (l.length - 1) 0 = 0
      · obtain ⟨K, hK⟩ := ih (l.length - 1) (by omega) (l.take (l.length - 1)) (by simp) (U_take h _) (by omega)
        refine ⟨K + 1, fun k hk => ?_⟩
        obtain ⟨k, rfl⟩ : ∃ m, k = m + 1 := ⟨k - 1, by omega⟩
        simp only [nat_cut.l0, hw, rd_eq, ht]
        rw [if_pos (by omega), if_pos (by omega), if_pos (by omega), if_pos hz, if_pos (by omega), hK k (by omega), val_take_last h0 hz]
      · refine ⟨1, fun k hk => ?_⟩
        obtain ⟨k, rfl⟩ : ∃ m, k = m + 1 := ⟨k - 1, by omega⟩
        simp only [nat_cut.l0, hw, rd_eq, ht]
        rw [if_pos (by omega), if_pos (by omega), if_pos (by omega), if_neg hz, lim_of_norm h (fun _ => hz)]
    · refine ⟨1, fun k hk => ?_⟩
      obtain ⟨k, rfl⟩ : ∃ m, k = m + 1 := ⟨k - 1, by omega⟩
      simp only [nat_cut.l0]
      rw [if_neg (by omega)]
      have : l = [] := List.eq_nil_of_length_eq_zero (by omega)
      subst this
      simp
theorem cut_ev (l : List Int) (h : U l) (hb : l.length ≤ 1073741824) : ∃ K, ∀ k, K ≤ k → nat_cut.f k l = some (lim (val l)) := cut_l0 _ l rfl h hb
theorem cuto_l0 (l : List Int) (k : Nat) : nat_cut_own.l0 k l = nat_cut.l0 k l := by
  induction k generalizing l with
  | zero => rfl
  | succ k ih => simp only [nat_cut_own.l0, nat_cut.l0, ih]
theorem cuto_ev (l : List Int) (h : U l) (hb : l.length ≤ 1073741824) : ∃ K, ∀ k, K ≤ k → nat_cut_own.f k l = some (lim (val l)) := by
  obtain ⟨K, hK⟩ := cut_ev l h hb
  exact ⟨K, fun k hk => (cuto_l0 l k).trans (hK k hk)⟩
theorem clone_eq (l : List Int) (hb : l.length ≤ 1073741824) : slices_Clone_uint32_uint32.f l = some l := by
  unfold slices_Clone_uint32_uint32.f
  rw [if_pos (by omega)]
theorem trim_ev (l : List Int) (h : U l) (hb : l.length ≤ 1073741824) : ∃ K, ∀ k, K ≤ k → nat_Trim.f k l = some (lim (val l)) := by
  obtain ⟨K, hK⟩ := cut_ev l h hb
  refine ⟨K, fun k hk => ?_⟩
  have h1 := lim_len (val_nonneg h) l.length (val_lt h)
  unfold nat_Trim.f
  rw [hK k hk]
  simp only [Option.bind_some]
  rw [clone_eq _ (by omega)]
  rfl

/-- -1, 0 or 1. -/
def sgn (x : Int) : Int := if x < 0 then -1 else if 0 < x then 1 else 0
theorem sgn_neg {x : Int} (h : x < 0) : sgn x = -1 := by simp [sgn, h]
theorem sgn_pos {x : Int} (h : 0 < x) : sgn x = 1 := by unfold sgn; rw [if_neg (by omega), if_pos h]
theorem sgn_zero : sgn 0 = 0 := rfl
theorem cmp_l0 (a b : List Int) (ha : U a) (hb : U b) (hl : a.length = b.length) (hc : a.length ≤ 1073741824) (d : Nat) :
    ∀ (i : Nat), i ≤ a.length → a.length - i = d → a.drop (a.length - i) = b.drop (a.length - i) → ∃ K, ∀ k, K ≤ k → nat_Cmp.l0 k a b (a.length : Int) (i : Int) = some (sgn (val a - val b)) := by
  induction d with
  | zero =>
    intro i hi hd he
    refine ⟨1, fun k hk => ?_⟩
    obtain ⟨k, rfl⟩ : ∃ m, k = m + 1 := ⟨k - 1, by omega⟩
    simp only [nat_Cmp.l0]
    rw [if_neg (by omega)]
    rw [show a.length - i = 0 by omega, List.drop_zero, List.drop_zero] at he
    rw [he, Int.sub_self, sgn_zero]
  | succ d ih =>
    intro i hi hd he
    have w1 : wrap64 ((a.length : Int) - 1) = (a.length : Int) - 1 := w64 (by omega) (by omega)
    have w2 : wrap64 ((a.length : Int) - 1 - i) = (a.length : Int) - 1 - i := w64 (by omega) (by omega)
    have w3 : wrap64 ((i : Int) + 1) = ((i + 1 : Nat) : Int) := by rw [w64 (by omega) (by omega)]; omega
    have ht : ((a.length : Int) - 1 - i).toNat = a.length - (i + 1) := by omega
    have hs : a.length - (i + 1) + 1 = a.length - i := by omega
    rcases Int.lt_trichotomy (a.getD (a.length - (i + 1)) 0) (b.getD (a.length - (i + 1)) 0) with hlt | heq | hgt
    · refine ⟨1, fun k hk => ?_⟩
      obtain ⟨k, rfl⟩ : ∃ m, k = m + 1 := ⟨k - 1, by omega⟩
      have := val_lt_top ha hb (k := a.length - (i + 1)) (by omega) (by omega) (by rw [hs]; exact he) hlt
      simp only [nat_Cmp.l0, w1, w2, w3, rd_eq, ht]
      rw [if_pos (by omega), if_pos (by omega), if_pos (by omega), if_pos (by omega), if_pos hlt, sgn_neg (by omega)]
    · obtain ⟨K, hK⟩ := ih (i + 1) (by omega) (by omega) (by rw [drop_eq (by omega), drop_eq (l := b) (by omega), heq, hs, he])
      refine ⟨K + 1, fun k hk => ?_⟩
      obtain ⟨k, rfl⟩ : ∃ m, k = m + 1 := ⟨k - 1, by omega⟩
      simp only [nat_Cmp.l0, w1, w2, w3, rd_eq, ht]
      rw [if_pos (by omega), if_pos (by omega), if_pos (by omega), if_pos (by omega), if_neg (by omega)]
      rw [if_neg (by omega)]
      exact hK k (by omega)
    · refine ⟨1, fun k hk => ?_⟩
      obtain ⟨k, rfl⟩ : ∃ m, k = m + 1 := ⟨k - 1, by omega⟩
      have := val_lt_top hb ha (k := a.length - (i + 1)) (by omega) (by omega) (by rw [hs]; exact he.symm) hgt
      simp only [nat_Cmp.l0, w1, w2, w3, rd_eq, ht]
      rw [if_pos (by omega), if_pos (by omega), if_pos (by omega), if_pos (by omega), if_neg (by omega)]
      rw [if_pos (by omega), sgn_pos (by omega)]
theorem cmp_ev (a b : List Int) (ha : U a) (hb : U b) (hla : a.length ≤ 1073741824) (hlb : b.length ≤ 1073741824) : ∃ K, ∀ k, K ≤ k → nat_Cmp.f k a b = some (sgn (val a - val b)) := by
  obtain ⟨K1, h1⟩ := cut_ev a ha hla
  obtain ⟨K2, h2⟩ := cut_ev b hb hlb
  have na := val_nonneg ha
  have nb := val_nonneg hb
  have la := lim_len na a.length (val_lt ha)
  have lb := lim_len nb b.length (val_lt hb)
  rcases Nat.lt_trichotomy (lim (val a)).length (lim (val b)).length with hlt | heq | hgt
  · refine ⟨K1 + K2, fun k hk => ?_⟩
    have := lim_len_lt na hlt
    unfold nat_Cmp.f
    rw [h1 k (by omega), Option.bind_some, h2 k (by omega), Option.bind_some, if_pos (by omega), sgn_neg (by omega)]
  · obtain ⟨K3, h3⟩ := cmp_l0 (lim (val a)) (lim (val b)) (U_lim na) (U_lim nb) heq (by omega) _ 0 (by omega) rfl (by simp [heq])
    refine ⟨K1 + K2 + K3, fun k hk => ?_⟩
    have h4 := h3 k (by omega)
    rw [val_lim na, val_lim nb] at h4
    unfold nat_Cmp.f
    rw [h1 k (by omega), Option.bind_some, h2 k (by omega), Option.bind_some, if_neg (by omega), if_neg (by omega)]
    exact h4
  · refine ⟨K1 + K2, fun k hk => ?_⟩
    have := lim_len_lt nb hgt
    unfold nat_Cmp.f
    rw [h1 k (by omega), Option.bind_some, h2 k (by omega), Option.bind_some, if_neg (by omega), if_pos (by omega), sgn_pos (by omega)]

/-- How many bits a number has. -/
def bl (n : Int) : Int := if n ≤ 0 then 0 else (Nat.log2 n.toNat : Int) + 1
theorem bl_zero : bl 0 = 0 := rfl
theorem p2_pos (i : Nat) : (0 : Int) < 2 ^ i := Int.pow_pos (by decide)
theorem p2_succ (i : Nat) : (2 : Int) ^ (i + 1) = 2 * 2 ^ i := by rw [Int.pow_succ, Int.mul_comm]
theorem p2_add (i j : Nat) : (2 : Int) ^ (i + j) = 2 ^ i * 2 ^ j := Int.pow_add _ _ _
theorem p2_mono {i j : Nat} (h : i ≤ j) : (2 : Int) ^ i ≤ 2 ^ j := by
  obtain ⟨d, rfl⟩ := Nat.le.dest h
  rw [p2_add]
  have h1 := p2_pos i
  have h2 : (1 : Int) ≤ 2 ^ d := by have := p2_pos d; omega
  have := Int.mul_le_mul_of_nonneg_left h2 (c := 2 ^ i) (by omega)
  omega
theorem p2_lt {i j : Nat} (h : (2 : Int) ^ i < 2 ^ j) : i < j := by
  by_cases hq : i < j
  · exact hq
  · have := p2_mono (i := j) (j := i) (by omega)
    omega
theorem p2_limb (i : Nat) : pw i = 2 ^ (32 * i) := by
  rw [pw_eq, Int.pow_mul]
  rfl
theorem bl_pos {n : Int} (h : 0 < n) : 0 < bl n := by unfold bl; rw [if_neg (by omega)]; omega
theorem bl_nonneg (n : Int) : 0 ≤ bl n := by unfold bl; split <;> omega
theorem bl_ge {n : Int} (h : 0 < n) : (2 : Int) ^ (bl n - 1).toNat ≤ n := by
  obtain ⟨m, rfl⟩ : ∃ m : Nat, n = m := ⟨n.toNat, by omega⟩
  unfold bl
  rw [if_neg (by omega)]
  have := Nat.log2_self_le (n := m) (by omega)
  rw [Int.add_sub_cancel, Int.toNat_natCast, Int.toNat_natCast]
  exact_mod_cast this
theorem bl_lt {n : Int} (h : 0 ≤ n) : n < (2 : Int) ^ (bl n).toNat := by
  obtain ⟨m, rfl⟩ : ∃ m : Nat, n = m := ⟨n.toNat, by omega⟩
  unfold bl
  by_cases hm : m = 0
  · subst hm; decide
  · rw [if_neg (by omega)]
    have := Nat.lt_log2_self (n := m)
    have e : ((Nat.log2 (m : Int).toNat : Int) + 1).toNat = m.log2 + 1 := by rw [Int.toNat_natCast]; omega
    rw [e]
    exact_mod_cast this
theorem bl_eq {n : Int} {m : Nat} (h0 : (2 : Int) ^ m ≤ n) (h1 : n < 2 ^ (m + 1)) : bl n = (m : Int) + 1 := by
  have hp := p2_pos m
  have a := bl_ge (n := n) (by omega)
  have b := bl_lt (n := n) (by omega)
  have c := bl_pos (n := n) (by omega)
  have d := p2_lt (Int.lt_of_le_of_lt a h1)
  have e := p2_lt (Int.lt_of_le_of_lt h0 b)
  omega
theorem bl_le {n : Int} {m : Nat} (h1 : n < 2 ^ m) : bl n ≤ m := by
  by_cases h : 0 < n
  · have a := bl_ge h
    have d := p2_lt (Int.lt_of_le_of_lt a h1)
    omega
  · unfold bl; rw [if_pos (by omega)]; omega
theorem bl_shift {x : Int} (j : Nat) (h : 0 < x / 2 ^ j) : bl x = j + bl (x / 2 ^ j) := by
  have a := bl_ge h
  have b := bl_lt (n := x / 2 ^ j) (by omega)
  have c := bl_pos h
  have p := p2_pos j
  have h1 : (2 : Int) ^ (j + (bl (x / 2 ^ j) - 1).toNat) ≤ x := by
    rw [p2_add]
    have := Int.mul_le_mul_of_nonneg_left a (c := 2 ^ j) (by omega)
    have e := Int.mul_ediv_add_emod x (2 ^ j)
    have f := Int.emod_nonneg x (b := 2 ^ j) (by omega)
    omega
  have h2 : x < (2 : Int) ^ (j + (bl (x / 2 ^ j) - 1).toNat + 1) := by
    rw [show j + (bl (x / 2 ^ j) - 1).toNat + 1 = j + (bl (x / 2 ^ j)).toNat by omega, p2_add]
    have h3 : x / 2 ^ j + 1 ≤ 2 ^ (bl (x / 2 ^ j)).toNat := b
    have := Int.mul_le_mul_of_nonneg_left h3 (c := 2 ^ j) (by omega)
    have e := Int.mul_ediv_add_emod x (2 ^ j)
    have f := Int.emod_lt_of_pos x p
    rw [Int.mul_add] at this
    omega
  have := bl_eq h1 h2
  omega
def tab8 : ByteArray := ⟨#[0, 1, 2, 2, 3, 3, 3, 3, 4, 4, 4, 4, 4, 4, 4, 4, 5, 5, 5, 5, 5, 5, 5, 5, 5, 5, 5, 5, 5, 5, 5, 5, 6, 6, 6, 6, 6, 6, 6, 6, 6, 6, 6, 6, 6, 6, 6, 6, 6, 6, 6, 6, 6, 6, 6, 6, 6, 6, 6, 6, 6, 6, 6, 6, 7, 7, 7, 7, 7, 7, 7, 7, 7, 7, 7, 7, 7, 7, 7, 7, 7, 7, 7, 7, 7, 7, 7, 7, 7, 7, 7, 7, 7, 7, 7, 7, 7, 7, 7, 7, 7, 7, 7, 7, 7, 7, 7, 7, 7, 7, 7, 7, 7, 7, 7, 7, 7, 7, 7, 7, 7, 7, 7, 7, 7, 7, 7, 7, 8, 8, 8, 8, 8, 8, 8, 8, 8, 8, 8, 8, 8, 8, 8, 8, 8, 8, 8, 8, 8, 8, 8, 8, 8, 8, 8, 8, 8, 8, 8, 8, 8, 8, 8, 8, 8, 8, 8, 8, 8, 8, 8, 8, 8, 8, 8, 8, 8, 8, 8, 8, 8, 8, 8, 8, 8, 8, 8, 8, 8, 8, 8, 8, 8, 8, 8, 8, 8, 8, 8, 8, 8, 8, 8, 8, 8, 8, 8, 8, 8, 8, 8, 8, 8, 8, 8, 8, 8, 8, 8, 8, 8, 8, 8, 8, 8, 8, 8, 8, 8, 8, 8, 8, 8, 8, 8, 8, 8, 8, 8, 8, 8, 8, 8, 8, 8, 8, 8, 8, 8, 8, 8, 8, 8, 8, 8, 8]⟩
theorem tab8_fin : ∀ i : Fin 256, bt tab8 (i.val : Int) = bl (i.val : Int) := by decide +kernel
theorem tab8_eq {x : Int} (h0 : 0 ≤ x) (h1 : x < 256) : bt tab8 x = bl x := by
  have := tab8_fin ⟨x.toNat, by omega⟩
  simp only at this
  rw [show ((x.toNat : Nat) : Int) = x by omega] at this
  exact this
theorem len32 {x : Int} (h0 : 0 ≤ x) (h1 : x < 4294967296) : bits_Len32.f x = some (bl x) := by
  have b8 : ∀ y : Int, 0 ≤ y → y < 256 → bl y ≤ 8 := fun y _ hy => bl_le (m := 8) hy
  unfold bits_Len32.f
  change (if x ≥ 65536 then (if (x / 65536) ≥ 256 then (if 0 ≤ (((x / 65536) / 256) % 256) then (if (((x / 65536) / 256) % 256) < 256 then (some (wrap64 ((16 + 8) + (wrap64 (bt tab8 (((x / 65536) / 256) % 256)))))) else (none)) else (none)) else (if 0 ≤ ((x / 65536) % 256) then (if ((x / 65536) % 256) < 256 then (some (wrap64 (16 + (wrap64 (bt tab8 ((x / 65536) % 256)))))) else (none)) else (none))) else (if x ≥ 256 then (if 0 ≤ ((x / 256) % 256) then (if ((x / 256) % 256) < 256 then (some (wrap64 ((0 + 8) + (wrap64 (bt tab8 ((x / 256) % 256)))))) else (none)) else (none)) else (if 0 ≤ (x % 256) then (if (x % 256) < 256 then (some (wrap64 (0 + (wrap64 (bt tab8 (x % 256)))))) else (none)) else (none)))) = some (bl x)
  by_cases c1 : x ≥ 65536
  · rw [if_pos c1]
    by_cases c2 : x / 65536 ≥ 256
    · rw [if_pos c2, if_pos (by omega), if_pos (by omega)]
      have e : x / 65536 / 256 % 256 = x / 2 ^ 24 := by omega
      have e2 := bl_shift (x := x) 24 (by omega)
      have e3 := b8 (x / 2 ^ 24) (by omega) (by omega)
      have e4 := bl_nonneg (x / 2 ^ 24)
      rw [e, tab8_eq (by omega) (by omega), w64 (x := bl _) (by omega) (by omega), w64 (by omega) (by omega), e2]
      congr 1
    · rw [if_neg c2, if_pos (by omega), if_pos (by omega)]
      have e : x / 65536 % 256 = x / 2 ^ 16 := by omega
      have e2 := bl_shift (x := x) 16 (by omega)
      have e3 := b8 (x / 2 ^ 16) (by omega) (by omega)
      have e4 := bl_nonneg (x / 2 ^ 16)
      rw [e, tab8_eq (by omega) (by omega), w64 (x := bl _) (by omega) (by omega), w64 (by omega) (by omega), e2]
      congr 1
  · rw [if_neg c1]
    by_cases c2 : x ≥ 256
    · rw [if_pos c2, if_pos (by omega), if_pos (by omega)]
      have e : x / 256 % 256 = x / 2 ^ 8 := by omega
      have e2 := bl_shift (x := x) 8 (by omega)
      have e3 := b8 (x / 2 ^ 8) (by omega) (by omega)
      have e4 := bl_nonneg (x / 2 ^ 8)
      rw [e, tab8_eq (by omega) (by omega), w64 (x := bl _) (by omega) (by omega), w64 (by omega) (by omega), e2]
      congr 1
    · rw [if_neg c2, if_pos (by omega), if_pos (by omega)]
      have e : x % 256 = x := by omega
      have e3 := b8 x (by omega) (by omega)
      have e4 := bl_nonneg x
      rw [e, tab8_eq (by omega) (by omega), w64 (x := bl _) (by omega) (by omega), w64 (by omega) (by omega)]
      congr 1
      omega
/-- The value of the limbs: the highest one, and what is behind it. -/
theorem val_top {n : Int} (h : 0 < n) : n / pw ((lim n).length - 1) = (lim n).getD ((lim n).length - 1) 0 := by
  have hl : 0 < (lim n).length := List.length_pos_iff.2 (lim_ne_nil h)
  have hu := U_lim (n := n) (by omega)
  have e := val_split (lim n) ((lim n).length - 1) (by omega)
  rw [val_lim (by omega), val_drop (by omega), show (lim n).length - 1 + 1 = (lim n).length by omega, List.drop_length, val_nil] at e
  have h1 := val_lt (U_take hu ((lim n).length - 1))
  have h2 := val_nonneg (U_take hu ((lim n).length - 1))
  rw [List.length_take, Nat.min_eq_left (by omega)] at h1
  have hp := pw_pos ((lim n).length - 1)
  rw [Int.mul_zero, Int.add_zero] at e
  have key : ∀ (A p t : Int), 0 ≤ A → A < p → 0 < p → (A + p * t) / p = t := fun A p t a1 a2 a3 => by
    rw [Int.add_mul_ediv_left _ _ (by omega), Int.ediv_eq_zero_of_lt a1 a2]
    omega
  have e5 := key _ _ ((lim n).getD ((lim n).length - 1) 0) h2 h1 hp
  rw [← e] at e5
  exact e5
theorem len_ev (l : List Int) (h : U l) (hb : l.length ≤ 1073741824) : ∃ K, ∀ k, K ≤ k → nat_Len.f k l = some (bl (val l)) := by
  obtain ⟨K, hK⟩ := cut_ev l h hb
  have hn := val_nonneg h
  have hl := lim_len hn l.length (val_lt h)
  have hz := lim_nil_iff hn
  refine ⟨K, fun k hk => ?_⟩
  unfold nat_Len.f
  rw [hK k hk, Option.bind_some]
  by_cases h0 : val l = 0
  · rw [if_pos (by have := hz.2 h0; omega), h0]
    rfl
  · have h1 : 0 < (lim (val l)).length := by
      by_cases hq : (lim (val l)).length = 0
      · exact absurd (hz.1 hq) h0
      · omega
    have hpos : 0 < val l := by omega
    have hw : wrap64 (((lim (val l)).length : Int) - 1) = ((lim (val l)).length : Int) - 1 := w64 (by omega) (by omega)
    have ht : (((lim (val l)).length : Int) - 1).toNat = (lim (val l)).length - 1 := by omega
    have hu := U_getD (U_lim hn) ((lim (val l)).length - 1)
    have hlast := lim_last hpos
    rw [if_neg (by omega)]
    simp only [hw, rd_eq, ht]
    rw [if_pos (by omega), if_pos (by omega), len32 hu.1 hu.2, Option.bind_some]
    have e1 := val_top hpos
    have e2 := bl_shift (x := val l) (32 * ((lim (val l)).length - 1)) (by rw [← p2_limb, e1]; omega)
    rw [← p2_limb, e1] at e2
    have e3 := bl_le (n := (lim (val l)).getD ((lim (val l)).length - 1) 0) (m := 32) hu.2
    have e4 := bl_nonneg ((lim (val l)).getD ((lim (val l)).length - 1) 0)
    rw [w64 (x := 32 * _) (by omega) (by omega), w64 (by omega) (by omega), e2]
    congr 1
    omega
end Go.Proofs.YtaookeneeemfbaaDoor.T

namespace Go.Proofs.YtaookeneeemfbaaDoor.T
set_option linter.unusedVariables false
set_option linter.unusedSimpArgs false
open Go.RowKit Go.Proofs.YtaookeneeemfbaaDoorW.PrintWords Go.Proofs.YtaookeneeemfbaaDoorW.PrintMore Go.Proofs.YtaookeneeemfbaaDoor.PA

theorem val_full {l : List Int} {n : Nat} (h : l.length = n + 1) : val l = val (l.take n) + pw n * l.getD n 0 := by
  have := val_take_succ (l := l) (i := n) (by omega)
  rw [← h, List.take_length] at this
  exact this
theorem take_out (l : List Int) (i : Nat) (h : l.length ≤ i) : l.take i = l := List.take_of_length_le h
theorem getD_out (l : List Int) (i : Nat) (h : l.length ≤ i) : l.getD i 0 = 0 := by
  rw [List.getD_eq_getElem?_getD, List.getElem?_eq_none h]
  rfl
theorem val_take_succ' (l : List Int) (i : Nat) : val (l.take (i + 1)) = val (l.take i) + pw i * l.getD i 0 := by
  by_cases h : i < l.length
  · exact val_take_succ h
  · rw [take_out l _ (by omega), take_out l _ (by omega), getD_out l i (by omega), Int.mul_zero, Int.add_zero]
theorem val_set_take {l : List Int} {i : Nat} (h : i < l.length) (x : Int) : val ((l.set i x).take (i + 1)) = val (l.take i) + pw i * x := by
  rw [val_take_succ (by simpa using h), take_set, getD_set_self h]

theorem add32 {x y c : Int} (hx : 0 ≤ x ∧ x < 4294967296) (hy : 0 ≤ y ∧ y < 4294967296) (hc : 0 ≤ c ∧ c ≤ 1) : bits_Add32.f x y c = some ((x + y + c) % 4294967296, (x + y + c) / 4294967296) := by
  unfold bits_Add32.f
  rw [u64w (x := x) (by omega) (by omega), u64w (x := y) (by omega) (by omega), u64w (x := c) (by omega) (by omega), u64w (x := x + y) (by omega) (by omega), u64w (x := x + y + c) (by omega) (by omega), show (x + y + c) / 4294967296 % 4294967296 = (x + y + c) / 4294967296 by omega]

theorem step_add {P A A1 B1 c x y r q : Int} (e : r + 4294967296 * q = x + y + c) (he : A + P * c = A1 + B1) : A + P * r + 4294967296 * P * q = A1 + P * x + (B1 + P * y) := by
  have h : P * (r + 4294967296 * q) = P * (x + y + c) := by rw [e]
  grind
theorem step_sub {P A A1 B1 c x y r q : Int} (e : r + 4294967296 * q = x - y - c) (he : A - P * c = A1 - B1) : A + P * r - 4294967296 * P * (-q) = A1 + P * x - (B1 + P * y) := by
  have h : P * (r + 4294967296 * q) = P * (x - y - c) := by rw [e]
  grind
theorem add_l0 (a b : List Int) (ha : U a) (hb : U b) (hl : b.length ≤ a.length) (hc : a.length ≤ 1073741823) (d : Nat) :
    ∀ (i : Nat) (o : List Int) (c : Int), i ≤ a.length → a.length - i = d → U o → o.length = a.length + 1 → 0 ≤ c ∧ c ≤ 1 → val (o.take i) + pw i * c = val (a.take i) + val (b.take i) →
      ∃ K, ∀ k, K ≤ k → nat_Add.l0 k a b o c (a.length : Int) (i : Int) = some (lim (val a + val b)) := by
  induction d with
  | zero =>
    intro i o c hi hd ho hol hcc he
    obtain rfl : i = a.length := by omega
    have hu := U_set ho a.length (x := c) (by omega) (by omega)
    obtain ⟨K, hK⟩ := cuto_ev (o.set a.length c) hu (by simp; omega)
    have hv : val (o.set a.length c) = val a + val b := by
      rw [val_full (n := a.length) (by simpa using hol), take_set, getD_set_self (by omega), he, List.take_length, take_out b _ hl]
    refine ⟨K + 1, fun k hk => ?_⟩
    obtain ⟨k, rfl⟩ : ∃ m, k = m + 1 := ⟨k - 1, by omega⟩
    simp only [nat_Add.l0, Int.toNat_natCast]
    rw [if_neg (by omega), if_pos (by omega), if_pos (by omega), hK k (by omega), Option.bind_some, hv]
  | succ d ih =>
    intro i o c hi hd ho hol hcc he
    have hai := U_getD ha i
    have hbi := U_getD hb i
    have key : val ((o.set i ((a.getD i 0 + b.getD i 0 + c) % 4294967296)).take (i + 1)) + pw (i + 1) * ((a.getD i 0 + b.getD i 0 + c) / 4294967296) = val (a.take (i + 1)) + val (b.take (i + 1)) := by
      rw [val_set_take (by omega), val_take_succ', val_take_succ', pw_succ]
      exact step_add (Int.emod_add_mul_ediv (a.getD i 0 + b.getD i 0 + c) 4294967296) he
    obtain ⟨K, hK⟩ := ih (i + 1) (o.set i ((a.getD i 0 + b.getD i 0 + c) % 4294967296)) ((a.getD i 0 + b.getD i 0 + c) / 4294967296) (by omega) (by omega) (U_set ho i (by omega) (by omega)) (by simpa using hol) (by omega) key
    refine ⟨K + 1, fun k hk => ?_⟩
    obtain ⟨k, rfl⟩ : ∃ m, k = m + 1 := ⟨k - 1, by omega⟩
    simp only [nat_Add.l0, Int.toNat_natCast, rd_eq, w64_succ (show i < 4611686018427387904 by omega)]
    rw [if_pos (by omega)]
    by_cases hib : i < b.length
    · rw [if_pos (by omega), if_pos (by omega), if_pos (by omega), add32 hai hbi hcc, Option.bind_some]
      simp only
      rw [if_pos (by omega)]
      exact hK k (by omega)
    · have h5 := add32 hai hbi hcc
      have h6 := hK k (by omega)
      rw [getD_out b i (by omega)] at h5 h6
      rw [if_neg (by omega), if_pos (by omega), if_pos (by omega), h5, Option.bind_some]
      simp only
      rw [if_pos (by omega)]
      exact h6
theorem add_l1 (a b o : List Int) (c n i : Int) (k : Nat) : nat_Add.l1 k a b o c n i = nat_Add.l0 k a b o c n i := by
  induction k generalizing o c i with
  | zero => rfl
  | succ k ih => simp only [nat_Add.l1, nat_Add.l0, ih]
theorem add_ev (a b : List Int) (ha : U a) (hb : U b) (hla : a.length ≤ 1073741823) (hlb : b.length ≤ 1073741823) : ∃ K, ∀ k, K ≤ k → nat_Add.f k a b = some (lim (val a + val b)) := by
  unfold nat_Add.f
  by_cases hc : a.length < b.length
  · obtain ⟨K, hK⟩ := add_l0 b a hb ha (by omega) hlb _ 0 (List.replicate (b.length + 1) 0) 0 (by omega) rfl (U_replicate _) (by simp) (by omega) (by simp)
    refine ⟨K, fun k hk => ?_⟩
    simp only [w64_succ (show b.length < 4611686018427387904 by omega), Int.toNat_natCast]
    rw [if_pos (by omega), if_pos (by omega), if_pos (by omega), Int.add_comm (val a)]
    exact hK k hk
  · obtain ⟨K, hK⟩ := add_l0 a b ha hb (by omega) hla _ 0 (List.replicate (a.length + 1) 0) 0 (by omega) rfl (U_replicate _) (by simp) (by omega) (by simp)
    refine ⟨K, fun k hk => ?_⟩
    simp only [w64_succ (show a.length < 4611686018427387904 by omega), Int.toNat_natCast]
    rw [if_neg (by omega), if_pos (by omega), if_pos (by omega), add_l1]
    exact hK k hk

/-! bits -/
theorem bits_xor_gen (k : IntKind) (j : Nat) (hj : j ≤ k.bits) (hk : ∀ n : Int, 0 ≤ n → n < 2 ^ j → k.wrap n = n) (a b : Nat) (ha : a < 2 ^ j) (hb : b < 2 ^ j) :
    Go.bits .xor k a b = ((a ^^^ b : Nat) : Int) := by
  have hp : 2 ^ j ≤ 2 ^ k.bits := Nat.pow_le_pow_right (by decide) hj
  have ha' : a % 2 ^ k.bits = a := Nat.mod_eq_of_lt (Nat.lt_of_lt_of_le ha hp)
  have hb' : b % 2 ^ k.bits = b := Nat.mod_eq_of_lt (Nat.lt_of_lt_of_le hb hp)
  have cast : ∀ n : Nat, n < 2 ^ j → ((n : Nat) : Int) < 2 ^ j := fun n h => by exact_mod_cast h
  simp only [Go.bits, BitVec.ofInt_natCast, BitVec.toNat_xor, BitVec.toNat_ofNat, ha', hb']
  exact hk _ (Int.natCast_nonneg _) (cast _ (Nat.xor_lt_two_pow ha hb))
theorem wraps_u32 (n : Int) (h0 : 0 ≤ n) (h1 : n < 2 ^ 32) : IntKind.u32.wrap n = n := by rw [IntKind.wrap_u32]; omega
theorem bits_xor_nat (a b : Nat) (ha : a < 4294967296) (hb : b < 4294967296) : Go.bits .xor .u32 a b = ((a ^^^ b : Nat) : Int) := bits_xor_gen .u32 32 (by decide) wraps_u32 a b ha hb
theorem bits_or_comm (k : IntKind) (x y : Int) : Go.bits .or k x y = Go.bits .or k y x := by simp only [Go.bits, BitVec.or_comm]
theorem wraps_u64 (n : Int) (h0 : 0 ≤ n) (h1 : n < 2 ^ 64) : IntKind.u64.wrap n = n := u64w h0 (by omega)
theorem topb (n : Nat) (h : n < 4294967296) : n / 2147483648 = if n.testBit 31 = true then 1 else 0 := by
  rw [Nat.testBit_eq_decide_div_mod_eq]
  by_cases hq : n / 2 ^ 31 % 2 = 1
  · rw [decide_eq_true hq, if_pos rfl]; omega
  · rw [decide_eq_false hq, if_neg (by simp)]; omega
theorem topd (n : Nat) (h : n < 4294967296) : n.testBit 31 = decide (2147483648 ≤ n) := by
  rw [Nat.testBit_eq_decide_div_mod_eq]
  congr 1
  apply propext
  omega
theorem sub32 {x y c : Int} (hx : 0 ≤ x ∧ x < 4294967296) (hy : 0 ≤ y ∧ y < 4294967296) (hc : 0 ≤ c ∧ c ≤ 1) : bits_Sub32.f x y c = some ((x - y - c) % 4294967296, if x - y - c < 0 then 1 else 0) := by
  obtain ⟨X, rfl⟩ : ∃ n : Nat, x = n := ⟨x.toNat, by omega⟩
  obtain ⟨Y, rfl⟩ : ∃ n : Nat, y = n := ⟨y.toNat, by omega⟩
  obtain ⟨D, hD⟩ : ∃ n : Nat, (((X : Int) - Y) % 4294967296 - c) % 4294967296 = n := ⟨((((X : Int) - Y) % 4294967296 - c) % 4294967296).toNat, by omega⟩
  have hX : X < 4294967296 := by omega
  have hY : Y < 4294967296 := by omega
  have hDl : D < 4294967296 := by omega
  have hz := Nat.xor_lt_two_pow (n := 32) hX hY
  have hn : ∀ Z : Nat, Z < 4294967296 → (4294967295 ^^^ Z : Nat) < 4294967296 := fun Z h => Nat.xor_lt_two_pow (n := 32) (by decide) h
  have an := fun (p q : Nat) (hp : p < 4294967296) (hq : q < 4294967296) => bits_nat .u32 32 (by decide) wraps_u32 p q hp hq
  have al : ∀ p q : Nat, p < 4294967296 → q < 4294967296 → p &&& q < 4294967296 := fun p q _ hq => Nat.and_lt_two_pow (n := 32) p hq
  have ol : ∀ p q : Nat, p < 4294967296 → q < 4294967296 → p ||| q < 4294967296 := fun p q hp hq => Nat.or_lt_two_pow (n := 32) hp hq
  have c32 : ((4294967295 : Nat) : Int) = 4294967295 := rfl
  unfold bits_Sub32.f
  rw [hD, ← c32, bits_xor_nat _ _ (by decide) hX, bits_xor_nat X Y hX hY, bits_xor_nat _ _ (by decide) hz, (an _ _ (hn _ hX) hY).1, (an _ _ (hn _ hz) hDl).1, (an _ _ (al _ _ (hn _ hX) hY) (al _ _ (hn _ hz) hDl)).2]
  have e := topb _ (ol _ _ (al _ _ (hn _ hX) hY) (al _ _ (hn _ hz) hDl))
  simp only [Nat.testBit_or, Nat.testBit_and, Nat.testBit_xor, topd _ hX, topd _ hY, topd _ hDl, show Nat.testBit 4294967295 31 = true by decide] at e
  have e2 : ∀ n : Nat, ((n : Int) / 2147483648) = ((n / 2147483648 : Nat) : Int) := fun n => by omega
  rw [e2, e]
  have e3 : (X - Y - c) % 4294967296 = (D : Int) := by omega
  rw [e3]
  congr 2
  by_cases h1 : 2147483648 ≤ X <;> by_cases h2 : 2147483648 ≤ Y <;> by_cases h3 : 2147483648 ≤ D <;> simp only [h1, h2, h3, decide_true, decide_false, Bool.xor_true, Bool.xor_false, Bool.not_true, Bool.not_false, Bool.true_and, Bool.false_and, Bool.and_true, Bool.and_false, Bool.or_true, Bool.or_false, Bool.true_or, Bool.false_or, if_true, Bool.false_eq_true, if_false] <;> split <;> omega
theorem sub_l0 (a b : List Int) (ha : U a) (hb : U b) (hl : b.length ≤ a.length) (hc : a.length ≤ 1073741824) (hv : val b ≤ val a) (d : Nat) :
    ∀ (i : Nat) (o : List Int) (c : Int), i ≤ a.length → a.length - i = d → U o → o.length = a.length → 0 ≤ c ∧ c ≤ 1 → val (o.take i) - pw i * c = val (a.take i) - val (b.take i) →
      ∃ K, ∀ k, K ≤ k → nat_Sub.l0 k a b o c (a.length : Int) (i : Int) = some (lim (val a - val b), true) := by
  induction d with
  | zero =>
    intro i o c hi hd ho hol hcc he
    obtain rfl : i = a.length := by omega
    obtain ⟨K, hK⟩ := cuto_ev o ho (by omega)
    rw [List.take_length, take_out b _ hl, ← hol, List.take_length] at he
    have hlt := val_lt ho
    have hp := pw_pos o.length
    have hc0 : c = 0 := by
      rcases (show c = 0 ∨ c = 1 by omega) with h | h
      · exact h
      · subst h; omega
    subst hc0
    have hvo : val o = val a - val b := by omega
    refine ⟨K + 1, fun k hk => ?_⟩
    obtain ⟨k, rfl⟩ : ∃ m, k = m + 1 := ⟨k - 1, by omega⟩
    simp only [nat_Sub.l0]
    rw [if_neg (by omega), hK k (by omega), Option.bind_some, hvo]
  | succ d ih =>
    intro i o c hi hd ho hol hcc he
    have hai := U_getD ha i
    have hbi := U_getD hb i
    have hif : (if a.getD i 0 - b.getD i 0 - c < 0 then (1 : Int) else 0) = -((a.getD i 0 - b.getD i 0 - c) / 4294967296) := by split <;> omega
    have key : val ((o.set i ((a.getD i 0 - b.getD i 0 - c) % 4294967296)).take (i + 1)) - pw (i + 1) * (if a.getD i 0 - b.getD i 0 - c < 0 then 1 else 0) = val (a.take (i + 1)) - val (b.take (i + 1)) := by
      rw [val_set_take (by omega), val_take_succ', val_take_succ', pw_succ, hif]
      exact step_sub (Int.emod_add_mul_ediv (a.getD i 0 - b.getD i 0 - c) 4294967296) he
    obtain ⟨K, hK⟩ := ih (i + 1) (o.set i ((a.getD i 0 - b.getD i 0 - c) % 4294967296)) (if a.getD i 0 - b.getD i 0 - c < 0 then 1 else 0) (by omega) (by omega) (U_set ho i (by omega) (by omega)) (by simpa using hol) (by split <;> omega) key
    refine ⟨K + 1, fun k hk => ?_⟩
    obtain ⟨k, rfl⟩ : ∃ m, k = m + 1 := ⟨k - 1, by omega⟩
    simp only [nat_Sub.l0, Int.toNat_natCast, rd_eq, w64_succ (show i < 4611686018427387904 by omega)]
    rw [if_pos (by omega)]
    by_cases hib : i < b.length
    · rw [if_pos (by omega), if_pos (by omega), if_pos (by omega), sub32 hai hbi hcc, Option.bind_some]
      simp only
      rw [if_pos (by omega)]
      exact hK k (by omega)
    · have h5 := sub32 hai hbi hcc
      have h6 := hK k (by omega)
      rw [getD_out b i (by omega)] at h5 h6
      rw [if_neg (by omega), if_pos (by omega), if_pos (by omega), h5, Option.bind_some]
      simp only
      rw [if_pos (by omega)]
      exact h6
theorem lim_len_mono {a b : Int} (ha : 0 ≤ a) (h : a ≤ b) : (lim a).length ≤ (lim b).length := by
  by_cases hq : (lim b).length < (lim a).length
  · have := lim_len_lt (a := b) (b := a) (by omega) hq
    omega
  · omega
theorem sub_ev (a b : List Int) (ha : U a) (hb : U b) (hla : a.length ≤ 1073741824) (hlb : b.length ≤ 1073741824) : ∃ K, ∀ k, K ≤ k → nat_Sub.f k a b = some (if val a < val b then ([], false) else (lim (val a - val b), true)) := by
  have na := val_nonneg ha
  have nb := val_nonneg hb
  have la := lim_len na a.length (val_lt ha)
  have lb := lim_len nb b.length (val_lt hb)
  obtain ⟨K1, h1⟩ := cut_ev a ha hla
  obtain ⟨K2, h2⟩ := cut_ev b hb hlb
  obtain ⟨K3, h3⟩ := cmp_ev (lim (val a)) (lim (val b)) (U_lim na) (U_lim nb) (by omega) (by omega)
  rw [val_lim na, val_lim nb] at h3
  unfold nat_Sub.f
  by_cases hlt : val a < val b
  · refine ⟨K1 + K2 + K3, fun k hk => ?_⟩
    rw [h1 k (by omega), Option.bind_some, h2 k (by omega), Option.bind_some, h3 k (by omega), Option.bind_some, sgn_neg (by omega), if_pos (by omega), if_pos hlt]
  · have hm := lim_len_mono nb (show val b ≤ val a by omega)
    obtain ⟨K, hK⟩ := sub_l0 (lim (val a)) (lim (val b)) (U_lim na) (U_lim nb) hm (by omega) (by rw [val_lim na, val_lim nb]; omega) _ 0 (List.replicate (lim (val a)).length 0) 0 (by omega) rfl (U_replicate _) (by simp) (by omega) (by simp)
    refine ⟨K1 + K2 + K3 + K, fun k hk => ?_⟩
    have h4 := hK k (by omega)
    rw [val_lim na, val_lim nb] at h4
    have hs : ¬ sgn (val a - val b) < 0 := by unfold sgn; split <;> (try split) <;> omega
    rw [h1 k (by omega), Option.bind_some, h2 k (by omega), Option.bind_some, h3 k (by omega), Option.bind_some, if_neg hs, if_neg hlt, if_pos (by omega), if_pos (by omega), Int.toNat_natCast]
    exact h4
end Go.Proofs.YtaookeneeemfbaaDoor.T

namespace Go.Proofs.YtaookeneeemfbaaDoor.T
set_option linter.unusedVariables false
set_option linter.unusedSimpArgs false
open Go.RowKit Go.Proofs.YtaookeneeemfbaaDoorW.PrintWords Go.Proofs.YtaookeneeemfbaaDoorW.PrintMore Go.Proofs.YtaookeneeemfbaaDoor.PA

theorem mul_bound {x y : Int} (hx : 0 ≤ x ∧ x < 4294967296) (hy : 0 ≤ y ∧ y < 4294967296) : 0 ≤ x * y ∧ x * y ≤ 18446744065119617025 := by
  refine ⟨Int.mul_nonneg hx.1 hy.1, ?_⟩
  have h1 := Int.mul_le_mul (a := x) (b := y) (c := 4294967295) (d := 4294967295) (by omega) (by omega) hy.1 (by omega)
  omega
theorem step_mul {V P Q x y old c r q W S : Int} (e : r + 4294967296 * q = x * y + old + c) : V + P * Q * (r - old) + 4294967296 * (P * Q) * q + P * x * (W - (S + Q * y)) = V + P * Q * c + P * x * (W - S) := by
  have h : P * Q * (r + 4294967296 * q) = P * Q * (x * y + old + c) := by rw [e]
  grind
theorem mul_l1 (a b : List Int) (hb : U b) (i : Nat) (x : Int) (hx : 0 ≤ x ∧ x < 4294967296) (hi : i < 1073741824) (hlb : b.length ≤ 1073741824) (d : Nat) :
    ∀ (j : Nat) (o : List Int) (c : Int), j ≤ b.length → b.length - j = d → U o → i + b.length < o.length → 0 ≤ c ∧ c < 4294967296 → o.getD (i + b.length) 0 = 0 →
      ∃ o', U o' ∧ o'.length = o.length ∧ (∀ q, i + b.length < q → o'.getD q 0 = o.getD q 0) ∧ val o' = val o + pw (i + j) * c + pw i * x * (val b - val (b.take j)) ∧
        ∀ f, nat_Mul.l1 (f + d + 1) b o (i : Int) x c a (a.length : Int) (i : Int) b (b.length : Int) (j : Int) = nat_Mul.l0 f b o' a (a.length : Int) ((i + 1 : Nat) : Int) := by
  induction d with
  | zero =>
    intro j o c hj hd ho hol hc hz
    obtain rfl : j = b.length := by omega
    refine ⟨o.set (i + b.length) c, U_set ho _ hc.1 hc.2, by simp, fun q hq => getD_set_ne (by omega) c, ?_, fun f => ?_⟩
    · rw [val_set hol, hz, List.take_length]
      grind
    · simp only [nat_Mul.l1, w64_add (show i + b.length < 9223372036854775808 by omega), Int.toNat_natCast, w64_succ (show i < 4611686018427387904 by omega)]
      rw [if_neg (by omega), if_pos (by omega), if_pos (by omega), Int.emod_eq_of_lt hc.1 hc.2]
  | succ d ih =>
    intro j o c hj hd ho hol hc hz
    have hbj := U_getD hb j
    have hoj := U_getD ho (i + j)
    have hm := mul_bound hx hbj
    obtain ⟨n, hn⟩ : ∃ n, n = x * b.getD j 0 + o.getD (i + j) 0 + c := ⟨_, rfl⟩
    obtain ⟨o', h1, h2, h3, h4, h5⟩ := ih (j + 1) (o.set (i + j) (n % 4294967296)) (n / 4294967296) (by omega) (by omega) (U_set ho _ (by omega) (by omega)) (by simpa using hol) (by omega) (by rw [getD_set_ne (by omega)]; exact hz)
    refine ⟨o', h1, by simpa using h2, fun q hq => (h3 q hq).trans (getD_set_ne (by omega) _), ?_, fun f => ?_⟩
    · rw [h4, val_set (by omega), val_take_succ', show i + (j + 1) = (i + j) + 1 by omega, pw_succ, pw_add]
      exact step_mul (by rw [← hn]; exact Int.emod_add_mul_ediv n 4294967296)
    · rw [← h5 f]
      simp only [nat_Mul.l1, w64_add (show i + j < 9223372036854775808 by omega), Int.toNat_natCast, rd_eq, w64_succ (show j < 4611686018427387904 by omega), u64w hx.1 (show x < 18446744073709551616 by omega), u64w hbj.1 (show b.getD j 0 < 18446744073709551616 by omega), u64w hoj.1 (show o.getD (i + j) 0 < 18446744073709551616 by omega), u64w hm.1 (show x * b.getD j 0 < 18446744073709551616 by omega), u64w (show 0 ≤ x * b.getD j 0 + o.getD (i + j) 0 by omega) (show x * b.getD j 0 + o.getD (i + j) 0 < 18446744073709551616 by omega), ← hn, u64w (show 0 ≤ n by omega) (show n < 18446744073709551616 by omega)]
      rw [if_pos (by omega), if_pos (by omega), if_pos (by omega), if_pos (by omega), if_pos (by omega)]
      rfl
theorem mul_l0 (a b : List Int) (ha : U a) (hb : U b) (hl : a.length + b.length ≤ 1073741824) (d : Nat) :
    ∀ (i : Nat) (o : List Int), i ≤ a.length → a.length - i = d → U o → o.length = a.length + b.length → (∀ q, i + b.length ≤ q → o.getD q 0 = 0) → val o = val (a.take i) * val b →
      ∃ K, ∀ k, K ≤ k → nat_Mul.l0 k b o a (a.length : Int) (i : Int) = some (lim (val a * val b)) := by
  induction d with
  | zero =>
    intro i o hi hd ho hol hz hv
    obtain rfl : i = a.length := by omega
    obtain ⟨K, hK⟩ := cuto_ev o ho (by omega)
    rw [hv, List.take_length] at hK
    refine ⟨K + 1, fun k hk => ?_⟩
    obtain ⟨k, rfl⟩ : ∃ m, k = m + 1 := ⟨k - 1, by omega⟩
    simp only [nat_Mul.l0]
    rw [if_neg (by omega), hK k (by omega), Option.bind_some]
  | succ d ih =>
    intro i o hi hd ho hol hz hv
    obtain ⟨o', h1, h2, h3, h4, h5⟩ := mul_l1 a b hb i (a.getD i 0) (U_getD ha i) (by omega) (by omega) _ 0 o 0 (by omega) rfl ho (by omega) (by omega) (hz _ (by omega))
    have hv' : val o' = val (a.take (i + 1)) * val b := by
      rw [h4, hv, val_take_succ', List.take_zero, val_nil]
      grind
    obtain ⟨K, hK⟩ := ih (i + 1) o' (by omega) (by omega) h1 (by omega) (fun q hq => by rw [h3 q (by omega)]; exact hz q (by omega)) hv'
    refine ⟨K + (b.length + 1) + 1, fun k hk => ?_⟩
    obtain ⟨k, rfl⟩ : ∃ m, k = (m + b.length + 1) + 1 := ⟨k - b.length - 2, by omega⟩
    have h6 := h5 k
    simp only [nat_Mul.l0, rd_eq, Int.toNat_natCast]
    rw [if_pos (by omega), if_pos (by omega), if_pos (by omega)]
    simp only [Nat.sub_zero] at h6
    exact h6.trans (hK k (by omega))
theorem mul_ev (a b : List Int) (ha : U a) (hb : U b) (hl : a.length + b.length ≤ 1073741824) : ∃ K, ∀ k, K ≤ k → nat_Mul.f k a b = some (lim (val a * val b)) := by
  obtain ⟨K, hK⟩ := mul_l0 a b ha hb hl _ 0 (List.replicate (a.length + b.length) 0) (by omega) rfl (U_replicate _) (by simp) (fun q _ => by
    rw [List.getD_eq_getElem?_getD, List.getElem?_replicate]
    split <;> rfl) (by rw [val_replicate, List.take_zero, val_nil, Int.zero_mul])
  refine ⟨K, fun k hk => ?_⟩
  unfold nat_Mul.f
  simp only [w64_add (show a.length + b.length < 9223372036854775808 by omega), Int.toNat_natCast]
  rw [if_pos (by omega), if_pos (by omega)]
  exact hK k hk

/-! moves by bits -/
theorem shl_eq {x : Int} {s : Nat} (h0 : 0 ≤ x) (hs : s ≤ 32) (h1 : x < 4294967296) : shl .u64 x (s : Int) = x * 2 ^ s ∧ 0 ≤ x * 2 ^ s ∧ x * 2 ^ s < 18446744073709551616 := by
  have hp := p2_pos s
  have hm := p2_mono hs
  have h2 := Int.mul_nonneg h0 (show (0 : Int) ≤ 2 ^ s by omega)
  have h3 := Int.mul_le_mul (a := x) (b := 2 ^ s) (c := 4294967295) (d := 2 ^ 32) (by omega) hm (by omega) (by omega)
  have e : (4294967295 : Int) * 2 ^ 32 = 18446744069414584320 := by decide
  have h4 : x * 2 ^ s < 18446744073709551616 := by omega
  refine ⟨?_, h2, h4⟩
  unfold shl
  have hmn : min (s : Int).toNat IntKind.u64.bits = s := by
    have : IntKind.u64.bits = 64 := rfl
    rw [this, Int.toNat_natCast]
    omega
  rw [hmn, u64w h2 h4]
theorem or_low {i : Nat} {s m : Int} (hi : i ≤ 32) (h0 : 0 ≤ s) (h1 : s < 2 ^ i) (hm0 : 0 ≤ m) (hm1 : m < 4294967296) (hm : m % 2 ^ i = 0) : Go.bits .or .u32 s m = s + m := by
  have h2 : s < 2 ^ 32 := Int.lt_of_lt_of_le h1 (p2_mono hi)
  rw [bits_or_comm, bits_join .u32 32 (by decide) wraps_u32 i m s hm0 hm hm1 h0 h1 h2, Int.add_comm]
theorem or_zero {m : Int} (hm0 : 0 ≤ m) (hm1 : m < 4294967296) : Go.bits .or .u32 0 m = m := by
  have := bits_join .u32 32 (by decide) wraps_u32 32 0 m (by decide) (by decide) (by decide) hm0 hm1 hm1
  omega
theorem mod_mod_p2 {x : Int} {s : Nat} (hs : s ≤ 32) : (x * 2 ^ s) % 4294967296 % 2 ^ s = 0 := by
  have e : (4294967296 : Int) = 2 ^ s * 2 ^ (32 - s) := by rw [← p2_add, show s + (32 - s) = 32 by omega]; rfl
  rw [e, Int.emod_emod_of_dvd _ (Int.dvd_mul_right _ _), Int.mul_emod_left]
theorem div_p2_lt {x : Int} {s : Nat} (hs : s ≤ 32) (h0 : 0 ≤ x) (h1 : x < 4294967296) : x * 2 ^ s / 4294967296 < 2 ^ s := by
  have hp := p2_pos s
  rw [Int.ediv_lt_iff_lt_mul (by decide), Int.mul_comm]
  exact Int.mul_lt_mul_of_pos_left h1 hp
theorem step_shl {V P y q r a A T : Int} (e : r + 4294967296 * q = y) (hy : y = a * T) {L i : Int} (hP : P = L * i) (hV : V = L * T * A) : V + P * r + 4294967296 * P * q = L * T * (A + i * a) := by
  have h : P * (r + 4294967296 * q) = P * y := by rw [e]
  subst hP hy hV
  grind
theorem shl_l0 (a : List Int) (ha : U a) (L s : Nat) (hs : s < 32) (hl : a.length + L + 1 ≤ 1073741824) (d : Nat) :
    ∀ (i : Nat) (o : List Int), i ≤ a.length → a.length - i = d → U o → o.length = a.length + L + 1 → o.getD (i + L) 0 < 2 ^ s → (∀ q, i + L < q → o.getD q 0 = 0) → val o = pw L * 2 ^ s * val (a.take i) →
      ∃ K, ∀ k, K ≤ k → nat_Shl.l0 k (L : Int) (s : Int) o a (a.length : Int) (i : Int) = some (lim (val a * 2 ^ (32 * L + s))) := by
  induction d with
  | zero =>
    intro i o hi hd ho hol hsm hz hv
    obtain rfl : i = a.length := by omega
    obtain ⟨K, hK⟩ := cuto_ev o ho (by omega)
    rw [hv, List.take_length, p2_limb, ← p2_add, Int.mul_comm] at hK
    refine ⟨K + 1, fun k hk => ?_⟩
    obtain ⟨k, rfl⟩ : ∃ m, k = m + 1 := ⟨k - 1, by omega⟩
    simp only [nat_Shl.l0]
    rw [if_neg (by omega), hK k (by omega), Option.bind_some]
  | succ d ih =>
    intro i o hi hd ho hol hsm hz hv
    have hai := U_getD ha i
    have hoi := U_getD ho (i + L)
    obtain ⟨hsh, hy0, hy1⟩ := shl_eq hai.1 (show s ≤ 32 by omega) hai.2
    have hq := div_p2_lt (show s ≤ 32 by omega) hai.1 hai.2
    have hmm := mod_mod_p2 (x := a.getD i 0) (show s ≤ 32 by omega)
    obtain ⟨y, hy⟩ : ∃ y, y = a.getD i 0 * 2 ^ s := ⟨_, rfl⟩
    rw [← hy] at hsh hy0 hy1 hq hmm
    have hor := or_low (show s ≤ 32 by omega) hoi.1 hsm (show 0 ≤ y % 4294967296 by omega) (by omega) hmm
    have h32 := p2_mono (show s ≤ 32 by omega)
    have e32 : (2 : Int) ^ 32 = 4294967296 := rfl
    have hrange : o.getD (i + L) 0 + y % 4294967296 < 4294967296 := by
      have e : (4294967296 : Int) = 2 ^ s * 2 ^ (32 - s) := by rw [← p2_add, show s + (32 - s) = 32 by omega]; rfl
      have hp := p2_pos s
      have hd1 := Int.mul_ediv_add_emod (y % 4294967296) (2 ^ s)
      rw [hmm] at hd1
      have hlt : 2 ^ s * (y % 4294967296 / 2 ^ s) < 2 ^ s * 2 ^ (32 - s) := by omega
      have hlt2 := Int.lt_of_mul_lt_mul_left hlt (by omega)
      have := Int.mul_le_mul_of_nonneg_left (show y % 4294967296 / 2 ^ s + 1 ≤ 2 ^ (32 - s) by omega) (show (0 : Int) ≤ 2 ^ s by omega)
      rw [Int.mul_add] at this
      omega
    have hz1 : (o.set (i + L) (o.getD (i + L) 0 + y % 4294967296)).getD (i + L + 1) 0 = 0 := by rw [getD_set_ne (by omega)]; exact hz _ (by omega)
    have hor2 := or_zero (m := y / 4294967296) (by omega) (by omega)
    have hqm : y / 4294967296 % 4294967296 = y / 4294967296 := by omega
    obtain ⟨K, hK⟩ := ih (i + 1) ((o.set (i + L) (o.getD (i + L) 0 + y % 4294967296)).set (i + L + 1) (y / 4294967296)) (by omega) (by omega)
      (U_set (U_set ho _ (by omega) hrange) _ (by omega) (by omega)) (by simpa using hol)
      (by rw [show i + 1 + L = i + L + 1 by omega, getD_set_self (by simp; omega)]; exact hq)
      (fun q hq => by rw [getD_set_ne (by omega), getD_set_ne (by omega)]; exact hz _ (by omega))
      (by
        rw [val_set (by simp; omega), hz1, val_set (by omega), val_take_succ', pw_succ]
        rw [show o.getD (i + L) 0 + y % 4294967296 - o.getD (i + L) 0 = y % 4294967296 by omega, Int.sub_zero]
        exact step_shl (Int.emod_add_mul_ediv y 4294967296) hy (by rw [Nat.add_comm, pw_add]) hv)
    refine ⟨K + 1, fun k hk => ?_⟩
    obtain ⟨k, rfl⟩ : ∃ m, k = m + 1 := ⟨k - 1, by omega⟩
    simp only [nat_Shl.l0, w64_add (show i + L < 9223372036854775808 by omega), w64_succ (show i + L < 4611686018427387904 by omega), w64_succ (show i < 4611686018427387904 by omega), Int.toNat_natCast, rd_eq, u64w hai.1 (show a.getD i 0 < 18446744073709551616 by omega), hsh, hor, Option.bind_some]
    simp only [hz1, hor2, hqm]
    rw [if_pos (by omega), if_pos (by omega), if_pos (by omega), if_pos (by omega), if_pos (by omega), if_pos (by omega), if_pos (by omega), if_pos (by omega)]
    exact hK k (by omega)
/-- A number moved up. -/
def shlv (v n : Int) : Int := if n < 1 then v else if n > 16777216 then 0 else v * 2 ^ n.toNat
theorem shl_ev (a : List Int) (n : Int) (ha : U a) (hl : a.length ≤ 536870912) : ∃ K, ∀ k, K ≤ k → nat_Shl.f k a n = some (lim (shlv (val a) n)) := by
  have na := val_nonneg ha
  have la := lim_len na a.length (val_lt ha)
  obtain ⟨K1, h1⟩ := cut_ev a ha (by omega)
  unfold shlv nat_Shl.f
  by_cases c1 : n < 1
  · refine ⟨K1, fun k hk => ?_⟩
    rw [h1 k hk, Option.bind_some, if_pos c1, if_pos c1, clone_eq _ (by omega), Option.bind_some]
  · by_cases c2 : n > 16777216
    · refine ⟨K1, fun k hk => ?_⟩
      rw [h1 k hk, Option.bind_some, if_neg c1, if_neg c1, if_pos c2, if_pos c2, lim_zero]
    · by_cases c3 : val a = 0
      · refine ⟨K1, fun k hk => ?_⟩
        rw [h1 k hk, Option.bind_some, if_neg c1, if_neg c1, if_neg c2, if_neg c2, c3, lim_zero, Int.zero_mul, lim_zero]
        rfl
      · obtain ⟨m, rfl⟩ : ∃ m : Nat, n = m := ⟨n.toNat, by omega⟩
        obtain ⟨K, hK⟩ := shl_l0 (lim (val a)) (U_lim na) (m / 32) (m % 32) (by omega) (by omega) _ 0 (List.replicate ((lim (val a)).length + m / 32 + 1) 0) (by omega) rfl (U_replicate _) (by simp)
          (by
            have := p2_pos (m % 32)
            rw [List.getD_eq_getElem?_getD, List.getElem?_replicate]
            split <;> exact this)
          (fun q _ => by
            rw [List.getD_eq_getElem?_getD, List.getElem?_replicate]
            split <;> rfl)
          (by rw [val_replicate, List.take_zero, val_nil, Int.mul_zero])
        refine ⟨K1 + K, fun k hk => ?_⟩
        have h2 := hK k (by omega)
        rw [val_lim na, show 32 * (m / 32) + m % 32 = m by omega] at h2
        have hne : ((lim (val a)).length : Int) ≠ 0 := fun h => c3 ((lim_nil_iff na).1 (by omega))
        rw [h1 k (by omega), Option.bind_some, if_neg c1, if_neg c1, if_neg c2, if_neg c2, if_neg hne]
        simp only [Int.tdiv_eq_ediv_of_nonneg (show (0 : Int) ≤ (m : Int) by omega), Int.tmod_eq_emod_of_nonneg (show (0 : Int) ≤ (m : Int) by omega), show (m : Int) / 32 = ((m / 32 : Nat) : Int) by omega, show (m : Int) % 32 = ((m % 32 : Nat) : Int) by omega, w64_nat (show m / 32 < 9223372036854775808 by omega), w64_add (show (lim (val a)).length + m / 32 < 9223372036854775808 by omega), w64_succ (show (lim (val a)).length + m / 32 < 4611686018427387904 by omega), Int.toNat_natCast]
        rw [if_pos (by omega), if_pos (by omega)]
        exact h2

theorem val_div {l : List Int} (h : U l) {i : Nat} (hi : i ≤ l.length) : val l / pw i = val (l.drop i) := by
  have e := val_split l i hi
  have h1 := val_lt (U_take h i)
  have h2 := val_nonneg (U_take h i)
  rw [List.length_take, Nat.min_eq_left hi] at h1
  have hp := pw_pos i
  have key : ∀ (A p t : Int), 0 ≤ A → A < p → 0 < p → (A + p * t) / p = t := fun A p t a1 a2 a3 => by
    rw [Int.add_mul_ediv_left _ _ (by omega), Int.ediv_eq_zero_of_lt a1 a2]
    omega
  have e5 := key _ _ (val (l.drop i)) h2 h1 hp
  rw [← e] at e5
  exact e5
theorem val_drop' (l : List Int) (i : Nat) : val (l.drop i) = l.getD i 0 + 4294967296 * val (l.drop (i + 1)) := by
  by_cases h : i < l.length
  · exact val_drop h
  · rw [List.drop_of_length_le (by omega), List.drop_of_length_le (by omega), getD_out l i (by omega)]
    rfl
theorem digit {x0 x1 R : Int} {s : Nat} (hs : s ≤ 32) : (x0 + 4294967296 * (x1 + 4294967296 * R)) / 2 ^ s % 4294967296 = (x0 + x1 * 4294967296) / 2 ^ s % 4294967296 := by
  have e : (4294967296 : Int) = 2 ^ s * 2 ^ (32 - s) := by rw [← p2_add, show s + (32 - s) = 32 by omega]; rfl
  have hp := p2_pos s
  have e2 : x0 + 4294967296 * (x1 + 4294967296 * R) = (x0 + x1 * 4294967296) + 2 ^ s * (4294967296 * (2 ^ (32 - s) * R)) := by
    have : 4294967296 * (4294967296 * R) = 4294967296 * (2 ^ s * 2 ^ (32 - s) * R) := by rw [← e]
    grind
  rw [e2, Int.add_mul_ediv_left _ _ (by omega), Int.add_mul_emod_self_left]
theorem emod_succ (X P : Int) (hP : 0 < P) : X % (4294967296 * P) = X % P + P * (X / P % 4294967296) := by
  have e1 := Int.mul_ediv_add_emod X P
  have e2 := Int.mul_ediv_add_emod (X / P) 4294967296
  have b1 := Int.emod_nonneg X (b := P) (by omega)
  have b2 := Int.emod_lt_of_pos X hP
  have b3 : 0 ≤ X / P % 4294967296 := by omega
  have b4 : X / P % 4294967296 ≤ 4294967295 := by omega
  have e3 : X = (X % P + P * (X / P % 4294967296)) + 4294967296 * P * (X / P / 4294967296) := by
    have : P * (4294967296 * (X / P / 4294967296) + X / P % 4294967296) = P * (X / P) := by rw [e2]
    grind
  have b5 := Int.mul_nonneg (show 0 ≤ P by omega) b3
  have b6 := Int.mul_le_mul_of_nonneg_left b4 (show 0 ≤ P by omega)
  conv => lhs; rw [e3]
  rw [Int.add_mul_emod_self_left, Int.emod_eq_of_lt (by omega) (by omega)]
theorem shr_eq {x : Int} {s : Nat} (hs : s ≤ 64) : shr .u64 x (s : Int) = x / 2 ^ s := by
  unfold shr
  have hmn : min (s : Int).toNat IntKind.u64.bits = s := by
    have : IntKind.u64.bits = 64 := rfl
    rw [this, Int.toNat_natCast]
    omega
  rw [hmn]
theorem getD_drop (l : List Int) (L i : Nat) : (l.drop L).getD i 0 = l.getD (L + i) 0 := by
  rw [List.getD_eq_getElem?_getD, List.getElem?_drop, List.getD_eq_getElem?_getD]
/-- A limb of a number that is moved down. -/
theorem shr_digit {d : List Int} (hd : U d) {i : Nat} (hi : i ≤ d.length) {s : Nat} (hs : s ≤ 32) : val d / 2 ^ s / pw i % 4294967296 = (d.getD i 0 + d.getD (i + 1) 0 * 4294967296) / 2 ^ s % 4294967296 := by
  rw [Int.ediv_ediv_of_nonneg (show (0 : Int) ≤ 2 ^ s by have := p2_pos s; omega), Int.mul_comm, ← Int.ediv_ediv_of_nonneg (by have := pw_pos i; omega), val_div hd hi, val_drop', val_drop', digit hs]
theorem shr_l0 (a : List Int) (ha : U a) (L s : Nat) (hs : s < 32) (hL : L ≤ a.length) (hl : a.length ≤ 1073741824) (d : Nat) :
    ∀ (i : Nat) (o : List Int), i ≤ a.length - L → a.length - L - i = d → U o → o.length = a.length - L → val (o.take i) = val (a.drop L) / 2 ^ s % pw i →
      ∃ K, ∀ k, K ≤ k → nat_Shr.l0 k a (L : Int) (s : Int) o ((a.length - L : Nat) : Int) (i : Int) = some (lim (val (a.drop L) / 2 ^ s)) := by
  have hdl : (a.drop L).length = a.length - L := List.length_drop
  induction d with
  | zero =>
    intro i o hi hd ho hol hv
    obtain rfl : i = a.length - L := by omega
    obtain ⟨K, hK⟩ := cuto_ev o ho (by omega)
    have hlt := val_lt (U_drop ha L)
    have h0 := val_nonneg (U_drop ha L)
    have hp := p2_pos s
    have hle := Int.ediv_le_self (b := 2 ^ s) h0
    have hge := Int.ediv_nonneg h0 (show (0 : Int) ≤ 2 ^ s by omega)
    rw [hdl] at hlt
    rw [Int.emod_eq_of_lt hge (by omega), take_out o _ (by omega)] at hv
    rw [hv] at hK
    refine ⟨K + 1, fun k hk => ?_⟩
    obtain ⟨k, rfl⟩ : ∃ m, k = m + 1 := ⟨k - 1, by omega⟩
    simp only [nat_Shr.l0]
    rw [if_neg (by omega), hK k (by omega), Option.bind_some]
  | succ d ih =>
    intro i o hi hd ho hol hv
    have hai := U_getD ha (i + L)
    have hbi := U_getD ha (i + L + 1)
    have hdig := shr_digit (U_drop ha L) (i := i) (by omega) (show s ≤ 32 by omega)
    rw [getD_drop, getD_drop, show L + i = i + L by omega, show L + (i + 1) = i + L + 1 by omega] at hdig
    obtain ⟨z, hz⟩ : ∃ z, z = (a.getD (i + L) 0 + a.getD (i + L + 1) 0 * 4294967296) / 2 ^ s % 4294967296 := ⟨_, rfl⟩
    have hz0 : 0 ≤ z ∧ z < 4294967296 := by omega
    obtain ⟨K, hK⟩ := ih (i + 1) (o.set i z) (by omega) (by omega) (U_set ho _ hz0.1 hz0.2) (by simpa using hol)
      (by rw [val_set_take (by omega), hv, pw_succ, emod_succ _ _ (pw_pos i), hdig, hz])
    refine ⟨K + 1, fun k hk => ?_⟩
    obtain ⟨k, rfl⟩ : ∃ m, k = m + 1 := ⟨k - 1, by omega⟩
    have hor := bits_join .u64 64 (by decide) wraps_u64 32 (a.getD (i + L + 1) 0 * 4294967296) (a.getD (i + L) 0) (by omega) (by omega) (by have : (2 : Int) ^ 64 = 18446744073709551616 := rfl; omega) hai.1 (by have : (2 : Int) ^ 32 = 4294967296 := rfl; omega) (by have : (2 : Int) ^ 64 = 18446744073709551616 := rfl; omega)
    rw [bits_or_comm, Int.add_comm] at hor
    simp only [nat_Shr.l0, w64_add (show i + L < 9223372036854775808 by omega), w64_succ (show i + L < 4611686018427387904 by omega), w64_succ (show i < 4611686018427387904 by omega), Int.toNat_natCast, rd_eq, u64w hai.1 (show a.getD (i + L) 0 < 18446744073709551616 by omega), u64w hbi.1 (show a.getD (i + L + 1) 0 < 18446744073709551616 by omega), u64w (show 0 ≤ a.getD (i + L + 1) 0 * 4294967296 by omega) (show a.getD (i + L + 1) 0 * 4294967296 < 18446744073709551616 by omega), hor, shr_eq (show s ≤ 64 by omega)]
    rw [if_pos (by omega), if_pos (by omega), if_pos (by omega)]
    by_cases hb : i + L + 1 < a.length
    · rw [if_pos (by omega), if_pos (by omega), if_pos (by omega), if_pos (by omega), if_pos (by omega), ← hz]
      exact hK k (by omega)
    · rw [getD_out a (i + L + 1) (by omega), Int.zero_mul, Int.add_zero] at hz
      rw [if_neg (by omega), if_pos (by omega), if_pos (by omega), if_pos (by omega), ← hz]
      exact hK k (by omega)
/-- A number moved down. -/
def shrv (v n : Int) : Int := if n < 1 then v else v / 2 ^ n.toNat
theorem shr_ev (a : List Int) (n : Int) (ha : U a) (hl : a.length ≤ 1073741824) : ∃ K, ∀ k, K ≤ k → nat_Shr.f k a n = some (lim (shrv (val a) n)) := by
  have na := val_nonneg ha
  have la := lim_len na a.length (val_lt ha)
  obtain ⟨K1, h1⟩ := cut_ev a ha (by omega)
  unfold shrv nat_Shr.f
  by_cases c1 : n < 1
  · refine ⟨K1, fun k hk => ?_⟩
    rw [h1 k hk, Option.bind_some, if_pos c1, if_pos c1, clone_eq _ (by omega), Option.bind_some]
  · obtain ⟨m, rfl⟩ : ∃ m : Nat, n = m := ⟨n.toNat, by omega⟩
    have hw : wrap64 (32 * ((lim (val a)).length : Int)) = 32 * ((lim (val a)).length : Int) := w64 (by omega) (by omega)
    by_cases c2 : m ≥ 32 * (lim (val a)).length
    · have hlt := val_lt (U_lim na)
      rw [val_lim na, p2_limb] at hlt
      have hm := p2_mono c2
      refine ⟨K1, fun k hk => ?_⟩
      rw [h1 k hk, Option.bind_some, if_neg c1, if_neg c1, hw, if_pos (by omega), Int.toNat_natCast, Int.ediv_eq_zero_of_lt na (by omega), lim_zero]
    · have hL : m / 32 ≤ (lim (val a)).length := by omega
      obtain ⟨K, hK⟩ := shr_l0 (lim (val a)) (U_lim na) (m / 32) (m % 32) (by omega) hL (by omega) _ 0 (List.replicate ((lim (val a)).length - m / 32) 0) (by omega) rfl (U_replicate _) (by simp)
        (by rw [List.take_zero, val_nil, pw_zero, Int.emod_one])
      refine ⟨K1 + K, fun k hk => ?_⟩
      have h2 := hK k (by omega)
      rw [← val_div (U_lim na) hL, val_lim na, p2_limb, Int.ediv_ediv_of_nonneg (show (0 : Int) ≤ 2 ^ (32 * (m / 32)) by have := p2_pos (32 * (m / 32)); omega), ← p2_add, show 32 * (m / 32) + m % 32 = m by omega] at h2
      rw [h1 k (by omega), Option.bind_some, if_neg c1, if_neg c1, hw, if_neg (by omega), Int.toNat_natCast]
      simp only [Int.tdiv_eq_ediv_of_nonneg (show (0 : Int) ≤ (m : Int) by omega), Int.tmod_eq_emod_of_nonneg (show (0 : Int) ≤ (m : Int) by omega), show (m : Int) / 32 = ((m / 32 : Nat) : Int) by omega, show (m : Int) % 32 = ((m % 32 : Nat) : Int) by omega, w64_nat (show m / 32 < 9223372036854775808 by omega), w64_sub hL (show (lim (val a)).length < 9223372036854775808 by omega), Int.toNat_natCast, Option.bind_some, List.length_replicate]
      rw [if_pos (by omega), if_pos (by omega)]
      exact h2
end Go.Proofs.YtaookeneeemfbaaDoor.T

namespace Go.Proofs.YtaookeneeemfbaaDoor.T
set_option linter.unusedVariables false
set_option linter.unusedSimpArgs false
open Go.RowKit Go.Proofs.YtaookeneeemfbaaDoorW.PrintWords Go.Proofs.YtaookeneeemfbaaDoorW.PrintMore Go.Proofs.YtaookeneeemfbaaDoor.PA

theorem or_join64 {h l : Int} (h0 : 0 ≤ h) (h1 : h < 4294967296) (l0 : 0 ≤ l) (l1 : l < 4294967296) : Go.bits .or .u64 (h * 4294967296) l = h * 4294967296 + l := by
  have e64 : (2 : Int) ^ 64 = 18446744073709551616 := rfl
  have e32 : (2 : Int) ^ 32 = 4294967296 := rfl
  exact bits_join .u64 64 (by decide) wraps_u64 32 (h * 4294967296) l (by omega) (by omega) (by omega) l0 (by omega) (by omega)
theorem step_short {A Q l x q r D : Int} (e : D * q + r = l * 4294967296 + x) (h : A = D * Q + l) : x + 4294967296 * A = D * (q + 4294967296 * Q) + r := by
  subst h
  grind
/-! the guess of a quotient's limb -/
/-- The least of 2^32 - 1 and a quotient. -/
def gss (X V : Int) : Int := if 4294967295 ≤ X / V then 4294967295 else X / V
/-! so many times a number taken away; a number given back -/
theorem step_less {V P q S Q y c b r o r' b' h n : Int} (e1 : r' - 4294967296 * b' = o - r - b) (e2 : r + 4294967296 * h = n) (hn : n = y * q + c) : V - P * (q * S) + P * Q * (c + b) + P * Q * (r' - o) = V - P * (q * (S + Q * y)) + 4294967296 * (P * Q) * (h + b') := by
  have h1 : P * Q * (r' - 4294967296 * b') = P * Q * (o - r - b) := by rw [e1]
  have h2 : P * Q * (r + 4294967296 * h) = P * Q * (y * q + c) := by rw [e2, hn]
  grind
theorem sub32' {x y c : Int} (hx : 0 ≤ x ∧ x < 4294967296) (hy : 0 ≤ y ∧ y < 4294967296) (hc : 0 ≤ c ∧ c ≤ 1) : ∃ r b, bits_Sub32.f x y c = some (r, b) ∧ r - 4294967296 * b = x - y - c ∧ (0 ≤ r ∧ r < 4294967296) ∧ 0 ≤ b ∧ b ≤ 1 := by
  refine ⟨_, _, sub32 hx hy hc, ?_, by omega, ?_, ?_⟩ <;> split <;> omega
theorem step_more {V P S Q y c r o s n : Int} (e : r + 4294967296 * s = o + y + c) : V + P * S - P * Q * c + P * Q * (r - o) = V + P * (S + Q * y) - 4294967296 * (P * Q) * s := by
  have h1 : P * Q * (r + 4294967296 * s) = P * Q * (o + y + c) := by rw [e]
  grind
end Go.Proofs.YtaookeneeemfbaaDoor.T

namespace Go.Proofs.YtaookeneeemfbaaDoor.T
set_option linter.unusedVariables false
set_option linter.unusedSimpArgs false
open Go.RowKit Go.Proofs.YtaookeneeemfbaaDoorW.PrintWords Go.Proofs.YtaookeneeemfbaaDoorW.PrintMore Go.Proofs.YtaookeneeemfbaaDoor.PA

theorem val_zero_of {l : List Int} (h : ∀ q, l.getD q 0 = 0) : val l = 0 := by
  induction l with
  | nil => rfl
  | cons x l ih =>
    have h0 : x = 0 := h 0
    rw [val_cons, ih (fun q => h (q + 1)), h0]
    rfl
theorem zeros_above {l : List Int} (hu : U l) {j : Nat} (h : val l < pw j) (q : Nat) (hq : j ≤ q) : l.getD q 0 = 0 := by
  by_cases hl : q < l.length
  · have e := val_split l q (by omega)
    rw [val_drop hl] at e
    have h1 := val_nonneg (U_take hu q)
    have h2 := val_nonneg (U_drop hu (q + 1))
    have h3 := U_getD hu q
    have hm := pw_mono hq
    have hp := pw_pos q
    by_cases hz : l.getD q 0 = 0
    · exact hz
    · have := Int.mul_le_mul_of_nonneg_left (show 1 ≤ l.getD q 0 + 4294967296 * val (l.drop (q + 1)) by omega) (show 0 ≤ pw q by omega)
      omega
  · exact getD_out l q (by omega)
theorem lt_of_zeros {l : List Int} (hu : U l) {j : Nat} (h : ∀ q, j ≤ q → l.getD q 0 = 0) : val l < pw j := by
  by_cases hl : j ≤ l.length
  · have e := val_split l j hl
    have hz : val (l.drop j) = 0 := val_zero_of (fun q => by rw [getD_drop]; exact h _ (by omega))
    have h1 := val_lt (U_take hu j)
    rw [List.length_take, Nat.min_eq_left hl] at h1
    rw [hz, Int.mul_zero] at e
    omega
  · have h1 := val_lt hu
    have h2 := pw_mono (show l.length ≤ j by omega)
    omega
theorem gss_good {R D P Q V X : Int} (hP : 0 < P) (hQ : 0 < Q) (hD : 0 < D) (hR0 : 0 ≤ R) (hR : R < P * D * 4294967296) (hV : V = D / Q) (hVB : 4294967296 ≤ V) (hX : X = R / (P * Q)) :
    0 ≤ gss X V ∧ gss X V ≤ 4294967295 ∧ ((0 ≤ R - P * (gss X V * D) ∧ R - P * (gss X V * D) < P * D) ∨ (R - P * (gss X V * D) < 0 ∧ 1 ≤ gss X V ∧ 0 ≤ R - P * ((gss X V - 1) * D) ∧ R - P * ((gss X V - 1) * D) < P * D)) := by
  have hPD := Int.mul_pos hP hD
  have hPQ := Int.mul_pos hP hQ
  have hX0 : 0 ≤ X := by rw [hX]; exact Int.ediv_nonneg hR0 (by omega)
  have hXV := Int.ediv_nonneg hX0 (show 0 ≤ V by omega)
  obtain ⟨s, hs⟩ : ∃ s, s = R / (P * D) := ⟨_, rfl⟩
  have hs0 : 0 ≤ s := by rw [hs]; exact Int.ediv_nonneg hR0 (by omega)
  have hsB : s ≤ 4294967295 := by
    have : s < 4294967296 := by rw [hs, Int.ediv_lt_iff_lt_mul hPD]; rw [Int.mul_comm]; exact hR
    omega
  have hdm := Int.mul_ediv_add_emod R (P * D)
  have hm0 := Int.emod_nonneg R (show P * D ≠ 0 by omega)
  have hm1 := Int.emod_lt_of_pos R hPD
  rw [← hs] at hdm
  have hVQ : V * Q ≤ D := by
    have := Int.mul_ediv_add_emod D Q
    have h1 := Int.emod_nonneg D (show Q ≠ 0 by omega)
    rw [← hV] at this
    rw [Int.mul_comm]
    omega
  have hVQ2 : D < (V + 1) * Q := by
    have := Int.mul_ediv_add_emod D Q
    have h1 := Int.emod_lt_of_pos D hQ
    rw [← hV] at this
    rw [Int.add_mul, Int.mul_comm V]
    omega
  obtain ⟨t, ht⟩ : ∃ t, t = gss X V := ⟨_, rfl⟩
  rw [← ht]
  have ht0 : 0 ≤ t ∧ t ≤ 4294967295 ∧ t ≤ X / V := by
    rw [ht]; unfold gss; split <;> omega
  have hlow : s ≤ t := by
    have h1 : s ≤ X / V := by
      rw [Int.le_ediv_iff_mul_le (by omega), hX, Int.le_ediv_iff_mul_le hPQ]
      have h2 := Int.mul_le_mul_of_nonneg_left hVQ (show 0 ≤ s * P from Int.mul_nonneg hs0 (by omega))
      have e1 : s * V * (P * Q) = s * P * (V * Q) := by grind
      have e2 : s * P * D = P * D * s := by grind
      rw [e1]
      omega
    rw [ht]; unfold gss; split <;> omega
  have hup : t ≤ s + 1 := by
    by_cases hc : t ≤ s + 1
    · exact hc
    · have h1 : t * V ≤ X := (Int.le_ediv_iff_mul_le (by omega)).1 ht0.2.2
      rw [hX, Int.le_ediv_iff_mul_le hPQ] at h1
      have h2 : R < P * D * (s + 1) := by rw [Int.mul_add, Int.mul_one]; omega
      have h3 := Int.mul_le_mul_of_nonneg_left (show s + 1 ≤ t - 1 by omega) (show 0 ≤ P * D by omega)
      have h4 := Int.mul_le_mul_of_nonneg_left (show D ≤ (V + 1) * Q by omega) (show 0 ≤ P * (t - 1) from Int.mul_nonneg (by omega) (by omega))
      have e1 : P * (t - 1) * D = P * D * (t - 1) := by grind
      have e2 : P * (t - 1) * ((V + 1) * Q) = (V + 1) * (t - 1) * (P * Q) := by grind
      have h5 : t * V * (P * Q) < (V + 1) * (t - 1) * (P * Q) := by omega
      have h6 := Int.lt_of_mul_lt_mul_right h5 (by omega)
      have e3 : (V + 1) * (t - 1) = t * V + t - V - 1 := by grind
      omega
  refine ⟨ht0.1, ht0.2.1, ?_⟩
  have es : P * (s * D) = P * D * s := by grind
  rcases (show t = s ∨ t = s + 1 by omega) with rfl | rfl
  · exact .inl ⟨by omega, by omega⟩
  · right
    have e1 : P * ((s + 1) * D) = P * D * s + P * D := by grind
    have e2 : P * ((s + 1 - 1) * D) = P * D * s := by grind
    exact ⟨by omega, by omega, by omega, by omega⟩
theorem w64_sub2 {i : Nat} (h : 2 ≤ i) (h2 : i < 9223372036854775808) : wrap64 ((i : Int) - 2) = ((i - 2 : Nat) : Int) := by rw [w64 (by omega) (by omega)]; omega
/-- The value of a list of which nothing is cut off but noughts. -/
theorem val_take_of_lt {l : List Int} (hu : U l) {j : Nat} (h : val l < pw j) : val (l.take j) = val l := by
  by_cases hl : j ≤ l.length
  · have e := val_split l j hl
    have h0 := val_nonneg (U_take hu j)
    have h1 := val_nonneg (U_drop hu j)
    have hp := pw_pos j
    by_cases hz : val (l.drop j) = 0
    · rw [hz, Int.mul_zero] at e; omega
    · have := Int.mul_le_mul_of_nonneg_left (show 1 ≤ val (l.drop j) by omega) (show 0 ≤ pw j by omega)
      omega
  · rw [take_out l j (by omega)]
end Go.Proofs.YtaookeneeemfbaaDoor.T

namespace Go.Proofs.YtaookeneeemfbaaDoor.T
set_option linter.unusedVariables false
set_option linter.unusedSimpArgs false
open Go.RowKit Go.Proofs.YtaookeneeemfbaaDoorW.PrintWords Go.Proofs.YtaookeneeemfbaaDoorW.PrintMore

def isq : Nat → Nat
  | 0 => 0
  | n + 1 => if (isq n + 1) * (isq n + 1) ≤ n + 1 then isq n + 1 else isq n
/-- The greatest number whose square is not greater. -/
def sqv (n : Int) : Int := (isq n.toNat : Int)
theorem isq_le (n : Nat) : isq n * isq n ≤ n ∧ n < (isq n + 1) * (isq n + 1) := by
  induction n with
  | zero => decide
  | succ n ih =>
    unfold isq
    split
    · rename_i h
      refine ⟨h, ?_⟩
      have e : (isq n + 1 + 1) * (isq n + 1 + 1) = (isq n + 1) * (isq n + 1) + 2 * (isq n + 1) + 1 := by grind
      omega
    · rename_i h
      omega
theorem sqv_nonneg (n : Int) : 0 ≤ sqv n := by unfold sqv; omega
theorem sqv_le {n : Int} (h : 0 ≤ n) : sqv n * sqv n ≤ n ∧ n < (sqv n + 1) * (sqv n + 1) := by
  obtain ⟨m, rfl⟩ : ∃ m : Nat, n = m := ⟨n.toNat, by omega⟩
  unfold sqv
  rw [Int.toNat_natCast]
  have := isq_le m
  exact ⟨by exact_mod_cast this.1, by exact_mod_cast this.2⟩
theorem sq_lt {a b : Int} (ha : 0 ≤ a) (hb : 0 ≤ b) (h : a * a < b * b) : a < b := by
  by_cases hq : a < b
  · exact hq
  · have := Int.mul_le_mul (show b ≤ a by omega) (show b ≤ a by omega) hb ha
    omega
theorem sqv_eq {n r : Int} (h0 : 0 ≤ r) (h1 : r * r ≤ n) (h2 : n < (r + 1) * (r + 1)) : sqv n = r := by
  have hn : 0 ≤ n := by have := Int.mul_nonneg h0 h0; omega
  obtain ⟨a, b⟩ := sqv_le hn
  have s0 := sqv_nonneg n
  have c1 := sq_lt h0 (show 0 ≤ sqv n + 1 by omega) (by omega)
  have c2 := sq_lt s0 (show 0 ≤ r + 1 by omega) (by omega)
  omega
theorem sgn_beq (x y : Int) : (sgn (x - y) == 0) = (x == y) := by
  rcases Int.lt_trichotomy x y with h | h | h
  · rw [sgn_neg (by omega), (beq_eq_false_iff_ne (a := x) (b := y)).2 (by omega)]; rfl
  · subst h; rw [Int.sub_self, sgn_zero]; simp
  · rw [sgn_pos (by omega), (beq_eq_false_iff_ne (a := x) (b := y)).2 (by omega)]; rfl
theorem amgm (x y : Int) : 4 * (x * y) ≤ (x + y) * (x + y) := by
  have h : 0 ≤ (x - y) * (x - y) := by
    rcases Int.le_total 0 (x - y) with h | h
    · exact Int.mul_nonneg h h
    · have := Int.mul_nonneg (show 0 ≤ -(x - y) by omega) (show 0 ≤ -(x - y) by omega)
      rw [Int.neg_mul_neg] at this
      exact this
  have e1 : (x - y) * (x - y) = x * x - 2 * (x * y) + y * y := by grind
  have e2 : (x + y) * (x + y) = x * x + 2 * (x * y) + y * y := by grind
  omega
/-- One step of the way to the root. -/
theorem newton {n s : Int} (hn : 0 < n) (hs : 0 < s) (h : n < (s + 1) * (s + 1)) : (¬ (s + n / s) / 2 < s → s * s ≤ n) ∧ ((s + n / s) / 2 < s → 0 < (s + n / s) / 2 ∧ n < ((s + n / s) / 2 + 1) * ((s + n / s) / 2 + 1)) := by
  have e := Int.mul_ediv_add_emod n s
  have m0 := Int.emod_nonneg n (show s ≠ 0 by omega)
  have m1 := Int.emod_lt_of_pos n hs
  have q0 := Int.ediv_nonneg (show 0 ≤ n by omega) (show 0 ≤ s by omega)
  obtain ⟨q, hq⟩ : ∃ q, q = n / s := ⟨_, rfl⟩
  rw [← hq] at e q0 ⊢
  constructor
  · intro hc
    have h1 := Int.mul_le_mul_of_nonneg_left (show s ≤ q by omega) (show 0 ≤ s by omega)
    omega
  · intro hc
    obtain ⟨t, ht⟩ : ∃ t, t = (s + q) / 2 := ⟨_, rfl⟩
    rw [← ht] at hc ⊢
    have h1 := amgm s (q + 1)
    have h2 := Int.mul_le_mul (show s + (q + 1) ≤ 2 * (t + 1) by omega) (show s + (q + 1) ≤ 2 * (t + 1) by omega) (by omega) (by omega)
    have e2 : 2 * (t + 1) * (2 * (t + 1)) = 4 * ((t + 1) * (t + 1)) := by grind
    have e3 : s * (q + 1) = s * q + s := by grind
    have h3 : n < (t + 1) * (t + 1) := by omega
    refine ⟨?_, h3⟩
    by_cases hz : 0 < t
    · exact hz
    · have : t = 0 := by omega
      subst this
      omega
theorem lim_is {n : Int} (l : List Int) (hv : val l = n) (h : U l) (hn : 0 < l.length → l.getD (l.length - 1) 0 ≠ 0) : lim n = l := by rw [← hv]; exact lim_of_norm h hn
theorem len_of (l : List Int) (h : U l) : (lim (val l)).length ≤ l.length := lim_len (val_nonneg h) _ (val_lt h)
theorem len_add {a b : List Int} (ha : U a) (hb : U b) : (lim (val a + val b)).length ≤ max a.length b.length + 1 := by
  have h1 := val_lt ha
  have h2 := val_lt hb
  have h3 := val_nonneg ha
  have h4 := val_nonneg hb
  refine lim_len (by omega) _ ?_
  have h5 := pw_mono (show a.length ≤ max a.length b.length by omega)
  have h6 := pw_mono (show b.length ≤ max a.length b.length by omega)
  rw [pw_succ]
  omega
theorem len_mul {a b : List Int} (ha : U a) (hb : U b) : (lim (val a * val b)).length ≤ a.length + b.length := by
  have h1 := val_lt ha
  have h2 := val_lt hb
  have h3 := val_nonneg ha
  have h4 := val_nonneg hb
  refine lim_len (Int.mul_nonneg h3 h4) _ ?_
  have h5 := pw_pos a.length
  have e1 := Int.mul_le_mul_of_nonneg_right (show val a ≤ pw a.length by omega) h4
  have e2 := Int.mul_lt_mul_of_pos_left h2 h5
  rw [pw_add]
  omega
theorem shlv_eq {v n : Int} (h0 : 0 ≤ n) (h1 : n ≤ 16777216) : shlv v n = v * 2 ^ n.toNat := by
  unfold shlv
  by_cases hc : n < 1
  · rw [if_pos hc, show n = 0 by omega]; simp
  · rw [if_neg hc, if_neg (by omega)]
theorem shrv_eq {v n : Int} (h0 : 0 ≤ n) : shrv v n = v / 2 ^ n.toNat := by
  unfold shrv
  by_cases hc : n < 1
  · rw [if_pos hc, show n = 0 by omega]; simp
  · rw [if_neg hc]
theorem shlv_nonneg {v : Int} (h : 0 ≤ v) (n : Int) : 0 ≤ shlv v n := by
  unfold shlv
  have := p2_pos n.toNat
  split
  · exact h
  · split
    · omega
    · exact Int.mul_nonneg h (by omega)
theorem shrv_nonneg {v : Int} (h : 0 ≤ v) (n : Int) : 0 ≤ shrv v n ∧ shrv v n ≤ v := by
  unfold shrv
  have := p2_pos n.toNat
  split
  · omega
  · exact ⟨Int.ediv_nonneg h (by omega), Int.ediv_le_self _ h⟩
theorem len_shl {a : List Int} (ha : U a) (n : Int) : (lim (shlv (val a) n)).length ≤ a.length + 524289 := by
  have h1 := val_lt ha
  have h2 := val_nonneg ha
  refine lim_len (shlv_nonneg h2 n) _ ?_
  have h5 := pw_pos a.length
  have hm := pw_mono (show a.length ≤ a.length + 524289 by omega)
  unfold shlv
  split
  · omega
  · split
    · have := pw_pos (a.length + 524289); omega
    · have hp := p2_pos n.toNat
      have e0 : (2 : Int) ^ n.toNat ≤ pw 524289 := by rw [p2_limb]; exact p2_mono (by omega)
      have e1 := Int.mul_lt_mul_of_pos_right h1 hp
      have e2 := Int.mul_le_mul_of_nonneg_left e0 (show 0 ≤ pw a.length by omega)
      rw [pw_add]
      omega
theorem len_shr {a : List Int} (ha : U a) (n : Int) : (lim (shrv (val a) n)).length ≤ a.length := by
  have h := shrv_nonneg (val_nonneg ha) n
  exact Nat.le_trans (lim_len_mono h.1 h.2) (len_of a ha)
theorem sqv_le_self {n : Int} (h : 0 ≤ n) : sqv n ≤ n := by
  have h1 := (sqv_le h).1
  have h0 := sqv_nonneg n
  by_cases hz : sqv n = 0
  · omega
  · have := Int.mul_le_mul_of_nonneg_left (show 1 ≤ sqv n by omega) h0
    omega
theorem len_root {a : List Int} (ha : U a) : (lim (sqv (val a))).length ≤ a.length :=
  Nat.le_trans (lim_len_mono (sqv_nonneg _) (sqv_le_self (val_nonneg ha))) (len_of a ha)
theorem len_quot {a b : List Int} (ha : U a) (hb : U b) : (lim (val a / val b)).length ≤ a.length :=
  Nat.le_trans (lim_len_mono (Int.ediv_nonneg (val_nonneg ha) (val_nonneg hb)) (Int.ediv_le_self _ (val_nonneg ha))) (len_of a ha)
theorem len_rest {a b : List Int} (ha : U a) (hb : U b) (h : val b ≠ 0) : (lim (val a % val b)).length ≤ b.length := by
  have h0 := val_nonneg hb
  exact Nat.le_trans (lim_len_mono (Int.emod_nonneg _ h) (by have := Int.emod_lt_of_pos (val a) (show 0 < val b by omega); omega)) (len_of b hb)
theorem bl_mul {v : Int} (h : 0 < v) (n : Nat) : bl (v * 2 ^ n) = bl v + n := by
  have hp := p2_pos n
  have e : v * 2 ^ n / 2 ^ n = v := Int.mul_ediv_cancel _ (by omega)
  have := bl_shift (x := v * 2 ^ n) n (by rw [e]; exact h)
  rw [this, e, Int.add_comm]
theorem bl_beq {w : Int} (h : 0 ≤ w) : (bl w == 0) = decide (w = 0) := by
  by_cases hz : w = 0
  · subst hz; rfl
  · have := bl_pos (n := w) (by omega)
    rw [decide_eq_false hz, beq_eq_false_iff_ne]
    omega
theorem sgn_self (x : Int) : sgn (x - x) = 0 := by rw [Int.sub_self]; rfl
theorem sgn_opp (x : Int) : sgn (-x) = -sgn x := by
  unfold sgn
  split <;> split <;> (try split) <;> (try split) <;> omega
theorem sgn_bd (x : Int) : -1 ≤ sgn x ∧ sgn x ≤ 1 := by unfold sgn; split <;> (try split) <;> omega
end Go.Proofs.YtaookeneeemfbaaDoor.T
