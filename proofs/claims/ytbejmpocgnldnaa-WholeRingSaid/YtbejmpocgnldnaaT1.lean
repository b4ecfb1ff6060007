/- The plain theory of limbs: lists of whole numbers from 0 to 2^32 - 1, their value, and the limbs of a number. No program in sight. -/
import Derived.Test.YtbejmpocgnldnaaPZx1
import Derived.RowKit
import Derived.DataShut
import Derived.Test.YtbejmpocgnldnaaVWords
namespace Go.Proofs.Ytbejmpocgnldnaa.T
set_option linter.unusedVariables false
set_option linter.unusedSimpArgs false
open Go.RowKit Go.Proofs.YtbejmpocgnldnaaW.PrintWords

/-- Each is a limb. -/
def U (l : List Int) : Prop := ∀ x ∈ l, 0 ≤ x ∧ x < 4294967296
/-- The value, the lowest limb first. -/
def val : List Int → Int
  | [] => 0
  | x :: xs => x + 4294967296 * val xs
def limN (n : Nat) : List Int := if n = 0 then [] else ((n % 4294967296 : Nat) : Int) :: limN (n / 4294967296)
termination_by n
decreasing_by omega
/-- The limbs of a number that is not below nought, without noughts at their end. -/
def lim (n : Int) : List Int := limN n.toNat

theorem U_nil : U [] := fun _ h => by simp at h
theorem U_cons {x : Int} {l : List Int} : U (x :: l) ↔ (0 ≤ x ∧ x < 4294967296) ∧ U l := by simp [U]
theorem U_append {a b : List Int} : U (a ++ b) ↔ U a ∧ U b := by
  simp only [U, List.mem_append]
  exact ⟨fun h => ⟨fun x hx => h x (.inl hx), fun x hx => h x (.inr hx)⟩, fun h x hx => hx.elim (h.1 x) (h.2 x)⟩
theorem U_take {l : List Int} (h : U l) (n : Nat) : U (l.take n) := fun x hx => h x (List.mem_of_mem_take hx)
theorem U_drop {l : List Int} (h : U l) (n : Nat) : U (l.drop n) := fun x hx => h x (List.mem_of_mem_drop hx)
theorem U_replicate (n : Nat) : U (List.replicate n (0 : Int)) := fun x hx => by
  have := List.eq_of_mem_replicate hx
  omega
theorem U_set {l : List Int} (h : U l) (i : Nat) {x : Int} (h0 : 0 ≤ x) (h1 : x < 4294967296) : U (l.set i x) := fun y hy => by
  rcases List.mem_or_eq_of_mem_set hy with hy | rfl
  · exact h y hy
  · exact ⟨h0, h1⟩
theorem U_getD {l : List Int} (h : U l) (i : Nat) : 0 ≤ l.getD i 0 ∧ l.getD i 0 < 4294967296 := by
  rw [List.getD_eq_getElem?_getD]
  by_cases hi : i < l.length
  · rw [List.getElem?_eq_getElem hi]
    exact h _ (List.getElem_mem hi)
  · rw [List.getElem?_eq_none (by omega)]
    simp
theorem U_single {x : Int} (h0 : 0 ≤ x) (h1 : x < 4294967296) : U [x] := by simp [U, h0, h1]
theorem U_of_wf {l : List Int} (h : ∀ x ∈ l, (Lit.int .u32 x).wf = true) : U l := fun x hx => by
  have := (Lit.wf_int_iff .u32 x).1 (h x hx)
  have e1 : IntKind.min .u32 = 0 := by decide
  have e2 : IntKind.max .u32 = 4294967295 := by decide
  rw [e1, e2] at this
  omega
theorem i64_of_wf {x : Int} (h : (Lit.int .i64 x).wf = true) : -9223372036854775808 ≤ x ∧ x ≤ 9223372036854775807 := by
  have := (Lit.wf_int_iff .i64 x).1 h
  have e1 : IntKind.min .i64 = -9223372036854775808 := by decide
  have e2 : IntKind.max .i64 = 9223372036854775807 := by decide
  rw [e1, e2] at this
  exact this
theorem u64_of_wf {x : Int} (h : (Lit.int .u64 x).wf = true) : 0 ≤ x ∧ x ≤ 18446744073709551615 := by
  have := (Lit.wf_int_iff .u64 x).1 h
  have e1 : IntKind.min .u64 = 0 := by decide
  have e2 : IntKind.max .u64 = 18446744073709551615 := by decide
  rw [e1, e2] at this
  exact this

/-- A power of 2^32, as a function of its own (the arithmetic's tactics take it as a letter). -/
def pw : Nat → Int
  | 0 => 1
  | n + 1 => 4294967296 * pw n
theorem pw_eq (i : Nat) : pw i = 4294967296 ^ i := by
  induction i with
  | zero => rfl
  | succ i ih => rw [pw, ih, Int.pow_succ, Int.mul_comm]
theorem pw_pos (i : Nat) : 0 < pw i := by
  induction i with
  | zero => decide
  | succ i ih => rw [pw]; omega
@[simp] theorem pw_zero : pw 0 = 1 := rfl
theorem pw_succ (i : Nat) : pw (i + 1) = 4294967296 * pw i := rfl
theorem pw_add (i j : Nat) : pw (i + j) = pw i * pw j := by
  induction i with
  | zero => rw [Nat.zero_add, pw_zero, Int.one_mul]
  | succ i ih => rw [show i + 1 + j = (i + j) + 1 by omega, pw_succ, pw_succ, ih, Int.mul_assoc]
theorem pw_mono {i j : Nat} (h : i ≤ j) : pw i ≤ pw j := by
  obtain ⟨d, rfl⟩ := Nat.le.dest h
  rw [pw_add]
  have h1 := pw_pos i
  have h2 : 1 ≤ pw d := by have := pw_pos d; omega
  have := Int.mul_le_mul_of_nonneg_left h2 (c := pw i) (by omega)
  omega

@[simp] theorem val_nil : val [] = 0 := rfl
@[simp] theorem val_cons (x : Int) (l : List Int) : val (x :: l) = x + 4294967296 * val l := rfl
theorem val_nonneg {l : List Int} (h : U l) : 0 ≤ val l := by
  induction l with
  | nil => exact Int.le_refl 0
  | cons x l ih =>
    obtain ⟨h1, h2⟩ := U_cons.1 h
    have := ih h2
    rw [val_cons]
    omega
theorem val_lt {l : List Int} (h : U l) : val l < pw l.length := by
  induction l with
  | nil => decide
  | cons x l ih =>
    obtain ⟨h1, h2⟩ := U_cons.1 h
    have := ih h2
    rw [val_cons, List.length_cons, pw_succ]
    omega
theorem val_append (a b : List Int) : val (a ++ b) = val a + pw a.length * val b := by
  induction a with
  | nil => simp
  | cons x a ih =>
    rw [List.cons_append, val_cons, val_cons, ih, List.length_cons, pw_succ]
    grind
theorem val_replicate (n : Nat) : val (List.replicate n 0) = 0 := by
  induction n with
  | zero => rfl
  | succ n ih => rw [List.replicate_succ, val_cons, ih]; rfl
theorem val_split (l : List Int) (i : Nat) (h : i ≤ l.length) : val l = val (l.take i) + pw i * val (l.drop i) := by
  have := val_append (l.take i) (l.drop i)
  rw [List.take_append_drop, List.length_take, Nat.min_eq_left h] at this
  exact this
theorem drop_eq {l : List Int} {i : Nat} (h : i < l.length) : l.drop i = l.getD i 0 :: l.drop (i + 1) := by
  rw [List.drop_eq_getElem_cons h, List.getD_eq_getElem?_getD, List.getElem?_eq_getElem h]
  rfl
theorem val_drop {l : List Int} {i : Nat} (h : i < l.length) : val (l.drop i) = l.getD i 0 + 4294967296 * val (l.drop (i + 1)) := by rw [drop_eq h, val_cons]
theorem take_succ {l : List Int} {i : Nat} (h : i < l.length) : l.take (i + 1) = l.take i ++ [l.getD i 0] := by
  rw [List.take_succ_eq_append_getElem h, List.getD_eq_getElem?_getD, List.getElem?_eq_getElem h]
  rfl
theorem val_take_succ {l : List Int} {i : Nat} (h : i < l.length) : val (l.take (i + 1)) = val (l.take i) + pw i * l.getD i 0 := by
  rw [take_succ h, val_append, List.length_take, Nat.min_eq_left (by omega)]
  simp
theorem val_set {l : List Int} {i : Nat} (h : i < l.length) (x : Int) : val (l.set i x) = val l + pw i * (x - l.getD i 0) := by
  induction l generalizing i with
  | nil => simp at h
  | cons y l ih =>
    cases i with
    | zero => simp; omega
    | succ i =>
      have := ih (i := i) (by simpa using h)
      rw [List.set_cons_succ, val_cons, val_cons, this, pw_succ]
      have e : (y :: l).getD (i + 1) 0 = l.getD i 0 := rfl
      rw [e]
      grind
theorem take_set {l : List Int} {i : Nat} {x : Int} : (l.set i x).take i = l.take i := by
  rw [List.take_set_of_le (by omega)]
theorem getD_set_self {l : List Int} {i : Nat} (h : i < l.length) (x : Int) : (l.set i x).getD i 0 = x := by
  rw [List.getD_eq_getElem?_getD, List.getElem?_set_self h]
  rfl
theorem getD_set_ne {l : List Int} {i j : Nat} (h : i ≠ j) (x : Int) : (l.set i x).getD j 0 = l.getD j 0 := by
  rw [List.getD_eq_getElem?_getD, List.getElem?_set_ne h, List.getD_eq_getElem?_getD]
theorem drop_set_lt {l : List Int} {i j : Nat} (h : i < j) (x : Int) : (l.set i x).drop j = l.drop j := by
  rw [List.drop_set_of_lt h]

theorem limN_zero : limN 0 = [] := by unfold limN; simp
theorem limN_pos {n : Nat} (h : 0 < n) : limN n = ((n % 4294967296 : Nat) : Int) :: limN (n / 4294967296) := by
  rw [limN, if_neg (by omega)]
@[simp] theorem lim_zero : lim 0 = [] := limN_zero
theorem lim_pos {n : Int} (h : 0 < n) : lim n = (n % 4294967296) :: lim (n / 4294967296) := by
  unfold lim
  rw [limN_pos (by omega)]
  have e1 : ((n.toNat % 4294967296 : Nat) : Int) = n % 4294967296 := by omega
  have e2 : n.toNat / 4294967296 = (n / 4294967296).toNat := by omega
  rw [e1, e2]
theorem lim_ind {motive : (n : Int) → 0 ≤ n → Prop} (zero : motive 0 (by omega)) (pos : ∀ (n : Int) (h : 0 < n), motive (n / 4294967296) (by omega) → motive n (by omega)) (n : Int) (h : 0 ≤ n) : motive n h := by
  obtain ⟨m, rfl⟩ : ∃ m : Nat, n = m := ⟨n.toNat, by omega⟩
  induction m using Nat.strongRecOn with
  | _ m ih =>
    by_cases hm : m = 0
    · subst hm; exact zero
    · exact pos m (by omega) (ih (m / 4294967296) (by omega) (by omega))
theorem val_lim {n : Int} (h : 0 ≤ n) : val (lim n) = n := by
  induction n, h using lim_ind with
  | zero => simp
  | pos n h ih => rw [lim_pos h, val_cons, ih]; omega
theorem U_lim {n : Int} (h : 0 ≤ n) : U (lim n) := by
  induction n, h using lim_ind with
  | zero => simpa using U_nil
  | pos n h ih => rw [lim_pos h]; exact U_cons.2 ⟨by omega, ih⟩
theorem lim_len {n : Int} (h : 0 ≤ n) (L : Nat) (hl : n < pw L) : (lim n).length ≤ L := by
  induction n, h using lim_ind generalizing L with
  | zero => simp
  | pos n h ih =>
    cases L with
    | zero => simp at hl; omega
    | succ L =>
      rw [lim_pos h, List.length_cons]
      have := ih L (by rw [pw_succ] at hl; omega)
      omega
theorem lim_len_gt {n : Int} (L : Nat) (hl : pw L ≤ n) : L < (lim n).length := by
  have h : 0 ≤ n := by have := pw_pos L; omega
  have h1 := val_lt (U_lim h)
  rw [val_lim h] at h1
  by_cases hq : L < (lim n).length
  · exact hq
  · have := pw_mono (i := (lim n).length) (j := L) (by omega)
    omega
theorem lim_ne_nil {n : Int} (h : 0 < n) : lim n ≠ [] := by rw [lim_pos h]; simp
theorem lim_nil_iff {n : Int} (h : 0 ≤ n) : (lim n).length = 0 ↔ n = 0 := by
  constructor
  · intro h0
    have h1 : lim n = [] := List.eq_nil_of_length_eq_zero h0
    have := val_lim h
    rw [h1] at this
    simpa using this.symm
  · rintro rfl; simp
/-- The last limb is not nought. -/
theorem lim_last {n : Int} (h : 0 < n) : (lim n).getD ((lim n).length - 1) 0 ≠ 0 := by
  have h0 : 0 ≤ n := by omega
  have key : 0 < n → (lim n).getD ((lim n).length - 1) 0 ≠ 0 := by
    induction n, h0 using lim_ind with
    | zero => intro h; omega
    | pos n h ih =>
      intro _
      rw [lim_pos h]
      by_cases hz : n / 4294967296 = 0
      · rw [hz, lim_zero]
        simp
        omega
      · have h1 := ih (by omega) (by omega)
        have h2 := lim_ne_nil (n := n / 4294967296) (by omega)
        have h3 : 0 < (lim (n / 4294967296)).length := List.length_pos_iff.2 h2
        have e : (n % 4294967296 :: lim (n / 4294967296)).length - 1 = ((lim (n / 4294967296)).length - 1) + 1 := by simp; omega
        rw [e]
        exact h1
  exact key h
theorem lim_of_norm {l : List Int} (h : U l) (hn : 0 < l.length → l.getD (l.length - 1) 0 ≠ 0) : lim (val l) = l := by
  induction l with
  | nil => simp
  | cons x l ih =>
    obtain ⟨h1, h2⟩ := U_cons.1 h
    have h0 := val_nonneg h2
    have hpos : 0 < val (x :: l) := by
      rw [val_cons]
      cases l with
      | nil => have := hn (by simp); simp at this; simp; omega
      | cons y l =>
        have h3 := ih h2 (fun _ => hn (by simp))
        by_cases hz : val (y :: l) = 0
        · rw [hz] at h3; simp at h3
        · omega
    rw [lim_pos hpos, val_cons]
    have e1 : (x + 4294967296 * val l) % 4294967296 = x := by omega
    have e2 : (x + 4294967296 * val l) / 4294967296 = val l := by omega
    rw [e1, e2, ih h2]
    intro hl
    have := hn (by simp)
    rw [List.length_cons, Nat.add_sub_cancel] at this
    obtain ⟨m, hm⟩ : ∃ m, l.length = m + 1 := ⟨l.length - 1, by omega⟩
    rw [hm] at this ⊢
    exact this
theorem lim_inj {a b : Int} (ha : 0 ≤ a) (hb : 0 ≤ b) (h : lim a = lim b) : a = b := by
  rw [← val_lim ha, ← val_lim hb, h]
/-- A list whose last limb is nought has the value of what is ahead of it. -/
theorem val_take_last {l : List Int} (h0 : 0 < l.length) (hz : l.getD (l.length - 1) 0 = 0) : val (l.take (l.length - 1)) = val l := by
  have h1 := val_take_succ (l := l) (i := l.length - 1) (by omega)
  rw [hz, show l.length - 1 + 1 = l.length by omega, List.take_length] at h1
  omega
theorem U_ext {a b : List Int} (ha : U a) (hb : U b) (hl : a.length = b.length) (hv : val a = val b) : a = b := by
  induction a generalizing b with
  | nil => cases b with
    | nil => rfl
    | cons _ _ => simp at hl
  | cons x a ih => cases b with
    | nil => simp at hl
    | cons y b =>
      obtain ⟨h1, h2⟩ := U_cons.1 ha
      obtain ⟨h3, h4⟩ := U_cons.1 hb
      rw [val_cons, val_cons] at hv
      have e1 : x = y := by omega
      have e2 : val a = val b := by omega
      rw [e1, ih h2 h4 (by simpa using hl) e2]
/-- Order: the highest limb that parts. -/
theorem val_lt_top {a b : List Int} {k : Nat} (ha : U a) (hb : U b) (hka : k < a.length) (hkb : k < b.length) (hd : a.drop (k + 1) = b.drop (k + 1)) (hlt : a.getD k 0 < b.getD k 0) : val a < val b := by
  rw [val_split a k (by omega), val_split b k (by omega), val_drop hka, val_drop hkb, hd]
  have h1 := val_lt (U_take ha k)
  have h2 := val_nonneg (U_take hb k)
  rw [List.length_take, Nat.min_eq_left (by omega)] at h1
  have h3 : pw k * (a.getD k 0 + 1) ≤ pw k * b.getD k 0 := Int.mul_le_mul_of_nonneg_left (by omega) (by have := pw_pos k; omega)
  grind
theorem lim_len_lt {a b : Int} (ha : 0 ≤ a) (h : (lim a).length < (lim b).length) : a < b := by
  by_cases hq : a < b
  · exact hq
  · have hb : b < pw (lim a).length := by
      have := val_lt (U_lim ha)
      rw [val_lim ha] at this
      omega
    by_cases hb0 : 0 ≤ b
    · have := lim_len hb0 _ hb
      omega
    · have hz : b.toNat = 0 := by omega
      unfold lim at h
      rw [hz, limN_zero] at h
      simp at h

theorem w64 {x : Int} (h0 : -9223372036854775808 ≤ x) (h1 : x < 9223372036854775808) : wrap64 x = x := by unfold wrap64; omega
theorem w64_succ {i : Nat} (h : i < 4611686018427387904) : wrap64 ((i : Int) + 1) = ((i + 1 : Nat) : Int) := by rw [w64 (by omega) (by omega)]; omega
theorem w64_nat {i : Nat} (h : i < 9223372036854775808) : wrap64 (i : Int) = (i : Int) := w64 (by omega) (by omega)
theorem w64_add {i j : Nat} (h : i + j < 9223372036854775808) : wrap64 ((i : Int) + (j : Int)) = ((i + j : Nat) : Int) := by rw [w64 (by omega) (by omega)]; omega
theorem w64_sub {i j : Nat} (h : j ≤ i) (h2 : i < 9223372036854775808) : wrap64 ((i : Int) - (j : Int)) = ((i - j : Nat) : Int) := by rw [w64 (by omega) (by omega)]; omega
theorem w64_pred {i : Nat} (h : 0 < i) (h2 : i < 9223372036854775808) : wrap64 ((i : Int) - 1) = ((i - 1 : Nat) : Int) := by rw [w64 (by omega) (by omega)]; omega
theorem u64w {x : Int} (h0 : 0 ≤ x) (h1 : x < 18446744073709551616) : IntKind.u64.wrap x = x := by
  simp only [IntKind.wrap, IntKind.signed, IntKind.bits]
  simp
  omega
theorem rd_eq (l : List Int) (i : Int) : rd l i = l.getD i.toNat 0 := rfl
/-- More rounds, from some number on. -/
theorem ev_succ {α : Type} {g : Nat → Option α} {r : α} (h : Ev (fun k => g (k + 1)) r) : Ev g r := by
  obtain ⟨K, h⟩ := h
  refine ⟨K + 1, fun k hk => ?_⟩
  obtain ⟨m, rfl⟩ : ∃ m, k = m + 1 := ⟨k - 1, by omega⟩
  exact h m (by omega)
theorem ev_const {α : Type} {x : Option α} {r : α} (h : x = some r) : Ev (fun _ => x) r := ⟨0, fun _ _ => h⟩
theorem ev_bind {α β : Type} {g : Nat → Option α} {f : Nat → α → Option β} {a : α} {r : β} (h : Ev g a) (k : Ev (fun n => f n a) r) : Ev (fun n => (g n).bind (f n)) r := Ev.bind h k
end Go.Proofs.Ytbejmpocgnldnaa.T
