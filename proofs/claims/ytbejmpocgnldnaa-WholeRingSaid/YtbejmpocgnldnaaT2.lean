/- What the functions of package nat answer, in terms of values and limbs (first part: cut, clone, order, length, sums). -/

import Derived.Test.YtbejmpocgnldnaaPZx1
import Derived.Test.YtbejmpocgnldnaaT1
namespace Go.Proofs.Ytbejmpocgnldnaa.T
set_option linter.unusedVariables false
set_option linter.unusedSimpArgs false
open Go.RowKit Go.Proofs.YtbejmpocgnldnaaW.PrintWords Go.Proofs.YtbejmpocgnldnaaW.PrintMore Go.Proofs.Ytbejmpocgnldnaa.PZ

theorem cut_l0 : ∀ (n : Nat) (l : List Int), l.length = n → U l → n ≤ 1073741824 → ∃ K, ∀ k, K ≤ k → nat_cut.l0 k l = some (lim (val l)) := by
  intro n
  induction n using Nat.strongRecOn with
  | _ n ih =>
    intro l hn h hb
    by_cases h0 : 0 < l.length
    · have hw : wrap64 ((l.length : Int) - 1) = (l.length : Int) - 1 := w64 (by omega) (by omega)
      have ht : ((l.length : Int) - 1).toNat = l.length - 1 := by omega
      by_cases hz : l.getD (l.length - 1) 0 = 0
      · obtain ⟨K, hK⟩ := ih (l.length - 1) (by omega) (l.take (l.length - 1)) (by simp) (U_take h _) (by omega)
        refine ⟨K + 1, fun k hk => ?_⟩
        obtain ⟨k, rfl⟩ : ∃ m, k = m + 1 := ⟨k - 1, by omega⟩
        simp only [nat_cut.l0, hw, rd_eq, ht]
        rw [if_pos (by omega), if_pos (by omega), if_pos (by omega), if_pos hz, if_pos (by omega), hK k (by omega), val_take_last h0 hz]
      · refine ⟨1, fun k hk => ?_⟩
        obtain ⟨k, rfl⟩ : ∃ m, k = m + 1 := ⟨k - 1, by omega⟩
        simp only [nat_cut.l0, hw, rd_eq, ht]
        rw [if_pos (by omega), if_pos (by omega), if_pos (by omega), if_neg hz, lim_of_norm h (fun _ => hz)]
    · refine ⟨1, fun k hk => ?_⟩
      obtain ⟨k, rfl⟩ : ∃ m, k = m + 1 := ⟨k - 1, by omega⟩
      simp only [nat_cut.l0]
      rw [if_neg (by omega)]
      have : l = [] := List.eq_nil_of_length_eq_zero (by omega)
      subst this
      simp
theorem cut_ev (l : List Int) (h : U l) (hb : l.length ≤ 1073741824) : ∃ K, ∀ k, K ≤ k → nat_cut.f k l = some (lim (val l)) := cut_l0 _ l rfl h hb
theorem cuto_l0 (l : List Int) (k : Nat) : nat_cut_own.l0 k l = nat_cut.l0 k l := by
  induction k generalizing l with
  | zero => rfl
  | succ k ih => simp only [nat_cut_own.l0, nat_cut.l0, ih]
theorem cuto_ev (l : List Int) (h : U l) (hb : l.length ≤ 1073741824) : ∃ K, ∀ k, K ≤ k → nat_cut_own.f k l = some (lim (val l)) := by
  obtain ⟨K, hK⟩ := cut_ev l h hb
  exact ⟨K, fun k hk => (cuto_l0 l k).trans (hK k hk)⟩
theorem clone_eq (l : List Int) (hb : l.length ≤ 1073741824) : slices_Clone_uint32_uint32.f l = some l := by
  unfold slices_Clone_uint32_uint32.f
  rw [if_pos (by omega)]
theorem trim_ev (l : List Int) (h : U l) (hb : l.length ≤ 1073741824) : ∃ K, ∀ k, K ≤ k → nat_Trim.f k l = some (lim (val l)) := by
  obtain ⟨K, hK⟩ := cut_ev l h hb
  refine ⟨K, fun k hk => ?_⟩
  have h1 := lim_len (val_nonneg h) l.length (val_lt h)
  unfold nat_Trim.f
  rw [hK k hk]
  simp only [Option.bind_some]
  rw [clone_eq _ (by omega)]
  rfl

/-- -1, 0 or 1. -/
def sgn (x : Int) : Int := if x < 0 then -1 else if 0 < x then 1 else 0
theorem sgn_neg {x : Int} (h : x < 0) : sgn x = -1 := by simp [sgn, h]
theorem sgn_pos {x : Int} (h : 0 < x) : sgn x = 1 := by unfold sgn; rw [if_neg (by omega), if_pos h]
theorem sgn_zero : sgn 0 = 0 := rfl
theorem cmp_l0 (a b : List Int) (ha : U a) (hb : U b) (hl : a.length = b.length) (hc : a.length ≤ 1073741824) (d : Nat) :
    ∀ (i : Nat), i ≤ a.length → a.length - i = d → a.drop (a.length - i) = b.drop (a.length - i) → ∃ K, ∀ k, K ≤ k → nat_Cmp.l0 k a b (a.length : Int) (i : Int) = some (sgn (val a - val b)) := by
  induction d with
  | zero =>
    intro i hi hd he
    refine ⟨1, fun k hk => ?_⟩
    obtain ⟨k, rfl⟩ : ∃ m, k = m + 1 := ⟨k - 1, by omega⟩
    simp only [nat_Cmp.l0]
    rw [if_neg (by omega)]
    rw [show a.length - i = 0 by omega, List.drop_zero, List.drop_zero] at he
    rw [he, Int.sub_self, sgn_zero]
  | succ d ih =>
    intro i hi hd he
    have w1 : wrap64 ((a.length : Int) - 1) = (a.length : Int) - 1 := w64 (by omega) (by omega)
    have w2 : wrap64 ((a.length : Int) - 1 - i) = (a.length : Int) - 1 - i := w64 (by omega) (by omega)
    have w3 : wrap64 ((i : Int) + 1) = ((i + 1 : Nat) : Int) := by rw [w64 (by omega) (by omega)]; omega
    have ht : ((a.length : Int) - 1 - i).toNat = a.length - (i + 1) := by omega
    have hs : a.length - (i + 1) + 1 = a.length - i := by omega
    rcases Int.lt_trichotomy (a.getD (a.length - (i + 1)) 0) (b.getD (a.length - (i + 1)) 0) with hlt | heq | hgt
    · refine ⟨1, fun k hk => ?_⟩
      obtain ⟨k, rfl⟩ : ∃ m, k = m + 1 := ⟨k - 1, by omega⟩
      have := val_lt_top ha hb (k := a.length - (i + 1)) (by omega) (by omega) (by rw [hs]; exact he) hlt
      simp only [nat_Cmp.l0, w1, w2, w3, rd_eq, ht]
      rw [if_pos (by omega), if_pos (by omega), if_pos (by omega), if_pos (by omega), if_pos hlt, sgn_neg (by omega)]
    · obtain ⟨K, hK⟩ := ih (i + 1) (by omega) (by omega) (by rw [drop_eq (by omega), drop_eq (l := b) (by omega), heq, hs, he])
      refine ⟨K + 1, fun k hk => ?_⟩
      obtain ⟨k, rfl⟩ : ∃ m, k = m + 1 := ⟨k - 1, by omega⟩
      simp only [nat_Cmp.l0, w1, w2, w3, rd_eq, ht]
      rw [if_pos (by omega), if_pos (by omega), if_pos (by omega), if_pos (by omega), if_neg (by omega)]
      rw [if_neg (by omega)]
      exact hK k (by omega)
    · refine ⟨1, fun k hk => ?_⟩
      obtain ⟨k, rfl⟩ : ∃ m, k = m + 1 := ⟨k - 1, by omega⟩
      have := val_lt_top hb ha (k := a.length - (i + 1)) (by omega) (by omega) (by rw [hs]; exact he.symm) hgt
      simp only [nat_Cmp.l0, w1, w2, w3, rd_eq, ht]
      rw [if_pos (by omega), if_pos (by omega), if_pos (by omega), if_pos (by omega), if_neg (by omega)]
      rw [if_pos (by omega), sgn_pos (by omega)]
theorem cmp_ev (a b : List Int) (ha : U a) (hb : U b) (hla : a.length ≤ 1073741824) (hlb : b.length ≤ 1073741824) : ∃ K, ∀ k, K ≤ k → nat_Cmp.f k a b = some (sgn (val a - val b)) := by
  obtain ⟨K1, h1⟩ := cut_ev a ha hla
  obtain ⟨K2, h2⟩ := cut_ev b hb hlb
  have na := val_nonneg ha
  have nb := val_nonneg hb
  have la := lim_len na a.length (val_lt ha)
  have lb := lim_len nb b.length (val_lt hb)
  rcases Nat.lt_trichotomy (lim (val a)).length (lim (val b)).length with hlt | heq | hgt
  · refine ⟨K1 + K2, fun k hk => ?_⟩
    have := lim_len_lt na hlt
    unfold nat_Cmp.f
    rw [h1 k (by omega), Option.bind_some, h2 k (by omega), Option.bind_some, if_pos (by omega), sgn_neg (by omega)]
  · obtain ⟨K3, h3⟩ := cmp_l0 (lim (val a)) (lim (val b)) (U_lim na) (U_lim nb) heq (by omega) _ 0 (by omega) rfl (by simp [heq])
    refine ⟨K1 + K2 + K3, fun k hk => ?_⟩
    have h4 := h3 k (by omega)
    rw [val_lim na, val_lim nb] at h4
    unfold nat_Cmp.f
    rw [h1 k (by omega), Option.bind_some, h2 k (by omega), Option.bind_some, if_neg (by omega), if_neg (by omega)]
    exact h4
  · refine ⟨K1 + K2, fun k hk => ?_⟩
    have := lim_len_lt nb hgt
    unfold nat_Cmp.f
    rw [h1 k (by omega), Option.bind_some, h2 k (by omega), Option.bind_some, if_neg (by omega), if_pos (by omega), sgn_pos (by omega)]

/-- How many bits a number has. -/
def bl (n : Int) : Int := if n ≤ 0 then 0 else (Nat.log2 n.toNat : Int) + 1
theorem bl_zero : bl 0 = 0 := rfl
theorem p2_pos (i : Nat) : (0 : Int) < 2 ^ i := Int.pow_pos (by decide)
theorem p2_succ (i : Nat) : (2 : Int) ^ (i + 1) = 2 * 2 ^ i := by rw [Int.pow_succ, Int.mul_comm]
theorem p2_add (i j : Nat) : (2 : Int) ^ (i + j) = 2 ^ i * 2 ^ j := Int.pow_add _ _ _
theorem p2_mono {i j : Nat} (h : i ≤ j) : (2 : Int) ^ i ≤ 2 ^ j := by
  obtain ⟨d, rfl⟩ := Nat.le.dest h
  rw [p2_add]
  have h1 := p2_pos i
  have h2 : (1 : Int) ≤ 2 ^ d := by have := p2_pos d; omega
  have := Int.mul_le_mul_of_nonneg_left h2 (c := 2 ^ i) (by omega)
  omega
theorem p2_lt {i j : Nat} (h : (2 : Int) ^ i < 2 ^ j) : i < j := by
  by_cases hq : i < j
  · exact hq
  · have := p2_mono (i := j) (j := i) (by omega)
    omega
theorem p2_limb (i : Nat) : pw i = 2 ^ (32 * i) := by
  rw [pw_eq, Int.pow_mul]
  rfl
theorem bl_pos {n : Int} (h : 0 < n) : 0 < bl n := by unfold bl; rw [if_neg (by omega)]; omega
theorem bl_nonneg (n : Int) : 0 ≤ bl n := by unfold bl; split <;> omega
theorem bl_ge {n : Int} (h : 0 < n) : (2 : Int) ^ (bl n - 1).toNat ≤ n := by
  obtain ⟨m, rfl⟩ : ∃ m : Nat, n = m := ⟨n.toNat, by omega⟩
  unfold bl
  rw [if_neg (by omega)]
  have := Nat.log2_self_le (n := m) (by omega)
  rw [Int.add_sub_cancel, Int.toNat_natCast, Int.toNat_natCast]
  exact_mod_cast this
theorem bl_lt {n : Int} (h : 0 ≤ n) : n < (2 : Int) ^ (bl n).toNat := by
  obtain ⟨m, rfl⟩ : ∃ m : Nat, n = m := ⟨n.toNat, by omega⟩
  unfold bl
  by_cases hm : m = 0
  · subst hm; decide
  · rw [if_neg (by omega)]
    have := Nat.lt_log2_self (n := m)
    have e : ((Nat.log2 (m : Int).toNat : Int) + 1).toNat = m.log2 + 1 := by rw [Int.toNat_natCast]; omega
    rw [e]
    exact_mod_cast this
theorem bl_eq {n : Int} {m : Nat} (h0 : (2 : Int) ^ m ≤ n) (h1 : n < 2 ^ (m + 1)) : bl n = (m : Int) + 1 := by
  have hp := p2_pos m
  have a := bl_ge (n := n) (by omega)
  have b := bl_lt (n := n) (by omega)
  have c := bl_pos (n := n) (by omega)
  have d := p2_lt (Int.lt_of_le_of_lt a h1)
  have e := p2_lt (Int.lt_of_le_of_lt h0 b)
  omega
theorem bl_le {n : Int} {m : Nat} (h1 : n < 2 ^ m) : bl n ≤ m := by
  by_cases h : 0 < n
  · have a := bl_ge h
    have d := p2_lt (Int.lt_of_le_of_lt a h1)
    omega
  · unfold bl; rw [if_pos (by omega)]; omega
theorem bl_shift {x : Int} (j : Nat) (h : 0 < x / 2 ^ j) : bl x = j + bl (x / 2 ^ j) := by
  have a := bl_ge h
  have b := bl_lt (n := x / 2 ^ j) (by omega)
  have c := bl_pos h
  have p := p2_pos j
  have h1 : (2 : Int) ^ (j + (bl (x / 2 ^ j) - 1).toNat) ≤ x := by
    rw [p2_add]
    have := Int.mul_le_mul_of_nonneg_left a (c := 2 ^ j) (by omega)
    have e := Int.mul_ediv_add_emod x (2 ^ j)
    have f := Int.emod_nonneg x (b := 2 ^ j) (by omega)
    omega
  have h2 : x < (2 : Int) ^ (j + (bl (x / 2 ^ j) - 1).toNat + 1) := by
    rw [show j + (bl (x / 2 ^ j) - 1).toNat + 1 = j + (bl (x / 2 ^ j)).toNat by omega, p2_add]
    have h3 : x / 2 ^ j + 1 ≤ 2 ^ (bl (x / 2 ^ j)).toNat := b
    have := Int.mul_le_mul_of_nonneg_left h3 (c := 2 ^ j) (by omega)
    have e := Int.mul_ediv_add_emod x (2 ^ j)
    have f := Int.emod_lt_of_pos x p
    rw [Int.mul_add] at this
    omega
  have := bl_eq h1 h2
  omega
def tab8 : ByteArray := ⟨#[0, 1, 2, 2, 3, 3, 3, 3, 4, 4, 4, 4, 4, 4, 4, 4, 5, 5, 5, 5, 5, 5, 5, 5, 5, 5, 5, 5, 5, 5, 5, 5, 6, 6, 6, 6, 6, 6, 6, 6, 6, 6, 6, 6, 6, 6, 6, 6, 6, 6, 6, 6, 6, 6, 6, 6, 6, 6, 6, 6, 6, 6, 6, 6, 7, 7, 7, 7, 7, 7, 7, 7, 7, 7, 7, 7, 7, 7, 7, 7, 7, 7, 7, 7, 7, 7, 7, 7, 7, 7, 7, 7, 7, 7, 7, 7, 7, 7, 7, 7, 7, 7, 7, 7, 7, 7, 7, 7, 7, 7, 7, 7, 7, 7, 7, 7, 7, 7, 7, 7, 7, 7, 7, 7, 7, 7, 7, 7, 8, 8, 8, 8, 8, 8, 8, 8, 8, 8, 8, 8, 8, 8, 8, 8, 8, 8, 8, 8, 8, 8, 8, 8, 8, 8, 8, 8, 8, 8, 8, 8, 8, 8, 8, 8, 8, 8, 8, 8, 8, 8, 8, 8, 8, 8, 8, 8, 8, 8, 8, 8, 8, 8, 8, 8, 8, 8, 8, 8, 8, 8, 8, 8, 8, 8, 8, 8, 8, 8, 8, 8, 8, 8, 8, 8, 8, 8, 8, 8, 8, 8, 8, 8, 8, 8, 8, 8, 8, 8, 8, 8, 8, 8, 8, 8, 8, 8, 8, 8, 8, 8, 8, 8, 8, 8, 8, 8, 8, 8, 8, 8, 8, 8, 8, 8, 8, 8, 8, 8, 8, 8, 8, 8, 8, 8, 8, 8]⟩
theorem tab8_fin : ∀ i : Fin 256, bt tab8 (i.val : Int) = bl (i.val : Int) := by decide +kernel
theorem tab8_eq {x : Int} (h0 : 0 ≤ x) (h1 : x < 256) : bt tab8 x = bl x := by
  have := tab8_fin ⟨x.toNat, by omega⟩
  simp only at this
  rw [show ((x.toNat : Nat) : Int) = x by omega] at this
  exact this
theorem len32 {x : Int} (h0 : 0 ≤ x) (h1 : x < 4294967296) : bits_Len32.f x = some (bl x) := by
  have b8 : ∀ y : Int, 0 ≤ y → y < 256 → bl y ≤ 8 := fun y _ hy => bl_le (m := 8) hy
  unfold bits_Len32.f
  change (if x ≥ 65536 then (if (x / 65536) ≥ 256 then (if 0 ≤ (((x / 65536) / 256) % 256) then (if (((x / 65536) / 256) % 256) < 256 then (some (wrap64 ((16 + 8) + (wrap64 (bt tab8 (((x / 65536) / 256) % 256)))))) else (none)) else (none)) else (if 0 ≤ ((x / 65536) % 256) then (if ((x / 65536) % 256) < 256 then (some (wrap64 (16 + (wrap64 (bt tab8 ((x / 65536) % 256)))))) else (none)) else (none))) else (if x ≥ 256 then (if 0 ≤ ((x / 256) % 256) then (if ((x / 256) % 256) < 256 then (some (wrap64 ((0 + 8) + (wrap64 (bt tab8 ((x / 256) % 256)))))) else (none)) else (none)) else (if 0 ≤ (x % 256) then (if (x % 256) < 256 then (some (wrap64 (0 + (wrap64 (bt tab8 (x % 256)))))) else (none)) else (none)))) = some (bl x)
  by_cases c1 : x ≥ 65536
  · rw [if_pos c1]
    by_cases c2 : x / 65536 ≥ 256
    · rw [if_pos c2, if_pos (by omega), if_pos (by omega)]
      have e : x / 65536 / 256 % 256 = x / 2 ^ 24 := by omega
      have e2 := bl_shift (x := x) 24 (by omega)
      have e3 := b8 (x / 2 ^ 24) (by omega) (by omega)
      have e4 := bl_nonneg (x / 2 ^ 24)
      rw [e, tab8_eq (by omega) (by omega), w64 (x := bl _) (by omega) (by omega), w64 (by omega) (by omega), e2]
      congr 1
    · rw [if_neg c2, if_pos (by omega), if_pos (by omega)]
      have e : x / 65536 % 256 = x / 2 ^ 16 := by omega
      have e2 := bl_shift (x := x) 16 (by omega)
      have e3 := b8 (x / 2 ^ 16) (by omega) (by omega)
      have e4 := bl_nonneg (x / 2 ^ 16)
      rw [e, tab8_eq (by omega) (by omega), w64 (x := bl _) (by omega) (by omega), w64 (by omega) (by omega), e2]
      congr 1
  · rw [if_neg c1]
    by_cases c2 : x ≥ 256
    · rw [if_pos c2, if_pos (by omega), if_pos (by omega)]
      have e : x / 256 % 256 = x / 2 ^ 8 := by omega
      have e2 := bl_shift (x := x) 8 (by omega)
      have e3 := b8 (x / 2 ^ 8) (by omega) (by omega)
      have e4 := bl_nonneg (x / 2 ^ 8)
      rw [e, tab8_eq (by omega) (by omega), w64 (x := bl _) (by omega) (by omega), w64 (by omega) (by omega), e2]
      congr 1
    · rw [if_neg c2, if_pos (by omega), if_pos (by omega)]
      have e : x % 256 = x := by omega
      have e3 := b8 x (by omega) (by omega)
      have e4 := bl_nonneg x
      rw [e, tab8_eq (by omega) (by omega), w64 (x := bl _) (by omega) (by omega), w64 (by omega) (by omega)]
      congr 1
      omega
theorem lz32 {x : Int} (h0 : 0 ≤ x) (h1 : x < 4294967296) : bits_LeadingZeros32.f x = some (32 - bl x) := by
  unfold bits_LeadingZeros32.f
  have e3 := bl_le (n := x) (m := 32) h1
  have e4 := bl_nonneg x
  rw [len32 h0 h1, Option.bind_some, w64 (by omega) (by omega)]
/-- The value of the limbs: the highest one, and what is behind it. -/
theorem val_top {n : Int} (h : 0 < n) : n / pw ((lim n).length - 1) = (lim n).getD ((lim n).length - 1) 0 := by
  have hl : 0 < (lim n).length := List.length_pos_iff.2 (lim_ne_nil h)
  have hu := U_lim (n := n) (by omega)
  have e := val_split (lim n) ((lim n).length - 1) (by omega)
  rw [val_lim (by omega), val_drop (by omega), show (lim n).length - 1 + 1 = (lim n).length by omega, List.drop_length, val_nil] at e
  have h1 := val_lt (U_take hu ((lim n).length - 1))
  have h2 := val_nonneg (U_take hu ((lim n).length - 1))
  rw [List.length_take, Nat.min_eq_left (by omega)] at h1
  have hp := pw_pos ((lim n).length - 1)
  rw [Int.mul_zero, Int.add_zero] at e
  have key : ∀ (A p t : Int), 0 ≤ A → A < p → 0 < p → (A + p * t) / p = t := fun A p t a1 a2 a3 => by
    rw [Int.add_mul_ediv_left _ _ (by omega), Int.ediv_eq_zero_of_lt a1 a2]
    omega
  have e5 := key _ _ ((lim n).getD ((lim n).length - 1) 0) h2 h1 hp
  rw [← e] at e5
  exact e5
theorem len_ev (l : List Int) (h : U l) (hb : l.length ≤ 1073741824) : ∃ K, ∀ k, K ≤ k → nat_Len.f k l = some (bl (val l)) := by
  obtain ⟨K, hK⟩ := cut_ev l h hb
  have hn := val_nonneg h
  have hl := lim_len hn l.length (val_lt h)
  have hz := lim_nil_iff hn
  refine ⟨K, fun k hk => ?_⟩
  unfold nat_Len.f
  rw [hK k hk, Option.bind_some]
  by_cases h0 : val l = 0
  · rw [if_pos (by have := hz.2 h0; omega), h0]
    rfl
  · have h1 : 0 < (lim (val l)).length := by
      by_cases hq : (lim (val l)).length = 0
      · exact absurd (hz.1 hq) h0
      · omega
    have hpos : 0 < val l := by omega
    have hw : wrap64 (((lim (val l)).length : Int) - 1) = ((lim (val l)).length : Int) - 1 := w64 (by omega) (by omega)
    have ht : (((lim (val l)).length : Int) - 1).toNat = (lim (val l)).length - 1 := by omega
    have hu := U_getD (U_lim hn) ((lim (val l)).length - 1)
    have hlast := lim_last hpos
    rw [if_neg (by omega)]
    simp only [hw, rd_eq, ht]
    rw [if_pos (by omega), if_pos (by omega), len32 hu.1 hu.2, Option.bind_some]
    have e1 := val_top hpos
    have e2 := bl_shift (x := val l) (32 * ((lim (val l)).length - 1)) (by rw [← p2_limb, e1]; omega)
    rw [← p2_limb, e1] at e2
    have e3 := bl_le (n := (lim (val l)).getD ((lim (val l)).length - 1) 0) (m := 32) hu.2
    have e4 := bl_nonneg ((lim (val l)).getD ((lim (val l)).length - 1) 0)
    rw [w64 (x := 32 * _) (by omega) (by omega), w64 (by omega) (by omega), e2]
    congr 1
    omega
end Go.Proofs.Ytbejmpocgnldnaa.T
