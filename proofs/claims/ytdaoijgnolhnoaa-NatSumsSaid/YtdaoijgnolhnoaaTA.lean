/- What wakes the statements of layer 1, and some lengths. -/
import Derived.Test.YtdaoijgnolhnoaaT7
namespace Go.Proofs.Ytdaoijgnolhnoaa.T
set_option linter.unusedVariables false
set_option linter.unusedSimpArgs false
open Go.RowKit Go.Proofs.YtdaoijgnolhnoaaW.PrintWords Go.Proofs.YtdaoijgnolhnoaaW.PrintMore Go.Proofs.Ytdaoijgnolhnoaa.PN

theorem lim_is {n : Int} (l : List Int) (hv : val l = n) (h : U l) (hn : 0 < l.length → l.getD (l.length - 1) 0 ≠ 0) : lim n = l := by rw [← hv]; exact lim_of_norm h hn
theorem awake_ev : ∃ K, ∀ k, K ≤ k → peloruslaw01_awake.f k = some true := by
  obtain ⟨K1, h1⟩ := add_ev [4294967295] [1] (by simp [U]) (by simp [U]) (by simp) (by simp)
  obtain ⟨K2, h2⟩ := div_ev [0, 1] [3] (by simp [U]) (by simp [U]) (by simp) (by simp)
  obtain ⟨K3, h3⟩ := root_ev [10] (by simp [U]) (by simp)
  have e1 : lim (val [4294967295] + val [1]) = [0, 1] := lim_is _ (by simp) (by simp [U]) (by simp)
  have e2 : lim (val [0, 1] / val [3]) = [1431655765] := lim_is _ (by simp) (by simp [U]) (by simp)
  have e3 : lim (val [0, 1] % val [3]) = [1] := lim_is _ (by simp) (by simp [U]) (by simp)
  have e4 : sqv (val [10]) = 3 := sqv_eq (by simp) (by simp) (by simp)
  have e5 : lim 3 = [3] := lim_is _ (by simp) (by simp [U]) (by simp)
  have e6 : val [3] ≠ 0 := by simp
  have e7 : val [10] = 10 := by simp
  refine ⟨K1 + K2 + K3, fun k hk => ?_⟩
  unfold peloruslaw01_awake.f
  rw [h1 k (by omega), Option.bind_some, h2 k (by omega), Option.bind_some, h3 k (by omega), Option.bind_some, if_neg e6, e1, e2, e3, e4, e5, e7]
  rfl
theorem few_eq (a b : List Int) : peloruslaw01_few.f a b = some (decide (a.length ≤ 40 ∧ b.length ≤ 40)) := by
  unfold peloruslaw01_few.f
  by_cases h1 : a.length ≤ 40
  · rw [if_pos (by omega)]
    congr 1
    by_cases h2 : b.length ≤ 40
    · rw [decide_eq_true (by omega), decide_eq_true ⟨h1, h2⟩]
    · rw [decide_eq_false (by omega), decide_eq_false (fun h => h2 h.2)]
  · rw [if_neg (by omega), decide_eq_false (fun h => h1 h.1)]
theorem len_of (l : List Int) (h : U l) : (lim (val l)).length ≤ l.length := lim_len (val_nonneg h) _ (val_lt h)
theorem len_add {a b : List Int} (ha : U a) (hb : U b) : (lim (val a + val b)).length ≤ max a.length b.length + 1 := by
  have h1 := val_lt ha
  have h2 := val_lt hb
  have h3 := val_nonneg ha
  have h4 := val_nonneg hb
  refine lim_len (by omega) _ ?_
  have h5 := pw_mono (show a.length ≤ max a.length b.length by omega)
  have h6 := pw_mono (show b.length ≤ max a.length b.length by omega)
  rw [pw_succ]
  omega
theorem len_mul {a b : List Int} (ha : U a) (hb : U b) : (lim (val a * val b)).length ≤ a.length + b.length := by
  have h1 := val_lt ha
  have h2 := val_lt hb
  have h3 := val_nonneg ha
  have h4 := val_nonneg hb
  refine lim_len (Int.mul_nonneg h3 h4) _ ?_
  have h5 := pw_pos a.length
  have e1 := Int.mul_le_mul_of_nonneg_right (show val a ≤ pw a.length by omega) h4
  have e2 := Int.mul_lt_mul_of_pos_left h2 h5
  rw [pw_add]
  omega
theorem shlv_eq {v n : Int} (h0 : 0 ≤ n) (h1 : n ≤ 16777216) : shlv v n = v * 2 ^ n.toNat := by
  unfold shlv
  by_cases hc : n < 1
  · rw [if_pos hc, show n = 0 by omega]; simp
  · rw [if_neg hc, if_neg (by omega)]
theorem shrv_eq {v n : Int} (h0 : 0 ≤ n) : shrv v n = v / 2 ^ n.toNat := by
  unfold shrv
  by_cases hc : n < 1
  · rw [if_pos hc, show n = 0 by omega]; simp
  · rw [if_neg hc]
theorem shlv_nonneg {v : Int} (h : 0 ≤ v) (n : Int) : 0 ≤ shlv v n := by
  unfold shlv
  have := p2_pos n.toNat
  split
  · exact h
  · split
    · omega
    · exact Int.mul_nonneg h (by omega)
theorem shrv_nonneg {v : Int} (h : 0 ≤ v) (n : Int) : 0 ≤ shrv v n ∧ shrv v n ≤ v := by
  unfold shrv
  have := p2_pos n.toNat
  split
  · omega
  · exact ⟨Int.ediv_nonneg h (by omega), Int.ediv_le_self _ h⟩
theorem len_shl {a : List Int} (ha : U a) (n : Int) : (lim (shlv (val a) n)).length ≤ a.length + 524289 := by
  have h1 := val_lt ha
  have h2 := val_nonneg ha
  refine lim_len (shlv_nonneg h2 n) _ ?_
  have h5 := pw_pos a.length
  have hm := pw_mono (show a.length ≤ a.length + 524289 by omega)
  unfold shlv
  split
  · omega
  · split
    · have := pw_pos (a.length + 524289); omega
    · have hp := p2_pos n.toNat
      have e0 : (2 : Int) ^ n.toNat ≤ pw 524289 := by rw [p2_limb]; exact p2_mono (by omega)
      have e1 := Int.mul_lt_mul_of_pos_right h1 hp
      have e2 := Int.mul_le_mul_of_nonneg_left e0 (show 0 ≤ pw a.length by omega)
      rw [pw_add]
      omega
theorem len_shr {a : List Int} (ha : U a) (n : Int) : (lim (shrv (val a) n)).length ≤ a.length := by
  have h := shrv_nonneg (val_nonneg ha) n
  exact Nat.le_trans (lim_len_mono h.1 h.2) (len_of a ha)
theorem sqv_le_self {n : Int} (h : 0 ≤ n) : sqv n ≤ n := by
  have h1 := (sqv_le h).1
  have h0 := sqv_nonneg n
  by_cases hz : sqv n = 0
  · omega
  · have := Int.mul_le_mul_of_nonneg_left (show 1 ≤ sqv n by omega) h0
    omega
theorem len_root {a : List Int} (ha : U a) : (lim (sqv (val a))).length ≤ a.length :=
  Nat.le_trans (lim_len_mono (sqv_nonneg _) (sqv_le_self (val_nonneg ha))) (len_of a ha)
theorem len_quot {a b : List Int} (ha : U a) (hb : U b) : (lim (val a / val b)).length ≤ a.length :=
  Nat.le_trans (lim_len_mono (Int.ediv_nonneg (val_nonneg ha) (val_nonneg hb)) (Int.ediv_le_self _ (val_nonneg ha))) (len_of a ha)
theorem len_rest {a b : List Int} (ha : U a) (hb : U b) (h : val b ≠ 0) : (lim (val a % val b)).length ≤ b.length := by
  have h0 := val_nonneg hb
  exact Nat.le_trans (lim_len_mono (Int.emod_nonneg _ h) (by have := Int.emod_lt_of_pos (val a) (show 0 < val b by omega); omega)) (len_of b hb)
theorem bl_mul {v : Int} (h : 0 < v) (n : Nat) : bl (v * 2 ^ n) = bl v + n := by
  have hp := p2_pos n
  have e : v * 2 ^ n / 2 ^ n = v := Int.mul_ediv_cancel _ (by omega)
  have := bl_shift (x := v * 2 ^ n) n (by rw [e]; exact h)
  rw [this, e, Int.add_comm]
theorem bl_beq {w : Int} (h : 0 ≤ w) : (bl w == 0) = decide (w = 0) := by
  by_cases hz : w = 0
  · subst hz; rfl
  · have := bl_pos (n := w) (by omega)
    rw [decide_eq_false hz, beq_eq_false_iff_ne]
    omega
theorem sgn_self (x : Int) : sgn (x - x) = 0 := by rw [Int.sub_self]; rfl
theorem sgn_opp (x : Int) : sgn (-x) = -sgn x := by
  unfold sgn
  split <;> split <;> (try split) <;> (try split) <;> omega
theorem sgn_bd (x : Int) : -1 ≤ sgn x ∧ sgn x ≤ 1 := by unfold sgn; split <;> (try split) <;> omega
end Go.Proofs.Ytdaoijgnolhnoaa.T
