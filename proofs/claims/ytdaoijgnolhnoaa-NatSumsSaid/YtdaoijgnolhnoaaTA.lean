/- What wakes the statements of layer 1, and some lengths. -/
import Derived.Test.YtdaoijgnolhnoaaT7
namespace Go.Proofs.Ytdaoijgnolhnoaa.T
set_option linter.unusedVariables false
set_option linter.unusedSimpArgs false
open Go.RowKit Go.Proofs.YtdaoijgnolhnoaaW.PrintWords Go.Proofs.YtdaoijgnolhnoaaW.PrintMore Go.Proofs.Ytdaoijgnolhnoaa.PN

theorem lim_is {n : Int} (l : List Int) (hv : val l = n) (h : U l) (hn : 0 < l.length → l.getD (l.length - 1) 0 ≠ 0) : lim n = l := by rw [← hv]; exact lim_of_norm h hn
theorem awake_ev : ∃ K, ∀ k, K ≤ k → peloruslaw01_awake.f k = some true := by
  obtain ⟨K1, h1⟩ := add_ev [4294967295] [1] (by simp [U]) (by simp [U]) (by simp) (by simp)
  obtain ⟨K2, h2⟩ := div_ev [0, 1] [3] (by simp [U]) (by simp [U]) (by simp) (by simp)
  obtain ⟨K3, h3⟩ := root_ev [10] (by simp [U]) (by simp)
  have e1 : lim (val [4294967295] + val [1]) = [0, 1] := lim_is _ (by simp) (by simp [U]) (by simp)
  have e2 : lim (val [0, 1] / val [3]) = [1431655765] := lim_is _ (by simp) (by simp [U]) (by simp)
  have e3 : lim (val [0, 1] % val [3]) = [1] := lim_is _ (by simp) (by simp [U]) (by simp)
  have e4 : sqv (val [10]) = 3 := sqv_eq (by simp) (by simp) (by simp)
  have e5 : lim 3 = [3] := lim_is _ (by simp) (by simp [U]) (by simp)
  have e6 : val [3] ≠ 0 := by simp
  have e7 : val [10] = 10 := by simp
  refine ⟨K1 + K2 + K3, fun k hk => ?_⟩
  unfold peloruslaw01_awake.f
  rw [h1 k (by omega), Option.bind_some, h2 k (by omega), Option.bind_some, h3 k (by omega), Option.bind_some, if_neg e6, e1, e2, e3, e4, e5, e7]
  rfl
theorem few_eq (a b : List Int) : peloruslaw01_few.f a b = some (decide (a.length ≤ 40 ∧ b.length ≤ 40)) := by
  unfold peloruslaw01_few.f
  by_cases h1 : a.length ≤ 40
  · rw [if_pos (by omega)]
    congr 1
    by_cases h2 : b.length ≤ 40
    · rw [decide_eq_true (by omega), decide_eq_true ⟨h1, h2⟩]
    · rw [decide_eq_false (by omega), decide_eq_false (fun h => h2 h.2)]
  · rw [if_neg (by omega), decide_eq_false (fun h => h1 h.1)]
theorem len_of (l : List Int) (h : U l) : (lim (val l)).length ≤ l.length := lim_len (val_nonneg h) _ (val_lt h)
theorem len_add {a b : List Int} (ha : U a) (hb : U b) : (lim (val a + val b)).length ≤ max a.length b.length + 1 := by
  have h1 := val_lt ha
  have h2 := val_lt hb
  have h3 := val_nonneg ha
  have h4 := val_nonneg hb
  refine lim_len (by omega) _ ?_
  have h5 := pw_mono (show a.length ≤ max a.length b.length by omega)
  have h6 := pw_mono (show b.length ≤ max a.length b.length by omega)
  rw [pw_succ]
  omega
theorem len_mul {a b : List Int} (ha : U a) (hb : U b) : (lim (val a * val b)).length ≤ a.length + b.length := by
  have h1 := val_lt ha
  have h2 := val_lt hb
  have h3 := val_nonneg ha
  have h4 := val_nonneg hb
  refine lim_len (Int.mul_nonneg h3 h4) _ ?_
  have h5 := pw_pos a.length
  have e1 := Int.mul_le_mul_of_nonneg_right (show val a ≤ pw a.length by omega) h4
  have e2 := Int.mul_lt_mul_of_pos_left h2 h5
  rw [pw_add]
  omega
theorem val_pos_div {a b : Int} (ha : 0 ≤ a) (hb : 0 ≤ b) : 0 ≤ a / b := Int.ediv_nonneg ha hb
end Go.Proofs.Ytdaoijgnolhnoaa.T
