/- The quotient times the divisor, and what is left, are the number; what is left is less than the divisor. -/
import Derived.Test.YtdaoijgnolhnoaaTA
namespace Go.Proofs.Ytdaoijgnolhnoaa.Pure
set_option linter.unusedVariables false
set_option linter.unusedSimpArgs false
open Go.RowKit Go.Proofs.Ytdaoijgnolhnoaa.PN Go.Proofs.YtdaoijgnolhnoaaW.PrintWords Go.Proofs.YtdaoijgnolhnoaaW.PrintLast Go.Proofs.Ytdaoijgnolhnoaa.T

theorem NatBack : peloruslaw01_NatBack.Pure := by
  intro a b _ _ wa _ _ wb
  have ua := U_of_wf wa
  have ub := U_of_wf wb
  have na := val_nonneg ua
  have nb := val_nonneg ub
  obtain ⟨Ka, ha⟩ := awake_ev
  by_cases hf : a.length ≤ 40 ∧ b.length ≤ 40
  · obtain ⟨K1, h1⟩ := div_ev a b ua ub (by omega) (by omega)
    by_cases h0 : val b = 0
    · obtain ⟨K2, h2⟩ := len_ev b ub (by omega)
      rw [h0, bl_zero] at h2
      rw [if_pos h0] at h1
      obtain ⟨k, hk⟩ : ∃ k, k = Ka + K1 + K2 := ⟨_, rfl⟩
      refine ⟨k + 1, ?_, fun r h => by rw [ha _ (by omega)] at h; exact (Option.some.inj h).symm⟩
      unfold peloruslaw01_NatBack.f
      rw [ha _ (by omega), Option.bind_some, few_eq, Option.bind_some, if_pos rfl, decide_eq_true hf]
      simp only [peloruslaw01_NatBack.j0, Bool.not_true, Bool.false_eq_true, if_false]
      rw [h1 k (by omega), Option.bind_some]
      simp only [Bool.false_eq_true, if_false]
      rw [h2 k (by omega), Option.bind_some]
      simp
    · rw [if_neg h0] at h1
      have q0 := Int.ediv_nonneg na nb
      have r0 := Int.emod_nonneg (val a) h0
      have r1 := Int.emod_lt_of_pos (val a) (show 0 < val b by omega)
      have e := Int.mul_ediv_add_emod (val a) (val b)
      have lq := len_quot ua ub
      have lr := len_rest ua ub h0
      obtain ⟨K2, h2⟩ := mul_ev (lim (val a / val b)) b (U_lim q0) ub (by omega)
      rw [val_lim q0] at h2
      have m0 := Int.mul_nonneg q0 nb
      have lm : (lim (val a / val b * val b)).length ≤ a.length := Nat.le_trans (lim_len_mono m0 (by rw [Int.mul_comm]; omega)) (len_of a ua)
      obtain ⟨K3, h3⟩ := add_ev (lim (val a / val b * val b)) (lim (val a % val b)) (U_lim m0) (U_lim r0) (by omega) (by omega)
      rw [val_lim m0, val_lim r0, show val a / val b * val b + val a % val b = val a by rw [Int.mul_comm]; exact e] at h3
      have la := len_of a ua
      obtain ⟨K4, h4⟩ := cmp_ev (lim (val a)) a (U_lim na) ua (by omega) (by omega)
      rw [val_lim na, sgn_self] at h4
      obtain ⟨K5, h5⟩ := cmp_ev (lim (val a % val b)) b (U_lim r0) ub (by omega) (by omega)
      rw [val_lim r0, sgn_neg (by omega)] at h5
      obtain ⟨k, hk⟩ : ∃ k, k = Ka + K1 + K2 + K3 + K4 + K5 := ⟨_, rfl⟩
      refine ⟨k + 1, ?_, fun r h => by rw [ha _ (by omega)] at h; exact (Option.some.inj h).symm⟩
      unfold peloruslaw01_NatBack.f
      rw [ha _ (by omega), Option.bind_some, few_eq, Option.bind_some, if_pos rfl, decide_eq_true hf]
      simp only [peloruslaw01_NatBack.j0, Bool.not_true, Bool.false_eq_true, if_false]
      rw [h1 k (by omega), Option.bind_some]
      simp only [if_true]
      rw [h2 k (by omega), Option.bind_some, h3 k (by omega), Option.bind_some, h4 k (by omega), Option.bind_some, if_pos rfl, h5 k (by omega), Option.bind_some]
      rfl
  · refine ⟨Ka + 1, ?_, fun r h => by rw [ha _ (by omega)] at h; exact (Option.some.inj h).symm⟩
    unfold peloruslaw01_NatBack.f
    rw [ha _ (by omega), Option.bind_some, few_eq, Option.bind_some, if_pos rfl, decide_eq_false hf]
    simp [peloruslaw01_NatBack.j0]

end Go.Proofs.Ytdaoijgnolhnoaa.Pure
