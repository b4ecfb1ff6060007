/- What is taken away from a sum of two is left as the other one; a number less than another one can't be lessened by it. -/
import Derived.Test.YtdaoijgnolhnoaaTA
namespace Go.Proofs.Ytdaoijgnolhnoaa.Pure
set_option linter.unusedVariables false
set_option linter.unusedSimpArgs false
open Go.RowKit Go.Proofs.Ytdaoijgnolhnoaa.PN Go.Proofs.YtdaoijgnolhnoaaW.PrintWords Go.Proofs.YtdaoijgnolhnoaaW.PrintLast Go.Proofs.Ytdaoijgnolhnoaa.T

theorem NatLess : peloruslaw01_NatLess.Pure := by
  intro a b _ _ wa _ _ wb
  have ua := U_of_wf wa
  have ub := U_of_wf wb
  have na := val_nonneg ua
  have nb := val_nonneg ub
  obtain ⟨Ka, ha⟩ := awake_ev
  by_cases hf : a.length ≤ 40 ∧ b.length ≤ 40
  · obtain ⟨K1, h1⟩ := add_ev a b ua ub (by omega) (by omega)
    have ls := len_add ua ub
    have s0 : 0 ≤ val a + val b := by omega
    have la := len_of a ua
    obtain ⟨K2, h2⟩ := sub_ev (lim (val a + val b)) b (U_lim s0) ub (by omega) (by omega)
    rw [val_lim s0, if_neg (by omega), show val a + val b - val b = val a by omega] at h2
    obtain ⟨K3, h3⟩ := sub_ev a (lim (val a + val b)) ua (U_lim s0) (by omega) (by omega)
    rw [val_lim s0] at h3
    obtain ⟨K4, h4⟩ := cmp_ev (lim (val a)) a (U_lim na) ua (by omega) (by omega)
    rw [val_lim na, sgn_self] at h4
    obtain ⟨K5, h5⟩ := add_ev b a ub ua (by omega) (by omega)
    rw [Int.add_comm] at h5
    obtain ⟨K6, h6⟩ := cmp_ev (lim (val a + val b)) (lim (val a + val b)) (U_lim s0) (U_lim s0) (by omega) (by omega)
    rw [sgn_self] at h6
    obtain ⟨K7, h7⟩ := len_ev b ub (by omega)
    obtain ⟨K8, h8⟩ := cmp_ev a b ua ub (by omega) (by omega)
    obtain ⟨K9, h9⟩ := cmp_ev b a ub ua (by omega) (by omega)
    obtain ⟨k, hk⟩ : ∃ k, k = Ka + K1 + K2 + K3 + K4 + K5 + K6 + K7 + K8 + K9 := ⟨_, rfl⟩
    refine ⟨k + 1, ?_, fun r h => by rw [ha _ (by omega)] at h; exact (Option.some.inj h).symm⟩
    unfold peloruslaw01_NatLess.f
    rw [ha _ (by omega), Option.bind_some, few_eq, Option.bind_some, if_pos rfl, decide_eq_true hf]
    simp only [peloruslaw01_NatLess.j0, Bool.not_true, Bool.false_eq_true, if_false]
    rw [h1 k (by omega), Option.bind_some, h2 k (by omega), Option.bind_some, h3 k (by omega), Option.bind_some]
    simp only [if_true]
    rw [h4 k (by omega), Option.bind_some, if_pos rfl, h5 k (by omega), Option.bind_some, h6 k (by omega), Option.bind_some, if_pos rfl, h7 k (by omega), Option.bind_some, bl_beq nb]
    have hb := sgn_bd (val b - val a)
    have ho := sgn_opp (val b - val a)
    rw [show -(val b - val a) = val a - val b by omega] at ho
    rw [if_pos (by
      by_cases hz : val b = 0
      · rw [if_neg (by omega), decide_eq_true hz]; rfl
      · rw [if_pos (by omega), decide_eq_false hz]; rfl), h8 k (by omega), Option.bind_some, h9 k (by omega), Option.bind_some, w64 (by omega) (by omega), ho]
    simp
  · refine ⟨Ka + 1, ?_, fun r h => by rw [ha _ (by omega)] at h; exact (Option.some.inj h).symm⟩
    unfold peloruslaw01_NatLess.f
    rw [ha _ (by omega), Option.bind_some, few_eq, Option.bind_some, if_pos rfl, decide_eq_false hf]
    simp [peloruslaw01_NatLess.j0]

end Go.Proofs.Ytdaoijgnolhnoaa.Pure
