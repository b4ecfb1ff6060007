/- The sum, the product, the difference, the order and the length of any two numbers of limbs, as the program and the document's answer tell them, are the same. -/
import Derived.Test.YtdaoijgnolhnoaaTA
import Derived.Test.YtdaoijgnolhnoaaT9
namespace Go.Proofs.Ytdaoijgnolhnoaa.Pure
set_option linter.unusedVariables false
set_option linter.unusedSimpArgs false
open Go.RowKit Go.Proofs.Ytdaoijgnolhnoaa.PN Go.Proofs.YtdaoijgnolhnoaaW.PrintWords Go.Proofs.YtdaoijgnolhnoaaW.PrintLast Go.Proofs.Ytdaoijgnolhnoaa.T

theorem NatSums : peloruslaw01_NatSums.Pure := by
  intro a b _ _ wa _ _ wb
  have ua := U_of_wf wa
  have ub := U_of_wf wb
  have na := val_nonneg ua
  have nb := val_nonneg ub
  obtain ⟨Ka, ha⟩ := awake_ev
  by_cases hf : a.length ≤ 40 ∧ b.length ≤ 40
  · obtain ⟨K1, h1⟩ := sub_ev a b ua ub (by omega) (by omega)
    obtain ⟨K2, h2⟩ := rsub_ev a b ua ub (by omega) (by omega)
    obtain ⟨K3, h3⟩ := add_ev a b ua ub (by omega) (by omega)
    obtain ⟨K4, h4⟩ := radd_ev a b ua ub (by omega) (by omega)
    have l3 := len_add ua ub
    obtain ⟨K5, h5⟩ := rsame_ev (lim (val a + val b)) (by omega)
    obtain ⟨K6, h6⟩ := mul_ev a b ua ub (by omega)
    obtain ⟨K7, h7⟩ := rmul_ev a b ua ub (by omega)
    have l6 := len_mul ua ub
    obtain ⟨K8, h8⟩ := rsame_ev (lim (val a * val b)) (by omega)
    obtain ⟨K9, h9⟩ := rsame_ev (if val a < val b then ([], false) else (lim (val a - val b), true)).1 (by
      split
      · simp
      · have := len_of a ua
        have := lim_len_mono (show 0 ≤ val a - val b by omega) (show val a - val b ≤ val a by omega)
        show (lim (val a - val b)).length ≤ _
        omega)
    obtain ⟨K10, h10⟩ := trim_ev a ua (by omega)
    obtain ⟨K11, h11⟩ := rtrim_ev a ua (by omega)
    have l10 := len_of a ua
    obtain ⟨K12, h12⟩ := rsame_ev (lim (val a)) (by omega)
    obtain ⟨K13, h13⟩ := cmp_ev a b ua ub (by omega) (by omega)
    obtain ⟨K14, h14⟩ := rcmp_ev a b ua ub (by omega) (by omega)
    obtain ⟨K15, h15⟩ := len_ev a ua (by omega)
    obtain ⟨K16, h16⟩ := rlen_ev a ua (by omega)
    obtain ⟨k, hk⟩ : ∃ k, k = Ka + K1 + K2 + K3 + K4 + K5 + K6 + K7 + K8 + K9 + K10 + K11 + K12 + K13 + K14 + K15 + K16 := ⟨_, rfl⟩
    refine ⟨k + 1, ?_, fun r h => by rw [ha _ (by omega)] at h; exact (Option.some.inj h).symm⟩
    unfold peloruslaw01_NatSums.f
    rw [ha _ (by omega), Option.bind_some, few_eq, Option.bind_some, if_pos rfl, decide_eq_true hf]
    simp only [peloruslaw01_NatSums.j0, Bool.not_true, Bool.false_eq_true, if_false]
    rw [h1 k (by omega), Option.bind_some, h2 k (by omega), Option.bind_some, h3 k (by omega), Option.bind_some, h4 k (by omega), Option.bind_some, h5 k (by omega), Option.bind_some, h6 k (by omega), Option.bind_some, h7 k (by omega), Option.bind_some, h8 k (by omega), Option.bind_some, h9 k (by omega), Option.bind_some, h10 k (by omega), Option.bind_some, h11 k (by omega), Option.bind_some, h12 k (by omega), Option.bind_some]
    rw [if_pos rfl, if_pos rfl, if_pos rfl, if_pos rfl, if_pos (by simp), h13 k (by omega), Option.bind_some, h14 k (by omega), Option.bind_some, if_pos rfl, h15 k (by omega), Option.bind_some, h16 k (by omega), Option.bind_some]
    simp
  · refine ⟨Ka + 1, ?_, fun r h => by rw [ha _ (by omega)] at h; exact (Option.some.inj h).symm⟩
    unfold peloruslaw01_NatSums.f
    rw [ha _ (by omega), Option.bind_some, few_eq, Option.bind_some, if_pos rfl, decide_eq_false hf]
    simp [peloruslaw01_NatSums.j0]

end Go.Proofs.Ytdaoijgnolhnoaa.Pure
