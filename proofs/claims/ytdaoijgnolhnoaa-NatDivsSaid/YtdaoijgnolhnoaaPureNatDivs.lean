/- The quotient of any two numbers of limbs, and what is left, as the program and the document's answer tell them, are the same. -/
import Derived.Test.YtdaoijgnolhnoaaTA
import Derived.Test.YtdaoijgnolhnoaaT9
namespace Go.Proofs.Ytdaoijgnolhnoaa.Pure
set_option linter.unusedVariables false
set_option linter.unusedSimpArgs false
open Go.RowKit Go.Proofs.Ytdaoijgnolhnoaa.PN Go.Proofs.YtdaoijgnolhnoaaW.PrintWords Go.Proofs.YtdaoijgnolhnoaaW.PrintLast Go.Proofs.Ytdaoijgnolhnoaa.T

theorem NatDivs : peloruslaw01_NatDivs.Pure := by
  intro a b _ _ wa _ _ wb
  have ua := U_of_wf wa
  have ub := U_of_wf wb
  have na := val_nonneg ua
  have nb := val_nonneg ub
  obtain ⟨Ka, ha⟩ := awake_ev
  by_cases hf : a.length ≤ 40 ∧ b.length ≤ 40
  · obtain ⟨K1, h1⟩ := div_ev a b ua ub (by omega) (by omega)
    obtain ⟨K2, h2⟩ := rdiv_ev a b ua ub (by omega) (by omega)
    obtain ⟨K3, h3⟩ := rsame_ev (if val b = 0 then ([], [], false) else (lim (val a / val b), lim (val a % val b), true)).1 (by
      split
      · simp
      · have := len_quot ua ub
        show (lim (val a / val b)).length ≤ _
        omega)
    obtain ⟨K4, h4⟩ := rsame_ev (if val b = 0 then ([], [], false) else (lim (val a / val b), lim (val a % val b), true)).2.1 (by
      split
      · simp
      · have := len_rest ua ub (by assumption)
        show (lim (val a % val b)).length ≤ _
        omega)
    obtain ⟨k, hk⟩ : ∃ k, k = Ka + K1 + K2 + K3 + K4 := ⟨_, rfl⟩
    refine ⟨k + 1, ?_, fun r h => by rw [ha _ (by omega)] at h; exact (Option.some.inj h).symm⟩
    unfold peloruslaw01_NatDivs.f
    rw [ha _ (by omega), Option.bind_some, few_eq, Option.bind_some, if_pos rfl, decide_eq_true hf]
    simp only [peloruslaw01_NatDivs.j0, Bool.not_true, Bool.false_eq_true, if_false]
    rw [h1 k (by omega), Option.bind_some, h2 k (by omega), Option.bind_some, h3 k (by omega), Option.bind_some, h4 k (by omega), Option.bind_some, if_pos rfl, if_pos rfl]
    simp
  · refine ⟨Ka + 1, ?_, fun r h => by rw [ha _ (by omega)] at h; exact (Option.some.inj h).symm⟩
    unfold peloruslaw01_NatDivs.f
    rw [ha _ (by omega), Option.bind_some, few_eq, Option.bind_some, if_pos rfl, decide_eq_false hf]
    simp [peloruslaw01_NatDivs.j0]

end Go.Proofs.Ytdaoijgnolhnoaa.Pure
