/- Any number of limbs, moved up or down by any number of bits, and its root, as the program and the document's answer tell them, are the same. -/
import Derived.Test.YtdaoijgnolhnoaaTA
import Derived.Test.YtdaoijgnolhnoaaT9
namespace Go.Proofs.Ytdaoijgnolhnoaa.Pure
set_option linter.unusedVariables false
set_option linter.unusedSimpArgs false
open Go.RowKit Go.Proofs.Ytdaoijgnolhnoaa.PN Go.Proofs.YtdaoijgnolhnoaaW.PrintWords Go.Proofs.YtdaoijgnolhnoaaW.PrintLast Go.Proofs.Ytdaoijgnolhnoaa.T

theorem NatShifts : peloruslaw01_NatShifts.Pure := by
  intro a n _ _ wa wn
  have ua := U_of_wf wa
  have na := val_nonneg ua
  obtain ⟨Ka, ha⟩ := awake_ev
  by_cases hf : a.length ≤ 40
  · by_cases hg : n > 3000 ∧ n ≤ 16777216
    · refine ⟨Ka + 1, ?_, fun r h => by rw [ha _ (by omega)] at h; exact (Option.some.inj h).symm⟩
      unfold peloruslaw01_NatShifts.f
      rw [ha _ (by omega), Option.bind_some, few_eq, Option.bind_some, if_pos rfl, decide_eq_true ⟨hf, by simp⟩, if_pos rfl, if_pos hg.1, decide_eq_true hg.2]
      simp [peloruslaw01_NatShifts.j0]
    · obtain ⟨K1, h1⟩ := shl_ev a n ua (by omega)
      obtain ⟨K2, h2⟩ := rshl_ev a n ua (by omega)
      have l1 := len_shl ua n
      obtain ⟨K3, h3⟩ := rsame_ev (lim (shlv (val a) n)) (by omega)
      obtain ⟨K4, h4⟩ := shr_ev a n ua (by omega)
      obtain ⟨K5, h5⟩ := rshr_ev a n ua (by omega)
      have l2 := len_shr ua n
      obtain ⟨K6, h6⟩ := rsame_ev (lim (shrv (val a) n)) (by omega)
      obtain ⟨K7, h7⟩ := root_ev a ua (by omega)
      obtain ⟨K8, h8⟩ := rroot_ev a ua (by omega)
      have l3 := len_root ua
      obtain ⟨K9, h9⟩ := rsame_ev (lim (sqv (val a))) (by omega)
      obtain ⟨k, hk⟩ : ∃ k, k = Ka + K1 + K2 + K3 + K4 + K5 + K6 + K7 + K8 + K9 := ⟨_, rfl⟩
      have hj : peloruslaw01_NatShifts.j0 (k + 1) a n true false = some true := by
        simp only [peloruslaw01_NatShifts.j0, Bool.false_eq_true, if_false]
        rw [h1 k (by omega), Option.bind_some, h2 k (by omega), Option.bind_some, h3 k (by omega), Option.bind_some, h4 k (by omega), Option.bind_some, h5 k (by omega), Option.bind_some, h6 k (by omega), Option.bind_some, h7 k (by omega), Option.bind_some, h8 k (by omega), Option.bind_some]
        simp only
        rw [h9 k (by omega), Option.bind_some]
        simp
      refine ⟨k + 1, ?_, fun r h => by rw [ha _ (by omega)] at h; exact (Option.some.inj h).symm⟩
      unfold peloruslaw01_NatShifts.f
      rw [ha _ (by omega), Option.bind_some, few_eq, Option.bind_some, if_pos rfl, decide_eq_true ⟨hf, by simp⟩, if_pos rfl]
      by_cases hc : n > 3000
      · rw [if_pos hc, decide_eq_false (by omega)]
        exact hj
      · rw [if_neg hc]
        exact hj
  · refine ⟨Ka + 1, ?_, fun r h => by rw [ha _ (by omega)] at h; exact (Option.some.inj h).symm⟩
    unfold peloruslaw01_NatShifts.f
    rw [ha _ (by omega), Option.bind_some, few_eq, Option.bind_some, if_pos rfl, decide_eq_false (fun h => hf h.1)]
    simp [peloruslaw01_NatShifts.j0]

end Go.Proofs.Ytdaoijgnolhnoaa.Pure
