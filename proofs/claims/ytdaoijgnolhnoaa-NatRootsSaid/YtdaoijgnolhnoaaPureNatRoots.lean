/- A root's square is not greater than the number, the next one's is; the root of a square is the number itself. -/
import Derived.Test.YtdaoijgnolhnoaaTA
namespace Go.Proofs.Ytdaoijgnolhnoaa.Pure
set_option linter.unusedVariables false
set_option linter.unusedSimpArgs false
open Go.RowKit Go.Proofs.Ytdaoijgnolhnoaa.PN Go.Proofs.YtdaoijgnolhnoaaW.PrintWords Go.Proofs.YtdaoijgnolhnoaaW.PrintLast Go.Proofs.Ytdaoijgnolhnoaa.T

theorem NatRoots : peloruslaw01_NatRoots.Pure := by
  intro a _ _ wa
  have ua := U_of_wf wa
  have na := val_nonneg ua
  obtain ⟨Ka, ha⟩ := awake_ev
  by_cases hf : a.length ≤ 20
  · have s0 := sqv_nonneg (val a)
    obtain ⟨c1, c2⟩ := sqv_le na
    have ls := len_root ua
    have la := len_of a ua
    have ss := Int.mul_nonneg s0 s0
    have vv := Int.mul_nonneg na na
    have tt := Int.mul_nonneg (show 0 ≤ sqv (val a) + 1 by omega) (show 0 ≤ sqv (val a) + 1 by omega)
    obtain ⟨K1, h1⟩ := root_ev a ua (by omega)
    obtain ⟨K2, h2⟩ := add_ev (lim (sqv (val a))) [1] (U_lim s0) (U_single (by omega) (by omega)) (by omega) (by simp)
    rw [val_lim s0, show val [1] = 1 by simp] at h2
    have lt : (lim (sqv (val a) + 1)).length ≤ 22 := by
      have := len_add (U_lim s0) (U_single (show (0 : Int) ≤ 1 by omega) (by omega))
      rw [val_lim s0, show val [1] = 1 by simp] at this
      simp at this
      omega
    obtain ⟨K3, h3⟩ := mul_ev (lim (sqv (val a))) (lim (sqv (val a))) (U_lim s0) (U_lim s0) (by omega)
    rw [val_lim s0] at h3
    have lss := Nat.le_trans (lim_len_mono ss c1) la
    obtain ⟨K4, h4⟩ := cmp_ev (lim (sqv (val a) * sqv (val a))) a (U_lim ss) ua (by omega) (by omega)
    rw [val_lim ss] at h4
    obtain ⟨K5, h5⟩ := mul_ev a a ua ua (by omega)
    have lvv := len_mul ua ua
    obtain ⟨K6, h6⟩ := root_ev (lim (val a * val a)) (U_lim vv) (by omega)
    rw [val_lim vv, sqv_eq na (Int.le_refl _) (by have e : (val a + 1) * (val a + 1) = val a * val a + 2 * val a + 1 := by grind
                                                  omega)] at h6
    obtain ⟨K7, h7⟩ := mul_ev (lim (sqv (val a) + 1)) (lim (sqv (val a) + 1)) (U_lim (by omega)) (U_lim (by omega)) (by omega)
    rw [val_lim (n := sqv (val a) + 1) (by omega)] at h7
    have ltt := len_mul (U_lim (show 0 ≤ sqv (val a) + 1 by omega)) (U_lim (show 0 ≤ sqv (val a) + 1 by omega))
    rw [val_lim (n := sqv (val a) + 1) (by omega)] at ltt
    obtain ⟨K8, h8⟩ := cmp_ev (lim ((sqv (val a) + 1) * (sqv (val a) + 1))) a (U_lim tt) ua (by omega) (by omega)
    rw [val_lim tt, sgn_pos (by omega)] at h8
    obtain ⟨K9, h9⟩ := cmp_ev (lim (val a)) a (U_lim na) ua (by omega) (by omega)
    rw [val_lim na, sgn_self] at h9
    have hsg : sgn (sqv (val a) * sqv (val a) - val a) ≤ 0 := by unfold sgn; split <;> (try split) <;> omega
    obtain ⟨k, hk⟩ : ∃ k, k = Ka + K1 + K2 + K3 + K4 + K5 + K6 + K7 + K8 + K9 := ⟨_, rfl⟩
    refine ⟨k + 1, ?_, fun r h => by rw [ha _ (by omega)] at h; exact (Option.some.inj h).symm⟩
    unfold peloruslaw01_NatRoots.f
    rw [ha _ (by omega), Option.bind_some, if_pos rfl, decide_eq_false (by omega)]
    simp only [peloruslaw01_NatRoots.j0, Bool.false_eq_true, if_false]
    rw [h1 k (by omega), Option.bind_some]
    simp only
    rw [h2 k (by omega), Option.bind_some, h3 k (by omega), Option.bind_some, h4 k (by omega), Option.bind_some, h5 k (by omega), Option.bind_some, h6 k (by omega), Option.bind_some, if_pos hsg, h7 k (by omega), Option.bind_some, h8 k (by omega), Option.bind_some, if_pos (by omega), sgn_beq]
    simp only [beq_self_eq_true, if_true]
    rw [h9 k (by omega), Option.bind_some]
    rfl
  · refine ⟨Ka + 1, ?_, fun r h => by rw [ha _ (by omega)] at h; exact (Option.some.inj h).symm⟩
    unfold peloruslaw01_NatRoots.f
    rw [ha _ (by omega), Option.bind_some, if_pos rfl, decide_eq_true (by omega)]
    simp [peloruslaw01_NatRoots.j0]

end Go.Proofs.Ytdaoijgnolhnoaa.Pure
