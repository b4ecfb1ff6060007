/- Moved up by n bits is a product with 2 to the power n, moved down a quotient by it. -/
import Derived.Test.YtdaoijgnolhnoaaTA
namespace Go.Proofs.Ytdaoijgnolhnoaa.Pure
set_option linter.unusedVariables false
set_option linter.unusedSimpArgs false
open Go.RowKit Go.Proofs.Ytdaoijgnolhnoaa.PN Go.Proofs.YtdaoijgnolhnoaaW.PrintWords Go.Proofs.YtdaoijgnolhnoaaW.PrintLast Go.Proofs.Ytdaoijgnolhnoaa.T

theorem NatBits : peloruslaw01_NatBits.Pure := by
  intro a n _ _ wa wn
  have ua := U_of_wf wa
  have na := val_nonneg ua
  obtain ⟨Ka, ha⟩ := awake_ev
  have hout : ∀ k, peloruslaw01_NatBits.j0 (k + 1) a n true true = some true := fun k => by simp [peloruslaw01_NatBits.j0]
  by_cases g1 : a.length > 20
  · refine ⟨Ka + 1, ?_, fun r h => by rw [ha _ (by omega)] at h; exact (Option.some.inj h).symm⟩
    unfold peloruslaw01_NatBits.f
    rw [ha _ (by omega), Option.bind_some, if_pos rfl, if_pos (by omega)]
    exact hout _
  by_cases g4 : n < 0
  · refine ⟨Ka + 1, ?_, fun r h => by rw [ha _ (by omega)] at h; exact (Option.some.inj h).symm⟩
    unfold peloruslaw01_NatBits.f
    rw [ha _ (by omega), Option.bind_some, if_pos rfl, if_neg (by omega), if_pos g4]
    exact hout _
  by_cases g5 : n > 500
  · refine ⟨Ka + 1, ?_, fun r h => by rw [ha _ (by omega)] at h; exact (Option.some.inj h).symm⟩
    unfold peloruslaw01_NatBits.f
    rw [ha _ (by omega), Option.bind_some, if_pos rfl, if_neg (by omega), if_neg g4, decide_eq_true g5]
    exact hout _
  have u1 : U [1] := U_single (by omega) (by omega)
  have v1 : val [1] = 1 := by simp
  have hp := p2_pos n.toNat
  obtain ⟨K1, h1⟩ := shl_ev [1] n u1 (by simp)
  have lp := len_shl u1 n
  rw [v1, shlv_eq (by omega) (by omega), Int.one_mul] at h1 lp
  simp only [List.length_singleton] at lp
  obtain ⟨K2, h2⟩ := div_ev a (lim (2 ^ n.toNat)) ua (U_lim (by omega)) (by omega) (by omega)
  rw [val_lim (n := 2 ^ n.toNat) (by omega), if_neg (by omega)] at h2
  obtain ⟨K3, h3⟩ := shl_ev a n ua (by omega)
  have lz := len_shl ua n
  rw [shlv_eq (by omega) (by omega)] at h3 lz
  have z0 := Int.mul_nonneg na (show (0 : Int) ≤ 2 ^ n.toNat by omega)
  obtain ⟨K4, h4⟩ := mul_ev a (lim (2 ^ n.toNat)) ua (U_lim (by omega)) (by omega)
  rw [val_lim (n := 2 ^ n.toNat) (by omega)] at h4
  obtain ⟨K5, h5⟩ := cmp_ev (lim (val a * 2 ^ n.toNat)) (lim (val a * 2 ^ n.toNat)) (U_lim z0) (U_lim z0) (by omega) (by omega)
  rw [sgn_self] at h5
  obtain ⟨K6, h6⟩ := shr_ev a n ua (by omega)
  have lr := len_shr ua n
  rw [shrv_eq (by omega)] at h6 lr
  have q0 := Int.ediv_nonneg na (show (0 : Int) ≤ 2 ^ n.toNat by omega)
  obtain ⟨K7, h7⟩ := cmp_ev (lim (val a / 2 ^ n.toNat)) (lim (val a / 2 ^ n.toNat)) (U_lim q0) (U_lim q0) (by omega) (by omega)
  rw [sgn_self] at h7
  obtain ⟨K8, h8⟩ := len_ev (lim (2 ^ n.toNat)) (U_lim (by omega)) (by omega)
  rw [val_lim (n := 2 ^ n.toNat) (by omega), bl_eq (m := n.toNat) (by omega) (by rw [p2_succ]; omega)] at h8
  obtain ⟨k, hk⟩ : ∃ k, k = Ka + K1 + K2 + K3 + K4 + K5 + K6 + K7 + K8 := ⟨_, rfl⟩
  refine ⟨k + 1, ?_, fun r h => by rw [ha _ (by omega)] at h; exact (Option.some.inj h).symm⟩
  unfold peloruslaw01_NatBits.f
  rw [ha _ (by omega), Option.bind_some, if_pos rfl, if_neg (by omega), if_neg g4, decide_eq_false g5]
  simp only [peloruslaw01_NatBits.j0, Bool.false_eq_true, if_false]
  rw [h1 k (by omega), Option.bind_some, h2 k (by omega), Option.bind_some]
  simp only [if_true]
  rw [h3 k (by omega), Option.bind_some, h4 k (by omega), Option.bind_some, h5 k (by omega), Option.bind_some, if_pos rfl, h6 k (by omega), Option.bind_some, h7 k (by omega), Option.bind_some, if_pos rfl, h8 k (by omega), Option.bind_some, w64 (by omega) (by omega), show (n.toNat : Int) + 1 = n + 1 by omega]
  simp

end Go.Proofs.Ytdaoijgnolhnoaa.Pure
