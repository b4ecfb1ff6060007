/- A product with a sum is the sum of the products; bits that are moved up and down again are the number. -/
import Derived.Test.YtdaoijgnolhnoaaTA
namespace Go.Proofs.Ytdaoijgnolhnoaa.Pure
set_option linter.unusedVariables false
set_option linter.unusedSimpArgs false
open Go.RowKit Go.Proofs.Ytdaoijgnolhnoaa.PN Go.Proofs.YtdaoijgnolhnoaaW.PrintWords Go.Proofs.YtdaoijgnolhnoaaW.PrintLast Go.Proofs.Ytdaoijgnolhnoaa.T

theorem NatSpreads : peloruslaw01_NatSpreads.Pure := by
  intro a b c n _ _ wa _ _ wb _ _ wc wn
  have ua := U_of_wf wa
  have ub := U_of_wf wb
  have uc := U_of_wf wc
  have na := val_nonneg ua
  have nb := val_nonneg ub
  have nc := val_nonneg uc
  obtain ⟨Ka, ha⟩ := awake_ev
  have hout : ∀ k, peloruslaw01_NatSpreads.j0 (k + 1) a b c n true true = some true := fun k => by simp [peloruslaw01_NatSpreads.j0]
  by_cases g1 : a.length > 20
  · refine ⟨Ka + 1, ?_, fun r h => by rw [ha _ (by omega)] at h; exact (Option.some.inj h).symm⟩
    unfold peloruslaw01_NatSpreads.f
    rw [ha _ (by omega), Option.bind_some, if_pos rfl, if_pos (by omega)]
    exact hout _
  by_cases g2 : b.length > 20
  · refine ⟨Ka + 1, ?_, fun r h => by rw [ha _ (by omega)] at h; exact (Option.some.inj h).symm⟩
    unfold peloruslaw01_NatSpreads.f
    rw [ha _ (by omega), Option.bind_some, if_pos rfl, if_neg (by omega), if_pos (by omega)]
    exact hout _
  by_cases g3 : c.length > 20
  · refine ⟨Ka + 1, ?_, fun r h => by rw [ha _ (by omega)] at h; exact (Option.some.inj h).symm⟩
    unfold peloruslaw01_NatSpreads.f
    rw [ha _ (by omega), Option.bind_some, if_pos rfl, if_neg (by omega), if_neg (by omega), if_pos (by omega)]
    exact hout _
  by_cases g4 : n < 0
  · refine ⟨Ka + 1, ?_, fun r h => by rw [ha _ (by omega)] at h; exact (Option.some.inj h).symm⟩
    unfold peloruslaw01_NatSpreads.f
    rw [ha _ (by omega), Option.bind_some, if_pos rfl, if_neg (by omega), if_neg (by omega), if_neg (by omega), if_pos g4]
    exact hout _
  by_cases g5 : n > 1000
  · refine ⟨Ka + 1, ?_, fun r h => by rw [ha _ (by omega)] at h; exact (Option.some.inj h).symm⟩
    unfold peloruslaw01_NatSpreads.f
    rw [ha _ (by omega), Option.bind_some, if_pos rfl, if_neg (by omega), if_neg (by omega), if_neg (by omega), if_neg g4, decide_eq_true g5]
    exact hout _
  have s0 : 0 ≤ val b + val c := by omega
  have ls := len_add ub uc
  obtain ⟨K1, h1⟩ := add_ev b c ub uc (by omega) (by omega)
  obtain ⟨K2, h2⟩ := mul_ev a (lim (val b + val c)) ua (U_lim s0) (by omega)
  rw [val_lim s0] at h2
  have lm := len_mul ua (U_lim s0)
  rw [val_lim s0] at lm
  have m0 := Int.mul_nonneg na s0
  have m1 := Int.mul_nonneg na nb
  have m2 := Int.mul_nonneg na nc
  have l1 := len_mul ua ub
  have l2 := len_mul ua uc
  obtain ⟨K3, h3⟩ := mul_ev a b ua ub (by omega)
  obtain ⟨K4, h4⟩ := mul_ev a c ua uc (by omega)
  obtain ⟨K5, h5⟩ := add_ev (lim (val a * val b)) (lim (val a * val c)) (U_lim m1) (U_lim m2) (by omega) (by omega)
  rw [val_lim m1, val_lim m2, ← Int.mul_add] at h5
  obtain ⟨K6, h6⟩ := shl_ev a n ua (by omega)
  have z0 := shlv_nonneg na n
  have lz := len_shl ua n
  obtain ⟨K7, h7⟩ := len_ev a ua (by omega)
  obtain ⟨K8, h8⟩ := cmp_ev (lim (val a * (val b + val c))) (lim (val a * (val b + val c))) (U_lim m0) (U_lim m0) (by omega) (by omega)
  rw [sgn_self] at h8
  obtain ⟨K9, h9⟩ := shr_ev (lim (shlv (val a) n)) n (U_lim z0) (by omega)
  have hp := p2_pos n.toNat
  rw [val_lim z0, shrv_eq (by omega), shlv_eq (by omega) (by omega), Int.mul_ediv_cancel _ (by omega)] at h9
  rw [shlv_eq (by omega) (by omega)] at h6
  have la := len_of a ua
  obtain ⟨K10, h10⟩ := cmp_ev (lim (val a)) a (U_lim na) ua (by omega) (by omega)
  rw [val_lim na, sgn_self] at h10
  obtain ⟨K11, h11⟩ := len_ev (lim (shlv (val a) n)) (U_lim z0) (by omega)
  rw [val_lim z0, shlv_eq (by omega) (by omega)] at h11
  have hb := bl_le (n := val a) (m := 32 * a.length) (by rw [← p2_limb]; exact val_lt ua)
  have hb0 := bl_nonneg (val a)
  obtain ⟨k, hk⟩ : ∃ k, k = Ka + K1 + K2 + K3 + K4 + K5 + K6 + K7 + K8 + K9 + K10 + K11 := ⟨_, rfl⟩
  have hj1 : ∀ l, l = bl (val a * 2 ^ n.toNat) → peloruslaw01_NatSpreads.j1 (k + 1) a n (lim (val a * (val b + val c))) (lim (val a * (val b + val c))) (lim (val a * 2 ^ n.toNat)) l = some true := by
    intro l hl
    simp only [peloruslaw01_NatSpreads.j1]
    rw [h8 k (by omega), Option.bind_some, if_pos rfl, h9 k (by omega), Option.bind_some, h10 k (by omega), Option.bind_some, if_pos rfl, h11 k (by omega), Option.bind_some, hl]
    simp
  refine ⟨k + 1 + 1, ?_, fun r h => by rw [ha _ (by omega)] at h; exact (Option.some.inj h).symm⟩
  unfold peloruslaw01_NatSpreads.f
  rw [ha _ (by omega), Option.bind_some, if_pos rfl, if_neg (by omega), if_neg (by omega), if_neg (by omega), if_neg g4, decide_eq_false g5]
  simp only [peloruslaw01_NatSpreads.j0, Bool.false_eq_true, if_false]
  rw [h1 _ (by omega), Option.bind_some, h2 _ (by omega), Option.bind_some, h3 _ (by omega), Option.bind_some, h4 _ (by omega), Option.bind_some, h5 _ (by omega), Option.bind_some, h6 _ (by omega), Option.bind_some, h7 _ (by omega), Option.bind_some]
  by_cases hz : val a = 0
  · rw [if_neg (by rw [hz, bl_zero]; omega)]
    exact hj1 _ (by rw [hz, Int.zero_mul])
  · rw [if_pos (bl_pos (by omega)), w64 (by omega) (by omega)]
    exact hj1 _ (by rw [bl_mul (by omega)]; omega)

end Go.Proofs.Ytdaoijgnolhnoaa.Pure
