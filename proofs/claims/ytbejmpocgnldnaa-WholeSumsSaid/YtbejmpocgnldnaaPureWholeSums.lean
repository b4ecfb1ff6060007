/- The sum, the difference, the opposite, the order, the signs of any two numbers are what the document says. -/
import Derived.Test.YtbejmpocgnldnaaPAx1
import Derived.Test.YtbejmpocgnldnaaTJ
namespace Go.Proofs.Ytbejmpocgnldnaa.Pure
set_option linter.unusedVariables false
set_option linter.unusedSimpArgs false
open Go.RowKit Go.Proofs.Ytbejmpocgnldnaa.PA Go.Proofs.YtbejmpocgnldnaaW.PrintWords Go.Proofs.YtbejmpocgnldnaaW.PrintLast Go.Proofs.Ytbejmpocgnldnaa.T

theorem few_eq (b : Bool) (l : List Int) : peloruslaw02_Few.f b l = some (decide ((l.length : Int) ≤ 40)) := rfl
theorem WholeSums : peloruslaw02_WholeSums.Pure := by
  intro x y ox oy
  have ux := U_of_wf ox.2.2.2
  have uy := U_of_wf oy.2.2.2
  obtain ⟨Ka, ha⟩ := awake_ev
  by_cases hx : (x.f1.length : Int) ≤ 40
  rotate_left
  · refine ⟨Ka + 1, ?_, fun r h => by rw [ha _ (by omega)] at h; exact (Option.some.inj h).symm⟩
    unfold peloruslaw02_WholeSums.f
    rw [ha _ (by omega), Option.bind_some, few_eq, Option.bind_some, few_eq, Option.bind_some, if_pos rfl, decide_eq_false hx]
    rfl
  by_cases hy : (y.f1.length : Int) ≤ 40
  rotate_left
  · refine ⟨Ka + 1, ?_, fun r h => by rw [ha _ (by omega)] at h; exact (Option.some.inj h).symm⟩
    unfold peloruslaw02_WholeSums.f
    rw [ha _ (by omega), Option.bind_some, few_eq, Option.bind_some, few_eq, Option.bind_some, if_pos rfl, decide_eq_true hx, if_pos rfl, decide_eq_false hy]
    rfl
  have Bx := B_of x.f0 ux (Nat.le_refl _)
  have By := B_of y.f0 uy (Nat.le_refl _)
  obtain ⟨K1, h1⟩ := addw_ev x.f0 y.f0 x.f1 y.f1 ux uy (by omega) (by omega)
  obtain ⟨K2, h2⟩ := raddw_ev x.f0 y.f0 x.f1 y.f1 ux uy (by omega) (by omega)
  obtain ⟨K3, h3⟩ := alike_ev (nw (sg x.f0 (val x.f1) + sg y.f0 (val y.f1))) (by have := B_len (B_add Bx By); omega)
  obtain ⟨K4, h4⟩ := subw_ev x.f0 y.f0 x.f1 y.f1 ux uy (by omega) (by omega)
  obtain ⟨K5, h5⟩ := rsubw_ev x.f0 y.f0 x.f1 y.f1 ux uy (by omega) (by omega)
  obtain ⟨K6, h6⟩ := alike_ev (nw (sg x.f0 (val x.f1) - sg y.f0 (val y.f1))) (by have := B_len (B_add Bx (B_neg By)); rw [← Int.sub_eq_add_neg] at this; omega)
  obtain ⟨K7, h7⟩ := neg_ev x.f0 x.f1 ux (by omega)
  obtain ⟨K8, h8⟩ := rneg_ev x.f0 x.f1 ux (by omega)
  obtain ⟨K9, h9⟩ := alike_ev (nw (-sg x.f0 (val x.f1))) (by have := B_len (B_neg Bx); omega)
  obtain ⟨K10, h10⟩ := rcmpw_ev x.f0 y.f0 x.f1 y.f1 ux uy (by omega) (by omega)
  obtain ⟨K11, h11⟩ := cmpw_ev x.f0 y.f0 x.f1 y.f1 ux uy (by omega) (by omega)
  obtain ⟨K12, h12⟩ := same_ev x.f0 y.f0 x.f1 y.f1 ux uy (by omega) (by omega)
  obtain ⟨K13, h13⟩ := sign_ev x.f0 x.f1 ux (by omega)
  obtain ⟨K14, h14⟩ := rsign_ev x.f0 x.f1 ux (by omega)
  have e : (decide (sg x.f0 (val x.f1) = sg y.f0 (val y.f1)) == (sgn (sg x.f0 (val x.f1) - sg y.f0 (val y.f1)) == 0)) = true := by
    rw [beq_iff_eq, Bool.eq_iff_iff, decide_eq_true_iff, beq_iff_eq]
    have := sgn_cases (sg x.f0 (val x.f1) - sg y.f0 (val y.f1))
    omega
  refine ⟨Ka + K1 + K2 + K3 + K4 + K5 + K6 + K7 + K8 + K9 + K10 + K11 + K12 + K13 + K14 + 1, ?_, fun r h => by rw [ha _ (by omega)] at h; exact (Option.some.inj h).symm⟩
  unfold peloruslaw02_WholeSums.f
  rw [ha _ (by omega), Option.bind_some, few_eq, Option.bind_some, few_eq, Option.bind_some, if_pos rfl, decide_eq_true hx, if_pos rfl, decide_eq_true hy]
  simp only [peloruslaw02_WholeSums.j0, Bool.not_true, Bool.false_eq_true, if_false]
  rw [h1 _ (by omega), Option.bind_some, h2 _ (by omega), Option.bind_some, h3 _ (by omega), Option.bind_some, h4 _ (by omega), Option.bind_some, h5 _ (by omega), Option.bind_some, h6 _ (by omega), Option.bind_some, h7 _ (by omega), Option.bind_some, h8 _ (by omega), Option.bind_some, h9 _ (by omega), Option.bind_some, h10 _ (by omega), Option.bind_some, if_pos rfl, if_pos rfl, if_pos rfl, h11 _ (by omega), Option.bind_some, if_pos rfl, h12 _ (by omega), Option.bind_some, if_pos e, h13 _ (by omega), Option.bind_some, h14 _ (by omega), Option.bind_some]
  simp
end Go.Proofs.Ytbejmpocgnldnaa.Pure
