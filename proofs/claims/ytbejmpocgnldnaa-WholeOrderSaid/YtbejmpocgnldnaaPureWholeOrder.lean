/- One number is less than another one just if the difference is below nought; to both the same may be added; with a factor above nought the order stays. -/
import Derived.Test.YtbejmpocgnldnaaPZx1
import Derived.Test.YtbejmpocgnldnaaTJ
namespace Go.Proofs.Ytbejmpocgnldnaa.Pure
set_option linter.unusedVariables false
set_option linter.unusedSimpArgs false
open Go.RowKit Go.Proofs.Ytbejmpocgnldnaa.PZ Go.Proofs.YtbejmpocgnldnaaW.PrintWords Go.Proofs.YtbejmpocgnldnaaW.PrintLast Go.Proofs.Ytbejmpocgnldnaa.T

theorem sgn_mul (x y : Int) : sgn (x * y) = sgn x * sgn y := by
  rcases sgn_cases x with ⟨h, e⟩ | ⟨h, e⟩ | ⟨h, e⟩ <;> rcases sgn_cases y with ⟨h', e'⟩ | ⟨h', e'⟩ | ⟨h', e'⟩ <;> rw [e, e']
  · exact sgn_pos (Int.mul_pos_of_neg_of_neg h h')
  · rw [h', Int.mul_zero]; rfl
  · exact sgn_neg (Int.mul_neg_of_neg_of_pos h h')
  · rw [h, Int.zero_mul]; rfl
  · rw [h, Int.zero_mul]; rfl
  · rw [h, Int.zero_mul]; rfl
  · exact sgn_neg (Int.mul_neg_of_pos_of_neg h h')
  · rw [h', Int.mul_zero]; rfl
  · exact sgn_pos (Int.mul_pos h h')
theorem prod2 (b c : Bool) (l m : List Int) : prodS [⟨b, l⟩, ⟨c, m⟩] = sg b (val l) * sg c (val m) := by
  rw [prodS_cons, prodS_cons, show prodS [] = 1 from rfl, Int.mul_one]
theorem WholeOrder : peloruslaw02_WholeOrder.Pure := by
  intro x y z ox oy oz
  have ux := U_of_wf ox.2.2.2
  have uy := U_of_wf oy.2.2.2
  have uz := U_of_wf oz.2.2.2
  obtain ⟨Ka, ha⟩ := awake_ev
  have out : ∀ k, peloruslaw02_WholeOrder.j0 (k + 1) true true x.f0 x.f1 y.f0 y.f1 z.f0 z.f1 = some true := fun _ => rfl
  by_cases hx : (x.f1.length : Int) > 15
  · refine ⟨Ka + 1, ?_, fun r h => by rw [ha _ (by omega)] at h; exact (Option.some.inj h).symm⟩
    unfold peloruslaw02_WholeOrder.f
    rw [ha _ (by omega), Option.bind_some, if_pos rfl, if_pos hx]
    exact out Ka
  by_cases hy : (y.f1.length : Int) > 15
  · refine ⟨Ka + 1, ?_, fun r h => by rw [ha _ (by omega)] at h; exact (Option.some.inj h).symm⟩
    unfold peloruslaw02_WholeOrder.f
    rw [ha _ (by omega), Option.bind_some, if_pos rfl, if_neg hx, if_pos hy]
    exact out Ka
  by_cases hz : (z.f1.length : Int) > 15
  · refine ⟨Ka + 1, ?_, fun r h => by rw [ha _ (by omega)] at h; exact (Option.some.inj h).symm⟩
    unfold peloruslaw02_WholeOrder.f
    rw [ha _ (by omega), Option.bind_some, if_pos rfl, if_neg hx, if_neg hy, decide_eq_true hz]
    exact out Ka
  have Bx := B_of x.f0 ux (Nat.le_refl _)
  have By := B_of y.f0 uy (Nat.le_refl _)
  have Bz := B_of z.f0 uz (Nat.le_refl _)
  obtain ⟨K1, h1⟩ := cmpw_ev x.f0 y.f0 x.f1 y.f1 ux uy (by omega) (by omega)
  obtain ⟨K2, h2⟩ := sign_ev z.f0 z.f1 uz (by omega)
  obtain ⟨K3, h3⟩ := subw_ev x.f0 y.f0 x.f1 y.f1 ux uy (by omega) (by omega)
  have l3 := B_len (B_add Bx (B_neg By))
  rw [← Int.sub_eq_add_neg] at l3
  obtain ⟨K4, h4⟩ := sign_ev (nw (sg x.f0 (val x.f1) - sg y.f0 (val y.f1))).1 (nw (sg x.f0 (val x.f1) - sg y.f0 (val y.f1))).2 (nw_U _) (by omega)
  rw [nw_sg] at h4
  obtain ⟨K5, h5⟩ := addw_ev x.f0 z.f0 x.f1 z.f1 ux uz (by omega) (by omega)
  obtain ⟨K6, h6⟩ := addw_ev y.f0 z.f0 y.f1 z.f1 uy uz (by omega) (by omega)
  have l5 := B_len (B_add Bx Bz)
  have l6 := B_len (B_add By Bz)
  obtain ⟨K7, h7⟩ := cmpw_ev (nw (sg x.f0 (val x.f1) + sg z.f0 (val z.f1))).1 (nw (sg y.f0 (val y.f1) + sg z.f0 (val z.f1))).1 (nw (sg x.f0 (val x.f1) + sg z.f0 (val z.f1))).2 (nw (sg y.f0 (val y.f1) + sg z.f0 (val z.f1))).2 (nw_U _) (nw_U _) (by omega) (by omega)
  rw [nw_sg, nw_sg, show sg x.f0 (val x.f1) + sg z.f0 (val z.f1) - (sg y.f0 (val y.f1) + sg z.f0 (val z.f1)) = sg x.f0 (val x.f1) - sg y.f0 (val y.f1) by omega] at h7
  obtain ⟨K8, h8⟩ := mulw_ev [⟨x.f0, x.f1⟩, ⟨z.f0, z.f1⟩] (by simp [ux, uz]) (by simp; omega) (by simp)
  obtain ⟨K9, h9⟩ := mulw_ev [⟨y.f0, y.f1⟩, ⟨z.f0, z.f1⟩] (by simp [uy, uz]) (by simp; omega) (by simp)
  rw [prod2] at h8 h9
  have l8 := B_len (B_mul Bx Bz)
  have l9 := B_len (B_mul By Bz)
  obtain ⟨K10, h10⟩ := cmpw_ev (nw (sg x.f0 (val x.f1) * sg z.f0 (val z.f1))).1 (nw (sg y.f0 (val y.f1) * sg z.f0 (val z.f1))).1 (nw (sg x.f0 (val x.f1) * sg z.f0 (val z.f1))).2 (nw (sg y.f0 (val y.f1) * sg z.f0 (val z.f1))).2 (nw_U _) (nw_U _) (by omega) (by omega)
  rw [nw_sg, nw_sg, ← Int.sub_mul, sgn_mul] at h10
  obtain ⟨K11, h11⟩ := cmpw_ev y.f0 x.f0 y.f1 x.f1 uy ux (by omega) (by omega)
  have c1 := sgn_cases (sg x.f0 (val x.f1) - sg y.f0 (val y.f1))
  have c2 := sgn_cases (sg z.f0 (val z.f1))
  have c3 := sgn_cases (sg y.f0 (val y.f1) - sg x.f0 (val x.f1))
  have w1 : wrap64 (sgn (sg x.f0 (val x.f1) - sg y.f0 (val y.f1)) * sgn (sg z.f0 (val z.f1))) = sgn (sg x.f0 (val x.f1) - sg y.f0 (val y.f1)) * sgn (sg z.f0 (val z.f1)) := by
    rcases c1 with ⟨_, e⟩ | ⟨_, e⟩ | ⟨_, e⟩ <;> rcases c2 with ⟨_, e'⟩ | ⟨_, e'⟩ | ⟨_, e'⟩ <;> rw [e, e'] <;> exact w64 (by decide) (by decide)
  refine ⟨Ka + K1 + K2 + K3 + K4 + K5 + K6 + K7 + K8 + K9 + K10 + K11 + 1, ?_, fun r h => by rw [ha _ (by omega)] at h; exact (Option.some.inj h).symm⟩
  unfold peloruslaw02_WholeOrder.f
  rw [ha _ (by omega), Option.bind_some, if_pos rfl, if_neg hx, if_neg hy, decide_eq_false hz]
  simp only [peloruslaw02_WholeOrder.j0, Bool.false_eq_true, if_false]
  rw [h1 _ (by omega), Option.bind_some, h2 _ (by omega), Option.bind_some, h3 _ (by omega), Option.bind_some, h4 _ (by omega), Option.bind_some, if_pos rfl, h5 _ (by omega), Option.bind_some, h6 _ (by omega), Option.bind_some, h7 _ (by omega), Option.bind_some, if_pos rfl, h8 _ (by omega), Option.bind_some, h9 _ (by omega), Option.bind_some, h10 _ (by omega), Option.bind_some, w1, if_pos rfl, h11 _ (by omega), Option.bind_some, w64 (by omega) (by omega)]
  congr 1
  rw [beq_iff_eq]
  omega
end Go.Proofs.Ytbejmpocgnldnaa.Pure
