/- A number that is moved by one power and then by another one is moved by both; its sign stays, and so does the order. -/
import Derived.Test.YtaookeneeemfbaaDoorPAx1
import Derived.Test.YtaookeneeemfbaaDoorTQ3
namespace Go.Proofs.YtaookeneeemfbaaDoor.Pure
set_option linter.unusedVariables false
set_option linter.unusedSimpArgs false
open Go.RowKit Go.Proofs.YtaookeneeemfbaaDoorW.PrintWords Go.Proofs.YtaookeneeemfbaaDoorW.PrintMore Go.Proofs.YtaookeneeemfbaaDoor.PA Go.Proofs.YtaookeneeemfbaaDoor.T

theorem DyMoves : peloruslaw03_DyMoves.Pure := by
  intro x y a b ox oy wa wb
  obtain ⟨Ka, ha⟩ := awake3_ev
  have ux : U x.f0.f1 := U_of_wf ox.1.2.2.2
  have uy : U y.f0.f1 := U_of_wf oy.1.2.2.2
  have out : ∀ k, peloruslaw03_DyMoves.j0 (k + 1) a b true true x.f0.f0 x.f0.f1 x.f1 y.f0.f0 y.f0.f1 y.f1 = some true := fun _ => rfl
  by_cases hx : x.f0.f1.length ≤ 20 ∧ -1000 ≤ x.f1 ∧ x.f1 ≤ 1000
  case neg =>
    refine ⟨Ka + 1, ?_, fun r hr => by rw [ha _ (by omega)] at hr; exact (Option.some.inj hr).symm⟩
    unfold peloruslaw03_DyMoves.f
    rw [ha _ (by omega), Option.bind_some, few_eq, Option.bind_some, few_eq, Option.bind_some, decide_eq_false hx, if_pos rfl, if_neg (by decide)]
    exact out Ka
  by_cases hy : y.f0.f1.length ≤ 20 ∧ -1000 ≤ y.f1 ∧ y.f1 ≤ 1000
  case neg =>
    refine ⟨Ka + 1, ?_, fun r hr => by rw [ha _ (by omega)] at hr; exact (Option.some.inj hr).symm⟩
    unfold peloruslaw03_DyMoves.f
    rw [ha _ (by omega), Option.bind_some, few_eq, Option.bind_some, few_eq, Option.bind_some, decide_eq_true hx, decide_eq_false hy, if_pos rfl, if_pos rfl, if_neg (by decide)]
    exact out Ka
  by_cases a1 : a > 1000
  case pos =>
    refine ⟨Ka + 1, ?_, fun r hr => by rw [ha _ (by omega)] at hr; exact (Option.some.inj hr).symm⟩
    unfold peloruslaw03_DyMoves.f
    rw [ha _ (by omega), Option.bind_some, few_eq, Option.bind_some, few_eq, Option.bind_some, decide_eq_true hx, decide_eq_true hy, if_pos rfl, if_pos rfl, if_pos rfl, if_pos a1]
    exact out Ka
  by_cases a2 : a < -1000
  case pos =>
    refine ⟨Ka + 1, ?_, fun r hr => by rw [ha _ (by omega)] at hr; exact (Option.some.inj hr).symm⟩
    unfold peloruslaw03_DyMoves.f
    rw [ha _ (by omega), Option.bind_some, few_eq, Option.bind_some, few_eq, Option.bind_some, decide_eq_true hx, decide_eq_true hy, if_pos rfl, if_pos rfl, if_pos rfl, if_neg a1, if_pos a2]
    exact out Ka
  by_cases b1 : b > 1000
  case pos =>
    refine ⟨Ka + 1, ?_, fun r hr => by rw [ha _ (by omega)] at hr; exact (Option.some.inj hr).symm⟩
    unfold peloruslaw03_DyMoves.f
    rw [ha _ (by omega), Option.bind_some, few_eq, Option.bind_some, few_eq, Option.bind_some, decide_eq_true hx, decide_eq_true hy, if_pos rfl, if_pos rfl, if_pos rfl, if_neg a1, if_neg a2, if_pos b1]
    exact out Ka
  by_cases b2 : b < -1000
  case pos =>
    refine ⟨Ka + 1, ?_, fun r hr => by rw [ha _ (by omega)] at hr; exact (Option.some.inj hr).symm⟩
    unfold peloruslaw03_DyMoves.f
    rw [ha _ (by omega), Option.bind_some, few_eq, Option.bind_some, few_eq, Option.bind_some, decide_eq_true hx, decide_eq_true hy, if_pos rfl, if_pos rfl, if_pos rfl, if_neg a1, if_neg a2, if_neg b1, decide_eq_true b2]
    exact out Ka
  have zx := few_z (n := x.f0.f0) ux hx.1 hx.2.1 hx.2.2
  have zy := few_z (n := y.f0.f0) uy hy.1 hy.2.1 hy.2.2
  obtain ⟨S, hS⟩ : ∃ S, S = sg x.f0.f0 (val x.f0.f1) * 2 ^ (x.f1 + 1000).toNat := ⟨_, rfl⟩
  obtain ⟨T, hT⟩ : ∃ T, T = sg y.f0.f0 (val y.f0.f1) * 2 ^ (y.f1 + 1000).toNat := ⟨_, rfl⟩
  rw [← hS] at zx
  rw [← hT] at zy
  clear hS hT
  -- all at the power 4000 lower, so that each is below nought
  have zx' := zx.down 4000
  have zy' := zy.down 4000
  have base : (-1000 : Int) - (4000 : Nat) = -5000 := by decide
  rw [base] at zx' zy'
  generalize S * 2 ^ 4000 = S' at *
  generalize T * 2 ^ 4000 = T' at *
  obtain ⟨p, rp, K1, h1⟩ := move_z zx' a (by omega) (by omega) (by decide) (by decide) (by decide)
  have zp := Z.of_rep rp zx'.bd (by decide) (by omega) (by omega)
  obtain ⟨q, rq, K2, h2⟩ := move_z zp b (by omega) (by omega) (by decide) (by omega) (by omega)
  have zq := Z.of_rep rq zp.bd (by decide) (by omega) (by omega)
  obtain ⟨r, rr, K3, h3⟩ := move_z zx' (a + b) (by omega) (by omega) (by decide) (by decide) (by decide)
  rw [show -5000 + (a + b) = -5000 + a + b by omega] at rr
  have zr := Z.of_rep rr zx'.bd (by decide) (by omega) (by omega)
  obtain ⟨K4, h4⟩ := cmp_z zq zr (by decide) (by omega) (by omega)
  rw [Int.sub_self, sgn_zero] at h4
  obtain ⟨K5, h5⟩ := sign_z zq (by decide) (by omega) (by omega)
  obtain ⟨K6, h6⟩ := sign_z zx' (by decide) (by decide) (by decide)
  obtain ⟨s, rs, K7, h7⟩ := move_z zy' a (by omega) (by omega) (by decide) (by decide) (by decide)
  have zs := Z.of_rep rs zy'.bd (by decide) (by omega) (by omega)
  obtain ⟨K8, h8⟩ := cmp_z zp zs (by decide) (by omega) (by omega)
  obtain ⟨K9, h9⟩ := cmp_z zx' zy' (by decide) (by decide) (by decide)
  obtain ⟨t, rt, K10, h10⟩ := add2_z zx' zx' (by decide) (by decide) (by decide)
  obtain ⟨u, ru, K11, h11⟩ := move_z zx' 1 (by decide) (by decide) (by decide) (by decide) (by decide)
  have zt := Z.of_rep rt (abs_add_lt zx'.bd zx'.bd) (by decide) (by decide) (by decide)
  have zu := (Z.of_rep ru zx'.bd (by decide) (by decide) (by decide)).down 1
  rw [show (-5000 : Int) + 1 - (1 : Nat) = -5000 by decide] at zu
  obtain ⟨K12, h12⟩ := cmp_z zt zu (by decide) (by decide) (by decide)
  rw [show S' + S' - S' * 2 ^ 1 = 0 by omega, sgn_zero] at h12
  refine ⟨Ka + K1 + K2 + K3 + K4 + K5 + K6 + K7 + K8 + K9 + K10 + K11 + K12 + 1, ?_, fun r hr => by rw [ha _ (by omega)] at hr; exact (Option.some.inj hr).symm⟩
  unfold peloruslaw03_DyMoves.f
  rw [ha _ (by omega), Option.bind_some, few_eq, Option.bind_some, few_eq, Option.bind_some, decide_eq_true hx, decide_eq_true hy, if_pos rfl, if_pos rfl, if_pos rfl, if_neg a1, if_neg a2, if_neg b1, decide_eq_false b2]
  simp only [peloruslaw03_DyMoves.j0, Bool.false_eq_true, if_false]
  rw [w64 (x := a + b) (by omega) (by omega), h1 _ (by omega), Option.bind_some, h2 _ (by omega), Option.bind_some, h3 _ (by omega), Option.bind_some, h4 _ (by omega), Option.bind_some, if_pos rfl, h5 _ (by omega), Option.bind_some, h6 _ (by omega), Option.bind_some, if_pos rfl, Option.bind_some, h7 _ (by omega), Option.bind_some, h8 _ (by omega), Option.bind_some, h9 _ (by omega), Option.bind_some, if_pos rfl, h10 _ (by omega), Option.bind_some, h11 _ (by omega), Option.bind_some, h12 _ (by omega), Option.bind_some]
  rfl
end Go.Proofs.YtaookeneeemfbaaDoor.Pure
