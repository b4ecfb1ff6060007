/- A number's floor is not greater than it, one more is; a whole number is its own. -/
import Derived.Test.YtaookeneeemfbaaDoorPAx1
import Derived.Test.YtaookeneeemfbaaDoorTQ3
namespace Go.Proofs.YtaookeneeemfbaaDoor.Pure
set_option linter.unusedVariables false
set_option linter.unusedSimpArgs false
open Go.RowKit Go.Proofs.YtaookeneeemfbaaDoorW.PrintWords Go.Proofs.YtaookeneeemfbaaDoorW.PrintMore Go.Proofs.YtaookeneeemfbaaDoor.PA Go.Proofs.YtaookeneeemfbaaDoor.T

theorem DyFloors : peloruslaw03_DyFloors.Pure := by
  intro x y ox oy
  obtain ⟨Ka, ha⟩ := awake3_ev
  have ux : U x.f0.f1 := U_of_wf ox.1.2.2.2
  have uy : U y.f1 := U_of_wf oy.2.2.2
  by_cases hx : x.f0.f1.length ≤ 20 ∧ -1000 ≤ x.f1 ∧ x.f1 ≤ 1000
  · by_cases hy : (y.f1.length : Int) ≤ 40
    · have z := few_z (n := x.f0.f0) ux hx.1 hx.2.1 hx.2.2
      obtain ⟨S, hS⟩ : ∃ S, S = sg x.f0.f0 (val x.f0.f1) * 2 ^ (x.f1 + 1000).toNat := ⟨_, rfl⟩
      rw [← hS] at z
      clear hS
      obtain ⟨K1, h1⟩ := floor_z z (by decide) (by decide) (by decide)
      obtain ⟨P, hP⟩ : ∃ P, P = (2 : Int) ^ 1000 := ⟨_, rfl⟩
      have P0 : 0 < P := by rw [hP]; exact p2_pos 1000
      have bd := z.bd
      have e41 := p2_succ 2640
      have P1 : P ≤ 2 ^ 2640 := by rw [hP]; exact p2_mono (by decide)
      rw [show (- (-1000 : Int)).toNat = 1000 by decide, ← hP] at h1
      have dm := Int.mul_ediv_add_emod S P
      have m0 := Int.emod_nonneg S (show P ≠ 0 by omega)
      have m1 := Int.emod_lt_of_pos S P0
      generalize S / P = F at *
      generalize S % P = R at *
      rw [Int.mul_comm] at dm
      -- the floor, and one more, as numbers of layer 3
      have mk0 : ∀ G : Int, ((G * P).natAbs : Int) < 2 ^ 2642 → Z (nw G).1 (nw G).2 0 (-1000) (G * P) 2642 := fun G hG => by
        have := Z.nw (s := G) (e := 0) (f := -1000) (N := 2642) (by decide) (by decide) (by decide) (by rw [show ((0 : Int) - -1000).toNat = 1000 by decide, ← hP]; exact hG)
        rw [show ((0 : Int) - -1000).toNat = 1000 by decide, ← hP] at this
        exact this
      have e42 := p2_succ 2641
      have zF := mk0 F (by omega)
      have zG := mk0 (F + 1) (by rw [Int.add_mul, Int.one_mul]; omega)
      obtain ⟨a, ra, K2, h2⟩ := mk_z zF (by decide)
      obtain ⟨b, rb, K3, h3⟩ := mk_z zG (by decide)
      obtain ⟨K4, h4⟩ := from_ev 1 (by decide) (by decide)
      have lF := zF.len
      have l1 := nw_small (s := 1) (by decide)
      obtain ⟨K5, h5⟩ := addw_ev (nw F).1 (nw 1).1 (nw F).2 (nw 1).2 (nw_U _) (nw_U _) (by omega) (by omega)
      rw [nw_sg, nw_sg] at h5
      have z2 : Z x.f0.f0 x.f0.f1 x.f1 (-1000) S 2642 := ⟨z.u, z.len, z.lo, z.hi, z.eq, abs_mono bd (by decide)⟩
      obtain ⟨K6, h6⟩ := cmp_z (Z.of_rep ra zF.bd (by decide) (by decide) (by decide)) z2 (by decide) (by decide) (by decide)
      obtain ⟨K7, h7⟩ := cmp_z (Z.of_rep rb zG.bd (by decide) (by decide) (by decide)) z2 (by decide) (by decide) (by decide)
      have c6 : sgn (F * P - S) ≤ 0 := by
        unfold sgn
        split
        · decide
        · rw [if_neg (by omega)]; decide
      have c7 : sgn ((F + 1) * P - S) = 1 := sgn_pos (by rw [Int.add_mul, Int.one_mul]; omega)
      rw [c7] at h7
      -- a whole number
      obtain ⟨T, hT⟩ : ∃ T, T = sg y.f0 (val y.f1) := ⟨_, rfl⟩
      have zy : Z y.f0 y.f1 0 0 T 1280 := by
        refine ⟨uy, by omega, by decide, by decide, by rw [hT]; simp, ?_⟩
        rw [hT, sg_abs y.f0 (val_nonneg uy)]
        have h8 := val_lt uy
        have h9 := pw_mono (show y.f1.length ≤ 40 by omega)
        rw [p2_limb 40] at h9
        exact Int.lt_of_lt_of_le h8 h9
      obtain ⟨c, rc, K8, h8⟩ := mk_z zy (by decide)
      obtain ⟨K9, h9⟩ := floor_z (Z.of_rep rc zy.bd (by decide) (by decide) (by decide)) (by decide) (by decide) (by decide)
      rw [show (- (0 : Int)).toNat = 0 by decide, Int.pow_zero, Int.ediv_one] at h9
      have lT := len_lim (v := (T.natAbs : Int)) (by omega) 1280 zy.bd
      obtain ⟨K10, h10⟩ := same_ev (nw T).1 y.f0 (nw T).2 y.f1 (nw_U _) uy (by show (lim T.natAbs).length ≤ _; omega) (by omega)
      rw [nw_sg, ← hT, decide_eq_true rfl] at h10
      refine ⟨Ka + K1 + K2 + K3 + K4 + K5 + K6 + K7 + K8 + K9 + K10 + 1, ?_, fun r hr => by rw [ha _ (by omega)] at hr; exact (Option.some.inj hr).symm⟩
      unfold peloruslaw03_DyFloors.f
      rw [ha _ (by omega), Option.bind_some, few_eq, Option.bind_some, decide_eq_true hx]
      unfold peloruslaw02_Few.f
      rw [decide_eq_true hy, Option.bind_some, if_pos rfl, if_pos rfl]
      simp only [peloruslaw03_DyFloors.j0, Bool.not_true, Bool.false_eq_true, if_false]
      rw [h1 _ (by omega), Option.bind_some, h2 _ (by omega), Option.bind_some, h4 _ (by omega), Option.bind_some, h5 _ (by omega), Option.bind_some, h3 _ (by omega), Option.bind_some, h6 _ (by omega), Option.bind_some, if_pos c6, h7 _ (by omega), Option.bind_some, if_pos (by decide), h8 _ (by omega), Option.bind_some, h9 _ (by omega), Option.bind_some, h10 _ (by omega), Option.bind_some]
    · refine ⟨Ka + 1, ?_, fun r hr => by rw [ha _ (by omega)] at hr; exact (Option.some.inj hr).symm⟩
      unfold peloruslaw03_DyFloors.f
      rw [ha _ (by omega), Option.bind_some, few_eq, Option.bind_some, decide_eq_true hx]
      unfold peloruslaw02_Few.f
      rw [decide_eq_false hy, Option.bind_some, if_pos rfl, if_pos rfl]
      rfl
  · refine ⟨Ka + 1, ?_, fun r hr => by rw [ha _ (by omega)] at hr; exact (Option.some.inj hr).symm⟩
    unfold peloruslaw03_DyFloors.f
    rw [ha _ (by omega), Option.bind_some, few_eq, Option.bind_some, decide_eq_false hx]
    unfold peloruslaw02_Few.f
    rw [Option.bind_some, if_pos rfl, if_neg (by decide)]
    rfl
end Go.Proofs.YtaookeneeemfbaaDoor.Pure
