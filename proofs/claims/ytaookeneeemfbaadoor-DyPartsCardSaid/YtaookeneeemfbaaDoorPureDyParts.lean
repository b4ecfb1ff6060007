/- A number is its floor and a part that is not below nought, and less than one. -/
import Derived.Test.YtaookeneeemfbaaDoorPAx1
import Derived.Test.YtaookeneeemfbaaDoorTQ3
namespace Go.Proofs.YtaookeneeemfbaaDoor.Pure
set_option linter.unusedVariables false
set_option linter.unusedSimpArgs false
open Go.RowKit Go.Proofs.YtaookeneeemfbaaDoorW.PrintWords Go.Proofs.YtaookeneeemfbaaDoorW.PrintMore Go.Proofs.YtaookeneeemfbaaDoor.PA Go.Proofs.YtaookeneeemfbaaDoor.T

theorem DyParts : peloruslaw03_DyParts.Pure := by
  intro x ox
  obtain ⟨Ka, ha⟩ := awake3_ev
  have ux : U x.f0.f1 := U_of_wf ox.1.2.2.2
  by_cases hx : x.f0.f1.length ≤ 20 ∧ -1000 ≤ x.f1 ∧ x.f1 ≤ 1000
  · have z := few_z (n := x.f0.f0) ux hx.1 hx.2.1 hx.2.2
    obtain ⟨S, hS⟩ : ∃ S, S = sg x.f0.f0 (val x.f0.f1) * 2 ^ (x.f1 + 1000).toNat := ⟨_, rfl⟩
    rw [← hS] at z
    clear hS
    obtain ⟨K1, h1⟩ := floor_z z (by decide) (by decide) (by decide)
    obtain ⟨P, hP⟩ : ∃ P, P = (2 : Int) ^ 1000 := ⟨_, rfl⟩
    have P0 : 0 < P := by rw [hP]; exact p2_pos 1000
    have bd := z.bd
    have e41 := p2_succ 2640
    have e42 := p2_succ 2641
    have P1 : P ≤ 2 ^ 2640 := by rw [hP]; exact p2_mono (by decide)
    rw [show (- (-1000 : Int)).toNat = 1000 by decide, ← hP] at h1
    have dm := Int.mul_ediv_add_emod S P
    have m0 := Int.emod_nonneg S (show P ≠ 0 by omega)
    have m1 := Int.emod_lt_of_pos S P0
    generalize S / P = F at *
    generalize S % P = R at *
    rw [Int.mul_comm] at dm
    have mk0 : ∀ G : Int, ((G * P).natAbs : Int) < 2 ^ 2642 → Z (nw G).1 (nw G).2 0 (-1000) (G * P) 2642 := fun G hG => by
      have := Z.nw (s := G) (e := 0) (f := -1000) (N := 2642) (by decide) (by decide) (by decide) (by rw [show ((0 : Int) - -1000).toNat = 1000 by decide, ← hP]; exact hG)
      rw [show ((0 : Int) - -1000).toNat = 1000 by decide, ← hP] at this
      exact this
    have zF := mk0 F (by omega)
    have z1 := mk0 1 (by omega)
    obtain ⟨a, ra, K2, h2⟩ := mk_z zF (by decide)
    have za := Z.of_rep ra zF.bd (by decide) (by decide) (by decide)
    have z2 : Z x.f0.f0 x.f0.f1 x.f1 (-1000) S 2642 := ⟨z.u, z.len, z.lo, z.hi, z.eq, abs_mono bd (by decide)⟩
    obtain ⟨p, rp, K3, h3⟩ := sub_z z2 za (by decide) (by decide) (by decide)
    rw [show S - F * P = R by omega] at rp
    have zp := Z.of_rep rp (N := 2642) (by omega) (by decide) (by decide) (by decide)
    obtain ⟨K4, h4⟩ := sign_z zp (by decide) (by decide) (by decide)
    have c4 : sgn R ≥ 0 := by
      unfold sgn
      rw [if_neg (by omega)]
      split <;> decide
    obtain ⟨K5, h5⟩ := from_ev 1 (by decide) (by decide)
    obtain ⟨b, rb, K6, h6⟩ := mk_z z1 (by decide)
    obtain ⟨K7, h7⟩ := cmp_z zp (Z.of_rep rb z1.bd (by decide) (by decide) (by decide)) (by decide) (by decide) (by decide)
    rw [show sgn (R - 1 * P) = -1 from sgn_neg (by omega)] at h7
    obtain ⟨c, rc, K8, h8⟩ := add2_z za zp (by decide) (by decide) (by decide)
    rw [show F * P + R = S by omega] at rc
    obtain ⟨K9, h9⟩ := cmp_z (Z.of_rep rc z2.bd (by decide) (by decide) (by decide)) z2 (by decide) (by decide) (by decide)
    rw [Int.sub_self, sgn_zero] at h9
    obtain ⟨n, rn, K10, h10⟩ := neg_z zp (by decide) (by decide)
    have zn := Z.of_rep rn (abs_neg zp.bd) (by decide) (by decide) (by decide)
    obtain ⟨m, rm, K11, h11⟩ := mul_z zp zn (by decide) (by decide) (by decide) (by decide) (by decide)
    have bm := abs_mul_lt zp.bd zn.bd
    obtain ⟨K12, h12⟩ := sign_z (Z.of_rep rm bm (by decide) (by decide) (by decide)) (by decide) (by decide) (by decide)
    have c12 : sgn (R * -R) ≤ 0 := by
      have := Int.mul_nonneg m0 m0
      rw [Int.mul_neg]
      unfold sgn
      split
      · decide
      · rw [if_neg (by omega)]; decide
    refine ⟨Ka + K1 + K2 + K3 + K4 + K5 + K6 + K7 + K8 + K9 + K10 + K11 + K12 + 1, ?_, fun r hr => by rw [ha _ (by omega)] at hr; exact (Option.some.inj hr).symm⟩
    unfold peloruslaw03_DyParts.f
    rw [ha _ (by omega), Option.bind_some, few_eq, Option.bind_some, decide_eq_true hx, if_pos rfl]
    simp only [peloruslaw03_DyParts.j0, Bool.not_true, Bool.false_eq_true, if_false]
    rw [h1 _ (by omega), Option.bind_some, h2 _ (by omega), Option.bind_some, h3 _ (by omega), Option.bind_some, h4 _ (by omega), Option.bind_some, if_pos c4, h5 _ (by omega), Option.bind_some, h6 _ (by omega), Option.bind_some, h7 _ (by omega), Option.bind_some, if_pos (by decide), h8 _ (by omega), Option.bind_some, h9 _ (by omega), Option.bind_some, if_pos rfl, h10 _ (by omega), Option.bind_some, h11 _ (by omega), Option.bind_some, h12 _ (by omega), Option.bind_some, decide_eq_true c12]
  · refine ⟨Ka + 1, ?_, fun r hr => by rw [ha _ (by omega)] at hr; exact (Option.some.inj hr).symm⟩
    unfold peloruslaw03_DyParts.f
    rw [ha _ (by omega), Option.bind_some, few_eq, Option.bind_some, decide_eq_false hx, if_pos rfl]
    rfl
end Go.Proofs.YtaookeneeemfbaaDoor.Pure
