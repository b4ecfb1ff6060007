/- A number above nought that is far less than another one, above nought, makes its sum with it the next one, to above, and leaves it, to below; so does the difference. -/
import Derived.Test.YthlhogcnfaiphaaPAx2
import Derived.Test.YthlhogcnfaiphaaTF
namespace Go.Proofs.Ythlhogcnfaiphaa.Pure
set_option linter.unusedVariables false
set_option linter.unusedSimpArgs false
open Go.RowKit Go.Proofs.Ythlhogcnfaiphaa.PA Go.Proofs.YthlhogcnfaiphaaW.PrintWords Go.Proofs.YthlhogcnfaiphaaW.PrintLast Go.Proofs.Ythlhogcnfaiphaa.T

theorem far_sum {am ae bm be : Int} (a0 : 9223372036854775808 ≤ am) (a1 : am < 18446744073709551616) (b0 : 9223372036854775808 ≤ bm) (b1 : bm < 18446744073709551616) (h : ae - be > 130) (e0 : -1048576 ≤ ae) (e1 : ae ≤ 1048576) :
    addv (1, false, am, ae) (1, false, bm, be) true = nextv (1, false, am, ae) true ∧ addv (1, false, am, ae) (1, false, bm, be) false = (1, false, am, ae) := by
  obtain ⟨d, hd⟩ : ∃ d : Nat, ae = be + d := ⟨(ae - be).toNat, by omega⟩
  have hp := p2_mono (i := 64) (j := d) (by omega)
  rw [p64] at hp
  have key : ∀ up, addv (1, false, am, ae) (1, false, bm, be) up = grw false am ae true up := fun up => by
    rw [addv_fin rfl rfl]
    simp only
    rw [Int.min_eq_right (by omega)]
    have ex : exs (1, false, am, ae) (1, false, bm, be) be = am * 2 ^ d + bm := by
      unfold exs sg
      simp only [show (ae - be).toNat = d by omega, show (be - be).toNat = 0 by omega, Int.pow_zero, Int.mul_one, Bool.false_eq_true, if_false]
    have ad := mul_le_p d a0
    obtain ⟨s1, s2⟩ := sum_div (am := am) (bm := bm) (d := d)
    rw [Int.ediv_eq_zero_of_lt (a := bm) (by omega) (by omega), Int.add_zero] at s1
    rw [Int.emod_eq_of_lt (a := bm) (by omega) (by omega)] at s2
    have := rnz_sg (v := am * 2 ^ d + bm) (by omega) false be up
    simp only [sg, Bool.false_eq_true, if_false] at this
    rw [ex, this, rnd_fit (div_fit (c := true) (by omega) a1 s1 (by rw [s2]; simp; omega)), hd]
    cases up <;> rfl
  refine ⟨?_, ?_⟩
  · rw [key]; rfl
  · rw [key]
    unfold grw
    rw [if_neg (by simp), bnd_in e0 e1]
theorem far_dif {am ae bm be : Int} (a0 : 9223372036854775808 ≤ am) (a1 : am < 18446744073709551616) (b0 : 9223372036854775808 ≤ bm) (b1 : bm < 18446744073709551616) (h : ae - be > 130) (e0 : -1048576 ≤ be) (e1 : ae ≤ 1048576) :
    addv (1, false, am, ae) (1, true, bm, be) false = nextv (1, false, am, ae) false ∧ addv (1, false, am, ae) (1, true, bm, be) true = (1, false, am, ae) := by
  obtain ⟨d, hd⟩ : ∃ d : Nat, ae = be + (d + 1 : Nat) := ⟨(ae - be).toNat - 1, by omega⟩
  have hp := p2_mono (i := 64) (j := d) (by omega)
  rw [p64] at hp
  have key : ∀ up, addv (1, false, am, ae) (1, true, bm, be) up = rnd false (am * 2 ^ (d + 1) - bm) be up := fun up => by
    rw [addv_fin rfl rfl]
    simp only
    rw [Int.min_eq_right (by omega)]
    have ex : exs (1, false, am, ae) (1, true, bm, be) be = am * 2 ^ (d + 1) - bm := by
      unfold exs sg
      simp only [show (ae - be).toNat = d + 1 by omega, show (be - be).toNat = 0 by omega, Int.pow_zero, Int.mul_one, Bool.false_eq_true, if_false, if_true]
      omega
    have ad := mul_le_p (d + 1) a0
    rw [p2_succ] at ad
    have := rnz_sg (v := am * 2 ^ (d + 1) - bm) (by rw [p2_succ]; omega) false be up
    simp only [sg, Bool.false_eq_true, if_false] at this
    rw [ex, this]
    cases up <;> rfl
  have c2 : ¬ ((1 : Int) = 2) := by decide
  have c0 : ¬ ((1 : Int) = 0) := by decide
  rw [key, key]
  simp only [nextv, if_neg c2, if_neg c0]
  rw [if_neg (by simp)]
  by_cases z : am = 9223372036854775808
  · have f : Fit (am * 2 ^ (d + 1) - bm) be 18446744073709551615 (ae - 1) true := by
      subst z
      refine ⟨by decide, by decide, 0, d, by omega, ?_, ?_, ?_⟩
      · rw [Int.pow_zero, Int.mul_one, p2_succ]; omega
      · rw [Int.pow_zero, Int.mul_one, p2_succ]; omega
      · rw [Int.pow_zero, Int.mul_one, p2_succ]; simp; omega
    rw [rnd_fit f, rnd_fit f, if_pos z]
    refine ⟨?_, ?_⟩
    · unfold grw; rw [if_neg (by simp)]
    · unfold grw; rw [if_pos ⟨rfl, rfl⟩, if_pos (by decide), show ae - 1 + 1 = ae by omega, bnd_in (by omega) e1, z]
  · have f : Fit (am * 2 ^ (d + 1) - bm) be (am - 1) ae true := by
      refine ⟨by omega, by omega, 0, d + 1, by omega, ?_, ?_, ?_⟩
      · rw [Int.pow_zero, Int.mul_one, Int.sub_mul, p2_succ]; omega
      · rw [Int.pow_zero, Int.mul_one, show am - 1 + 1 = am by omega]; omega
      · rw [Int.pow_zero, Int.mul_one, Int.sub_mul, p2_succ]; simp; omega
    rw [rnd_fit f, rnd_fit f, if_neg z]
    refine ⟨?_, ?_⟩
    · unfold grw; rw [if_neg (by simp), bnd_in (by omega) e1]
    · unfold grw; rw [if_pos ⟨rfl, rfl⟩, if_neg (by omega), bnd_in (by omega) e1, show am - 1 + 1 = am by omega]
theorem ArithFar : peloruslaw06_ArithFar.Pure := by
  intro x0 x1 o0 o1
  refine ⟨10, ?_, fun r h => by rw [awake_ev 10 (by omega)] at h; exact (Option.some.inj h).symm⟩
  unfold peloruslaw06_ArithFar.f
  have out : peloruslaw06_ArithFar.j0 10 true true x0.f0 x0.f1 x0.f2 x0.f3 x1.f0 x1.f1 x1.f2 x1.f3 = some true := rfl
  rw [awake_ev 10 (by omega), Option.bind_some, if_pos rfl, may_s o0, Option.bind_some, may_s o1, Option.bind_some]
  by_cases m0 : mayP (x0.f0, x0.f1, x0.f2, x0.f3)
  rotate_left
  · rw [decide_eq_false m0]; exact out
  by_cases m1 : mayP (x1.f0, x1.f1, x1.f2, x1.f3)
  rotate_left
  · rw [decide_eq_true m0, decide_eq_false m1]; exact out
  rw [decide_eq_true m0, decide_eq_true m1, if_pos rfl, if_pos rfl]
  by_cases z0 : x0.f0 = 1
  rotate_left
  · rw [if_neg z0]; exact out
  by_cases z1 : x1.f0 = 1
  rotate_left
  · rw [if_pos z0, if_neg z1]; exact out
  rw [if_pos z0, if_pos z1]
  by_cases n0 : x0.f1 = true
  · rw [if_pos n0]; exact out
  by_cases n1 : x1.f1 = true
  · rw [if_neg n0, if_pos n1]; exact out
  obtain ⟨a0, a1, a2, a3⟩ := may_fin m0 z0
  obtain ⟨b0, b1, b2, b3⟩ := may_fin m1 z1
  simp only at a0 a1 a2 a3 b0 b1 b2 b3
  rw [if_neg n0, if_neg n1, w64 (by omega) (by omega)]
  by_cases hd : x0.f3 - x1.f3 ≤ 130
  · rw [decide_eq_true hd]; exact out
  rw [decide_eq_false hd]
  have n0 := Bool.eq_false_iff.2 n0
  have n1 := Bool.eq_false_iff.2 n1
  have q0 : nm x0 = (1, false, x0.f2, x0.f3) := by unfold nm; rw [fairv_of m0, z0, n0]
  have q1 : nm x1 = (1, false, x1.f2, x1.f3) := by unfold nm; rw [fairv_of m1, z1, n1]
  have q2 : ngv (nm x1) = (1, true, x1.f2, x1.f3) := by rw [q1]; rfl
  have hd' : x0.f3 - x1.f3 > 130 := by omega
  obtain ⟨s1, s2⟩ := far_sum a0 a1 b0 b1 hd' a2 a3
  obtain ⟨s3, s4⟩ := far_dif a0 a1 b0 b1 hd' b2 a3
  rw [← q0, ← q1] at s1 s2
  rw [← q0, ← q2] at s3 s4
  have b : ∀ n : Nm, n = nm x0 → (n.1 == x0.f0 && (n.2.1 == x0.f1 && (n.2.2.1 == x0.f2 && (n.2.2.2 == x0.f3)))) = true := fun n h => by
    rw [h]
    unfold nm
    rw [fairv_of m0]
    simp
  simp only [peloruslaw06_ArithFar.j0, Bool.false_eq_true, if_false]
  rw [add_ss 9 (by omega) _ o0 o1, Option.bind_some, next_s 9 (by omega) _ o0, Option.bind_some, if_pos (nm_beq s1), add_ss 9 (by omega) _ o0 o1, Option.bind_some, if_pos (b _ s2), sub_ss 9 (by omega) _ o0 o1, Option.bind_some, next_s 9 (by omega) _ o0, Option.bind_some, if_pos (nm_beq s3), sub_ss 9 (by omega) _ o0 o1, Option.bind_some, b _ s4]
end Go.Proofs.Ythlhogcnfaiphaa.Pure
