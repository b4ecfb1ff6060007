/- The quotient times the divisor, and what is left, are the number; what is left lies between nought and the divisor, on its side. -/
import Derived.Test.YtbejmpocgnldnaaPZx1
import Derived.Test.YtbejmpocgnldnaaTJ
namespace Go.Proofs.Ytbejmpocgnldnaa.Pure
set_option linter.unusedVariables false
set_option linter.unusedSimpArgs false
open Go.RowKit Go.Proofs.Ytbejmpocgnldnaa.PZ Go.Proofs.YtbejmpocgnldnaaW.PrintWords Go.Proofs.YtbejmpocgnldnaaW.PrintLast Go.Proofs.Ytbejmpocgnldnaa.T

theorem few_eq (b : Bool) (l : List Int) : peloruslaw02_Few.f b l = some (decide ((l.length : Int) ≤ 40)) := rfl
theorem prod2 (b c : Bool) (l m : List Int) : prodS [⟨b, l⟩, ⟨c, m⟩] = sg b (val l) * sg c (val m) := by
  rw [prodS_cons, prodS_cons, show prodS [] = 1 from rfl, Int.mul_one]
theorem divw_B (b c : Bool) {v w : Int} {L : Nat} (v0 : 0 ≤ v) (w0 : 0 < w) (hv : v < pw L) (hw : w < pw L) : B (divw b c v w).1 (L + 1) ∧ B (divw b c v w).2 (L + 1) := by
  have q0 : 0 ≤ v / w := Int.ediv_nonneg v0 (by omega)
  have r0 : 0 ≤ v % w := Int.emod_nonneg _ (by omega)
  have q1 : v / w ≤ v := Int.ediv_le_self _ v0
  have r1 : v % w < w := Int.emod_lt_of_pos _ w0
  have p := pw_pos L
  have a1 := sg_abs (b != c) q0
  have a2 := sg_abs b r0
  have a3 := sg_abs c (v := w) (by omega)
  unfold B divw
  rw [pw_succ]
  split
  · simp only; omega
  · simp only; omega
theorem divw_law (b c : Bool) {v w : Int} (v0 : 0 ≤ v) (w0 : 0 < w) : (divw b c v w).1 * sg c w + (divw b c v w).2 = sg b v ∧ (sgn (divw b c v w).2 = 0 ∨ sgn (divw b c v w).2 = sgn (sg c w) ∧ sgn ((divw b c v w).2 - sg c w) = -sgn (divw b c v w).2) := by
  have r0 : 0 ≤ v % w := Int.emod_nonneg _ (by omega)
  have r1 : v % w < w := Int.emod_lt_of_pos _ w0
  have e := Int.mul_ediv_add_emod v w
  have k : sg (b != c) (v / w) * sg c w = sg b (v - v % w) := by
    have h1 : v - v % w = v / w * w := by rw [Int.mul_comm]; omega
    rw [h1, ← sg_mul]
    cases b <;> cases c <;> rfl
  have cy := sgn_cases (sg b (v % w))
  have ct := sgn_cases (sg c w)
  unfold divw
  split
  · rename_i hc
    have c1 := sgn_cases (sg b (v % w) + sg c w)
    have c2 := sgn_cases (sg b (v % w) + sg c w - sg c w)
    refine ⟨?_, .inr ?_⟩
    · simp only
      rw [Int.sub_mul, k, Int.one_mul]
      unfold sg
      cases b <;> cases c <;> simp <;> omega
    · simp only
      have hs : sg b (v % w) < 0 ∧ 0 < sg c w ∨ 0 < sg b (v % w) ∧ sg c w < 0 := by
        rcases cy with ⟨g, e1⟩ | ⟨g, e1⟩ | ⟨g, e1⟩ <;> rcases ct with ⟨g', e2⟩ | ⟨g', e2⟩ | ⟨g', e2⟩ <;> rw [e1, e2] at hc <;> first | exact absurd hc (by decide) | omega
      have by1 : sg b (v % w) = v % w ∨ sg b (v % w) = -(v % w) := by unfold sg; split <;> omega
      have bt1 : sg c w = w ∨ sg c w = -w := by unfold sg; split <;> omega
      omega
  · rename_i hc
    refine ⟨?_, ?_⟩
    · simp only
      rw [k]
      unfold sg
      cases b <;> simp <;> omega
    · simp only
      have c2 := sgn_cases (sg b (v % w) - sg c w)
      have by1 : sg b (v % w) = v % w ∨ sg b (v % w) = -(v % w) := by unfold sg; split <;> omega
      have bt1 : sg c w = w ∨ sg c w = -w := by unfold sg; split <;> omega
      have hs : sg b (v % w) = 0 ∨ sg b (v % w) < 0 ∧ sg c w < 0 ∨ 0 < sg b (v % w) ∧ 0 < sg c w := by
        rcases cy with ⟨g, e1⟩ | ⟨g, e1⟩ | ⟨g, e1⟩ <;> rcases ct with ⟨g', e2⟩ | ⟨g', e2⟩ | ⟨g', e2⟩ <;> rw [e1, e2] at hc <;> first | exact absurd (by decide) hc | omega
      omega
theorem WholeBack : peloruslaw02_WholeBack.Pure := by
  intro x y ox oy
  have ux := U_of_wf ox.2.2.2
  have uy := U_of_wf oy.2.2.2
  have nx := val_nonneg ux
  have ny := val_nonneg uy
  obtain ⟨Ka, ha⟩ := awake_ev
  have out : ∀ k, peloruslaw02_WholeBack.j0 (k + 1) true true x.f0 x.f1 y.f0 y.f1 = some true := fun _ => rfl
  by_cases hx : (x.f1.length : Int) ≤ 40
  rotate_left
  · refine ⟨Ka + 1, ?_, fun r h => by rw [ha _ (by omega)] at h; exact (Option.some.inj h).symm⟩
    unfold peloruslaw02_WholeBack.f
    rw [ha _ (by omega), Option.bind_some, few_eq, Option.bind_some, few_eq, Option.bind_some, if_pos rfl, decide_eq_false hx]
    exact out Ka
  by_cases hy : (y.f1.length : Int) ≤ 40
  rotate_left
  · refine ⟨Ka + 1, ?_, fun r h => by rw [ha _ (by omega)] at h; exact (Option.some.inj h).symm⟩
    unfold peloruslaw02_WholeBack.f
    rw [ha _ (by omega), Option.bind_some, few_eq, Option.bind_some, few_eq, Option.bind_some, if_pos rfl, decide_eq_true hx, if_pos rfl, decide_eq_false hy]
    exact out Ka
  obtain ⟨K1, h1⟩ := divw_ev x.f0 y.f0 x.f1 y.f1 ux uy (by omega) (by omega)
  obtain ⟨K2, h2⟩ := sign_ev y.f0 y.f1 uy (by omega)
  by_cases z : val y.f1 = 0
  · rw [if_pos z] at h1
    obtain ⟨K3, h3⟩ := sign_ev false [] U_nil (by simp)
    have e0 : sgn (sg false (val [])) = 0 := rfl
    rw [e0] at h3
    have e1 : sgn (sg y.f0 (val y.f1)) = 0 := by rw [z]; cases y.f0 <;> rfl
    rw [e1] at h2
    refine ⟨Ka + K1 + K2 + K3 + 1, ?_, fun r h => by rw [ha _ (by omega)] at h; exact (Option.some.inj h).symm⟩
    unfold peloruslaw02_WholeBack.f
    rw [ha _ (by omega), Option.bind_some, few_eq, Option.bind_some, few_eq, Option.bind_some, if_pos rfl, decide_eq_true hx, if_pos rfl, decide_eq_true hy]
    simp only [peloruslaw02_WholeBack.j0, Bool.not_true, Bool.false_eq_true, if_false]
    rw [h1 _ (by omega), Option.bind_some]
    simp only [Bool.false_eq_true, if_false]
    rw [h2 _ (by omega), Option.bind_some, if_pos rfl, h3 _ (by omega), Option.bind_some, if_pos rfl, Option.bind_some]
    rfl
  · rw [if_neg z] at h1
    have hL := divw_law x.f0 y.f0 nx (show 0 < val y.f1 by omega)
    have bD := divw_B x.f0 y.f0 (L := 40) nx (show 0 < val y.f1 by omega) (Int.lt_of_lt_of_le (val_lt ux) (pw_mono (by omega))) (Int.lt_of_lt_of_le (val_lt uy) (pw_mono (by omega)))
    generalize divw x.f0 y.f0 (val x.f1) (val y.f1) = D at h1 hL bD
    obtain ⟨q, r⟩ := D
    simp only at h1 hL bD
    obtain ⟨b1, b2⟩ := bD
    have l1 := B_len b1
    have l2 := B_len b2
    obtain ⟨K3, h3⟩ := sign_ev (nw r).1 (nw r).2 (nw_U r) (by omega)
    obtain ⟨K4, h4⟩ := cmpw_ev (nw r).1 y.f0 (nw r).2 y.f1 (nw_U r) uy (by omega) (by omega)
    obtain ⟨K5, h5⟩ := mulw_ev [⟨(nw q).1, (nw q).2⟩, ⟨y.f0, y.f1⟩] (by simp [nw_U, uy]) (by simp; omega) (by simp)
    rw [nw_sg] at h3 h4
    rw [prod2, nw_sg] at h5
    have l5 := B_len (B_mul b1 (B_of y.f0 uy (Nat.le_refl _)))
    obtain ⟨K6, h6⟩ := addw_ev (nw (q * sg y.f0 (val y.f1))).1 (nw r).1 (nw (q * sg y.f0 (val y.f1))).2 (nw r).2 (nw_U _) (nw_U _) (by omega) (by omega)
    rw [nw_sg, nw_sg, hL.1] at h6
    have l6 := B_len (B_of x.f0 ux (Nat.le_refl _))
    obtain ⟨K7, h7⟩ := same_ev (nw (sg x.f0 (val x.f1))).1 x.f0 (nw (sg x.f0 (val x.f1))).2 x.f1 (nw_U _) ux (by omega) (by omega)
    rw [nw_sg, decide_eq_true rfl] at h7
    have cr := sgn_cases r
    refine ⟨Ka + K1 + K2 + K3 + K4 + K5 + K6 + K7 + 1, ?_, fun r h => by rw [ha _ (by omega)] at h; exact (Option.some.inj h).symm⟩
    unfold peloruslaw02_WholeBack.f
    rw [ha _ (by omega), Option.bind_some, few_eq, Option.bind_some, few_eq, Option.bind_some, if_pos rfl, decide_eq_true hx, if_pos rfl, decide_eq_true hy]
    simp only [peloruslaw02_WholeBack.j0, Bool.not_true, Bool.false_eq_true, if_false]
    rw [h1 _ (by omega), Option.bind_some]
    simp only [if_true]
    rw [h3 _ (by omega), Option.bind_some, h4 _ (by omega), Option.bind_some, h5 _ (by omega), Option.bind_some, h6 _ (by omega), Option.bind_some, h7 _ (by omega), Option.bind_some, if_pos rfl]
    by_cases zr : sgn r = 0
    · rw [if_pos zr]
    · rcases hL.2 with g | ⟨g1, g2⟩
      · exact absurd g zr
      · rw [if_neg zr, h2 _ (by omega), Option.bind_some, if_pos g1, g2, w64 (by omega) (by omega)]
        simp
end Go.Proofs.Ytbejmpocgnldnaa.Pure
