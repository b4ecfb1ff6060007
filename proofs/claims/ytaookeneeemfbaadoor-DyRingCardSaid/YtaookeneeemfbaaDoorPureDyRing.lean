/- Sums and products of three do not hang on the order; a product with a sum is the sum of products; all of them may be: the plain law, over the law function's residual. No condition. -/
import Derived.Test.YtaookeneeemfbaaDoorTQ3
import Derived.Test.YtaookeneeemfbaaDoorTK
import Derived.Test.YtaookeneeemfbaaDoorRW
namespace Go.Proofs.YtaookeneeemfbaaDoor.Pure
set_option linter.unusedVariables false
set_option linter.unusedSimpArgs false
open Go.RowKit Go.Proofs.YtaookeneeemfbaaDoorW.PrintWords Go.Proofs.YtaookeneeemfbaaDoorW.PrintMore Go.Proofs.YtaookeneeemfbaaDoor.PA Go.Proofs.YtaookeneeemfbaaDoor.T

abbrev dd (d : Dd) : (Bool × List Int) × Int := ((d.1, d.2.1), d.2.2)
abbrev un (x : (Bool × List Int) × Int) : S27 := ⟨⟨x.1.1, x.1.2⟩, x.2⟩
theorem w_Few_of {k : Nat} {x : (Bool × List Int) × Int} {r : Bool} (h : peloruslaw03_Few.f x.1.1 x.1.2 x.2 = some r) : Rf.w_Few k x = some (r, ()) := by unfold Rf.w_Few; rw [h]; rfl
theorem w_May_of {k : Nat} {x : (Bool × List Int) × Int} {r : Bool} (h : dy_May.f x.1.1 x.1.2 x.2 = some r) : Rf.w_May k x = some (r, ()) := by unfold Rf.w_May; rw [h]; rfl
theorem w_Sign_of {k : Nat} {x : (Bool × List Int) × Int} {r : Int} (h : dy_Sign.f k x.1.1 x.1.2 x.2 = some r) : Rf.w_Sign k x = some (r, ()) := by unfold Rf.w_Sign; rw [h]; rfl
theorem w_Cmp_of {k : Nat} {x y : (Bool × List Int) × Int} {r : Int} (h : dy_Cmp.f k x.1.1 x.1.2 x.2 y.1.1 y.1.2 y.2 = some r) : Rf.w_Cmp k x y = some (r, ()) := by unfold Rf.w_Cmp; rw [h]; rfl
theorem w_Mul_of {k : Nat} {x y : (Bool × List Int) × Int} {d : Dd} (h : dy_Mul.f k x.1.1 x.1.2 x.2 y.1.1 y.1.2 y.2 = some d) : Rf.w_Mul k x y = some (dd d, ()) := by unfold Rf.w_Mul; rw [h]; rfl
theorem w_Sub_of {k : Nat} {x y : (Bool × List Int) × Int} {d : Dd} (h : dy_Sub.f k x.1.1 x.1.2 x.2 y.1.1 y.1.2 y.2 = some d) : Rf.w_Sub k x y = some (dd d, ()) := by unfold Rf.w_Sub; rw [h]; rfl
theorem w_Add2_of {k : Nat} {x y : (Bool × List Int) × Int} {d : Dd} (h : dy_Add.f k [un x, un y] = some d) : Rf.w_Add k [x, y] = some (dd d, ()) := by unfold Rf.w_Add; simp only [List.map_cons, List.map_nil]; rw [h]; rfl
theorem w_Add3_of {k : Nat} {x y z : (Bool × List Int) × Int} {d : Dd} (h : dy_Add.f k [un x, un y, un z] = some d) : Rf.w_Add k [x, y, z] = some (dd d, ()) := by unfold Rf.w_Add; simp only [List.map_cons, List.map_nil]; rw [h]; rfl

theorem DyRing (x y z : S27) (ox : ok27 x) (oy : ok27 y) (oz : ok27 z) :
    ∃ k, Rf.peloruslaw03_DyRing k ((x.f0.f0, x.f0.f1), x.f1) ((y.f0.f0, y.f0.f1), y.f1) ((z.f0.f0, z.f0.f1), z.f1) = some (true, ()) := by
  obtain ⟨Ka, ha⟩ := awake3_ev
  have hw : ∀ k, Ka ≤ k → Rf.w_awake k = some (true, ()) := fun k hk => by unfold Rf.w_awake; rw [ha k hk]
  have ux : U x.f0.f1 := U_of_wf ox.1.2.2.2
  have uy : U y.f0.f1 := U_of_wf oy.1.2.2.2
  have uz : U z.f0.f1 := U_of_wf oz.1.2.2.2
  have fx := fun k => w_Few_of (k := k) (x := ((x.f0.f0, x.f0.f1), x.f1)) (few_eq _ _ _)
  have fy := fun k => w_Few_of (k := k) (x := ((y.f0.f0, y.f0.f1), y.f1)) (few_eq _ _ _)
  have fz := fun k => w_Few_of (k := k) (x := ((z.f0.f0, z.f0.f1), z.f1)) (few_eq _ _ _)
  by_cases hx : x.f0.f1.length ≤ 20 ∧ -1000 ≤ x.f1 ∧ x.f1 ≤ 1000
  case neg =>
    refine ⟨Ka, ?_⟩
    unfold Rf.peloruslaw03_DyRing
    simp only [hw _ (Nat.le_refl _), fx, fy, fz, Option.bind_some, Bool.not_true, cond_false, decide_eq_false hx, Bool.not_false, cond_true]
  by_cases hy : y.f0.f1.length ≤ 20 ∧ -1000 ≤ y.f1 ∧ y.f1 ≤ 1000
  case neg =>
    refine ⟨Ka, ?_⟩
    unfold Rf.peloruslaw03_DyRing
    simp only [hw _ (Nat.le_refl _), fx, fy, fz, Option.bind_some, Bool.not_true, cond_false, decide_eq_true hx, decide_eq_false hy, Bool.not_false, cond_true]
  by_cases hz : z.f0.f1.length ≤ 20 ∧ -1000 ≤ z.f1 ∧ z.f1 ≤ 1000
  case neg =>
    refine ⟨Ka, ?_⟩
    unfold Rf.peloruslaw03_DyRing
    simp only [hw _ (Nat.le_refl _), fx, fy, fz, Option.bind_some, Bool.not_true, cond_false, decide_eq_true hx, decide_eq_true hy, decide_eq_false hz, Bool.not_false, cond_true]
  have zx := few_z (n := x.f0.f0) ux hx.1 hx.2.1 hx.2.2
  have zy := few_z (n := y.f0.f0) uy hy.1 hy.2.1 hy.2.2
  have zz := few_z (n := z.f0.f0) uz hz.1 hz.2.1 hz.2.2
  obtain ⟨S, hS⟩ : ∃ S, S = sg x.f0.f0 (val x.f0.f1) * 2 ^ (x.f1 + 1000).toNat := ⟨_, rfl⟩
  obtain ⟨T, hT⟩ : ∃ T, T = sg y.f0.f0 (val y.f0.f1) * 2 ^ (y.f1 + 1000).toNat := ⟨_, rfl⟩
  obtain ⟨R, hR⟩ : ∃ R, R = sg z.f0.f0 (val z.f0.f1) * 2 ^ (z.f1 + 1000).toNat := ⟨_, rfl⟩
  rw [← hS] at zx
  rw [← hT] at zy
  rw [← hR] at zz
  clear hS hT hR
  obtain ⟨r5, p5, K5, h5⟩ := add3_z zx zy zz (by decide) (by decide) (by decide)
  obtain ⟨r6, p6, K6, h6⟩ := add2_z zy zx (by decide) (by decide) (by decide)
  have z6 := Z.of_rep p6 (abs_add_lt zy.bd zx.bd) (by decide) (by decide) (by decide)
  have zz1 : Z z.f0.f0 z.f0.f1 z.f1 (-1000) R (2640 + 1) := ⟨zz.u, zz.len, zz.lo, zz.hi, zz.eq, abs_mono zz.bd (by decide)⟩
  obtain ⟨r7, p7, K7, h7⟩ := add2_z zz1 z6 (by decide) (by decide) (by decide)
  obtain ⟨r8, p8, K8, h8⟩ := add2_z zy zz (by decide) (by decide) (by decide)
  have z8 := Z.of_rep p8 (abs_add_lt zy.bd zz.bd) (by decide) (by decide) (by decide)
  obtain ⟨r9, p9, K9, h9⟩ := mul_z zx z8 (by decide) (by decide) (by decide) (by decide) (by decide)
  have z9 := Z.of_rep p9 (abs_mul_lt zx.bd z8.bd) (by decide) (by decide) (by decide)
  obtain ⟨r10, p10, K10, h10⟩ := mul_z zx zy (by decide) (by decide) (by decide) (by decide) (by decide)
  have z10 := Z.of_rep p10 (abs_mul_lt zx.bd zy.bd) (by decide) (by decide) (by decide)
  obtain ⟨r11, p11, K11, h11⟩ := mul_z zz zx (by decide) (by decide) (by decide) (by decide) (by decide)
  have z11 := Z.of_rep p11 (abs_mul_lt zz.bd zx.bd) (by decide) (by decide) (by decide)
  obtain ⟨r12, p12, K12, h12⟩ := add2_z z10 z11 (by decide) (by decide) (by decide)
  have z12 := Z.of_rep p12 (abs_add_lt z10.bd z11.bd) (by decide) (by decide) (by decide)
  have z5 := Z.of_rep p5 (abs_add_lt (abs_add_lt zx.bd zy.bd) (abs_mono zz.bd (by decide))) (by decide) (by decide) (by decide)
  have z7 := Z.of_rep p7 (abs_add_lt zz1.bd z6.bd) (by decide) (by decide) (by decide)
  obtain ⟨K13, h13⟩ := cmp_z z5 z7 (by decide) (by decide) (by decide)
  rw [show S + T + R - (R + (T + S)) = 0 by omega, sgn_zero] at h13
  obtain ⟨K14, h14⟩ := cmp_z z9 z12 (by decide) (by decide) (by decide)
  rw [show S * (T + R) - (S * T + R * S) = 0 by rw [Int.mul_add, Int.mul_comm R S]; omega, sgn_zero] at h14
  obtain ⟨r15, p15, K15, h15⟩ := sub_z zx zx (by decide) (by decide) (by decide)
  have z15 := Z.of_rep p15 (show ((S - S).natAbs : Int) < 2 ^ 1 by rw [Int.sub_self]; decide) (by decide) (by decide) (by decide)
  obtain ⟨K16, h16⟩ := sign_z z15 (by decide) (by decide) (by decide)
  rw [Int.sub_self, sgn_zero] at h16
  have h17 := rep_may p5 z5.bd (by decide) (by decide) (by decide)
  have h18 := rep_may p9 z9.bd (by decide) (by decide) (by decide)
  obtain ⟨r19, p19, K19, h19⟩ := mul_z zy zz (by decide) (by decide) (by decide) (by decide) (by decide)
  have z19 := Z.of_rep p19 (abs_mul_lt zy.bd zz.bd) (by decide) (by decide) (by decide)
  obtain ⟨r20, p20, K20, h20⟩ := mul_z zx z19 (by decide) (by decide) (by decide) (by decide) (by decide)
  have z20 := Z.of_rep p20 (abs_mul_lt zx.bd z19.bd) (by decide) (by decide) (by decide)
  obtain ⟨r22, p22, K22, h22⟩ := mul_z z10 zz (by decide) (by decide) (by decide) (by decide) (by decide)
  have z22 := Z.of_rep p22 (abs_mul_lt z10.bd zz.bd) (by decide) (by decide) (by decide)
  obtain ⟨K23, h23⟩ := cmp_z z20 z22 (by decide) (by decide) (by decide)
  rw [show S * (T * R) - S * T * R = 0 by rw [Int.mul_assoc]; omega, sgn_zero] at h23
  obtain ⟨kk, hkk⟩ : ∃ kk, kk = Ka + K5 + K6 + K7 + K8 + K9 + K10 + K11 + K12 + K13 + K14 + K15 + K16 + K19 + K20 + K22 + K23 := ⟨_, rfl⟩
  clear z5 z6 z7 z8 z9 z10 z11 z12 z15 z19 z20 z22 p5 p6 p7 p8 p9 p10 p11 p12 p15 p19 p20 p22 zx zy zz zz1
  have g5 := w_Add3_of (x := ((x.f0.f0, x.f0.f1), x.f1)) (y := ((y.f0.f0, y.f0.f1), y.f1)) (z := ((z.f0.f0, z.f0.f1), z.f1)) (h5 kk (by omega))
  have g6 := w_Add2_of (x := ((y.f0.f0, y.f0.f1), y.f1)) (y := ((x.f0.f0, x.f0.f1), x.f1)) (h6 kk (by omega))
  have g7 := w_Add2_of (x := ((z.f0.f0, z.f0.f1), z.f1)) (y := dd r6) (h7 kk (by omega))
  have g8 := w_Add2_of (x := ((y.f0.f0, y.f0.f1), y.f1)) (y := ((z.f0.f0, z.f0.f1), z.f1)) (h8 kk (by omega))
  have g9 := w_Mul_of (x := ((x.f0.f0, x.f0.f1), x.f1)) (y := dd r8) (h9 kk (by omega))
  have g10 := w_Mul_of (x := ((x.f0.f0, x.f0.f1), x.f1)) (y := ((y.f0.f0, y.f0.f1), y.f1)) (h10 kk (by omega))
  have g11 := w_Mul_of (x := ((z.f0.f0, z.f0.f1), z.f1)) (y := ((x.f0.f0, x.f0.f1), x.f1)) (h11 kk (by omega))
  have g12 := w_Add2_of (x := dd r10) (y := dd r11) (h12 kk (by omega))
  have g13 := w_Cmp_of (x := dd r5) (y := dd r7) (h13 kk (by omega))
  have g14 := w_Cmp_of (x := dd r9) (y := dd r12) (h14 kk (by omega))
  have g15 := w_Sub_of (x := ((x.f0.f0, x.f0.f1), x.f1)) (y := ((x.f0.f0, x.f0.f1), x.f1)) (h15 kk (by omega))
  have g16 := w_Sign_of (x := dd r15) (h16 kk (by omega))
  have g17 := w_May_of (k := kk) (x := dd r5) h17
  have g18 := w_May_of (k := kk) (x := dd r9) h18
  have g19 := w_Mul_of (x := ((y.f0.f0, y.f0.f1), y.f1)) (y := ((z.f0.f0, z.f0.f1), z.f1)) (h19 kk (by omega))
  have g20 := w_Mul_of (x := ((x.f0.f0, x.f0.f1), x.f1)) (y := dd r19) (h20 kk (by omega))
  have g22 := w_Mul_of (x := dd r10) (y := ((z.f0.f0, z.f0.f1), z.f1)) (h22 kk (by omega))
  have g23 := w_Cmp_of (x := dd r20) (y := dd r22) (h23 kk (by omega))
  clear h5 h6 h7 h8 h9 h10 h11 h12 h13 h14 h15 h16 h17 h18 h19 h20 h22 h23
  have g0 := hw kk (by omega)
  refine ⟨kk, ?_⟩
  unfold Rf.peloruslaw03_DyRing
  simp only [g0, fx, fy, fz, Option.bind_some, Bool.not_true, cond_false, decide_eq_true hx, decide_eq_true hy, decide_eq_true hz]
  simp only [g5, g6, Option.bind_some]
  simp only [g7, g8, Option.bind_some]
  simp only [g9, g10, g11, Option.bind_some]
  simp only [g12, Option.bind_some]
  simp only [g13, Option.bind_some, beq_self_eq_true, cond_true]
  simp only [g14, Option.bind_some, beq_self_eq_true, cond_true]
  simp only [g15, Option.bind_some]
  simp only [g16, Option.bind_some, beq_self_eq_true, cond_true]
  simp only [g17, g18, Option.bind_some, cond_true]
  simp only [g19, Option.bind_some]
  simp only [g20, g10, Option.bind_some]
  simp only [g22, Option.bind_some]
  simp only [g23, Option.bind_some, beq_self_eq_true]
end Go.Proofs.YtaookeneeemfbaaDoor.Pure
