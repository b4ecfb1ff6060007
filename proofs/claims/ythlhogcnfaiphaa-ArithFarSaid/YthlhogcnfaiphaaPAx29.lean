-- Laid by this work's own program; Lean checks it.
import Derived.Test.YthlhogcnfaiphaaPAx0
import Derived.Test.YthlhogcnfaiphaaPAx1
import Derived.Test.YthlhogcnfaiphaaPAx2
import Derived.Test.YthlhogcnfaiphaaPAx3
import Derived.Test.YthlhogcnfaiphaaPAx5
import Derived.Test.YthlhogcnfaiphaaPAx6
import Derived.Test.YthlhogcnfaiphaaPAx14
import Derived.Test.YthlhogcnfaiphaaPAx25
namespace Go.Proofs.Ythlhogcnfaiphaa.PA
open Go.RowKit Go.Proofs.YthlhogcnfaiphaaW.PrintWords Go.Proofs.YthlhogcnfaiphaaW.PrintLast Go.Proofs.YthlhogcnfaiphaaW.PrintMore
attribute [local go_sem] max2_int min2_int max_two min_two max_three min_three max_four min_four   -- for this text's walks alone
set_option linter.unusedVariables false
set_option linter.unusedSimpArgs false

attribute [local go_sem ↓ high] isSome_set_
attribute [local go_sem high] eqA24
/-! ### peloruslaw06_ArithFar: function 6 -/
theorem peloruslaw06_ArithFar.tab4 : rtab .any (opsOf Try.f6 4) = peloruslaw06_ArithFar.T4 := by kernel_rfl
theorem peloruslaw06_ArithFar.bits4 : waitsOk peloruslaw06_ArithFar.T4.2 peloruslaw06_ArithFar.B4 = true := by kernel_rfl
set_option maxHeartbeats 8000000 in
set_option maxRecDepth 100000 in
theorem peloruslaw06_ArithFar.calls (k : Nat) (a0_0 : Int) (a0_1 : Bool) (a0_2 : Int) (a0_3 : Int) (a1_0 : Int) (a1_1 : Bool) (a1_2 : Int) (a1_3 : Int) (r : Bool) (w : World) (hr_ : r = true) (haw_ : ∀ r, peloruslaw06_awake.f k = some r → r = true) (h : peloruslaw06_ArithFar.f k a0_0 a0_1 a0_2 a0_3 a1_0 a1_1 a1_2 a1_3 = some r) :
  Calls Try.prog 6 #[.agg #[.int .i64 a0_0, .bool a0_1, .int .u64 a0_2, .int .i64 a0_3], .agg #[.int .i64 a1_0, .bool a1_1, .int .u64 a1_2, .int .i64 a1_3]] w fun e w' => e = .returned (.bool r) ∧ Below w.heap.size w w' := by
 have HRT_ := Aside0.mk hr_
 clear hr_
 have HAW_ := Aside0.mk haw_
 clear haw_
 have hu24 := Try.underlying24
 have HB := Aside0.mk (Below.refl w.heap.size w)
 have H : ((peloruslaw06_awake.f k).bind fun t919 => (if t919 = true then ((num_May.f a0_0 a0_1 a0_2 a0_3).bind fun t920 => (if t920 = true then ((num_May.f a1_0 a1_1 a1_2 a1_3).bind fun t921 => (if t921 = true then (if a0_0 = 1 then (if a1_0 = 1 then (if a0_1 = true then (peloruslaw06_ArithFar.j0 k t919 true a0_0 a0_1 a0_2 a0_3 a1_0 a1_1 a1_2 a1_3) else (if a1_1 = true then (peloruslaw06_ArithFar.j0 k t919 true a0_0 a0_1 a0_2 a0_3 a1_0 a1_1 a1_2 a1_3) else (peloruslaw06_ArithFar.j0 k t919 (decide ((wrap64 (a0_3 - a1_3)) ≤ 130)) a0_0 a0_1 a0_2 a0_3 a1_0 a1_1 a1_2 a1_3))) else (peloruslaw06_ArithFar.j0 k t919 true a0_0 a0_1 a0_2 a0_3 a1_0 a1_1 a1_2 a1_3)) else (peloruslaw06_ArithFar.j0 k t919 true a0_0 a0_1 a0_2 a0_3 a1_0 a1_1 a1_2 a1_3)) else (peloruslaw06_ArithFar.j0 k t919 true a0_0 a0_1 a0_2 a0_3 a1_0 a1_1 a1_2 a1_3))) else (peloruslaw06_ArithFar.j0 k t919 true a0_0 a0_1 a0_2 a0_3 a1_0 a1_1 a1_2 a1_3))) else (peloruslaw06_ArithFar.j0 k t919 true a0_0 a0_1 a0_2 a0_3 a1_0 a1_1 a1_2 a1_3))) = some r := h
 clear h
 replace H := Option.bind_eq_some_iff.mp H
 obtain ⟨t919, A30, H⟩ := H
 (try dsimp only at H)
 have A3 := Aside0.mk A30
 clear A30
 have HC4 := Aside0.mk H
 clear H
 go_enter Try.func6, Try.ntmps6
 go_upto_region 2 with (first | ((with_reducible refine gate_dst (N := 2) rfl ?_); refine bx_ 2 #[.int .i64 a0_0, .bool a0_1, .int .u64 a0_2, .int .i64 a0_3] 24 ?_; intro gb917 hg w5 hbox hb; have n0_ := bq_ HB hb; have n1_ := Aside0.mk (hbox); have n2_ := ge_ hg HB; have n3_ := ge_ hg HB; clear HB; have HB := n0_; have BK917 := n1_; have GW917 := n2_; have GE917 := n3_; clear n0_ n1_ n2_ n3_; clear hb hbox hg) | ((with_reducible refine gate_dst (N := 3) rfl ?_); refine bx_ 3 #[.int .i64 a1_0, .bool a1_1, .int .u64 a1_2, .int .i64 a1_3] 24 ?_; intro gb918 hg w6 hbox hb; have n0_ := kq_ BK917 hb; have n1_ := bq_ HB hb; have n2_ := Aside0.mk (hbox); have n3_ := ge_ hg HB; have n4_ := ge_ hg HB; have n5_ := nb_ hg BK917; have n6_ := nc_ hg BK917; clear BK917; clear HB; have BK917 := n0_; have HB := n1_; have BK918 := n2_; have GW918 := n3_; have GE918 := n4_; have NB917_918 := n5_; have NB918_917 := n6_; clear n0_ n1_ n2_ n3_ n4_ n5_ n6_; clear hb hbox hg) | ((with_reducible refine gate_callee (f := 10) rfl ?_); refine gl_ (some 6) Try.func10 #[] ?_; (with_reducible refine (peloruslaw06_awake.calls k  t919 _ (HAW_.out _ A3.out) A3.out).mono ?_); rintro e w7 ⟨rfl, hb⟩; refine ⟨_, rfl, ?_⟩; have n0_ := kq_ BK917 hb; have n1_ := kq_ BK918 hb; have n2_ := bq_ HB hb; clear BK917; clear BK918; clear HB; have BK917 := n0_; have BK918 := n1_; have HB := n2_; clear n0_ n1_ n2_; (try clear hb); (try clear hb2); (try clear hk); (try clear hi)))
 (try simp only [Act.put, List.setIfInBounds_toArray, List.set_cons_zero, List.set_cons_succ])
 go_cut [44] (fun v44 wc => ∃ (kq : Nat) (x44_3 : Bool), v44 = .bool x44_3 ∧ Aside0 (peloruslaw06_ArithFar.j0 kq t919 x44_3 a0_0 a0_1 a0_2 a0_3 a1_0 a1_1 a1_2 a1_3 = some r) ∧ Aside0 (kq ≤ k) ∧ Aside0 (wc.heap[gb917]? = some (.cells #[.int .i64 a0_0, .bool a0_1, .int .u64 a0_2, .int .i64 a0_3] 24 (0, 0))) ∧ Aside0 (wc.heap[gb918]? = some (.cells #[.int .i64 a1_0, .bool a1_1, .int .u64 a1_2, .int .i64 a1_3] 24 (0, 0))) ∧ Aside0 (Below w.heap.size w wc))
 case first =>
  have H := HC4.out
  clear HC4
  by_cases c8 : t919 = true
  ·subst c8
   have H1 : ((num_May.f a0_0 a0_1 a0_2 a0_3).bind fun t920 => (if t920 = true then ((num_May.f a1_0 a1_1 a1_2 a1_3).bind fun t921 => (if t921 = true then (if a0_0 = 1 then (if a1_0 = 1 then (if a0_1 = true then (peloruslaw06_ArithFar.j0 k true true a0_0 a0_1 a0_2 a0_3 a1_0 a1_1 a1_2 a1_3) else (if a1_1 = true then (peloruslaw06_ArithFar.j0 k true true a0_0 a0_1 a0_2 a0_3 a1_0 a1_1 a1_2 a1_3) else (peloruslaw06_ArithFar.j0 k true (decide ((wrap64 (a0_3 - a1_3)) ≤ 130)) a0_0 a0_1 a0_2 a0_3 a1_0 a1_1 a1_2 a1_3))) else (peloruslaw06_ArithFar.j0 k true true a0_0 a0_1 a0_2 a0_3 a1_0 a1_1 a1_2 a1_3)) else (peloruslaw06_ArithFar.j0 k true true a0_0 a0_1 a0_2 a0_3 a1_0 a1_1 a1_2 a1_3)) else (peloruslaw06_ArithFar.j0 k true true a0_0 a0_1 a0_2 a0_3 a1_0 a1_1 a1_2 a1_3))) else (peloruslaw06_ArithFar.j0 k true true a0_0 a0_1 a0_2 a0_3 a1_0 a1_1 a1_2 a1_3))) = some r := by rw [if_pos rfl] at H; exact H
   clear H
   have H := H1
   clear H1
   replace H := Option.bind_eq_some_iff.mp H
   obtain ⟨t920, A90, H⟩ := H
   (try dsimp only at H)
   have A9 := Aside0.mk A90
   clear A90
   by_cases c10 : t920 = true
   ·subst c10
    have H1 : ((num_May.f a1_0 a1_1 a1_2 a1_3).bind fun t921 => (if t921 = true then (if a0_0 = 1 then (if a1_0 = 1 then (if a0_1 = true then (peloruslaw06_ArithFar.j0 k true true a0_0 a0_1 a0_2 a0_3 a1_0 a1_1 a1_2 a1_3) else (if a1_1 = true then (peloruslaw06_ArithFar.j0 k true true a0_0 a0_1 a0_2 a0_3 a1_0 a1_1 a1_2 a1_3) else (peloruslaw06_ArithFar.j0 k true (decide ((wrap64 (a0_3 - a1_3)) ≤ 130)) a0_0 a0_1 a0_2 a0_3 a1_0 a1_1 a1_2 a1_3))) else (peloruslaw06_ArithFar.j0 k true true a0_0 a0_1 a0_2 a0_3 a1_0 a1_1 a1_2 a1_3)) else (peloruslaw06_ArithFar.j0 k true true a0_0 a0_1 a0_2 a0_3 a1_0 a1_1 a1_2 a1_3)) else (peloruslaw06_ArithFar.j0 k true true a0_0 a0_1 a0_2 a0_3 a1_0 a1_1 a1_2 a1_3))) = some r := by rw [if_pos rfl] at H; exact H
    clear H
    have H := H1
    clear H1
    replace H := Option.bind_eq_some_iff.mp H
    obtain ⟨t921, A110, H⟩ := H
    (try dsimp only at H)
    have A11 := Aside0.mk A110
    clear A110
    by_cases c12 : t921 = true
    ·subst c12
     have H1 : (if a0_0 = 1 then (if a1_0 = 1 then (if a0_1 = true then (peloruslaw06_ArithFar.j0 k true true a0_0 a0_1 a0_2 a0_3 a1_0 a1_1 a1_2 a1_3) else (if a1_1 = true then (peloruslaw06_ArithFar.j0 k true true a0_0 a0_1 a0_2 a0_3 a1_0 a1_1 a1_2 a1_3) else (peloruslaw06_ArithFar.j0 k true (decide ((wrap64 (a0_3 - a1_3)) ≤ 130)) a0_0 a0_1 a0_2 a0_3 a1_0 a1_1 a1_2 a1_3))) else (peloruslaw06_ArithFar.j0 k true true a0_0 a0_1 a0_2 a0_3 a1_0 a1_1 a1_2 a1_3)) else (peloruslaw06_ArithFar.j0 k true true a0_0 a0_1 a0_2 a0_3 a1_0 a1_1 a1_2 a1_3)) = some r := by rw [if_pos rfl] at H; exact H
     clear H
     have H := H1
     clear H1
     by_cases c13 : a0_0 = 1
     ·rw [if_pos c13] at H
      have c13b0 : (a0_0 == 1) = true := beq_iff_eq.mpr c13
      have c13b1 : (a0_0 != 1) = false := bne_eq_false_iff_eq.mpr c13
      clear c13
      (first | rw [c13b0] | (simp only [i64_w, i32_w]; rw [c13b0]) | skip)
      by_cases c14 : a1_0 = 1
      ·rw [if_pos c14] at H
       have c14b0 : (a1_0 == 1) = true := beq_iff_eq.mpr c14
       have c14b1 : (a1_0 != 1) = false := bne_eq_false_iff_eq.mpr c14
       clear c14
       by_cases c15 : a0_1 = true
       ·subst c15
        have H1 : (peloruslaw06_ArithFar.j0 k true true a0_0 true a0_2 a0_3 a1_0 a1_1 a1_2 a1_3) = some r := by rw [if_pos rfl] at H; exact H
        clear H
        have H := H1
        clear H1
        have H' := Aside0.mk H
        clear H
        have hnb16 := NB917_918.out
        have hnc16 := NB918_917.out
        have hcz17_0 := cz_ BK917 0 rfl
        have hcz17_1 := cz_ BK917 1 rfl
        have hcz17_2 := cz_ BK917 2 rfl
        have hcz17_3 := cz_ BK917 3 rfl
        have hfz17_0 := fz_ BK917 0
        have hfz17_1 := fz_ BK917 1
        have hfz17_2 := fz_ BK917 2
        have hfz17_3 := fz_ BK917 3
        go_wp2_with (first | (go_at_call 18; (with_reducible refine (num_May.calls a0_0 true a0_2 a0_3 true _ A9.out).mono ?_); rintro e w18 ⟨rfl, hb⟩; have n0_ := kq_ BK917 hb; have n1_ := kq_ BK918 hb; have n2_ := bq_ HB hb; clear BK917; clear BK918; clear HB; have BK917 := n0_; have BK918 := n1_; have HB := n2_; clear n0_ n1_ n2_; (try clear hb); (try clear hb2); (try clear hk); (try clear hi); have hcz19_0 := cz_ BK918 0 rfl; have hcz19_1 := cz_ BK918 1 rfl; have hcz19_2 := cz_ BK918 2 rfl; have hcz19_3 := cz_ BK918 3 rfl; have hfz19_0 := fz_ BK918 0; have hfz19_1 := fz_ BK918 1; have hfz19_2 := fz_ BK918 2; have hfz19_3 := fz_ BK918 3) | (go_at_call 18; (with_reducible refine (num_May.calls a1_0 a1_1 a1_2 a1_3 true _ A11.out).mono ?_); rintro e w20 ⟨rfl, hb⟩; have n0_ := kq_ BK917 hb; have n1_ := kq_ BK918 hb; have n2_ := bq_ HB hb; clear BK917; clear BK918; clear HB; have BK917 := n0_; have BK918 := n1_; have HB := n2_; clear n0_ n1_ n2_; (try clear hb); (try clear hb2); (try clear hk); (try clear hi); have hcz21_0 := cz_ BK917 0 rfl; have hcz21_1 := cz_ BK917 1 rfl; have hcz21_2 := cz_ BK917 2 rfl; have hcz21_3 := cz_ BK917 3 rfl; have hfz21_0 := fz_ BK917 0; have hfz21_1 := fz_ BK917 1; have hfz21_2 := fz_ BK917 2; have hfz21_3 := fz_ BK917 3; have hcz22_0 := cz_ BK918 0 rfl; have hcz22_1 := cz_ BK918 1 rfl; have hcz22_2 := cz_ BK918 2 rfl; have hcz22_3 := cz_ BK918 3 rfl; have hfz22_0 := fz_ BK918 0; have hfz22_1 := fz_ BK918 1; have hfz22_2 := fz_ BK918 2; have hfz22_3 := fz_ BK918 3))
        go_meet
        case rel => exact ⟨_, (true), (by first | rfl | (simp; done) | (simp [*]; done)), H', ⟨by first | omega | exact Nat.le_refl _⟩, ⟨kb_ BK917.out⟩, ⟨kb_ BK918.out⟩, ⟨bw_ HB.out⟩⟩
       ·replace c15 := Bool.eq_false_iff.mpr c15
        subst c15
        have H1 : (if a1_1 = true then (peloruslaw06_ArithFar.j0 k true true a0_0 false a0_2 a0_3 a1_0 a1_1 a1_2 a1_3) else (peloruslaw06_ArithFar.j0 k true (decide ((wrap64 (a0_3 - a1_3)) ≤ 130)) a0_0 false a0_2 a0_3 a1_0 a1_1 a1_2 a1_3)) = some r := by rw [if_neg (show ¬ (false = true) by decide)] at H; exact H
        clear H
        have H := H1
        clear H1
        by_cases c23 : a1_1 = true
        ·subst c23
         have H1 : (peloruslaw06_ArithFar.j0 k true true a0_0 false a0_2 a0_3 a1_0 true a1_2 a1_3) = some r := by rw [if_pos rfl] at H; exact H
         clear H
         have H := H1
         clear H1
         have H' := Aside0.mk H
         clear H
         have hnb24 := NB917_918.out
         have hnc24 := NB918_917.out
         have hcz25_0 := cz_ BK917 0 rfl
         have hcz25_1 := cz_ BK917 1 rfl
         have hcz25_2 := cz_ BK917 2 rfl
         have hcz25_3 := cz_ BK917 3 rfl
         have hfz25_0 := fz_ BK917 0
         have hfz25_1 := fz_ BK917 1
         have hfz25_2 := fz_ BK917 2
         have hfz25_3 := fz_ BK917 3
         go_wp2_with (first | (go_at_call 18; (with_reducible refine (num_May.calls a0_0 false a0_2 a0_3 true _ A9.out).mono ?_); rintro e w26 ⟨rfl, hb⟩; have n0_ := kq_ BK917 hb; have n1_ := kq_ BK918 hb; have n2_ := bq_ HB hb; clear BK917; clear BK918; clear HB; have BK917 := n0_; have BK918 := n1_; have HB := n2_; clear n0_ n1_ n2_; (try clear hb); (try clear hb2); (try clear hk); (try clear hi); have hcz27_0 := cz_ BK918 0 rfl; have hcz27_1 := cz_ BK918 1 rfl; have hcz27_2 := cz_ BK918 2 rfl; have hcz27_3 := cz_ BK918 3 rfl; have hfz27_0 := fz_ BK918 0; have hfz27_1 := fz_ BK918 1; have hfz27_2 := fz_ BK918 2; have hfz27_3 := fz_ BK918 3) | (go_at_call 18; (with_reducible refine (num_May.calls a1_0 true a1_2 a1_3 true _ A11.out).mono ?_); rintro e w28 ⟨rfl, hb⟩; have n0_ := kq_ BK917 hb; have n1_ := kq_ BK918 hb; have n2_ := bq_ HB hb; clear BK917; clear BK918; clear HB; have BK917 := n0_; have BK918 := n1_; have HB := n2_; clear n0_ n1_ n2_; (try clear hb); (try clear hb2); (try clear hk); (try clear hi); have hcz29_0 := cz_ BK917 0 rfl; have hcz29_1 := cz_ BK917 1 rfl; have hcz29_2 := cz_ BK917 2 rfl; have hcz29_3 := cz_ BK917 3 rfl; have hfz29_0 := fz_ BK917 0; have hfz29_1 := fz_ BK917 1; have hfz29_2 := fz_ BK917 2; have hfz29_3 := fz_ BK917 3; have hcz30_0 := cz_ BK918 0 rfl; have hcz30_1 := cz_ BK918 1 rfl; have hcz30_2 := cz_ BK918 2 rfl; have hcz30_3 := cz_ BK918 3 rfl; have hfz30_0 := fz_ BK918 0; have hfz30_1 := fz_ BK918 1; have hfz30_2 := fz_ BK918 2; have hfz30_3 := fz_ BK918 3))
         go_meet
         case rel => exact ⟨_, (true), (by first | rfl | (simp; done) | (simp [*]; done)), H', ⟨by first | omega | exact Nat.le_refl _⟩, ⟨kb_ BK917.out⟩, ⟨kb_ BK918.out⟩, ⟨bw_ HB.out⟩⟩
        ·replace c23 := Bool.eq_false_iff.mpr c23
         subst c23
         have H1 : (peloruslaw06_ArithFar.j0 k true (decide ((wrap64 (a0_3 - a1_3)) ≤ 130)) a0_0 false a0_2 a0_3 a1_0 false a1_2 a1_3) = some r := by rw [if_neg (show ¬ (false = true) by decide)] at H; exact H
         clear H
         have H := H1
         clear H1
         have H' := Aside0.mk H
         clear H
         have hnb31 := NB917_918.out
         have hnc31 := NB918_917.out
         have hcz32_0 := cz_ BK917 0 rfl
         have hcz32_1 := cz_ BK917 1 rfl
         have hcz32_2 := cz_ BK917 2 rfl
         have hcz32_3 := cz_ BK917 3 rfl
         have hfz32_0 := fz_ BK917 0
         have hfz32_1 := fz_ BK917 1
         have hfz32_2 := fz_ BK917 2
         have hfz32_3 := fz_ BK917 3
         go_wp2_with (first | (go_at_call 18; (with_reducible refine (num_May.calls a0_0 false a0_2 a0_3 true _ A9.out).mono ?_); rintro e w33 ⟨rfl, hb⟩; have n0_ := kq_ BK917 hb; have n1_ := kq_ BK918 hb; have n2_ := bq_ HB hb; clear BK917; clear BK918; clear HB; have BK917 := n0_; have BK918 := n1_; have HB := n2_; clear n0_ n1_ n2_; (try clear hb); (try clear hb2); (try clear hk); (try clear hi); have hcz34_0 := cz_ BK918 0 rfl; have hcz34_1 := cz_ BK918 1 rfl; have hcz34_2 := cz_ BK918 2 rfl; have hcz34_3 := cz_ BK918 3 rfl; have hfz34_0 := fz_ BK918 0; have hfz34_1 := fz_ BK918 1; have hfz34_2 := fz_ BK918 2; have hfz34_3 := fz_ BK918 3) | (go_at_call 18; (with_reducible refine (num_May.calls a1_0 false a1_2 a1_3 true _ A11.out).mono ?_); rintro e w35 ⟨rfl, hb⟩; have n0_ := kq_ BK917 hb; have n1_ := kq_ BK918 hb; have n2_ := bq_ HB hb; clear BK917; clear BK918; clear HB; have BK917 := n0_; have BK918 := n1_; have HB := n2_; clear n0_ n1_ n2_; (try clear hb); (try clear hb2); (try clear hk); (try clear hi); have hcz36_0 := cz_ BK917 0 rfl; have hcz36_1 := cz_ BK917 1 rfl; have hcz36_2 := cz_ BK917 2 rfl; have hcz36_3 := cz_ BK917 3 rfl; have hfz36_0 := fz_ BK917 0; have hfz36_1 := fz_ BK917 1; have hfz36_2 := fz_ BK917 2; have hfz36_3 := fz_ BK917 3; have hcz37_0 := cz_ BK918 0 rfl; have hcz37_1 := cz_ BK918 1 rfl; have hcz37_2 := cz_ BK918 2 rfl; have hcz37_3 := cz_ BK918 3 rfl; have hfz37_0 := fz_ BK918 0; have hfz37_1 := fz_ BK918 1; have hfz37_2 := fz_ BK918 2; have hfz37_3 := fz_ BK918 3))
         go_meet
         case rel => exact ⟨_, (decide ((wrap64 (a0_3 - a1_3)) ≤ 130)), (by first | rfl | (simp; done) | (simp [*]; done)), H', ⟨by first | omega | exact Nat.le_refl _⟩, ⟨kb_ BK917.out⟩, ⟨kb_ BK918.out⟩, ⟨bw_ HB.out⟩⟩
      ·rw [if_neg c14] at H
       have c14b0 : (a1_0 == 1) = false := beq_eq_false_iff_ne.mpr c14
       have c14b1 : (a1_0 != 1) = true := bne_iff_ne.mpr c14
       have H' := Aside0.mk H
       clear H
       have hnb38 := NB917_918.out
       have hnc38 := NB918_917.out
       have hcz39_0 := cz_ BK917 0 rfl
       have hcz39_1 := cz_ BK917 1 rfl
       have hcz39_2 := cz_ BK917 2 rfl
       have hcz39_3 := cz_ BK917 3 rfl
       have hfz39_0 := fz_ BK917 0
       have hfz39_1 := fz_ BK917 1
       have hfz39_2 := fz_ BK917 2
       have hfz39_3 := fz_ BK917 3
       go_wp2_with (first | (go_at_call 18; (with_reducible refine (num_May.calls a0_0 a0_1 a0_2 a0_3 true _ A9.out).mono ?_); rintro e w40 ⟨rfl, hb⟩; have n0_ := kq_ BK917 hb; have n1_ := kq_ BK918 hb; have n2_ := bq_ HB hb; clear BK917; clear BK918; clear HB; have BK917 := n0_; have BK918 := n1_; have HB := n2_; clear n0_ n1_ n2_; (try clear hb); (try clear hb2); (try clear hk); (try clear hi); have hcz41_0 := cz_ BK918 0 rfl; have hcz41_1 := cz_ BK918 1 rfl; have hcz41_2 := cz_ BK918 2 rfl; have hcz41_3 := cz_ BK918 3 rfl; have hfz41_0 := fz_ BK918 0; have hfz41_1 := fz_ BK918 1; have hfz41_2 := fz_ BK918 2; have hfz41_3 := fz_ BK918 3) | (go_at_call 18; (with_reducible refine (num_May.calls a1_0 a1_1 a1_2 a1_3 true _ A11.out).mono ?_); rintro e w42 ⟨rfl, hb⟩; have n0_ := kq_ BK917 hb; have n1_ := kq_ BK918 hb; have n2_ := bq_ HB hb; clear BK917; clear BK918; clear HB; have BK917 := n0_; have BK918 := n1_; have HB := n2_; clear n0_ n1_ n2_; (try clear hb); (try clear hb2); (try clear hk); (try clear hi); have hcz43_0 := cz_ BK917 0 rfl; have hcz43_1 := cz_ BK917 1 rfl; have hcz43_2 := cz_ BK917 2 rfl; have hcz43_3 := cz_ BK917 3 rfl; have hfz43_0 := fz_ BK917 0; have hfz43_1 := fz_ BK917 1; have hfz43_2 := fz_ BK917 2; have hfz43_3 := fz_ BK917 3; have hcz44_0 := cz_ BK918 0 rfl; have hcz44_1 := cz_ BK918 1 rfl; have hcz44_2 := cz_ BK918 2 rfl; have hcz44_3 := cz_ BK918 3 rfl; have hfz44_0 := fz_ BK918 0; have hfz44_1 := fz_ BK918 1; have hfz44_2 := fz_ BK918 2; have hfz44_3 := fz_ BK918 3))
       go_meet
       case rel => exact ⟨_, (true), (by first | rfl | (simp; done) | (simp [*]; done)), H', ⟨by first | omega | exact Nat.le_refl _⟩, ⟨kb_ BK917.out⟩, ⟨kb_ BK918.out⟩, ⟨bw_ HB.out⟩⟩
     ·rw [if_neg c13] at H
      have c13b0 : (a0_0 == 1) = false := beq_eq_false_iff_ne.mpr c13
      have c13b1 : (a0_0 != 1) = true := bne_iff_ne.mpr c13
      (first | rw [c13b0] | (simp only [i64_w, i32_w]; rw [c13b0]) | skip)
      have H' := Aside0.mk H
      clear H
      have hnb45 := NB917_918.out
      have hnc45 := NB918_917.out
      have hcz46_0 := cz_ BK917 0 rfl
      have hcz46_1 := cz_ BK917 1 rfl
      have hcz46_2 := cz_ BK917 2 rfl
      have hcz46_3 := cz_ BK917 3 rfl
      have hfz46_0 := fz_ BK917 0
      have hfz46_1 := fz_ BK917 1
      have hfz46_2 := fz_ BK917 2
      have hfz46_3 := fz_ BK917 3
      go_wp2_with (first | (go_at_call 18; (with_reducible refine (num_May.calls a0_0 a0_1 a0_2 a0_3 true _ A9.out).mono ?_); rintro e w47 ⟨rfl, hb⟩; have n0_ := kq_ BK917 hb; have n1_ := kq_ BK918 hb; have n2_ := bq_ HB hb; clear BK917; clear BK918; clear HB; have BK917 := n0_; have BK918 := n1_; have HB := n2_; clear n0_ n1_ n2_; (try clear hb); (try clear hb2); (try clear hk); (try clear hi); have hcz48_0 := cz_ BK918 0 rfl; have hcz48_1 := cz_ BK918 1 rfl; have hcz48_2 := cz_ BK918 2 rfl; have hcz48_3 := cz_ BK918 3 rfl; have hfz48_0 := fz_ BK918 0; have hfz48_1 := fz_ BK918 1; have hfz48_2 := fz_ BK918 2; have hfz48_3 := fz_ BK918 3) | (go_at_call 18; (with_reducible refine (num_May.calls a1_0 a1_1 a1_2 a1_3 true _ A11.out).mono ?_); rintro e w49 ⟨rfl, hb⟩; have n0_ := kq_ BK917 hb; have n1_ := kq_ BK918 hb; have n2_ := bq_ HB hb; clear BK917; clear BK918; clear HB; have BK917 := n0_; have BK918 := n1_; have HB := n2_; clear n0_ n1_ n2_; (try clear hb); (try clear hb2); (try clear hk); (try clear hi); have hcz50_0 := cz_ BK917 0 rfl; have hcz50_1 := cz_ BK917 1 rfl; have hcz50_2 := cz_ BK917 2 rfl; have hcz50_3 := cz_ BK917 3 rfl; have hfz50_0 := fz_ BK917 0; have hfz50_1 := fz_ BK917 1; have hfz50_2 := fz_ BK917 2; have hfz50_3 := fz_ BK917 3))
      go_meet
      case rel => exact ⟨_, (true), (by first | rfl | (simp; done) | (simp [*]; done)), H', ⟨by first | omega | exact Nat.le_refl _⟩, ⟨kb_ BK917.out⟩, ⟨kb_ BK918.out⟩, ⟨bw_ HB.out⟩⟩
    ·replace c12 := Bool.eq_false_iff.mpr c12
     subst c12
     have H1 : (peloruslaw06_ArithFar.j0 k true true a0_0 a0_1 a0_2 a0_3 a1_0 a1_1 a1_2 a1_3) = some r := by rw [if_neg (show ¬ (false = true) by decide)] at H; exact H
     clear H
     have H := H1
     clear H1
     have H' := Aside0.mk H
     clear H
     have hnb51 := NB917_918.out
     have hnc51 := NB918_917.out
     have hcz52_0 := cz_ BK917 0 rfl
     have hcz52_1 := cz_ BK917 1 rfl
     have hcz52_2 := cz_ BK917 2 rfl
     have hcz52_3 := cz_ BK917 3 rfl
     have hfz52_0 := fz_ BK917 0
     have hfz52_1 := fz_ BK917 1
     have hfz52_2 := fz_ BK917 2
     have hfz52_3 := fz_ BK917 3
     go_wp2_with (first | (go_at_call 18; (with_reducible refine (num_May.calls a0_0 a0_1 a0_2 a0_3 true _ A9.out).mono ?_); rintro e w53 ⟨rfl, hb⟩; have n0_ := kq_ BK917 hb; have n1_ := kq_ BK918 hb; have n2_ := bq_ HB hb; clear BK917; clear BK918; clear HB; have BK917 := n0_; have BK918 := n1_; have HB := n2_; clear n0_ n1_ n2_; (try clear hb); (try clear hb2); (try clear hk); (try clear hi); have hcz54_0 := cz_ BK918 0 rfl; have hcz54_1 := cz_ BK918 1 rfl; have hcz54_2 := cz_ BK918 2 rfl; have hcz54_3 := cz_ BK918 3 rfl; have hfz54_0 := fz_ BK918 0; have hfz54_1 := fz_ BK918 1; have hfz54_2 := fz_ BK918 2; have hfz54_3 := fz_ BK918 3) | (go_at_call 18; (with_reducible refine (num_May.calls a1_0 a1_1 a1_2 a1_3 false _ A11.out).mono ?_); rintro e w55 ⟨rfl, hb⟩; have n0_ := kq_ BK917 hb; have n1_ := kq_ BK918 hb; have n2_ := bq_ HB hb; clear BK917; clear BK918; clear HB; have BK917 := n0_; have BK918 := n1_; have HB := n2_; clear n0_ n1_ n2_; (try clear hb); (try clear hb2); (try clear hk); (try clear hi)))
     go_meet
     case rel => exact ⟨_, (true), (by first | rfl | (simp; done) | (simp [*]; done)), H', ⟨by first | omega | exact Nat.le_refl _⟩, ⟨kb_ BK917.out⟩, ⟨kb_ BK918.out⟩, ⟨bw_ HB.out⟩⟩
   ·replace c10 := Bool.eq_false_iff.mpr c10
    subst c10
    have H1 : (peloruslaw06_ArithFar.j0 k true true a0_0 a0_1 a0_2 a0_3 a1_0 a1_1 a1_2 a1_3) = some r := by rw [if_neg (show ¬ (false = true) by decide)] at H; exact H
    clear H
    have H := H1
    clear H1
    have H' := Aside0.mk H
    clear H
    have hnb56 := NB917_918.out
    have hnc56 := NB918_917.out
    have hcz57_0 := cz_ BK917 0 rfl
    have hcz57_1 := cz_ BK917 1 rfl
    have hcz57_2 := cz_ BK917 2 rfl
    have hcz57_3 := cz_ BK917 3 rfl
    have hfz57_0 := fz_ BK917 0
    have hfz57_1 := fz_ BK917 1
    have hfz57_2 := fz_ BK917 2
    have hfz57_3 := fz_ BK917 3
    go_wp2_with (first | (go_at_call 18; (with_reducible refine (num_May.calls a0_0 a0_1 a0_2 a0_3 false _ A9.out).mono ?_); rintro e w58 ⟨rfl, hb⟩; have n0_ := kq_ BK917 hb; have n1_ := kq_ BK918 hb; have n2_ := bq_ HB hb; clear BK917; clear BK918; clear HB; have BK917 := n0_; have BK918 := n1_; have HB := n2_; clear n0_ n1_ n2_; (try clear hb); (try clear hb2); (try clear hk); (try clear hi)))
    go_meet
    case rel => exact ⟨_, (true), (by first | rfl | (simp; done) | (simp [*]; done)), H', ⟨by first | omega | exact Nat.le_refl _⟩, ⟨kb_ BK917.out⟩, ⟨kb_ BK918.out⟩, ⟨bw_ HB.out⟩⟩
  ·replace c8 := Bool.eq_false_iff.mpr c8
   subst c8
   have H1 : (peloruslaw06_ArithFar.j0 k false true a0_0 a0_1 a0_2 a0_3 a1_0 a1_1 a1_2 a1_3) = some r := by rw [if_neg (show ¬ (false = true) by decide)] at H; exact H
   clear H
   have H := H1
   clear H1
   have H' := Aside0.mk H
   clear H
   go_wp2
   go_meet
   case rel => exact ⟨_, (true), (by first | rfl | (simp; done) | (simp [*]; done)), H', ⟨by first | omega | exact Nat.le_refl _⟩, ⟨kb_ BK917.out⟩, ⟨kb_ BK918.out⟩, ⟨bw_ HB.out⟩⟩
 case rest =>
  clear HC4
  try clear c1
  try clear c2
  try clear p2
  try clear c3
  try clear c4
  try clear c5
  try clear c6
  try clear p6
  try clear c8
  try clear c10
  try clear c12
  try clear c13
  try clear c13b0
  try clear c13b1
  try clear c14
  try clear c14b0
  try clear c14b1
  try clear c15
  try clear c16
  try clear c23
  try clear c24
  try clear c31
  try clear c38
  try clear c45
  try clear c51
  try clear c56
  try clear hcz17_0
  try clear hcz17_1
  try clear hcz17_2
  try clear hcz17_3
  try clear hcz19_0
  try clear hcz19_1
  try clear hcz19_2
  try clear hcz19_3
  try clear hcz21_0
  try clear hcz21_1
  try clear hcz21_2
  try clear hcz21_3
  try clear hcz22_0
  try clear hcz22_1
  try clear hcz22_2
  try clear hcz22_3
  try clear hcz25_0
  try clear hcz25_1
  try clear hcz25_2
  try clear hcz25_3
  try clear hcz27_0
  try clear hcz27_1
  try clear hcz27_2
  try clear hcz27_3
  try clear hcz29_0
  try clear hcz29_1
  try clear hcz29_2
  try clear hcz29_3
  try clear hcz30_0
  try clear hcz30_1
  try clear hcz30_2
  try clear hcz30_3
  try clear hcz32_0
  try clear hcz32_1
  try clear hcz32_2
  try clear hcz32_3
  try clear hcz34_0
  try clear hcz34_1
  try clear hcz34_2
  try clear hcz34_3
  try clear hcz36_0
  try clear hcz36_1
  try clear hcz36_2
  try clear hcz36_3
  try clear hcz37_0
  try clear hcz37_1
  try clear hcz37_2
  try clear hcz37_3
  try clear hcz39_0
  try clear hcz39_1
  try clear hcz39_2
  try clear hcz39_3
  try clear hcz41_0
  try clear hcz41_1
  try clear hcz41_2
  try clear hcz41_3
  try clear hcz43_0
  try clear hcz43_1
  try clear hcz43_2
  try clear hcz43_3
  try clear hcz44_0
  try clear hcz44_1
  try clear hcz44_2
  try clear hcz44_3
  try clear hcz46_0
  try clear hcz46_1
  try clear hcz46_2
  try clear hcz46_3
  try clear hcz48_0
  try clear hcz48_1
  try clear hcz48_2
  try clear hcz48_3
  try clear hcz50_0
  try clear hcz50_1
  try clear hcz50_2
  try clear hcz50_3
  try clear hcz52_0
  try clear hcz52_1
  try clear hcz52_2
  try clear hcz52_3
  try clear hcz54_0
  try clear hcz54_1
  try clear hcz54_2
  try clear hcz54_3
  try clear hcz57_0
  try clear hcz57_1
  try clear hcz57_2
  try clear hcz57_3
  try clear hfz17_0
  try clear hfz17_1
  try clear hfz17_2
  try clear hfz17_3
  try clear hfz19_0
  try clear hfz19_1
  try clear hfz19_2
  try clear hfz19_3
  try clear hfz21_0
  try clear hfz21_1
  try clear hfz21_2
  try clear hfz21_3
  try clear hfz22_0
  try clear hfz22_1
  try clear hfz22_2
  try clear hfz22_3
  try clear hfz25_0
  try clear hfz25_1
  try clear hfz25_2
  try clear hfz25_3
  try clear hfz27_0
  try clear hfz27_1
  try clear hfz27_2
  try clear hfz27_3
  try clear hfz29_0
  try clear hfz29_1
  try clear hfz29_2
  try clear hfz29_3
  try clear hfz30_0
  try clear hfz30_1
  try clear hfz30_2
  try clear hfz30_3
  try clear hfz32_0
  try clear hfz32_1
  try clear hfz32_2
  try clear hfz32_3
  try clear hfz34_0
  try clear hfz34_1
  try clear hfz34_2
  try clear hfz34_3
  try clear hfz36_0
  try clear hfz36_1
  try clear hfz36_2
  try clear hfz36_3
  try clear hfz37_0
  try clear hfz37_1
  try clear hfz37_2
  try clear hfz37_3
  try clear hfz39_0
  try clear hfz39_1
  try clear hfz39_2
  try clear hfz39_3
  try clear hfz41_0
  try clear hfz41_1
  try clear hfz41_2
  try clear hfz41_3
  try clear hfz43_0
  try clear hfz43_1
  try clear hfz43_2
  try clear hfz43_3
  try clear hfz44_0
  try clear hfz44_1
  try clear hfz44_2
  try clear hfz44_3
  try clear hfz46_0
  try clear hfz46_1
  try clear hfz46_2
  try clear hfz46_3
  try clear hfz48_0
  try clear hfz48_1
  try clear hfz48_2
  try clear hfz48_3
  try clear hfz50_0
  try clear hfz50_1
  try clear hfz50_2
  try clear hfz50_3
  try clear hfz52_0
  try clear hfz52_1
  try clear hfz52_2
  try clear hfz52_3
  try clear hfz54_0
  try clear hfz54_1
  try clear hfz54_2
  try clear hfz54_3
  try clear hfz57_0
  try clear hfz57_1
  try clear hfz57_2
  try clear hfz57_3
  obtain ⟨kq, x44_3, rfl, HA, HJ3, BK917, BK918, HB⟩ := hcut
  cases kq with
  | zero => exact absurd HA.out (by simp [peloruslaw06_ArithFar.j0])
  | succ kj3 =>
   have H := HA.out
   clear HA
   simp only [peloruslaw06_ArithFar.j0] at H
   by_cases c59 : x44_3 = true
   ·subst c59
    have H1 : (some t919) = some r := by rw [if_pos rfl] at H; exact H
    clear H
    have H := H1
    clear H1
    obtain rfl := Option.some.inj H
    go_wp2
    go_ret
    exact ⟨by first | rfl | (simp [errW_none, errW_some] <;> rfl) | (simp [*, errW_none, errW_some] <;> rfl), bw_ HB.out⟩
   ·replace c59 := Bool.eq_false_iff.mpr c59
    subst c59
    have H1 : ((arith_Add.f kj3 a0_0 a0_1 a0_2 a0_3 a1_0 a1_1 a1_2 a1_3 true).bind fun bt922 => ((num_Next.f kj3 a0_0 a0_1 a0_2 a0_3 true).bind fun bt926 => (if (bt922.1 == bt926.1 && (bt922.2.1 == bt926.2.1 && (bt922.2.2.1 == bt926.2.2.1 && (bt922.2.2.2 == bt926.2.2.2)))) = true then ((arith_Add.f kj3 a0_0 a0_1 a0_2 a0_3 a1_0 a1_1 a1_2 a1_3 false).bind fun bt930 => (if (bt930.1 == a0_0 && (bt930.2.1 == a0_1 && (bt930.2.2.1 == a0_2 && (bt930.2.2.2 == a0_3)))) = true then ((arith_Sub.f kj3 a0_0 a0_1 a0_2 a0_3 a1_0 a1_1 a1_2 a1_3 false).bind fun bt934 => ((num_Next.f kj3 a0_0 a0_1 a0_2 a0_3 false).bind fun bt938 => (if (bt934.1 == bt938.1 && (bt934.2.1 == bt938.2.1 && (bt934.2.2.1 == bt938.2.2.1 && (bt934.2.2.2 == bt938.2.2.2)))) = true then ((arith_Sub.f kj3 a0_0 a0_1 a0_2 a0_3 a1_0 a1_1 a1_2 a1_3 true).bind fun bt942 => (some (bt942.1 == a0_0 && (bt942.2.1 == a0_1 && (bt942.2.2.1 == a0_2 && (bt942.2.2.2 == a0_3)))))) else (some false)))) else (some false))) else (some false)))) = some r := by rw [if_neg (show ¬ (false = true) by decide)] at H; exact H
    clear H
    have H := H1
    clear H1
    replace H := Option.bind_eq_some_iff.mp H
    obtain ⟨⟨t922, t923, t924, t925⟩, A600, H⟩ := H
    (try dsimp only at H)
    have A60 := Aside0.mk A600
    clear A600
    replace H := Option.bind_eq_some_iff.mp H
    obtain ⟨⟨t926, t927, t928, t929⟩, A610, H⟩ := H
    (try dsimp only at H)
    have A61 := Aside0.mk A610
    clear A610
    by_cases c62 : (t922 == t926 && (t923 == t927 && (t924 == t928 && (t925 == t929)))) = true
    ·rw [if_pos c62] at H
     have c62b0 : (t922 == t926 && (t923 == t927 && (t924 == t928 && (t925 == t929)))) = true := c62
     (try (have c62b1 : decide (t922 = t926 && (t923 == t927 && (t924 == t928 && (t925 == t929)))) = true := by simpa using c62))
     (try (have c62b2 : (t922 == t926 && (t923 == t927 && (t924 == t928 && (t925 == t929)))) = true := by simpa using c62))
     clear c62
     replace H := Option.bind_eq_some_iff.mp H
     obtain ⟨⟨t930, t931, t932, t933⟩, A630, H⟩ := H
     (try dsimp only at H)
     have A63 := Aside0.mk A630
     clear A630
     by_cases c64 : (t930 == a0_0 && (t931 == a0_1 && (t932 == a0_2 && (t933 == a0_3)))) = true
     ·rw [if_pos c64] at H
      have c64b0 : (t930 == a0_0 && (t931 == a0_1 && (t932 == a0_2 && (t933 == a0_3)))) = true := c64
      (try (have c64b1 : decide (t930 = a0_0 && (t931 == a0_1 && (t932 == a0_2 && (t933 == a0_3)))) = true := by simpa using c64))
      (try (have c64b2 : (t930 == a0_0 && (t931 == a0_1 && (t932 == a0_2 && (t933 == a0_3)))) = true := by simpa using c64))
      clear c64
      replace H := Option.bind_eq_some_iff.mp H
      obtain ⟨⟨t934, t935, t936, t937⟩, A650, H⟩ := H
      (try dsimp only at H)
      have A65 := Aside0.mk A650
      clear A650
      replace H := Option.bind_eq_some_iff.mp H
      obtain ⟨⟨t938, t939, t940, t941⟩, A660, H⟩ := H
      (try dsimp only at H)
      have A66 := Aside0.mk A660
      clear A660
      by_cases c67 : (t934 == t938 && (t935 == t939 && (t936 == t940 && (t937 == t941)))) = true
      ·rw [if_pos c67] at H
       have c67b0 : (t934 == t938 && (t935 == t939 && (t936 == t940 && (t937 == t941)))) = true := c67
       (try (have c67b1 : decide (t934 = t938 && (t935 == t939 && (t936 == t940 && (t937 == t941)))) = true := by simpa using c67))
       (try (have c67b2 : (t934 == t938 && (t935 == t939 && (t936 == t940 && (t937 == t941)))) = true := by simpa using c67))
       clear c67
       replace H := Option.bind_eq_some_iff.mp H
       obtain ⟨⟨t942, t943, t944, t945⟩, A680, H⟩ := H
       (try dsimp only at H)
       have A68 := Aside0.mk A680
       clear A680
       obtain rfl := Option.some.inj H
       try go_wp2
       have n0_ := Aside0.mk (blk_drew BK917.out)
       have n1_ := Aside0.mk (blk_drew BK918.out)
       have n2_ := Aside0.mk (below_drew1 HB.out)
       clear BK917
       clear BK918
       clear HB
       have BK917 := n0_
       have BK918 := n1_
       have HB := n2_
       clear n0_ n1_ n2_
       refine start_ (n := 29) (S := fun w' => w'.cell? ⟨gb917, 0, none⟩ = some (.int .i64 a0_0) ∧ w'.cell? ⟨gb917, 1, none⟩ = some (.bool a0_1) ∧ w'.cell? ⟨gb917, 2, none⟩ = some (.int .u64 a0_2) ∧ w'.cell? ⟨gb917, 3, none⟩ = some (.int .i64 a0_3) ∧ w'.cell? ⟨gb918, 0, none⟩ = some (.int .i64 a1_0) ∧ w'.cell? ⟨gb918, 1, none⟩ = some (.bool a1_1) ∧ w'.cell? ⟨gb918, 2, none⟩ = some (.int .u64 a1_2) ∧ w'.cell? ⟨gb918, 3, none⟩ = some (.int .i64 a1_3)) (ds := []) #[false, false, false, false, false, false, false, false, false, false, false, false, false, false, false, false, false, false, false, false, false, false, false, false, false, false, false, false, false] (by kernel_rfl) rfl rfl ⟨(blk_cell BK917.out 0).trans rfl, (blk_cell BK917.out 1).trans rfl, (blk_cell BK917.out 2).trans rfl, (blk_cell BK917.out 3).trans rfl, (blk_cell BK918.out 0).trans rfl, (blk_cell BK918.out 1).trans rfl, (blk_cell BK918.out 2).trans rfl, (blk_cell BK918.out 3).trans rfl⟩ (fun hHeld => ?_); refine with_tabW peloruslaw06_ArithFar.tab4 peloruslaw06_ArithFar.bits4 (fun HT_ HW_ => ?_)
       generalize wc.drew = w69 at BK917 BK918 HB hHeld ⊢
       refine take_ (i := 0) (N := some 46) (v := ?_) (a' := ?_) #[true, false, false, false, false, false, false, false, false, false, false, false, false, false, false, false, false, false, false, false, false, false, false, false, false, false, false, false, false] rfl rfl (take_ofW HT_.out HW_.out (by kernel_rfl)) (fun _ _ _ h => h) (Or.inl ⟨by rfl, ?_⟩) hHeld ?_ ?_
       rotate_left
       ·rintro w' ⟨s0, s1, s2, s3, s4, s5, s6, s7⟩
        go_simp
        with_reducible rfl
       rotate_left
       ·simp only [Act.put, List.setIfInBounds_toArray, List.set_cons_zero, List.set_cons_succ, i64_w, i32_w]
        rfl
       refine take_ (i := 1) (N := some 47) (v := ?_) (a' := ?_) #[true, true, false, false, false, false, false, false, false, false, false, false, false, false, false, false, false, false, false, false, false, false, false, false, false, false, false, false, false] rfl rfl (take_ofW HT_.out HW_.out (by kernel_rfl)) (fun _ _ _ h => h) (Or.inl ⟨by rfl, ?_⟩) hHeld ?_ ?_
       rotate_left
       ·rintro w' ⟨s0, s1, s2, s3, s4, s5, s6, s7⟩
        go_simp
        with_reducible rfl
       rotate_left
       ·simp only [Act.put, List.setIfInBounds_toArray, List.set_cons_zero, List.set_cons_succ, i64_w, i32_w]
        rfl
       refine take_ (i := 3) (N := some 49) (v := ?_) (a' := ?_) #[true, true, false, true, false, false, false, false, false, false, false, false, false, false, false, false, false, false, false, false, false, false, false, false, false, false, false, false, false] rfl rfl (take_ofW HT_.out HW_.out (by kernel_rfl)) (fun _ _ _ h => h) (Or.inl ⟨by rfl, ?_⟩) hHeld ?_ ?_
       rotate_left
       ·rintro w' ⟨s0, s1, s2, s3, s4, s5, s6, s7⟩
        go_simp
        with_reducible rfl
       rotate_left
       ·simp only [Act.put, List.setIfInBounds_toArray, List.set_cons_zero, List.set_cons_succ, i64_w, i32_w]
        rfl
       refine one_ (i := 2) (N := some 48) #[true, true, true, true, false, false, false, false, false, false, false, false, false, false, false, false, false, false, false, false, false, false, false, false, false, false, false, false, false] rfl rfl (one_of HT_.out (by kernel_rfl)) (by decide) (fun K hK => ?_)
       refine gs_ Try.func11 #[.agg #[.int .i64 a0_0, .bool a0_1, .int .u64 a0_2, .int .i64 a0_3], .agg #[.int .i64 a1_0, .bool a1_1, .int .u64 a1_2, .int .i64 a1_3], .bool true] ?_
       with_reducible refine (arith_Add.calls kj3 a0_0 a0_1 a0_2 a0_3 a1_0 a1_1 a1_2 a1_3 true t922 t923 t924 t925 _ A60.out).mono ?_
       rintro e w70 ⟨rfl, hb⟩
       refine ⟨_, rfl, ?_⟩
       have n0_ := kq_ BK917 hb
       have n1_ := kq_ BK918 hb
       have n2_ := bq_ HB hb
       clear BK917
       clear BK918
       clear HB
       have BK917 := n0_
       have BK918 := n1_
       have HB := n2_
       clear n0_ n1_ n2_
       (try clear hb)
       (try clear hb2)
       (try clear hk)
       (try clear hi)
       refine hK.out _ _ ⟨(blk_cell BK917.out 0).trans rfl, (blk_cell BK917.out 1).trans rfl, (blk_cell BK917.out 2).trans rfl, (blk_cell BK917.out 3).trans rfl, (blk_cell BK918.out 0).trans rfl, (blk_cell BK918.out 1).trans rfl, (blk_cell BK918.out 2).trans rfl, (blk_cell BK918.out 3).trans rfl⟩ (fun hHeld => ?_)
       clear hK K
       refine norm_ (a' := ?_) ?_ ?_
       rotate_left
       ·show Act.put _ (some 48) _ = _
        simp only [Act.put, List.setIfInBounds_toArray, List.set_cons_zero, List.set_cons_succ, i64_w, i32_w]
        rfl
       refine one_ (i := 4) (N := some 50) #[true, true, true, true, true, false, false, false, false, false, false, false, false, false, false, false, false, false, false, false, false, false, false, false, false, false, false, false, false] rfl rfl (one_of HT_.out (by kernel_rfl)) (by decide) (fun K hK => ?_)
       refine gs_ Try.func24 #[.agg #[.int .i64 a0_0, .bool a0_1, .int .u64 a0_2, .int .i64 a0_3], .bool true] ?_
       with_reducible refine (num_Next.calls kj3 a0_0 a0_1 a0_2 a0_3 true t926 t927 t928 t929 _ A61.out).mono ?_
       rintro e w71 ⟨rfl, hb⟩
       refine ⟨_, rfl, ?_⟩
       have n0_ := kq_ BK917 hb
       have n1_ := kq_ BK918 hb
       have n2_ := bq_ HB hb
       clear BK917
       clear BK918
       clear HB
       have BK917 := n0_
       have BK918 := n1_
       have HB := n2_
       clear n0_ n1_ n2_
       (try clear hb)
       (try clear hb2)
       (try clear hk)
       (try clear hi)
       refine hK.out _ _ ⟨(blk_cell BK917.out 0).trans rfl, (blk_cell BK917.out 1).trans rfl, (blk_cell BK917.out 2).trans rfl, (blk_cell BK917.out 3).trans rfl, (blk_cell BK918.out 0).trans rfl, (blk_cell BK918.out 1).trans rfl, (blk_cell BK918.out 2).trans rfl, (blk_cell BK918.out 3).trans rfl⟩ (fun hHeld => ?_)
       clear hK K
       refine norm_ (a' := ?_) ?_ ?_
       rotate_left
       ·show Act.put _ (some 50) _ = _
        simp only [Act.put, List.setIfInBounds_toArray, List.set_cons_zero, List.set_cons_succ, i64_w, i32_w]
        rfl
       refine pure_ (i := 5) (N := some 51) (v := ?_) (a' := ?_) #[true, true, true, true, true, true, false, false, false, false, false, false, false, false, false, false, false, false, false, false, false, false, false, false, false, false, false, false, false] rfl rfl (any_of HT_.out (by kernel_rfl)) (fun _ _ _ h => h) (Or.inl ⟨by rfl, ?_⟩) ?_ ?_
       rotate_left
       ·intro w'
        go_simp
        with_reducible rfl
       rotate_left
       ·simp only [Act.put, List.setIfInBounds_toArray, List.set_cons_zero, List.set_cons_succ, i64_w, i32_w]
        rfl
       refine pure_ (i := 6) (N := some 52) (v := ?_) (a' := ?_) #[true, true, true, true, true, true, true, false, false, false, false, false, false, false, false, false, false, false, false, false, false, false, false, false, false, false, false, false, false] rfl rfl (any_of HT_.out (by kernel_rfl)) (fun _ _ _ h => h) (Or.inl ⟨by rfl, ?_⟩) ?_ ?_
       rotate_left
       ·intro w'
        go_simp
        with_reducible rfl
       rotate_left
       ·simp only [Act.put, List.setIfInBounds_toArray, List.set_cons_zero, List.set_cons_succ, i64_w, i32_w]
        rfl
       refine take_ (i := 7) (N := some 53) (v := ?_) (a' := ?_) #[true, true, true, true, true, true, true, true, false, false, false, false, false, false, false, false, false, false, false, false, false, false, false, false, false, false, false, false, false] rfl rfl (take_ofW HT_.out HW_.out (by kernel_rfl)) (fun _ _ _ h => h) (Or.inl ⟨by rfl, ?_⟩) hHeld ?_ ?_
       rotate_left
       ·rintro w' ⟨s0, s1, s2, s3, s4, s5, s6, s7⟩
        go_simp
        with_reducible rfl
       rotate_left
       ·simp only [Act.put, List.setIfInBounds_toArray, List.set_cons_zero, List.set_cons_succ, i64_w, i32_w]
        rfl
       refine take_ (i := 8) (N := some 54) (v := ?_) (a' := ?_) #[true, true, true, true, true, true, true, true, true, false, false, false, false, false, false, false, false, false, false, false, false, false, false, false, false, false, false, false, false] rfl rfl (take_ofW HT_.out HW_.out (by kernel_rfl)) (fun _ _ _ h => h) (Or.inl ⟨by rfl, ?_⟩) hHeld ?_ ?_
       rotate_left
       ·rintro w' ⟨s0, s1, s2, s3, s4, s5, s6, s7⟩
        go_simp
        with_reducible rfl
       rotate_left
       ·simp only [Act.put, List.setIfInBounds_toArray, List.set_cons_zero, List.set_cons_succ, i64_w, i32_w]
        rfl
       refine take_ (i := 10) (N := some 56) (v := ?_) (a' := ?_) #[true, true, true, true, true, true, true, true, true, false, true, false, false, false, false, false, false, false, false, false, false, false, false, false, false, false, false, false, false] rfl rfl (take_ofW HT_.out HW_.out (by kernel_rfl)) (fun _ _ _ h => h) (Or.inl ⟨by rfl, ?_⟩) hHeld ?_ ?_
       rotate_left
       ·rintro w' ⟨s0, s1, s2, s3, s4, s5, s6, s7⟩
        go_simp
        with_reducible rfl
       rotate_left
       ·simp only [Act.put, List.setIfInBounds_toArray, List.set_cons_zero, List.set_cons_succ, i64_w, i32_w]
        rfl
       refine one_ (i := 9) (N := some 55) #[true, true, true, true, true, true, true, true, true, true, true, false, false, false, false, false, false, false, false, false, false, false, false, false, false, false, false, false, false] rfl rfl (one_of HT_.out (by kernel_rfl)) (by decide) (fun K hK => ?_)
       refine gs_ Try.func11 #[.agg #[.int .i64 a0_0, .bool a0_1, .int .u64 a0_2, .int .i64 a0_3], .agg #[.int .i64 a1_0, .bool a1_1, .int .u64 a1_2, .int .i64 a1_3], .bool false] ?_
       with_reducible refine (arith_Add.calls kj3 a0_0 a0_1 a0_2 a0_3 a1_0 a1_1 a1_2 a1_3 false t930 t931 t932 t933 _ A63.out).mono ?_
       rintro e w72 ⟨rfl, hb⟩
       refine ⟨_, rfl, ?_⟩
       have n0_ := kq_ BK917 hb
       have n1_ := kq_ BK918 hb
       have n2_ := bq_ HB hb
       clear BK917
       clear BK918
       clear HB
       have BK917 := n0_
       have BK918 := n1_
       have HB := n2_
       clear n0_ n1_ n2_
       (try clear hb)
       (try clear hb2)
       (try clear hk)
       (try clear hi)
       refine hK.out _ _ ⟨(blk_cell BK917.out 0).trans rfl, (blk_cell BK917.out 1).trans rfl, (blk_cell BK917.out 2).trans rfl, (blk_cell BK917.out 3).trans rfl, (blk_cell BK918.out 0).trans rfl, (blk_cell BK918.out 1).trans rfl, (blk_cell BK918.out 2).trans rfl, (blk_cell BK918.out 3).trans rfl⟩ (fun hHeld => ?_)
       clear hK K
       refine norm_ (a' := ?_) ?_ ?_
       rotate_left
       ·show Act.put _ (some 55) _ = _
        simp only [Act.put, List.setIfInBounds_toArray, List.set_cons_zero, List.set_cons_succ, i64_w, i32_w]
        rfl
       refine pure_ (i := 11) (N := some 57) (v := ?_) (a' := ?_) #[true, true, true, true, true, true, true, true, true, true, true, true, false, false, false, false, false, false, false, false, false, false, false, false, false, false, false, false, false] rfl rfl (any_of HT_.out (by kernel_rfl)) (fun _ _ _ h => h) (Or.inl ⟨by rfl, ?_⟩) ?_ ?_
       rotate_left
       ·intro w'
        go_simp
        with_reducible rfl
       rotate_left
       ·simp only [Act.put, List.setIfInBounds_toArray, List.set_cons_zero, List.set_cons_succ, i64_w, i32_w]
        rfl
       refine pure_ (i := 12) (N := some 58) (v := ?_) (a' := ?_) #[true, true, true, true, true, true, true, true, true, true, true, true, true, false, false, false, false, false, false, false, false, false, false, false, false, false, false, false, false] rfl rfl (any_of HT_.out (by kernel_rfl)) (fun _ _ _ h => h) (Or.inl ⟨by rfl, ?_⟩) ?_ ?_
       rotate_left
       ·intro w'
        go_simp
        with_reducible rfl
       rotate_left
       ·simp only [Act.put, List.setIfInBounds_toArray, List.set_cons_zero, List.set_cons_succ, i64_w, i32_w]
        rfl
       refine pure_ (i := 13) (N := some 59) (v := ?_) (a' := ?_) #[true, true, true, true, true, true, true, true, true, true, true, true, true, true, false, false, false, false, false, false, false, false, false, false, false, false, false, false, false] rfl rfl (any_of HT_.out (by kernel_rfl)) (fun _ _ _ h => h) (Or.inl ⟨by rfl, ?_⟩) ?_ ?_
       rotate_left
       ·intro w'
        go_simp
        with_reducible rfl
       rotate_left
       ·simp only [Act.put, List.setIfInBounds_toArray, List.set_cons_zero, List.set_cons_succ, i64_w, i32_w]
        rfl
       refine take_ (i := 14) (N := some 60) (v := ?_) (a' := ?_) #[true, true, true, true, true, true, true, true, true, true, true, true, true, true, true, false, false, false, false, false, false, false, false, false, false, false, false, false, false] rfl rfl (take_ofW HT_.out HW_.out (by kernel_rfl)) (fun _ _ _ h => h) (Or.inl ⟨by rfl, ?_⟩) hHeld ?_ ?_
       rotate_left
       ·rintro w' ⟨s0, s1, s2, s3, s4, s5, s6, s7⟩
        go_simp
        with_reducible rfl
       rotate_left
       ·simp only [Act.put, List.setIfInBounds_toArray, List.set_cons_zero, List.set_cons_succ, i64_w, i32_w]
        rfl
       refine take_ (i := 15) (N := some 61) (v := ?_) (a' := ?_) #[true, true, true, true, true, true, true, true, true, true, true, true, true, true, true, true, false, false, false, false, false, false, false, false, false, false, false, false, false] rfl rfl (take_ofW HT_.out HW_.out (by kernel_rfl)) (fun _ _ _ h => h) (Or.inl ⟨by rfl, ?_⟩) hHeld ?_ ?_
       rotate_left
       ·rintro w' ⟨s0, s1, s2, s3, s4, s5, s6, s7⟩
        go_simp
        with_reducible rfl
       rotate_left
       ·simp only [Act.put, List.setIfInBounds_toArray, List.set_cons_zero, List.set_cons_succ, i64_w, i32_w]
        rfl
       refine take_ (i := 17) (N := some 63) (v := ?_) (a' := ?_) #[true, true, true, true, true, true, true, true, true, true, true, true, true, true, true, true, false, true, false, false, false, false, false, false, false, false, false, false, false] rfl rfl (take_ofW HT_.out HW_.out (by kernel_rfl)) (fun _ _ _ h => h) (Or.inl ⟨by rfl, ?_⟩) hHeld ?_ ?_
       rotate_left
       ·rintro w' ⟨s0, s1, s2, s3, s4, s5, s6, s7⟩
        go_simp
        with_reducible rfl
       rotate_left
       ·simp only [Act.put, List.setIfInBounds_toArray, List.set_cons_zero, List.set_cons_succ, i64_w, i32_w]
        rfl
       refine one_ (i := 16) (N := some 62) #[true, true, true, true, true, true, true, true, true, true, true, true, true, true, true, true, true, true, false, false, false, false, false, false, false, false, false, false, false] rfl rfl (one_of HT_.out (by kernel_rfl)) (by decide) (fun K hK => ?_)
       refine gs_ Try.func16 #[.agg #[.int .i64 a0_0, .bool a0_1, .int .u64 a0_2, .int .i64 a0_3], .agg #[.int .i64 a1_0, .bool a1_1, .int .u64 a1_2, .int .i64 a1_3], .bool false] ?_
       with_reducible refine (arith_Sub.calls kj3 a0_0 a0_1 a0_2 a0_3 a1_0 a1_1 a1_2 a1_3 false t934 t935 t936 t937 _ A65.out).mono ?_
       rintro e w73 ⟨rfl, hb⟩
       refine ⟨_, rfl, ?_⟩
       have n0_ := kq_ BK917 hb
       have n1_ := kq_ BK918 hb
       have n2_ := bq_ HB hb
       clear BK917
       clear BK918
       clear HB
       have BK917 := n0_
       have BK918 := n1_
       have HB := n2_
       clear n0_ n1_ n2_
       (try clear hb)
       (try clear hb2)
       (try clear hk)
       (try clear hi)
       refine hK.out _ _ ⟨(blk_cell BK917.out 0).trans rfl, (blk_cell BK917.out 1).trans rfl, (blk_cell BK917.out 2).trans rfl, (blk_cell BK917.out 3).trans rfl, (blk_cell BK918.out 0).trans rfl, (blk_cell BK918.out 1).trans rfl, (blk_cell BK918.out 2).trans rfl, (blk_cell BK918.out 3).trans rfl⟩ (fun hHeld => ?_)
       clear hK K
       refine norm_ (a' := ?_) ?_ ?_
       rotate_left
       ·show Act.put _ (some 62) _ = _
        simp only [Act.put, List.setIfInBounds_toArray, List.set_cons_zero, List.set_cons_succ, i64_w, i32_w]
        rfl
       refine one_ (i := 18) (N := some 64) #[true, true, true, true, true, true, true, true, true, true, true, true, true, true, true, true, true, true, true, false, false, false, false, false, false, false, false, false, false] rfl rfl (one_of HT_.out (by kernel_rfl)) (by decide) (fun K hK => ?_)
       refine gs_ Try.func24 #[.agg #[.int .i64 a0_0, .bool a0_1, .int .u64 a0_2, .int .i64 a0_3], .bool false] ?_
       with_reducible refine (num_Next.calls kj3 a0_0 a0_1 a0_2 a0_3 false t938 t939 t940 t941 _ A66.out).mono ?_
       rintro e w74 ⟨rfl, hb⟩
       refine ⟨_, rfl, ?_⟩
       have n0_ := kq_ BK917 hb
       have n1_ := kq_ BK918 hb
       have n2_ := bq_ HB hb
       clear BK917
       clear BK918
       clear HB
       have BK917 := n0_
       have BK918 := n1_
       have HB := n2_
       clear n0_ n1_ n2_
       (try clear hb)
       (try clear hb2)
       (try clear hk)
       (try clear hi)
       refine hK.out _ _ ⟨(blk_cell BK917.out 0).trans rfl, (blk_cell BK917.out 1).trans rfl, (blk_cell BK917.out 2).trans rfl, (blk_cell BK917.out 3).trans rfl, (blk_cell BK918.out 0).trans rfl, (blk_cell BK918.out 1).trans rfl, (blk_cell BK918.out 2).trans rfl, (blk_cell BK918.out 3).trans rfl⟩ (fun hHeld => ?_)
       clear hK K
       refine norm_ (a' := ?_) ?_ ?_
       rotate_left
       ·show Act.put _ (some 64) _ = _
        simp only [Act.put, List.setIfInBounds_toArray, List.set_cons_zero, List.set_cons_succ, i64_w, i32_w]
        rfl
       refine pure_ (i := 19) (N := some 65) (v := ?_) (a' := ?_) #[true, true, true, true, true, true, true, true, true, true, true, true, true, true, true, true, true, true, true, true, false, false, false, false, false, false, false, false, false] rfl rfl (any_of HT_.out (by kernel_rfl)) (fun _ _ _ h => h) (Or.inl ⟨by rfl, ?_⟩) ?_ ?_
       rotate_left
       ·intro w'
        go_simp
        with_reducible rfl
       rotate_left
       ·simp only [Act.put, List.setIfInBounds_toArray, List.set_cons_zero, List.set_cons_succ, i64_w, i32_w]
        rfl
       refine pure_ (i := 20) (N := some 66) (v := ?_) (a' := ?_) #[true, true, true, true, true, true, true, true, true, true, true, true, true, true, true, true, true, true, true, true, true, false, false, false, false, false, false, false, false] rfl rfl (any_of HT_.out (by kernel_rfl)) (fun _ _ _ h => h) (Or.inl ⟨by rfl, ?_⟩) ?_ ?_
       rotate_left
       ·intro w'
        go_simp
        with_reducible rfl
       rotate_left
       ·simp only [Act.put, List.setIfInBounds_toArray, List.set_cons_zero, List.set_cons_succ, i64_w, i32_w]
        rfl
       refine pure_ (i := 21) (N := some 67) (v := ?_) (a' := ?_) #[true, true, true, true, true, true, true, true, true, true, true, true, true, true, true, true, true, true, true, true, true, true, false, false, false, false, false, false, false] rfl rfl (any_of HT_.out (by kernel_rfl)) (fun _ _ _ h => h) (Or.inl ⟨by rfl, ?_⟩) ?_ ?_
       rotate_left
       ·intro w'
        go_simp
        with_reducible rfl
       rotate_left
       ·simp only [Act.put, List.setIfInBounds_toArray, List.set_cons_zero, List.set_cons_succ, i64_w, i32_w]
        rfl
       refine take_ (i := 22) (N := some 68) (v := ?_) (a' := ?_) #[true, true, true, true, true, true, true, true, true, true, true, true, true, true, true, true, true, true, true, true, true, true, true, false, false, false, false, false, false] rfl rfl (take_ofW HT_.out HW_.out (by kernel_rfl)) (fun _ _ _ h => h) (Or.inl ⟨by rfl, ?_⟩) hHeld ?_ ?_
       rotate_left
       ·rintro w' ⟨s0, s1, s2, s3, s4, s5, s6, s7⟩
        go_simp
        with_reducible rfl
       rotate_left
       ·simp only [Act.put, List.setIfInBounds_toArray, List.set_cons_zero, List.set_cons_succ, i64_w, i32_w]
        rfl
       refine take_ (i := 23) (N := some 69) (v := ?_) (a' := ?_) #[true, true, true, true, true, true, true, true, true, true, true, true, true, true, true, true, true, true, true, true, true, true, true, true, false, false, false, false, false] rfl rfl (take_ofW HT_.out HW_.out (by kernel_rfl)) (fun _ _ _ h => h) (Or.inl ⟨by rfl, ?_⟩) hHeld ?_ ?_
       rotate_left
       ·rintro w' ⟨s0, s1, s2, s3, s4, s5, s6, s7⟩
        go_simp
        with_reducible rfl
       rotate_left
       ·simp only [Act.put, List.setIfInBounds_toArray, List.set_cons_zero, List.set_cons_succ, i64_w, i32_w]
        rfl
       refine take_ (i := 25) (N := some 71) (v := ?_) (a' := ?_) #[true, true, true, true, true, true, true, true, true, true, true, true, true, true, true, true, true, true, true, true, true, true, true, true, false, true, false, false, false] rfl rfl (take_ofW HT_.out HW_.out (by kernel_rfl)) (fun _ _ _ h => h) (Or.inl ⟨by rfl, ?_⟩) hHeld ?_ ?_
       rotate_left
       ·rintro w' ⟨s0, s1, s2, s3, s4, s5, s6, s7⟩
        go_simp
        with_reducible rfl
       rotate_left
       ·simp only [Act.put, List.setIfInBounds_toArray, List.set_cons_zero, List.set_cons_succ, i64_w, i32_w]
        rfl
       refine one_ (i := 24) (N := some 70) #[true, true, true, true, true, true, true, true, true, true, true, true, true, true, true, true, true, true, true, true, true, true, true, true, true, true, false, false, false] rfl rfl (one_of HT_.out (by kernel_rfl)) (by decide) (fun K hK => ?_)
       refine gs_ Try.func16 #[.agg #[.int .i64 a0_0, .bool a0_1, .int .u64 a0_2, .int .i64 a0_3], .agg #[.int .i64 a1_0, .bool a1_1, .int .u64 a1_2, .int .i64 a1_3], .bool true] ?_
       with_reducible refine (arith_Sub.calls kj3 a0_0 a0_1 a0_2 a0_3 a1_0 a1_1 a1_2 a1_3 true t942 t943 t944 t945 _ A68.out).mono ?_
       rintro e w75 ⟨rfl, hb⟩
       refine ⟨_, rfl, ?_⟩
       have n0_ := kq_ BK917 hb
       have n1_ := kq_ BK918 hb
       have n2_ := bq_ HB hb
       clear BK917
       clear BK918
       clear HB
       have BK917 := n0_
       have BK918 := n1_
       have HB := n2_
       clear n0_ n1_ n2_
       (try clear hb)
       (try clear hb2)
       (try clear hk)
       (try clear hi)
       refine hK.out _ _ ⟨(blk_cell BK917.out 0).trans rfl, (blk_cell BK917.out 1).trans rfl, (blk_cell BK917.out 2).trans rfl, (blk_cell BK917.out 3).trans rfl, (blk_cell BK918.out 0).trans rfl, (blk_cell BK918.out 1).trans rfl, (blk_cell BK918.out 2).trans rfl, (blk_cell BK918.out 3).trans rfl⟩ (fun hHeld => ?_)
       clear hK K
       refine norm_ (a' := ?_) ?_ ?_
       rotate_left
       ·show Act.put _ (some 70) _ = _
        simp only [Act.put, List.setIfInBounds_toArray, List.set_cons_zero, List.set_cons_succ, i64_w, i32_w]
        rfl
       refine pure_ (i := 26) (N := some 72) (v := ?_) (a' := ?_) #[true, true, true, true, true, true, true, true, true, true, true, true, true, true, true, true, true, true, true, true, true, true, true, true, true, true, true, false, false] rfl rfl (any_of HT_.out (by kernel_rfl)) (fun _ _ _ h => h) (Or.inl ⟨by rfl, ?_⟩) ?_ ?_
       rotate_left
       ·intro w'
        go_simp
        with_reducible rfl
       rotate_left
       ·simp only [Act.put, List.setIfInBounds_toArray, List.set_cons_zero, List.set_cons_succ, i64_w, i32_w]
        rfl
       refine pure_ (i := 27) (N := some 73) (v := ?_) (a' := ?_) #[true, true, true, true, true, true, true, true, true, true, true, true, true, true, true, true, true, true, true, true, true, true, true, true, true, true, true, true, false] rfl rfl (any_of HT_.out (by kernel_rfl)) (fun _ _ _ h => h) (Or.inl ⟨by rfl, ?_⟩) ?_ ?_
       rotate_left
       ·intro w'
        go_simp
        with_reducible rfl
       rotate_left
       ·simp only [Act.put, List.setIfInBounds_toArray, List.set_cons_zero, List.set_cons_succ, i64_w, i32_w]
        rfl
       refine pure_ (i := 28) (N := some 4) (v := ?_) (a' := ?_) #[true, true, true, true, true, true, true, true, true, true, true, true, true, true, true, true, true, true, true, true, true, true, true, true, true, true, true, true, true] rfl rfl (any_of HT_.out (by kernel_rfl)) (fun _ _ _ h => h) (Or.inl ⟨by rfl, ?_⟩) ?_ ?_
       rotate_left
       ·intro w'
        go_simp
        with_reducible rfl
       rotate_left
       ·simp only [Act.put, List.setIfInBounds_toArray, List.set_cons_zero, List.set_cons_succ, i64_w, i32_w]
        rfl
       refine done_ (done_of HT_.out (by kernel_rfl)) ?_
       try go_wp2
       go_ret
       exact ⟨by first | rfl | (simp [errW_none, errW_some] <;> rfl) | (simp [*, errW_none, errW_some] <;> rfl), bw_ HB.out⟩
      ·rw [if_neg c67] at H
       have c67b0 : (t934 == t938 && (t935 == t939 && (t936 == t940 && (t937 == t941)))) = false := by simpa using c67
       (try (have c67b1 : decide (t934 = t938 && (t935 == t939 && (t936 == t940 && (t937 == t941)))) = false := by simpa using c67))
       (try (have c67b2 : (t934 == t938 && (t935 == t939 && (t936 == t940 && (t937 == t941)))) = false := by simpa using c67))
       (try (have c67b3 : ¬ (t934 = t938 && (t935 == t939 && (t936 == t940 && (t937 == t941)))) := by simpa using c67))
       clear c67
       exact absurd ((Option.some.inj H).trans HRT_.out) (by simp)
     ·rw [if_neg c64] at H
      have c64b0 : (t930 == a0_0 && (t931 == a0_1 && (t932 == a0_2 && (t933 == a0_3)))) = false := by simpa using c64
      (try (have c64b1 : decide (t930 = a0_0 && (t931 == a0_1 && (t932 == a0_2 && (t933 == a0_3)))) = false := by simpa using c64))
      (try (have c64b2 : (t930 == a0_0 && (t931 == a0_1 && (t932 == a0_2 && (t933 == a0_3)))) = false := by simpa using c64))
      (try (have c64b3 : ¬ (t930 = a0_0 && (t931 == a0_1 && (t932 == a0_2 && (t933 == a0_3)))) := by simpa using c64))
      clear c64
      exact absurd ((Option.some.inj H).trans HRT_.out) (by simp)
    ·rw [if_neg c62] at H
     have c62b0 : (t922 == t926 && (t923 == t927 && (t924 == t928 && (t925 == t929)))) = false := by simpa using c62
     (try (have c62b1 : decide (t922 = t926 && (t923 == t927 && (t924 == t928 && (t925 == t929)))) = false := by simpa using c62))
     (try (have c62b2 : (t922 == t926 && (t923 == t927 && (t924 == t928 && (t925 == t929)))) = false := by simpa using c62))
     (try (have c62b3 : ¬ (t922 = t926 && (t923 == t927 && (t924 == t928 && (t925 == t929)))) := by simpa using c62))
     clear c62
     exact absurd ((Option.some.inj H).trans HRT_.out) (by simp)


end Go.Proofs.Ythlhogcnfaiphaa.PA
