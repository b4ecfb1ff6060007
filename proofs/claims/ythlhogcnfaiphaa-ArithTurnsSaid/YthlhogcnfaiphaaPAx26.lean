-- Laid by this work's own program; Lean checks it.
import Derived.Test.YthlhogcnfaiphaaPAx0
import Derived.Test.YthlhogcnfaiphaaPAx1
import Derived.Test.YthlhogcnfaiphaaPAx2
import Derived.Test.YthlhogcnfaiphaaPAx5
import Derived.Test.YthlhogcnfaiphaaPAx6
import Derived.Test.YthlhogcnfaiphaaPAx8
import Derived.Test.YthlhogcnfaiphaaPAx25
namespace Go.Proofs.Ythlhogcnfaiphaa.PA
open Go.RowKit Go.Proofs.YthlhogcnfaiphaaW.PrintWords Go.Proofs.YthlhogcnfaiphaaW.PrintLast Go.Proofs.YthlhogcnfaiphaaW.PrintMore
attribute [local go_sem] max2_int min2_int max_two min_two max_three min_three max_four min_four   -- for this text's walks alone
set_option linter.unusedVariables false
set_option linter.unusedSimpArgs false

attribute [local go_sem ↓ high] isSome_set_
attribute [local go_sem high] eqA24
/-! ### peloruslaw06_ArithTurns: function 3 -/
theorem peloruslaw06_ArithTurns.tab2 : rtab .any (opsOf Try.f3 2) = peloruslaw06_ArithTurns.T2 := by kernel_rfl
theorem peloruslaw06_ArithTurns.bits2 : waitsOk peloruslaw06_ArithTurns.T2.2 peloruslaw06_ArithTurns.B2 = true := by kernel_rfl
def peloruslaw06_ArithTurns.T3 : Bool × List (List Nat × List Nat) := (true, [([], []), ([0], [0]), ([], []), ([], []), ([3], [3]), ([1, 2, 4, 1], [1, 2, 4]), ([], []), ([6, 5, 5, 0, 1, 2, 3, 4, 5, 6], [5, 6])])
def peloruslaw06_ArithTurns.B3 : List Nat := [0, 1, 0, 0, 8, 31, 0, 127]
theorem peloruslaw06_ArithTurns.tab3 : rtab .any (opsOf Try.f3 3) = peloruslaw06_ArithTurns.T3 := by kernel_rfl
theorem peloruslaw06_ArithTurns.bits3 : waitsOk peloruslaw06_ArithTurns.T3.2 peloruslaw06_ArithTurns.B3 = true := by kernel_rfl
def peloruslaw06_ArithTurns.T4 : Bool × List (List Nat × List Nat) := (true, [([], []), ([0], [0]), ([1], [1]), ([1], [1]), ([1], [1]), ([2, 3, 4, 1, 1], [1, 2, 3, 4]), ([1], [1]), ([6, 5, 1], [1, 6]), ([5, 7, 1], [1, 5, 7]), ([1, 8], [1, 8]), ([9, 7], [9]), ([10], [10]), ([10], [10]), ([10], [10]), ([11, 12, 13, 10, 10], [10, 11, 12, 13]), ([10], [10]), ([15, 14, 10], [10, 15]), ([14, 16, 10], [10, 14, 16]), ([10, 17], [10, 17]), ([18, 16], [18]), ([19], [19]), ([19], [19]), ([19], [19]), ([20, 21, 22, 19, 19], [19, 20, 21, 22]), ([19], [19]), ([19], [19]), ([19], [19]), ([24, 25, 26, 23, 19], [19, 24, 25, 26]), ([23, 27, 19], [19, 23, 27]), ([19, 28], [19, 28]), ([29, 27], [29]), ([30], [30]), ([30], [30]), ([30], [30]), ([31, 32, 33, 30, 30], [30, 31, 32, 33]), ([30], [30]), ([30], [30]), ([30], [30]), ([35, 36, 37, 34, 30], [30, 35, 36, 37]), ([34, 38, 30], [30, 34, 38]), ([30, 39], [30, 39]), ([40, 38, 0, 1, 2, 3, 4, 5, 6, 7, 8, 9, 10, 11, 12, 13, 14, 15, 16, 17, 18, 19, 20, 21, 22, 23, 24, 25, 26, 27, 28, 29, 30, 31, 32, 33, 34, 35, 36, 37, 38, 39, 40], [40])])
def peloruslaw06_ArithTurns.B4 : List Nat := [0, 1, 3, 3, 3, 31, 3, 127, 255, 511, 1023, 2047, 2047, 2047, 16383, 2047, 65535, 131071, 262143, 524287, 1048575, 1048575, 1048575, 8388607, 1048575, 1048575, 1048575, 134217727, 268435455, 536870911, 1073741823, 2147483647, 2147483647, 2147483647, 17179869183, 2147483647, 2147483647, 2147483647, 274877906943, 549755813887, 1099511627775, 2199023255551]
theorem peloruslaw06_ArithTurns.tab4 : rtab .any (opsOf Try.f3 4) = peloruslaw06_ArithTurns.T4 := by kernel_rfl
theorem peloruslaw06_ArithTurns.bits4 : waitsOk peloruslaw06_ArithTurns.T4.2 peloruslaw06_ArithTurns.B4 = true := by kernel_rfl
set_option maxHeartbeats 8000000 in
set_option maxRecDepth 100000 in
theorem peloruslaw06_ArithTurns.calls (k : Nat) (a0_0 : Int) (a0_1 : Bool) (a0_2 : Int) (a0_3 : Int) (a1_0 : Int) (a1_1 : Bool) (a1_2 : Int) (a1_3 : Int) (a2 : Bool) (r : Bool) (w : World) (hr_ : r = true) (haw_ : ∀ r, peloruslaw06_awake.f k = some r → r = true) (h : peloruslaw06_ArithTurns.f k a0_0 a0_1 a0_2 a0_3 a1_0 a1_1 a1_2 a1_3 a2 = some r) :
  Calls Try.prog 3 #[.agg #[.int .i64 a0_0, .bool a0_1, .int .u64 a0_2, .int .i64 a0_3], .agg #[.int .i64 a1_0, .bool a1_1, .int .u64 a1_2, .int .i64 a1_3], .bool a2] w fun e w' => e = .returned (.bool r) ∧ Below w.heap.size w w' := by
 have HRT_ := Aside0.mk hr_
 clear hr_
 have HAW_ := Aside0.mk haw_
 clear haw_
 have hu24 := Try.underlying24
 have HB := Aside0.mk (Below.refl w.heap.size w)
 have H : ((peloruslaw06_awake.f k).bind fun t319 => ((num_Neg.f a0_0 a0_1 a0_2 a0_3).bind fun bt320 => ((num_Neg.f a1_0 a1_1 a1_2 a1_3).bind fun bt324 => ((arith_Add.f k bt320.1 bt320.2.1 bt320.2.2.1 bt320.2.2.2 bt324.1 bt324.2.1 bt324.2.2.1 bt324.2.2.2 (!a2)).bind fun bt328 => ((num_Neg.f a0_0 a0_1 a0_2 a0_3).bind fun bt333 => ((arith_Mul.f k bt333.1 bt333.2.1 bt333.2.2.1 bt333.2.2.2 a1_0 a1_1 a1_2 a1_3 (!a2)).bind fun bt337 => (if t319 = true then ((arith_Add.f k a0_0 a0_1 a0_2 a0_3 a1_0 a1_1 a1_2 a1_3 a2).bind fun bt342 => ((num_Neg.f bt328.1 bt328.2.1 bt328.2.2.1 bt328.2.2.2).bind fun bt346 => (if (bt342.1 == bt346.1 && (bt342.2.1 == bt346.2.1 && (bt342.2.2.1 == bt346.2.2.1 && (bt342.2.2.2 == bt346.2.2.2)))) = true then ((arith_Mul.f k a0_0 a0_1 a0_2 a0_3 a1_0 a1_1 a1_2 a1_3 a2).bind fun bt350 => ((num_Neg.f bt337.1 bt337.2.1 bt337.2.2.1 bt337.2.2.2).bind fun bt354 => (if (bt350.1 == bt354.1 && (bt350.2.1 == bt354.2.1 && (bt350.2.2.1 == bt354.2.2.1 && (bt350.2.2.2 == bt354.2.2.2)))) = true then ((arith_Add.f k a0_0 a0_1 a0_2 a0_3 a1_0 a1_1 a1_2 a1_3 a2).bind fun bt358 => ((arith_Add.f k a1_0 a1_1 a1_2 a1_3 a0_0 a0_1 a0_2 a0_3 a2).bind fun bt362 => (if (bt358.1 == bt362.1 && (bt358.2.1 == bt362.2.1 && (bt358.2.2.1 == bt362.2.2.1 && (bt358.2.2.2 == bt362.2.2.2)))) = true then ((arith_Mul.f k a0_0 a0_1 a0_2 a0_3 a1_0 a1_1 a1_2 a1_3 a2).bind fun bt366 => ((arith_Mul.f k a1_0 a1_1 a1_2 a1_3 a0_0 a0_1 a0_2 a0_3 a2).bind fun bt370 => (some (bt366.1 == bt370.1 && (bt366.2.1 == bt370.2.1 && (bt366.2.2.1 == bt370.2.2.1 && (bt366.2.2.2 == bt370.2.2.2))))))) else (some false)))) else (some false)))) else (some false)))) else (some false)))))))) = some r := h
 clear h
 replace H := Option.bind_eq_some_iff.mp H
 obtain ⟨t319, A40, H⟩ := H
 (try dsimp only at H)
 have A4 := Aside0.mk A40
 clear A40
 replace H := Option.bind_eq_some_iff.mp H
 obtain ⟨⟨t320, t321, t322, t323⟩, A50, H⟩ := H
 (try dsimp only at H)
 have A5 := Aside0.mk A50
 clear A50
 replace H := Option.bind_eq_some_iff.mp H
 obtain ⟨⟨t324, t325, t326, t327⟩, A60, H⟩ := H
 (try dsimp only at H)
 have A6 := Aside0.mk A60
 clear A60
 replace H := Option.bind_eq_some_iff.mp H
 obtain ⟨⟨t328, t329, t330, t331⟩, A70, H⟩ := H
 (try dsimp only at H)
 have A7 := Aside0.mk A70
 clear A70
 replace H := Option.bind_eq_some_iff.mp H
 obtain ⟨⟨t333, t334, t335, t336⟩, A80, H⟩ := H
 (try dsimp only at H)
 have A8 := Aside0.mk A80
 clear A80
 replace H := Option.bind_eq_some_iff.mp H
 obtain ⟨⟨t337, t338, t339, t340⟩, A90, H⟩ := H
 (try dsimp only at H)
 have A9 := Aside0.mk A90
 clear A90
 by_cases c10 : t319 = true
 ·subst c10
  have H1 : ((arith_Add.f k a0_0 a0_1 a0_2 a0_3 a1_0 a1_1 a1_2 a1_3 a2).bind fun bt342 => ((num_Neg.f t328 t329 t330 t331).bind fun bt346 => (if (bt342.1 == bt346.1 && (bt342.2.1 == bt346.2.1 && (bt342.2.2.1 == bt346.2.2.1 && (bt342.2.2.2 == bt346.2.2.2)))) = true then ((arith_Mul.f k a0_0 a0_1 a0_2 a0_3 a1_0 a1_1 a1_2 a1_3 a2).bind fun bt350 => ((num_Neg.f t337 t338 t339 t340).bind fun bt354 => (if (bt350.1 == bt354.1 && (bt350.2.1 == bt354.2.1 && (bt350.2.2.1 == bt354.2.2.1 && (bt350.2.2.2 == bt354.2.2.2)))) = true then ((arith_Add.f k a0_0 a0_1 a0_2 a0_3 a1_0 a1_1 a1_2 a1_3 a2).bind fun bt358 => ((arith_Add.f k a1_0 a1_1 a1_2 a1_3 a0_0 a0_1 a0_2 a0_3 a2).bind fun bt362 => (if (bt358.1 == bt362.1 && (bt358.2.1 == bt362.2.1 && (bt358.2.2.1 == bt362.2.2.1 && (bt358.2.2.2 == bt362.2.2.2)))) = true then ((arith_Mul.f k a0_0 a0_1 a0_2 a0_3 a1_0 a1_1 a1_2 a1_3 a2).bind fun bt366 => ((arith_Mul.f k a1_0 a1_1 a1_2 a1_3 a0_0 a0_1 a0_2 a0_3 a2).bind fun bt370 => (some (bt366.1 == bt370.1 && (bt366.2.1 == bt370.2.1 && (bt366.2.2.1 == bt370.2.2.1 && (bt366.2.2.2 == bt370.2.2.2))))))) else (some false)))) else (some false)))) else (some false)))) = some r := by rw [if_pos rfl] at H; exact H
  clear H
  have H := H1
  clear H1
  replace H := Option.bind_eq_some_iff.mp H
  obtain ⟨⟨t342, t343, t344, t345⟩, A110, H⟩ := H
  (try dsimp only at H)
  have A11 := Aside0.mk A110
  clear A110
  replace H := Option.bind_eq_some_iff.mp H
  obtain ⟨⟨t346, t347, t348, t349⟩, A120, H⟩ := H
  (try dsimp only at H)
  have A12 := Aside0.mk A120
  clear A120
  by_cases c13 : (t342 == t346 && (t343 == t347 && (t344 == t348 && (t345 == t349)))) = true
  ·rw [if_pos c13] at H
   have c13b0 : (t342 == t346 && (t343 == t347 && (t344 == t348 && (t345 == t349)))) = true := c13
   (try (have c13b1 : decide (t342 = t346 && (t343 == t347 && (t344 == t348 && (t345 == t349)))) = true := by simpa using c13))
   (try (have c13b2 : (t342 == t346 && (t343 == t347 && (t344 == t348 && (t345 == t349)))) = true := by simpa using c13))
   clear c13
   replace H := Option.bind_eq_some_iff.mp H
   obtain ⟨⟨t350, t351, t352, t353⟩, A140, H⟩ := H
   (try dsimp only at H)
   have A14 := Aside0.mk A140
   clear A140
   replace H := Option.bind_eq_some_iff.mp H
   obtain ⟨⟨t354, t355, t356, t357⟩, A150, H⟩ := H
   (try dsimp only at H)
   have A15 := Aside0.mk A150
   clear A150
   by_cases c16 : (t350 == t354 && (t351 == t355 && (t352 == t356 && (t353 == t357)))) = true
   ·rw [if_pos c16] at H
    have c16b0 : (t350 == t354 && (t351 == t355 && (t352 == t356 && (t353 == t357)))) = true := c16
    (try (have c16b1 : decide (t350 = t354 && (t351 == t355 && (t352 == t356 && (t353 == t357)))) = true := by simpa using c16))
    (try (have c16b2 : (t350 == t354 && (t351 == t355 && (t352 == t356 && (t353 == t357)))) = true := by simpa using c16))
    clear c16
    replace H := Option.bind_eq_some_iff.mp H
    obtain ⟨⟨t358, t359, t360, t361⟩, A170, H⟩ := H
    (try dsimp only at H)
    have A17 := Aside0.mk A170
    clear A170
    replace H := Option.bind_eq_some_iff.mp H
    obtain ⟨⟨t362, t363, t364, t365⟩, A180, H⟩ := H
    (try dsimp only at H)
    have A18 := Aside0.mk A180
    clear A180
    by_cases c19 : (t358 == t362 && (t359 == t363 && (t360 == t364 && (t361 == t365)))) = true
    ·rw [if_pos c19] at H
     have c19b0 : (t358 == t362 && (t359 == t363 && (t360 == t364 && (t361 == t365)))) = true := c19
     (try (have c19b1 : decide (t358 = t362 && (t359 == t363 && (t360 == t364 && (t361 == t365)))) = true := by simpa using c19))
     (try (have c19b2 : (t358 == t362 && (t359 == t363 && (t360 == t364 && (t361 == t365)))) = true := by simpa using c19))
     clear c19
     replace H := Option.bind_eq_some_iff.mp H
     obtain ⟨⟨t366, t367, t368, t369⟩, A200, H⟩ := H
     (try dsimp only at H)
     have A20 := Aside0.mk A200
     clear A200
     replace H := Option.bind_eq_some_iff.mp H
     obtain ⟨⟨t370, t371, t372, t373⟩, A210, H⟩ := H
     (try dsimp only at H)
     have A21 := Aside0.mk A210
     clear A210
     obtain rfl := Option.some.inj H
     go_enter Try.func3, Try.ntmps3
     try go_wp2_with (first | ((with_reducible refine gate_dst (N := 3) rfl ?_); refine bx_ 3 #[.int .i64 a0_0, .bool a0_1, .int .u64 a0_2, .int .i64 a0_3] 24 ?_; intro gb317 hg w22 hbox hb; have n0_ := bq_ HB hb; have n1_ := Aside0.mk (hbox); have n2_ := ge_ hg HB; have n3_ := ge_ hg HB; clear HB; have HB := n0_; have BK317 := n1_; have GW317 := n2_; have GE317 := n3_; clear n0_ n1_ n2_ n3_; clear hb hbox hg) | ((with_reducible refine gate_dst (N := 4) rfl ?_); refine bx_ 4 #[.int .i64 a1_0, .bool a1_1, .int .u64 a1_2, .int .i64 a1_3] 24 ?_; intro gb318 hg w23 hbox hb; have n0_ := kq_ BK317 hb; have n1_ := bq_ HB hb; have n2_ := Aside0.mk (hbox); have n3_ := ge_ hg HB; have n4_ := ge_ hg HB; have n5_ := nb_ hg BK317; have n6_ := nc_ hg BK317; clear BK317; clear HB; have BK317 := n0_; have HB := n1_; have BK318 := n2_; have GW318 := n3_; have GE318 := n4_; have NB317_318 := n5_; have NB318_317 := n6_; clear n0_ n1_ n2_ n3_ n4_ n5_ n6_; clear hb hbox hg) | ((with_reducible refine gate_callee (f := 10) rfl ?_); refine gl_ (some 10) Try.func10 #[] ?_; (with_reducible refine (peloruslaw06_awake.calls k  true _ (HAW_.out _ A4.out) A4.out).mono ?_); rintro e w24 ⟨rfl, hb⟩; refine ⟨_, rfl, ?_⟩; have n0_ := kq_ BK317 hb; have n1_ := kq_ BK318 hb; have n2_ := bq_ HB hb; clear BK317; clear BK318; clear HB; have BK317 := n0_; have BK318 := n1_; have HB := n2_; clear n0_ n1_ n2_; (try clear hb); (try clear hb2); (try clear hk); (try clear hi)))
     have n0_ := Aside0.mk (blk_drew BK317.out)
     have n1_ := Aside0.mk (blk_drew BK318.out)
     have n2_ := Aside0.mk (below_drew1 HB.out)
     clear BK317
     clear BK318
     clear HB
     have BK317 := n0_
     have BK318 := n1_
     have HB := n2_
     clear n0_ n1_ n2_
     refine start_ (n := 9) (S := fun w' => w'.cell? ⟨gb317, 0, none⟩ = some (.int .i64 a0_0) ∧ w'.cell? ⟨gb317, 1, none⟩ = some (.bool a0_1) ∧ w'.cell? ⟨gb317, 2, none⟩ = some (.int .u64 a0_2) ∧ w'.cell? ⟨gb317, 3, none⟩ = some (.int .i64 a0_3) ∧ w'.cell? ⟨gb318, 0, none⟩ = some (.int .i64 a1_0) ∧ w'.cell? ⟨gb318, 1, none⟩ = some (.bool a1_1) ∧ w'.cell? ⟨gb318, 2, none⟩ = some (.int .u64 a1_2) ∧ w'.cell? ⟨gb318, 3, none⟩ = some (.int .i64 a1_3)) (ds := []) #[false, false, false, false, false, false, false, false, false] (by kernel_rfl) rfl rfl ⟨(blk_cell BK317.out 0).trans rfl, (blk_cell BK317.out 1).trans rfl, (blk_cell BK317.out 2).trans rfl, (blk_cell BK317.out 3).trans rfl, (blk_cell BK318.out 0).trans rfl, (blk_cell BK318.out 1).trans rfl, (blk_cell BK318.out 2).trans rfl, (blk_cell BK318.out 3).trans rfl⟩ (fun hHeld => ?_); refine with_tabW peloruslaw06_ArithTurns.tab2 peloruslaw06_ArithTurns.bits2 (fun HT_ HW_ => ?_)
     generalize w24.drew = w25 at BK317 BK318 HB hHeld ⊢
     refine pure_ (i := 4) (N := some 15) (v := ?_) (a' := ?_) #[false, false, false, false, true, false, false, false, false] rfl rfl (any_of HT_.out (by kernel_rfl)) (fun _ _ _ h => h) (Or.inl ⟨by rfl, ?_⟩) ?_ ?_
     rotate_left
     ·intro w'
      go_simp
      with_reducible rfl
     rotate_left
     ·simp only [Act.put, List.setIfInBounds_toArray, List.set_cons_zero, List.set_cons_succ, i64_w, i32_w]
      rfl
     refine pure_ (i := 5) (N := some 16) (v := ?_) (a' := ?_) #[false, false, false, false, true, true, false, false, false] rfl rfl (any_of HT_.out (by kernel_rfl)) (fun _ _ _ h => h) (Or.inl ⟨by rfl, ?_⟩) ?_ ?_
     rotate_left
     ·intro w'
      go_simp
      with_reducible rfl
     rotate_left
     ·simp only [Act.put, List.setIfInBounds_toArray, List.set_cons_zero, List.set_cons_succ, i64_w, i32_w]
      rfl
     refine take_ (i := 0) (N := some 11) (v := ?_) (a' := ?_) #[true, false, false, false, true, true, false, false, false] rfl rfl (take_ofW HT_.out HW_.out (by kernel_rfl)) (fun _ _ _ h => h) (Or.inl ⟨by rfl, ?_⟩) hHeld ?_ ?_
     rotate_left
     ·rintro w' ⟨s0, s1, s2, s3, s4, s5, s6, s7⟩
      go_simp
      with_reducible rfl
     rotate_left
     ·simp only [Act.put, List.setIfInBounds_toArray, List.set_cons_zero, List.set_cons_succ, i64_w, i32_w]
      rfl
     refine take_ (i := 2) (N := some 13) (v := ?_) (a' := ?_) #[true, false, true, false, true, true, false, false, false] rfl rfl (take_ofW HT_.out HW_.out (by kernel_rfl)) (fun _ _ _ h => h) (Or.inl ⟨by rfl, ?_⟩) hHeld ?_ ?_
     rotate_left
     ·rintro w' ⟨s0, s1, s2, s3, s4, s5, s6, s7⟩
      go_simp
      with_reducible rfl
     rotate_left
     ·simp only [Act.put, List.setIfInBounds_toArray, List.set_cons_zero, List.set_cons_succ, i64_w, i32_w]
      rfl
     refine join_ (σ := Nat) 1 #[true, true, true, true, true, true, true, true, false] (fun s_ => [(12, .agg #[.int .i64 t320, .bool t321, .int .u64 t322, .int .i64 t323]), (14, .agg #[.int .i64 t324, .bool t325, .int .u64 t326, .int .i64 t327]), (17, .agg #[.int .i64 t328, .bool t329, .int .u64 t330, .int .i64 t331]), (8, .pointer (some ⟨s_, 0, none⟩))]) (fun s_ w' => (w'.cell? ⟨gb317, 0, none⟩ = some (.int .i64 a0_0) ∧ w'.cell? ⟨gb317, 1, none⟩ = some (.bool a0_1) ∧ w'.cell? ⟨gb317, 2, none⟩ = some (.int .u64 a0_2) ∧ w'.cell? ⟨gb317, 3, none⟩ = some (.int .i64 a0_3) ∧ w'.cell? ⟨gb318, 0, none⟩ = some (.int .i64 a1_0) ∧ w'.cell? ⟨gb318, 1, none⟩ = some (.bool a1_1) ∧ w'.cell? ⟨gb318, 2, none⟩ = some (.int .u64 a1_2) ∧ w'.cell? ⟨gb318, 3, none⟩ = some (.int .i64 a1_3)) ∧ (w'.heap[gb317]? = some (.cells #[.int .i64 a0_0, .bool a0_1, .int .u64 a0_2, .int .i64 a0_3] 24 (0, 0))) ∧ (w'.heap[gb318]? = some (.cells #[.int .i64 a1_0, .bool a1_1, .int .u64 a1_2, .int .i64 a1_3] 24 (0, 0))) ∧ (w'.heap[s_]? = some (.cells #[.int .i64 0, .bool false, .int .u64 0, .int .i64 0] 24 (0, 0))) ∧ (w.heap.size ≤ s_) ∧ (w.heap.size ≤ s_) ∧ (gb317 ≠ s_) ∧ (s_ ≠ gb317) ∧ (gb318 ≠ s_) ∧ (s_ ≠ gb318) ∧ (Below w.heap.size w w')) ?_ ?_
     rotate_left
     ·intro hCont
      refine two_ (i := 1) (j := 7) (Ni := some 12) (Nj := some 8) #[true, true, true, false, true, true, false, false, false] #[true, false, true, false, true, true, false, true, false] rfl rfl rfl rfl (two_of HT_.out (by kernel_rfl)) (by decide) (by decide) (fun K hK => ?_) (fun K hK => ?_)
      ·skip
       refine gs_ Try.func12 #[.agg #[.int .i64 a0_0, .bool a0_1, .int .u64 a0_2, .int .i64 a0_3]] ?_
       with_reducible refine (num_Neg.calls a0_0 a0_1 a0_2 a0_3 t320 t321 t322 t323 _ A5.out).mono ?_
       rintro e w26 ⟨rfl, hb⟩
       refine ⟨_, rfl, ?_⟩
       have n0_ := kq_ BK317 hb
       have n1_ := kq_ BK318 hb
       have n2_ := bq_ HB hb
       clear BK317
       clear BK318
       clear HB
       have BK317 := n0_
       have BK318 := n1_
       have HB := n2_
       clear n0_ n1_ n2_
       (try clear hb)
       (try clear hb2)
       (try clear hk)
       (try clear hi)
       refine hK.out _ _ ⟨(blk_cell BK317.out 0).trans rfl, (blk_cell BK317.out 1).trans rfl, (blk_cell BK317.out 2).trans rfl, (blk_cell BK317.out 3).trans rfl, (blk_cell BK318.out 0).trans rfl, (blk_cell BK318.out 1).trans rfl, (blk_cell BK318.out 2).trans rfl, (blk_cell BK318.out 3).trans rfl⟩ (fun hHeld => ?_)
       clear hK K
       refine norm_ (a' := ?_) ?_ ?_
       rotate_left
       ·show Act.put _ (some 12) _ = _
        simp only [Act.put, List.setIfInBounds_toArray, List.set_cons_zero, List.set_cons_succ, i64_w, i32_w]
        rfl
       refine two_ (i := 3) (j := 7) (Ni := some 14) (Nj := some 8) #[true, true, true, true, true, true, false, false, false] #[true, true, true, false, true, true, false, true, false] rfl rfl rfl rfl (two_of HT_.out (by kernel_rfl)) (by decide) (by decide) (fun K hK => ?_) (fun K hK => ?_)
       ·skip
        refine gs_ Try.func12 #[.agg #[.int .i64 a1_0, .bool a1_1, .int .u64 a1_2, .int .i64 a1_3]] ?_
        with_reducible refine (num_Neg.calls a1_0 a1_1 a1_2 a1_3 t324 t325 t326 t327 _ A6.out).mono ?_
        rintro e w27 ⟨rfl, hb⟩
        refine ⟨_, rfl, ?_⟩
        have n0_ := kq_ BK317 hb
        have n1_ := kq_ BK318 hb
        have n2_ := bq_ HB hb
        clear BK317
        clear BK318
        clear HB
        have BK317 := n0_
        have BK318 := n1_
        have HB := n2_
        clear n0_ n1_ n2_
        (try clear hb)
        (try clear hb2)
        (try clear hk)
        (try clear hi)
        refine hK.out _ _ ⟨(blk_cell BK317.out 0).trans rfl, (blk_cell BK317.out 1).trans rfl, (blk_cell BK317.out 2).trans rfl, (blk_cell BK317.out 3).trans rfl, (blk_cell BK318.out 0).trans rfl, (blk_cell BK318.out 1).trans rfl, (blk_cell BK318.out 2).trans rfl, (blk_cell BK318.out 3).trans rfl⟩ (fun hHeld => ?_)
        clear hK K
        refine norm_ (a' := ?_) ?_ ?_
        rotate_left
        ·show Act.put _ (some 14) _ = _
         simp only [Act.put, List.setIfInBounds_toArray, List.set_cons_zero, List.set_cons_succ, i64_w, i32_w]
         rfl
        refine two_ (i := 6) (j := 7) (Ni := some 17) (Nj := some 8) #[true, true, true, true, true, true, true, false, false] #[true, true, true, true, true, true, false, true, false] rfl rfl rfl rfl (two_of HT_.out (by kernel_rfl)) (by decide) (by decide) (fun K hK => ?_) (fun K hK => ?_)
        ·skip
         refine gs_ Try.func11 #[.agg #[.int .i64 t320, .bool t321, .int .u64 t322, .int .i64 t323], .agg #[.int .i64 t324, .bool t325, .int .u64 t326, .int .i64 t327], .bool (!a2)] ?_
         with_reducible refine (arith_Add.calls k t320 t321 t322 t323 t324 t325 t326 t327 (!a2) t328 t329 t330 t331 _ A7.out).mono ?_
         rintro e w28 ⟨rfl, hb⟩
         refine ⟨_, rfl, ?_⟩
         have n0_ := kq_ BK317 hb
         have n1_ := kq_ BK318 hb
         have n2_ := bq_ HB hb
         clear BK317
         clear BK318
         clear HB
         have BK317 := n0_
         have BK318 := n1_
         have HB := n2_
         clear n0_ n1_ n2_
         (try clear hb)
         (try clear hb2)
         (try clear hk)
         (try clear hi)
         refine hK.out _ _ ⟨(blk_cell BK317.out 0).trans rfl, (blk_cell BK317.out 1).trans rfl, (blk_cell BK317.out 2).trans rfl, (blk_cell BK317.out 3).trans rfl, (blk_cell BK318.out 0).trans rfl, (blk_cell BK318.out 1).trans rfl, (blk_cell BK318.out 2).trans rfl, (blk_cell BK318.out 3).trans rfl⟩ (fun hHeld => ?_)
         clear hK K
         refine norm_ (a' := ?_) ?_ ?_
         rotate_left
         ·show Act.put _ (some 17) _ = _
          simp only [Act.put, List.setIfInBounds_toArray, List.set_cons_zero, List.set_cons_succ, i64_w, i32_w]
          rfl
         refine one_ (i := 7) (N := some 8) #[true, true, true, true, true, true, true, true, false] rfl rfl (one_of HT_.out (by kernel_rfl)) (by decide) (fun K hK => ?_)
         refine box_step ?hg (N := 8) ?hd (cs := #[.int .i64 0, .bool false, .int .u64 0, .int .i64 0]) (t := 24) ?hr ?_; (case hd => rfl); (case hg => rfl); (case hr => first | (go_simp; done) | (go_simp; rfl))
         intro gb332 hg w29 hbox hb
         have n0_ := kq_ BK317 hb
         have n1_ := kq_ BK318 hb
         have n2_ := bq_ HB hb
         have n3_ := Aside0.mk (hbox)
         have n4_ := ge_ hg HB
         have n5_ := ge_ hg HB
         have n6_ := nb_ hg BK317
         have n7_ := nc_ hg BK317
         have n8_ := nb_ hg BK318
         have n9_ := nc_ hg BK318
         clear BK317
         clear BK318
         clear HB
         have BK317 := n0_
         have BK318 := n1_
         have HB := n2_
         have BK332 := n3_
         have GW332 := n4_
         have GE332 := n5_
         have NB317_332 := n6_
         have NB332_317 := n7_
         have NB318_332 := n8_
         have NB332_318 := n9_
         clear n0_ n1_ n2_ n3_ n4_ n5_ n6_ n7_ n8_ n9_
         clear hb hbox hg
         refine hK.out _ _ ⟨(blk_cell BK317.out 0).trans rfl, (blk_cell BK317.out 1).trans rfl, (blk_cell BK317.out 2).trans rfl, (blk_cell BK317.out 3).trans rfl, (blk_cell BK318.out 0).trans rfl, (blk_cell BK318.out 1).trans rfl, (blk_cell BK318.out 2).trans rfl, (blk_cell BK318.out 3).trans rfl⟩ (fun hHeld => ?_)
         clear hK K
         refine norm_ (a' := ?_) ?_ ?_
         rotate_left
         ·show Act.put _ (some 8) _ = _
          simp only [Act.put, List.setIfInBounds_toArray, List.set_cons_zero, List.set_cons_succ, i64_w, i32_w]
          rfl
         exact norm_ (by simp only [putAll, Act.put, List.setIfInBounds_toArray, List.set_cons_zero, List.set_cons_succ]) (hCont (gb332) _ ⟨hHeld, (kb_ BK317.out), (kb_ BK318.out), (kb_ BK332.out), GW332.out, GE332.out, NB317_332.out, NB332_317.out, NB318_332.out, NB332_318.out, (bw_ HB.out)⟩)
        ·skip
         refine box_step ?hg (N := 8) ?hd (cs := #[.int .i64 0, .bool false, .int .u64 0, .int .i64 0]) (t := 24) ?hr ?_; (case hd => rfl); (case hg => rfl); (case hr => first | (go_simp; done) | (go_simp; rfl))
         intro gb332 hg w28 hbox hb
         have n0_ := kq_ BK317 hb
         have n1_ := kq_ BK318 hb
         have n2_ := bq_ HB hb
         have n3_ := Aside0.mk (hbox)
         have n4_ := ge_ hg HB
         have n5_ := ge_ hg HB
         have n6_ := nb_ hg BK317
         have n7_ := nc_ hg BK317
         have n8_ := nb_ hg BK318
         have n9_ := nc_ hg BK318
         clear BK317
         clear BK318
         clear HB
         have BK317 := n0_
         have BK318 := n1_
         have HB := n2_
         have BK332 := n3_
         have GW332 := n4_
         have GE332 := n5_
         have NB317_332 := n6_
         have NB332_317 := n7_
         have NB318_332 := n8_
         have NB332_318 := n9_
         clear n0_ n1_ n2_ n3_ n4_ n5_ n6_ n7_ n8_ n9_
         clear hb hbox hg
         refine hK.out _ _ ⟨(blk_cell BK317.out 0).trans rfl, (blk_cell BK317.out 1).trans rfl, (blk_cell BK317.out 2).trans rfl, (blk_cell BK317.out 3).trans rfl, (blk_cell BK318.out 0).trans rfl, (blk_cell BK318.out 1).trans rfl, (blk_cell BK318.out 2).trans rfl, (blk_cell BK318.out 3).trans rfl⟩ (fun hHeld => ?_)
         clear hK K
         refine norm_ (a' := ?_) ?_ ?_
         rotate_left
         ·show Act.put _ (some 8) _ = _
          simp only [Act.put, List.setIfInBounds_toArray, List.set_cons_zero, List.set_cons_succ, i64_w, i32_w]
          rfl
         refine one_ (i := 6) (N := some 17) #[true, true, true, true, true, true, true, true, false] rfl rfl (one_of HT_.out (by kernel_rfl)) (by decide) (fun K hK => ?_)
         refine gs_ Try.func11 #[.agg #[.int .i64 t320, .bool t321, .int .u64 t322, .int .i64 t323], .agg #[.int .i64 t324, .bool t325, .int .u64 t326, .int .i64 t327], .bool (!a2)] ?_
         with_reducible refine (arith_Add.calls k t320 t321 t322 t323 t324 t325 t326 t327 (!a2) t328 t329 t330 t331 _ A7.out).mono ?_
         rintro e w29 ⟨rfl, hb⟩
         refine ⟨_, rfl, ?_⟩
         have n0_ := kq_ BK317 hb
         have n1_ := kq_ BK318 hb
         have n2_ := kq_ BK332 hb
         have n3_ := bq_ HB hb
         clear BK317
         clear BK318
         clear BK332
         clear HB
         have BK317 := n0_
         have BK318 := n1_
         have BK332 := n2_
         have HB := n3_
         clear n0_ n1_ n2_ n3_
         (try clear hb)
         (try clear hb2)
         (try clear hk)
         (try clear hi)
         refine hK.out _ _ ⟨(blk_cell BK317.out 0).trans rfl, (blk_cell BK317.out 1).trans rfl, (blk_cell BK317.out 2).trans rfl, (blk_cell BK317.out 3).trans rfl, (blk_cell BK318.out 0).trans rfl, (blk_cell BK318.out 1).trans rfl, (blk_cell BK318.out 2).trans rfl, (blk_cell BK318.out 3).trans rfl⟩ (fun hHeld => ?_)
         clear hK K
         refine norm_ (a' := ?_) ?_ ?_
         rotate_left
         ·show Act.put _ (some 17) _ = _
          simp only [Act.put, List.setIfInBounds_toArray, List.set_cons_zero, List.set_cons_succ, i64_w, i32_w]
          rfl
         exact norm_ (by simp only [putAll, Act.put, List.setIfInBounds_toArray, List.set_cons_zero, List.set_cons_succ]) (hCont (gb332) _ ⟨hHeld, (kb_ BK317.out), (kb_ BK318.out), (kb_ BK332.out), GW332.out, GE332.out, NB317_332.out, NB332_317.out, NB318_332.out, NB332_318.out, (bw_ HB.out)⟩)
       ·skip
        refine box_step ?hg (N := 8) ?hd (cs := #[.int .i64 0, .bool false, .int .u64 0, .int .i64 0]) (t := 24) ?hr ?_; (case hd => rfl); (case hg => rfl); (case hr => first | (go_simp; done) | (go_simp; rfl))
        intro gb332 hg w27 hbox hb
        have n0_ := kq_ BK317 hb
        have n1_ := kq_ BK318 hb
        have n2_ := bq_ HB hb
        have n3_ := Aside0.mk (hbox)
        have n4_ := ge_ hg HB
        have n5_ := ge_ hg HB
        have n6_ := nb_ hg BK317
        have n7_ := nc_ hg BK317
        have n8_ := nb_ hg BK318
        have n9_ := nc_ hg BK318
        clear BK317
        clear BK318
        clear HB
        have BK317 := n0_
        have BK318 := n1_
        have HB := n2_
        have BK332 := n3_
        have GW332 := n4_
        have GE332 := n5_
        have NB317_332 := n6_
        have NB332_317 := n7_
        have NB318_332 := n8_
        have NB332_318 := n9_
        clear n0_ n1_ n2_ n3_ n4_ n5_ n6_ n7_ n8_ n9_
        clear hb hbox hg
        refine hK.out _ _ ⟨(blk_cell BK317.out 0).trans rfl, (blk_cell BK317.out 1).trans rfl, (blk_cell BK317.out 2).trans rfl, (blk_cell BK317.out 3).trans rfl, (blk_cell BK318.out 0).trans rfl, (blk_cell BK318.out 1).trans rfl, (blk_cell BK318.out 2).trans rfl, (blk_cell BK318.out 3).trans rfl⟩ (fun hHeld => ?_)
        clear hK K
        refine norm_ (a' := ?_) ?_ ?_
        rotate_left
        ·show Act.put _ (some 8) _ = _
         simp only [Act.put, List.setIfInBounds_toArray, List.set_cons_zero, List.set_cons_succ, i64_w, i32_w]
         rfl
        refine one_ (i := 3) (N := some 14) #[true, true, true, true, true, true, false, true, false] rfl rfl (one_of HT_.out (by kernel_rfl)) (by decide) (fun K hK => ?_)
        refine gs_ Try.func12 #[.agg #[.int .i64 a1_0, .bool a1_1, .int .u64 a1_2, .int .i64 a1_3]] ?_
        with_reducible refine (num_Neg.calls a1_0 a1_1 a1_2 a1_3 t324 t325 t326 t327 _ A6.out).mono ?_
        rintro e w28 ⟨rfl, hb⟩
        refine ⟨_, rfl, ?_⟩
        have n0_ := kq_ BK317 hb
        have n1_ := kq_ BK318 hb
        have n2_ := kq_ BK332 hb
        have n3_ := bq_ HB hb
        clear BK317
        clear BK318
        clear BK332
        clear HB
        have BK317 := n0_
        have BK318 := n1_
        have BK332 := n2_
        have HB := n3_
        clear n0_ n1_ n2_ n3_
        (try clear hb)
        (try clear hb2)
        (try clear hk)
        (try clear hi)
        refine hK.out _ _ ⟨(blk_cell BK317.out 0).trans rfl, (blk_cell BK317.out 1).trans rfl, (blk_cell BK317.out 2).trans rfl, (blk_cell BK317.out 3).trans rfl, (blk_cell BK318.out 0).trans rfl, (blk_cell BK318.out 1).trans rfl, (blk_cell BK318.out 2).trans rfl, (blk_cell BK318.out 3).trans rfl⟩ (fun hHeld => ?_)
        clear hK K
        refine norm_ (a' := ?_) ?_ ?_
        rotate_left
        ·show Act.put _ (some 14) _ = _
         simp only [Act.put, List.setIfInBounds_toArray, List.set_cons_zero, List.set_cons_succ, i64_w, i32_w]
         rfl
        refine one_ (i := 6) (N := some 17) #[true, true, true, true, true, true, true, true, false] rfl rfl (one_of HT_.out (by kernel_rfl)) (by decide) (fun K hK => ?_)
        refine gs_ Try.func11 #[.agg #[.int .i64 t320, .bool t321, .int .u64 t322, .int .i64 t323], .agg #[.int .i64 t324, .bool t325, .int .u64 t326, .int .i64 t327], .bool (!a2)] ?_
        with_reducible refine (arith_Add.calls k t320 t321 t322 t323 t324 t325 t326 t327 (!a2) t328 t329 t330 t331 _ A7.out).mono ?_
        rintro e w29 ⟨rfl, hb⟩
        refine ⟨_, rfl, ?_⟩
        have n0_ := kq_ BK317 hb
        have n1_ := kq_ BK318 hb
        have n2_ := kq_ BK332 hb
        have n3_ := bq_ HB hb
        clear BK317
        clear BK318
        clear BK332
        clear HB
        have BK317 := n0_
        have BK318 := n1_
        have BK332 := n2_
        have HB := n3_
        clear n0_ n1_ n2_ n3_
        (try clear hb)
        (try clear hb2)
        (try clear hk)
        (try clear hi)
        refine hK.out _ _ ⟨(blk_cell BK317.out 0).trans rfl, (blk_cell BK317.out 1).trans rfl, (blk_cell BK317.out 2).trans rfl, (blk_cell BK317.out 3).trans rfl, (blk_cell BK318.out 0).trans rfl, (blk_cell BK318.out 1).trans rfl, (blk_cell BK318.out 2).trans rfl, (blk_cell BK318.out 3).trans rfl⟩ (fun hHeld => ?_)
        clear hK K
        refine norm_ (a' := ?_) ?_ ?_
        rotate_left
        ·show Act.put _ (some 17) _ = _
         simp only [Act.put, List.setIfInBounds_toArray, List.set_cons_zero, List.set_cons_succ, i64_w, i32_w]
         rfl
        exact norm_ (by simp only [putAll, Act.put, List.setIfInBounds_toArray, List.set_cons_zero, List.set_cons_succ]) (hCont (gb332) _ ⟨hHeld, (kb_ BK317.out), (kb_ BK318.out), (kb_ BK332.out), GW332.out, GE332.out, NB317_332.out, NB332_317.out, NB318_332.out, NB332_318.out, (bw_ HB.out)⟩)
      ·skip
       refine box_step ?hg (N := 8) ?hd (cs := #[.int .i64 0, .bool false, .int .u64 0, .int .i64 0]) (t := 24) ?hr ?_; (case hd => rfl); (case hg => rfl); (case hr => first | (go_simp; done) | (go_simp; rfl))
       intro gb332 hg w26 hbox hb
       have n0_ := kq_ BK317 hb
       have n1_ := kq_ BK318 hb
       have n2_ := bq_ HB hb
       have n3_ := Aside0.mk (hbox)
       have n4_ := ge_ hg HB
       have n5_ := ge_ hg HB
       have n6_ := nb_ hg BK317
       have n7_ := nc_ hg BK317
       have n8_ := nb_ hg BK318
       have n9_ := nc_ hg BK318
       clear BK317
       clear BK318
       clear HB
       have BK317 := n0_
       have BK318 := n1_
       have HB := n2_
       have BK332 := n3_
       have GW332 := n4_
       have GE332 := n5_
       have NB317_332 := n6_
       have NB332_317 := n7_
       have NB318_332 := n8_
       have NB332_318 := n9_
       clear n0_ n1_ n2_ n3_ n4_ n5_ n6_ n7_ n8_ n9_
       clear hb hbox hg
       refine hK.out _ _ ⟨(blk_cell BK317.out 0).trans rfl, (blk_cell BK317.out 1).trans rfl, (blk_cell BK317.out 2).trans rfl, (blk_cell BK317.out 3).trans rfl, (blk_cell BK318.out 0).trans rfl, (blk_cell BK318.out 1).trans rfl, (blk_cell BK318.out 2).trans rfl, (blk_cell BK318.out 3).trans rfl⟩ (fun hHeld => ?_)
       clear hK K
       refine norm_ (a' := ?_) ?_ ?_
       rotate_left
       ·show Act.put _ (some 8) _ = _
        simp only [Act.put, List.setIfInBounds_toArray, List.set_cons_zero, List.set_cons_succ, i64_w, i32_w]
        rfl
       refine one_ (i := 1) (N := some 12) #[true, true, true, false, true, true, false, true, false] rfl rfl (one_of HT_.out (by kernel_rfl)) (by decide) (fun K hK => ?_)
       refine gs_ Try.func12 #[.agg #[.int .i64 a0_0, .bool a0_1, .int .u64 a0_2, .int .i64 a0_3]] ?_
       with_reducible refine (num_Neg.calls a0_0 a0_1 a0_2 a0_3 t320 t321 t322 t323 _ A5.out).mono ?_
       rintro e w27 ⟨rfl, hb⟩
       refine ⟨_, rfl, ?_⟩
       have n0_ := kq_ BK317 hb
       have n1_ := kq_ BK318 hb
       have n2_ := kq_ BK332 hb
       have n3_ := bq_ HB hb
       clear BK317
       clear BK318
       clear BK332
       clear HB
       have BK317 := n0_
       have BK318 := n1_
       have BK332 := n2_
       have HB := n3_
       clear n0_ n1_ n2_ n3_
       (try clear hb)
       (try clear hb2)
       (try clear hk)
       (try clear hi)
       refine hK.out _ _ ⟨(blk_cell BK317.out 0).trans rfl, (blk_cell BK317.out 1).trans rfl, (blk_cell BK317.out 2).trans rfl, (blk_cell BK317.out 3).trans rfl, (blk_cell BK318.out 0).trans rfl, (blk_cell BK318.out 1).trans rfl, (blk_cell BK318.out 2).trans rfl, (blk_cell BK318.out 3).trans rfl⟩ (fun hHeld => ?_)
       clear hK K
       refine norm_ (a' := ?_) ?_ ?_
       rotate_left
       ·show Act.put _ (some 12) _ = _
        simp only [Act.put, List.setIfInBounds_toArray, List.set_cons_zero, List.set_cons_succ, i64_w, i32_w]
        rfl
       refine one_ (i := 3) (N := some 14) #[true, true, true, true, true, true, false, true, false] rfl rfl (one_of HT_.out (by kernel_rfl)) (by decide) (fun K hK => ?_)
       refine gs_ Try.func12 #[.agg #[.int .i64 a1_0, .bool a1_1, .int .u64 a1_2, .int .i64 a1_3]] ?_
       with_reducible refine (num_Neg.calls a1_0 a1_1 a1_2 a1_3 t324 t325 t326 t327 _ A6.out).mono ?_
       rintro e w28 ⟨rfl, hb⟩
       refine ⟨_, rfl, ?_⟩
       have n0_ := kq_ BK317 hb
       have n1_ := kq_ BK318 hb
       have n2_ := kq_ BK332 hb
       have n3_ := bq_ HB hb
       clear BK317
       clear BK318
       clear BK332
       clear HB
       have BK317 := n0_
       have BK318 := n1_
       have BK332 := n2_
       have HB := n3_
       clear n0_ n1_ n2_ n3_
       (try clear hb)
       (try clear hb2)
       (try clear hk)
       (try clear hi)
       refine hK.out _ _ ⟨(blk_cell BK317.out 0).trans rfl, (blk_cell BK317.out 1).trans rfl, (blk_cell BK317.out 2).trans rfl, (blk_cell BK317.out 3).trans rfl, (blk_cell BK318.out 0).trans rfl, (blk_cell BK318.out 1).trans rfl, (blk_cell BK318.out 2).trans rfl, (blk_cell BK318.out 3).trans rfl⟩ (fun hHeld => ?_)
       clear hK K
       refine norm_ (a' := ?_) ?_ ?_
       rotate_left
       ·show Act.put _ (some 14) _ = _
        simp only [Act.put, List.setIfInBounds_toArray, List.set_cons_zero, List.set_cons_succ, i64_w, i32_w]
        rfl
       refine one_ (i := 6) (N := some 17) #[true, true, true, true, true, true, true, true, false] rfl rfl (one_of HT_.out (by kernel_rfl)) (by decide) (fun K hK => ?_)
       refine gs_ Try.func11 #[.agg #[.int .i64 t320, .bool t321, .int .u64 t322, .int .i64 t323], .agg #[.int .i64 t324, .bool t325, .int .u64 t326, .int .i64 t327], .bool (!a2)] ?_
       with_reducible refine (arith_Add.calls k t320 t321 t322 t323 t324 t325 t326 t327 (!a2) t328 t329 t330 t331 _ A7.out).mono ?_
       rintro e w29 ⟨rfl, hb⟩
       refine ⟨_, rfl, ?_⟩
       have n0_ := kq_ BK317 hb
       have n1_ := kq_ BK318 hb
       have n2_ := kq_ BK332 hb
       have n3_ := bq_ HB hb
       clear BK317
       clear BK318
       clear BK332
       clear HB
       have BK317 := n0_
       have BK318 := n1_
       have BK332 := n2_
       have HB := n3_
       clear n0_ n1_ n2_ n3_
       (try clear hb)
       (try clear hb2)
       (try clear hk)
       (try clear hi)
       refine hK.out _ _ ⟨(blk_cell BK317.out 0).trans rfl, (blk_cell BK317.out 1).trans rfl, (blk_cell BK317.out 2).trans rfl, (blk_cell BK317.out 3).trans rfl, (blk_cell BK318.out 0).trans rfl, (blk_cell BK318.out 1).trans rfl, (blk_cell BK318.out 2).trans rfl, (blk_cell BK318.out 3).trans rfl⟩ (fun hHeld => ?_)
       clear hK K
       refine norm_ (a' := ?_) ?_ ?_
       rotate_left
       ·show Act.put _ (some 17) _ = _
        simp only [Act.put, List.setIfInBounds_toArray, List.set_cons_zero, List.set_cons_succ, i64_w, i32_w]
        rfl
       exact norm_ (by simp only [putAll, Act.put, List.setIfInBounds_toArray, List.set_cons_zero, List.set_cons_succ]) (hCont (gb332) _ ⟨hHeld, (kb_ BK317.out), (kb_ BK318.out), (kb_ BK332.out), GW332.out, GE332.out, NB317_332.out, NB332_317.out, NB318_332.out, NB332_318.out, (bw_ HB.out)⟩)
     rintro gb332 w30 ⟨hS_, h0_, h1_, h2_, h3_, h4_, h5_, h6_, h7_, h8_, h9_⟩
     have n0_ : Aside0 (w30.heap[gb317]? = some (.cells #[.int .i64 a0_0, .bool a0_1, .int .u64 a0_2, .int .i64 a0_3] 24 (0, 0))) := ⟨h0_⟩
     have n1_ : Aside0 (w30.heap[gb318]? = some (.cells #[.int .i64 a1_0, .bool a1_1, .int .u64 a1_2, .int .i64 a1_3] 24 (0, 0))) := ⟨h1_⟩
     have n2_ : Aside0 (w30.heap[gb332]? = some (.cells #[.int .i64 0, .bool false, .int .u64 0, .int .i64 0] 24 (0, 0))) := ⟨h2_⟩
     have n3_ : Aside0 (w.heap.size ≤ gb332) := ⟨h3_⟩
     have n4_ : Aside0 (w.heap.size ≤ gb332) := ⟨h4_⟩
     have n5_ : Aside0 (gb317 ≠ gb332) := ⟨h5_⟩
     have n6_ : Aside0 (gb332 ≠ gb317) := ⟨h6_⟩
     have n7_ : Aside0 (gb318 ≠ gb332) := ⟨h7_⟩
     have n8_ : Aside0 (gb332 ≠ gb318) := ⟨h8_⟩
     have n9_ : Aside0 (Below w.heap.size w w30) := ⟨h9_⟩
     clear BK317
     clear BK318
     clear HB
     clear h0_ h1_ h2_ h3_ h4_ h5_ h6_ h7_ h8_ h9_
     have BK317 := n0_
     have BK318 := n1_
     have BK332 := n2_
     have GW332 := n3_
     have GE332 := n4_
     have NB317_332 := n5_
     have NB332_317 := n6_
     have NB318_332 := n7_
     have NB332_318 := n8_
     have HB := n9_
     clear n0_ n1_ n2_ n3_ n4_ n5_ n6_ n7_ n8_ n9_
     have hHeld : w30.cell? ⟨gb317, 0, none⟩ = some (.int .i64 a0_0) ∧ w30.cell? ⟨gb317, 1, none⟩ = some (.bool a0_1) ∧ w30.cell? ⟨gb317, 2, none⟩ = some (.int .u64 a0_2) ∧ w30.cell? ⟨gb317, 3, none⟩ = some (.int .i64 a0_3) ∧ w30.cell? ⟨gb318, 0, none⟩ = some (.int .i64 a1_0) ∧ w30.cell? ⟨gb318, 1, none⟩ = some (.bool a1_1) ∧ w30.cell? ⟨gb318, 2, none⟩ = some (.int .u64 a1_2) ∧ w30.cell? ⟨gb318, 3, none⟩ = some (.int .i64 a1_3) := hS_
     refine norm_ (a' := ?_) ?_ ?_
     rotate_left
     ·simp only [putAll, Act.put, List.setIfInBounds_toArray, List.set_cons_zero, List.set_cons_succ]
      rfl
     refine one_ (i := 8) (N := none) #[true, true, true, true, true, true, true, true, true] rfl rfl (one_of HT_.out (by kernel_rfl)) (by decide) (fun K hK => ?_)
     have hs31 : w30.cell? ⟨gb332, 0, none⟩ = some (.int .i64 0) := (blk_cell BK332.out 0).trans rfl
     have hfs31 := fz_ BK332 0
     have hns31_0 := NB317_332.out
     have hns31_1 := NB318_332.out
     have hms31_0 := NB332_317.out
     have hms31_1 := NB332_318.out
     have hs32 : w30.cell? ⟨gb332, 1, none⟩ = some (.bool false) := (blk_cell BK332.out 1).trans rfl
     have hfs32 := fz_ BK332 1
     have hns32_0 := NB317_332.out
     have hns32_1 := NB318_332.out
     have hms32_0 := NB332_317.out
     have hms32_1 := NB332_318.out
     have hs33 : w30.cell? ⟨gb332, 2, none⟩ = some (.int .u64 0) := (blk_cell BK332.out 2).trans rfl
     have hfs33 := fz_ BK332 2
     have hns33_0 := NB317_332.out
     have hns33_1 := NB318_332.out
     have hms33_0 := NB332_317.out
     have hms33_1 := NB332_318.out
     have hs34 : w30.cell? ⟨gb332, 3, none⟩ = some (.int .i64 0) := (blk_cell BK332.out 3).trans rfl
     have hfs34 := fz_ BK332 3
     have hns34_0 := NB317_332.out
     have hns34_1 := NB318_332.out
     have hms34_0 := NB332_317.out
     have hms34_1 := NB332_318.out
     refine skip_ (w1 := ?_) (by rfl) rfl ?_ ?_
     rotate_left
     ·go_simp
      rfl
     refine hK.out _ _ ⟨((cell_far (p := ⟨gb332, _, none⟩) NB317_332.out _).trans (((cell_far (p := ⟨gb332, _, none⟩) NB317_332.out _).trans (((cell_far (p := ⟨gb332, _, none⟩) NB317_332.out _).trans (((cell_far (p := ⟨gb332, _, none⟩) NB317_332.out _).trans (hHeld.1)))))))), ((cell_far (p := ⟨gb332, _, none⟩) NB317_332.out _).trans (((cell_far (p := ⟨gb332, _, none⟩) NB317_332.out _).trans (((cell_far (p := ⟨gb332, _, none⟩) NB317_332.out _).trans (((cell_far (p := ⟨gb332, _, none⟩) NB317_332.out _).trans (hHeld.2.1)))))))), ((cell_far (p := ⟨gb332, _, none⟩) NB317_332.out _).trans (((cell_far (p := ⟨gb332, _, none⟩) NB317_332.out _).trans (((cell_far (p := ⟨gb332, _, none⟩) NB317_332.out _).trans (((cell_far (p := ⟨gb332, _, none⟩) NB317_332.out _).trans (hHeld.2.2.1)))))))), ((cell_far (p := ⟨gb332, _, none⟩) NB317_332.out _).trans (((cell_far (p := ⟨gb332, _, none⟩) NB317_332.out _).trans (((cell_far (p := ⟨gb332, _, none⟩) NB317_332.out _).trans (((cell_far (p := ⟨gb332, _, none⟩) NB317_332.out _).trans (hHeld.2.2.2.1)))))))), ((cell_far (p := ⟨gb332, _, none⟩) NB318_332.out _).trans (((cell_far (p := ⟨gb332, _, none⟩) NB318_332.out _).trans (((cell_far (p := ⟨gb332, _, none⟩) NB318_332.out _).trans (((cell_far (p := ⟨gb332, _, none⟩) NB318_332.out _).trans (hHeld.2.2.2.2.1)))))))), ((cell_far (p := ⟨gb332, _, none⟩) NB318_332.out _).trans (((cell_far (p := ⟨gb332, _, none⟩) NB318_332.out _).trans (((cell_far (p := ⟨gb332, _, none⟩) NB318_332.out _).trans (((cell_far (p := ⟨gb332, _, none⟩) NB318_332.out _).trans (hHeld.2.2.2.2.2.1)))))))), ((cell_far (p := ⟨gb332, _, none⟩) NB318_332.out _).trans (((cell_far (p := ⟨gb332, _, none⟩) NB318_332.out _).trans (((cell_far (p := ⟨gb332, _, none⟩) NB318_332.out _).trans (((cell_far (p := ⟨gb332, _, none⟩) NB318_332.out _).trans (hHeld.2.2.2.2.2.2.1)))))))), ((cell_far (p := ⟨gb332, _, none⟩) NB318_332.out _).trans (((cell_far (p := ⟨gb332, _, none⟩) NB318_332.out _).trans (((cell_far (p := ⟨gb332, _, none⟩) NB318_332.out _).trans (((cell_far (p := ⟨gb332, _, none⟩) NB318_332.out _).trans (hHeld.2.2.2.2.2.2.2))))))))⟩ (fun hHeld => ?_)
     clear hK K
     refine done_ (done_of HT_.out (by kernel_rfl)) ?_
     try go_wp2
     have n0_ : Aside0 (((((w30.setCell ⟨gb332, 0, none⟩ (.int .i64 t328)).setCell ⟨gb332, 1, none⟩ (.bool t329)).setCell ⟨gb332, 2, none⟩ (.int .u64 t330)).setCell ⟨gb332, 3, none⟩ (.int .i64 t331)).heap[gb317]? = some (.cells #[.int .i64 a0_0, .bool a0_1, .int .u64 a0_2, .int .i64 a0_3] 24 (0, 0))) := ⟨by refine kb_ ?_; refine bf_ NB317_332 ?_; refine bf_ NB317_332 ?_; refine bf_ NB317_332 ?_; refine bf_ NB317_332 ?_; exact BK317.out⟩
     have n1_ : Aside0 (((((w30.setCell ⟨gb332, 0, none⟩ (.int .i64 t328)).setCell ⟨gb332, 1, none⟩ (.bool t329)).setCell ⟨gb332, 2, none⟩ (.int .u64 t330)).setCell ⟨gb332, 3, none⟩ (.int .i64 t331)).heap[gb318]? = some (.cells #[.int .i64 a1_0, .bool a1_1, .int .u64 a1_2, .int .i64 a1_3] 24 (0, 0))) := ⟨by refine kb_ ?_; refine bf_ NB318_332 ?_; refine bf_ NB318_332 ?_; refine bf_ NB318_332 ?_; refine bf_ NB318_332 ?_; exact BK318.out⟩
     have n2_ : Aside0 (((((w30.setCell ⟨gb332, 0, none⟩ (.int .i64 t328)).setCell ⟨gb332, 1, none⟩ (.bool t329)).setCell ⟨gb332, 2, none⟩ (.int .u64 t330)).setCell ⟨gb332, 3, none⟩ (.int .i64 t331)).heap[gb332]? = some (.cells #[.int .i64 t328, .bool t329, .int .u64 t330, .int .i64 t331] 24 (0, 0))) := ⟨by refine kb_ ?_; refine bp_ #[.int .i64 t328, .bool t329, .int .u64 t330, .int .i64 0] 3 ?_; refine bp_ #[.int .i64 t328, .bool t329, .int .u64 0, .int .i64 0] 2 ?_; refine bp_ #[.int .i64 t328, .bool false, .int .u64 0, .int .i64 0] 1 ?_; refine bp_ #[.int .i64 0, .bool false, .int .u64 0, .int .i64 0] 0 ?_; exact BK332.out⟩
     have n3_ : Aside0 (Below w.heap.size w ((((w30.setCell ⟨gb332, 0, none⟩ (.int .i64 t328)).setCell ⟨gb332, 1, none⟩ (.bool t329)).setCell ⟨gb332, 2, none⟩ (.int .u64 t330)).setCell ⟨gb332, 3, none⟩ (.int .i64 t331))) := ⟨bw_ HB.out⟩
     (try clear BK317)
     (try clear BK318)
     (try clear BK332)
     (try clear HB)
     generalize ((((w30.setCell ⟨gb332, 0, none⟩ (.int .i64 t328)).setCell ⟨gb332, 1, none⟩ (.bool t329)).setCell ⟨gb332, 2, none⟩ (.int .u64 t330)).setCell ⟨gb332, 3, none⟩ (.int .i64 t331)) = w35 at n0_ n1_ n2_ n3_ ⊢
     have BK317 := n0_
     have BK318 := n1_
     have BK332 := n2_
     have HB := n3_
     clear n0_ n1_ n2_ n3_
     have n0_ := Aside0.mk (blk_drew BK317.out)
     have n1_ := Aside0.mk (blk_drew BK318.out)
     have n2_ := Aside0.mk (blk_drew BK332.out)
     have n3_ := Aside0.mk (below_drew1 HB.out)
     clear BK317
     clear BK318
     clear BK332
     clear HB
     have BK317 := n0_
     have BK318 := n1_
     have BK332 := n2_
     have HB := n3_
     clear n0_ n1_ n2_ n3_
     refine start_ (n := 8) (S := fun w' => w'.cell? ⟨gb317, 0, none⟩ = some (.int .i64 a0_0) ∧ w'.cell? ⟨gb317, 1, none⟩ = some (.bool a0_1) ∧ w'.cell? ⟨gb317, 2, none⟩ = some (.int .u64 a0_2) ∧ w'.cell? ⟨gb317, 3, none⟩ = some (.int .i64 a0_3) ∧ w'.cell? ⟨gb318, 0, none⟩ = some (.int .i64 a1_0) ∧ w'.cell? ⟨gb318, 1, none⟩ = some (.bool a1_1) ∧ w'.cell? ⟨gb318, 2, none⟩ = some (.int .u64 a1_2) ∧ w'.cell? ⟨gb318, 3, none⟩ = some (.int .i64 a1_3)) (ds := []) #[false, false, false, false, false, false, false, false] (by kernel_rfl) rfl rfl ⟨(blk_cell BK317.out 0).trans rfl, (blk_cell BK317.out 1).trans rfl, (blk_cell BK317.out 2).trans rfl, (blk_cell BK317.out 3).trans rfl, (blk_cell BK318.out 0).trans rfl, (blk_cell BK318.out 1).trans rfl, (blk_cell BK318.out 2).trans rfl, (blk_cell BK318.out 3).trans rfl⟩ (fun hHeld => ?_); refine with_tabW peloruslaw06_ArithTurns.tab3 peloruslaw06_ArithTurns.bits3 (fun HT_ HW_ => ?_)
     generalize w35.drew = w36 at BK317 BK318 BK332 HB hHeld ⊢
     refine pure_ (i := 3) (N := some 21) (v := ?_) (a' := ?_) #[false, false, false, true, false, false, false, false] rfl rfl (any_of HT_.out (by kernel_rfl)) (fun _ _ _ h => h) (Or.inl ⟨by rfl, ?_⟩) ?_ ?_
     rotate_left
     ·intro w'
      go_simp
      with_reducible rfl
     rotate_left
     ·simp only [Act.put, List.setIfInBounds_toArray, List.set_cons_zero, List.set_cons_succ, i64_w, i32_w]
      rfl
     refine pure_ (i := 4) (N := some 22) (v := ?_) (a' := ?_) #[false, false, false, true, true, false, false, false] rfl rfl (any_of HT_.out (by kernel_rfl)) (fun _ _ _ h => h) (Or.inl ⟨by rfl, ?_⟩) ?_ ?_
     rotate_left
     ·intro w'
      go_simp
      with_reducible rfl
     rotate_left
     ·simp only [Act.put, List.setIfInBounds_toArray, List.set_cons_zero, List.set_cons_succ, i64_w, i32_w]
      rfl
     refine take_ (i := 0) (N := some 18) (v := ?_) (a' := ?_) #[true, false, false, true, true, false, false, false] rfl rfl (take_ofW HT_.out HW_.out (by kernel_rfl)) (fun _ _ _ h => h) (Or.inl ⟨by rfl, ?_⟩) hHeld ?_ ?_
     rotate_left
     ·rintro w' ⟨s0, s1, s2, s3, s4, s5, s6, s7⟩
      go_simp
      with_reducible rfl
     rotate_left
     ·simp only [Act.put, List.setIfInBounds_toArray, List.set_cons_zero, List.set_cons_succ, i64_w, i32_w]
      rfl
     refine take_ (i := 2) (N := some 20) (v := ?_) (a' := ?_) #[true, false, true, true, true, false, false, false] rfl rfl (take_ofW HT_.out HW_.out (by kernel_rfl)) (fun _ _ _ h => h) (Or.inl ⟨by rfl, ?_⟩) hHeld ?_ ?_
     rotate_left
     ·rintro w' ⟨s0, s1, s2, s3, s4, s5, s6, s7⟩
      go_simp
      with_reducible rfl
     rotate_left
     ·simp only [Act.put, List.setIfInBounds_toArray, List.set_cons_zero, List.set_cons_succ, i64_w, i32_w]
      rfl
     refine join_ (σ := Nat) 1 #[true, true, true, true, true, true, true, false] (fun s_ => [(19, .agg #[.int .i64 t333, .bool t334, .int .u64 t335, .int .i64 t336]), (23, .agg #[.int .i64 t337, .bool t338, .int .u64 t339, .int .i64 t340]), (9, .pointer (some ⟨s_, 0, none⟩))]) (fun s_ w' => (w'.cell? ⟨gb317, 0, none⟩ = some (.int .i64 a0_0) ∧ w'.cell? ⟨gb317, 1, none⟩ = some (.bool a0_1) ∧ w'.cell? ⟨gb317, 2, none⟩ = some (.int .u64 a0_2) ∧ w'.cell? ⟨gb317, 3, none⟩ = some (.int .i64 a0_3) ∧ w'.cell? ⟨gb318, 0, none⟩ = some (.int .i64 a1_0) ∧ w'.cell? ⟨gb318, 1, none⟩ = some (.bool a1_1) ∧ w'.cell? ⟨gb318, 2, none⟩ = some (.int .u64 a1_2) ∧ w'.cell? ⟨gb318, 3, none⟩ = some (.int .i64 a1_3)) ∧ (w'.heap[gb317]? = some (.cells #[.int .i64 a0_0, .bool a0_1, .int .u64 a0_2, .int .i64 a0_3] 24 (0, 0))) ∧ (w'.heap[gb318]? = some (.cells #[.int .i64 a1_0, .bool a1_1, .int .u64 a1_2, .int .i64 a1_3] 24 (0, 0))) ∧ (w'.heap[gb332]? = some (.cells #[.int .i64 t328, .bool t329, .int .u64 t330, .int .i64 t331] 24 (0, 0))) ∧ (w'.heap[s_]? = some (.cells #[.int .i64 0, .bool false, .int .u64 0, .int .i64 0] 24 (0, 0))) ∧ (w.heap.size ≤ s_) ∧ (w.heap.size ≤ s_) ∧ (gb317 ≠ s_) ∧ (s_ ≠ gb317) ∧ (gb318 ≠ s_) ∧ (s_ ≠ gb318) ∧ (gb332 ≠ s_) ∧ (s_ ≠ gb332) ∧ (Below w.heap.size w w')) ?_ ?_
     rotate_left
     ·intro hCont
      refine two_ (i := 1) (j := 6) (Ni := some 19) (Nj := some 9) #[true, true, true, true, true, false, false, false] #[true, false, true, true, true, false, true, false] rfl rfl rfl rfl (two_of HT_.out (by kernel_rfl)) (by decide) (by decide) (fun K hK => ?_) (fun K hK => ?_)
      ·skip
       refine gs_ Try.func12 #[.agg #[.int .i64 a0_0, .bool a0_1, .int .u64 a0_2, .int .i64 a0_3]] ?_
       with_reducible refine (num_Neg.calls a0_0 a0_1 a0_2 a0_3 t333 t334 t335 t336 _ A8.out).mono ?_
       rintro e w37 ⟨rfl, hb⟩
       refine ⟨_, rfl, ?_⟩
       have n0_ := kq_ BK317 hb
       have n1_ := kq_ BK318 hb
       have n2_ := kq_ BK332 hb
       have n3_ := bq_ HB hb
       clear BK317
       clear BK318
       clear BK332
       clear HB
       have BK317 := n0_
       have BK318 := n1_
       have BK332 := n2_
       have HB := n3_
       clear n0_ n1_ n2_ n3_
       (try clear hb)
       (try clear hb2)
       (try clear hk)
       (try clear hi)
       refine hK.out _ _ ⟨(blk_cell BK317.out 0).trans rfl, (blk_cell BK317.out 1).trans rfl, (blk_cell BK317.out 2).trans rfl, (blk_cell BK317.out 3).trans rfl, (blk_cell BK318.out 0).trans rfl, (blk_cell BK318.out 1).trans rfl, (blk_cell BK318.out 2).trans rfl, (blk_cell BK318.out 3).trans rfl⟩ (fun hHeld => ?_)
       clear hK K
       refine norm_ (a' := ?_) ?_ ?_
       rotate_left
       ·show Act.put _ (some 19) _ = _
        simp only [Act.put, List.setIfInBounds_toArray, List.set_cons_zero, List.set_cons_succ, i64_w, i32_w]
        rfl
       refine two_ (i := 5) (j := 6) (Ni := some 23) (Nj := some 9) #[true, true, true, true, true, true, false, false] #[true, true, true, true, true, false, true, false] rfl rfl rfl rfl (two_of HT_.out (by kernel_rfl)) (by decide) (by decide) (fun K hK => ?_) (fun K hK => ?_)
       ·skip
        refine gs_ Try.func13 #[.agg #[.int .i64 t333, .bool t334, .int .u64 t335, .int .i64 t336], .agg #[.int .i64 a1_0, .bool a1_1, .int .u64 a1_2, .int .i64 a1_3], .bool (!a2)] ?_
        with_reducible refine (arith_Mul.calls k t333 t334 t335 t336 a1_0 a1_1 a1_2 a1_3 (!a2) t337 t338 t339 t340 _ A9.out).mono ?_
        rintro e w38 ⟨rfl, hb⟩
        refine ⟨_, rfl, ?_⟩
        have n0_ := kq_ BK317 hb
        have n1_ := kq_ BK318 hb
        have n2_ := kq_ BK332 hb
        have n3_ := bq_ HB hb
        clear BK317
        clear BK318
        clear BK332
        clear HB
        have BK317 := n0_
        have BK318 := n1_
        have BK332 := n2_
        have HB := n3_
        clear n0_ n1_ n2_ n3_
        (try clear hb)
        (try clear hb2)
        (try clear hk)
        (try clear hi)
        refine hK.out _ _ ⟨(blk_cell BK317.out 0).trans rfl, (blk_cell BK317.out 1).trans rfl, (blk_cell BK317.out 2).trans rfl, (blk_cell BK317.out 3).trans rfl, (blk_cell BK318.out 0).trans rfl, (blk_cell BK318.out 1).trans rfl, (blk_cell BK318.out 2).trans rfl, (blk_cell BK318.out 3).trans rfl⟩ (fun hHeld => ?_)
        clear hK K
        refine norm_ (a' := ?_) ?_ ?_
        rotate_left
        ·show Act.put _ (some 23) _ = _
         simp only [Act.put, List.setIfInBounds_toArray, List.set_cons_zero, List.set_cons_succ, i64_w, i32_w]
         rfl
        refine one_ (i := 6) (N := some 9) #[true, true, true, true, true, true, true, false] rfl rfl (one_of HT_.out (by kernel_rfl)) (by decide) (fun K hK => ?_)
        refine box_step ?hg (N := 9) ?hd (cs := #[.int .i64 0, .bool false, .int .u64 0, .int .i64 0]) (t := 24) ?hr ?_; (case hd => rfl); (case hg => rfl); (case hr => first | (go_simp; done) | (go_simp; rfl))
        intro gb341 hg w39 hbox hb
        have n0_ := kq_ BK317 hb
        have n1_ := kq_ BK318 hb
        have n2_ := kq_ BK332 hb
        have n3_ := bq_ HB hb
        have n4_ := Aside0.mk (hbox)
        have n5_ := ge_ hg HB
        have n6_ := ge_ hg HB
        have n7_ := nb_ hg BK317
        have n8_ := nc_ hg BK317
        have n9_ := nb_ hg BK318
        have n10_ := nc_ hg BK318
        have n11_ := nb_ hg BK332
        have n12_ := nc_ hg BK332
        clear BK317
        clear BK318
        clear BK332
        clear HB
        have BK317 := n0_
        have BK318 := n1_
        have BK332 := n2_
        have HB := n3_
        have BK341 := n4_
        have GW341 := n5_
        have GE341 := n6_
        have NB317_341 := n7_
        have NB341_317 := n8_
        have NB318_341 := n9_
        have NB341_318 := n10_
        have NB332_341 := n11_
        have NB341_332 := n12_
        clear n0_ n1_ n2_ n3_ n4_ n5_ n6_ n7_ n8_ n9_ n10_ n11_ n12_
        clear hb hbox hg
        refine hK.out _ _ ⟨(blk_cell BK317.out 0).trans rfl, (blk_cell BK317.out 1).trans rfl, (blk_cell BK317.out 2).trans rfl, (blk_cell BK317.out 3).trans rfl, (blk_cell BK318.out 0).trans rfl, (blk_cell BK318.out 1).trans rfl, (blk_cell BK318.out 2).trans rfl, (blk_cell BK318.out 3).trans rfl⟩ (fun hHeld => ?_)
        clear hK K
        refine norm_ (a' := ?_) ?_ ?_
        rotate_left
        ·show Act.put _ (some 9) _ = _
         simp only [Act.put, List.setIfInBounds_toArray, List.set_cons_zero, List.set_cons_succ, i64_w, i32_w]
         rfl
        exact norm_ (by simp only [putAll, Act.put, List.setIfInBounds_toArray, List.set_cons_zero, List.set_cons_succ]) (hCont (gb341) _ ⟨hHeld, (kb_ BK317.out), (kb_ BK318.out), (kb_ BK332.out), (kb_ BK341.out), GW341.out, GE341.out, NB317_341.out, NB341_317.out, NB318_341.out, NB341_318.out, NB332_341.out, NB341_332.out, (bw_ HB.out)⟩)
       ·skip
        refine box_step ?hg (N := 9) ?hd (cs := #[.int .i64 0, .bool false, .int .u64 0, .int .i64 0]) (t := 24) ?hr ?_; (case hd => rfl); (case hg => rfl); (case hr => first | (go_simp; done) | (go_simp; rfl))
        intro gb341 hg w38 hbox hb
        have n0_ := kq_ BK317 hb
        have n1_ := kq_ BK318 hb
        have n2_ := kq_ BK332 hb
        have n3_ := bq_ HB hb
        have n4_ := Aside0.mk (hbox)
        have n5_ := ge_ hg HB
        have n6_ := ge_ hg HB
        have n7_ := nb_ hg BK317
        have n8_ := nc_ hg BK317
        have n9_ := nb_ hg BK318
        have n10_ := nc_ hg BK318
        have n11_ := nb_ hg BK332
        have n12_ := nc_ hg BK332
        clear BK317
        clear BK318
        clear BK332
        clear HB
        have BK317 := n0_
        have BK318 := n1_
        have BK332 := n2_
        have HB := n3_
        have BK341 := n4_
        have GW341 := n5_
        have GE341 := n6_
        have NB317_341 := n7_
        have NB341_317 := n8_
        have NB318_341 := n9_
        have NB341_318 := n10_
        have NB332_341 := n11_
        have NB341_332 := n12_
        clear n0_ n1_ n2_ n3_ n4_ n5_ n6_ n7_ n8_ n9_ n10_ n11_ n12_
        clear hb hbox hg
        refine hK.out _ _ ⟨(blk_cell BK317.out 0).trans rfl, (blk_cell BK317.out 1).trans rfl, (blk_cell BK317.out 2).trans rfl, (blk_cell BK317.out 3).trans rfl, (blk_cell BK318.out 0).trans rfl, (blk_cell BK318.out 1).trans rfl, (blk_cell BK318.out 2).trans rfl, (blk_cell BK318.out 3).trans rfl⟩ (fun hHeld => ?_)
        clear hK K
        refine norm_ (a' := ?_) ?_ ?_
        rotate_left
        ·show Act.put _ (some 9) _ = _
         simp only [Act.put, List.setIfInBounds_toArray, List.set_cons_zero, List.set_cons_succ, i64_w, i32_w]
         rfl
        refine one_ (i := 5) (N := some 23) #[true, true, true, true, true, true, true, false] rfl rfl (one_of HT_.out (by kernel_rfl)) (by decide) (fun K hK => ?_)
        refine gs_ Try.func13 #[.agg #[.int .i64 t333, .bool t334, .int .u64 t335, .int .i64 t336], .agg #[.int .i64 a1_0, .bool a1_1, .int .u64 a1_2, .int .i64 a1_3], .bool (!a2)] ?_
        with_reducible refine (arith_Mul.calls k t333 t334 t335 t336 a1_0 a1_1 a1_2 a1_3 (!a2) t337 t338 t339 t340 _ A9.out).mono ?_
        rintro e w39 ⟨rfl, hb⟩
        refine ⟨_, rfl, ?_⟩
        have n0_ := kq_ BK317 hb
        have n1_ := kq_ BK318 hb
        have n2_ := kq_ BK332 hb
        have n3_ := kq_ BK341 hb
        have n4_ := bq_ HB hb
        clear BK317
        clear BK318
        clear BK332
        clear BK341
        clear HB
        have BK317 := n0_
        have BK318 := n1_
        have BK332 := n2_
        have BK341 := n3_
        have HB := n4_
        clear n0_ n1_ n2_ n3_ n4_
        (try clear hb)
        (try clear hb2)
        (try clear hk)
        (try clear hi)
        refine hK.out _ _ ⟨(blk_cell BK317.out 0).trans rfl, (blk_cell BK317.out 1).trans rfl, (blk_cell BK317.out 2).trans rfl, (blk_cell BK317.out 3).trans rfl, (blk_cell BK318.out 0).trans rfl, (blk_cell BK318.out 1).trans rfl, (blk_cell BK318.out 2).trans rfl, (blk_cell BK318.out 3).trans rfl⟩ (fun hHeld => ?_)
        clear hK K
        refine norm_ (a' := ?_) ?_ ?_
        rotate_left
        ·show Act.put _ (some 23) _ = _
         simp only [Act.put, List.setIfInBounds_toArray, List.set_cons_zero, List.set_cons_succ, i64_w, i32_w]
         rfl
        exact norm_ (by simp only [putAll, Act.put, List.setIfInBounds_toArray, List.set_cons_zero, List.set_cons_succ]) (hCont (gb341) _ ⟨hHeld, (kb_ BK317.out), (kb_ BK318.out), (kb_ BK332.out), (kb_ BK341.out), GW341.out, GE341.out, NB317_341.out, NB341_317.out, NB318_341.out, NB341_318.out, NB332_341.out, NB341_332.out, (bw_ HB.out)⟩)
      ·skip
       refine box_step ?hg (N := 9) ?hd (cs := #[.int .i64 0, .bool false, .int .u64 0, .int .i64 0]) (t := 24) ?hr ?_; (case hd => rfl); (case hg => rfl); (case hr => first | (go_simp; done) | (go_simp; rfl))
       intro gb341 hg w37 hbox hb
       have n0_ := kq_ BK317 hb
       have n1_ := kq_ BK318 hb
       have n2_ := kq_ BK332 hb
       have n3_ := bq_ HB hb
       have n4_ := Aside0.mk (hbox)
       have n5_ := ge_ hg HB
       have n6_ := ge_ hg HB
       have n7_ := nb_ hg BK317
       have n8_ := nc_ hg BK317
       have n9_ := nb_ hg BK318
       have n10_ := nc_ hg BK318
       have n11_ := nb_ hg BK332
       have n12_ := nc_ hg BK332
       clear BK317
       clear BK318
       clear BK332
       clear HB
       have BK317 := n0_
       have BK318 := n1_
       have BK332 := n2_
       have HB := n3_
       have BK341 := n4_
       have GW341 := n5_
       have GE341 := n6_
       have NB317_341 := n7_
       have NB341_317 := n8_
       have NB318_341 := n9_
       have NB341_318 := n10_
       have NB332_341 := n11_
       have NB341_332 := n12_
       clear n0_ n1_ n2_ n3_ n4_ n5_ n6_ n7_ n8_ n9_ n10_ n11_ n12_
       clear hb hbox hg
       refine hK.out _ _ ⟨(blk_cell BK317.out 0).trans rfl, (blk_cell BK317.out 1).trans rfl, (blk_cell BK317.out 2).trans rfl, (blk_cell BK317.out 3).trans rfl, (blk_cell BK318.out 0).trans rfl, (blk_cell BK318.out 1).trans rfl, (blk_cell BK318.out 2).trans rfl, (blk_cell BK318.out 3).trans rfl⟩ (fun hHeld => ?_)
       clear hK K
       refine norm_ (a' := ?_) ?_ ?_
       rotate_left
       ·show Act.put _ (some 9) _ = _
        simp only [Act.put, List.setIfInBounds_toArray, List.set_cons_zero, List.set_cons_succ, i64_w, i32_w]
        rfl
       refine one_ (i := 1) (N := some 19) #[true, true, true, true, true, false, true, false] rfl rfl (one_of HT_.out (by kernel_rfl)) (by decide) (fun K hK => ?_)
       refine gs_ Try.func12 #[.agg #[.int .i64 a0_0, .bool a0_1, .int .u64 a0_2, .int .i64 a0_3]] ?_
       with_reducible refine (num_Neg.calls a0_0 a0_1 a0_2 a0_3 t333 t334 t335 t336 _ A8.out).mono ?_
       rintro e w38 ⟨rfl, hb⟩
       refine ⟨_, rfl, ?_⟩
       have n0_ := kq_ BK317 hb
       have n1_ := kq_ BK318 hb
       have n2_ := kq_ BK332 hb
       have n3_ := kq_ BK341 hb
       have n4_ := bq_ HB hb
       clear BK317
       clear BK318
       clear BK332
       clear BK341
       clear HB
       have BK317 := n0_
       have BK318 := n1_
       have BK332 := n2_
       have BK341 := n3_
       have HB := n4_
       clear n0_ n1_ n2_ n3_ n4_
       (try clear hb)
       (try clear hb2)
       (try clear hk)
       (try clear hi)
       refine hK.out _ _ ⟨(blk_cell BK317.out 0).trans rfl, (blk_cell BK317.out 1).trans rfl, (blk_cell BK317.out 2).trans rfl, (blk_cell BK317.out 3).trans rfl, (blk_cell BK318.out 0).trans rfl, (blk_cell BK318.out 1).trans rfl, (blk_cell BK318.out 2).trans rfl, (blk_cell BK318.out 3).trans rfl⟩ (fun hHeld => ?_)
       clear hK K
       refine norm_ (a' := ?_) ?_ ?_
       rotate_left
       ·show Act.put _ (some 19) _ = _
        simp only [Act.put, List.setIfInBounds_toArray, List.set_cons_zero, List.set_cons_succ, i64_w, i32_w]
        rfl
       refine one_ (i := 5) (N := some 23) #[true, true, true, true, true, true, true, false] rfl rfl (one_of HT_.out (by kernel_rfl)) (by decide) (fun K hK => ?_)
       refine gs_ Try.func13 #[.agg #[.int .i64 t333, .bool t334, .int .u64 t335, .int .i64 t336], .agg #[.int .i64 a1_0, .bool a1_1, .int .u64 a1_2, .int .i64 a1_3], .bool (!a2)] ?_
       with_reducible refine (arith_Mul.calls k t333 t334 t335 t336 a1_0 a1_1 a1_2 a1_3 (!a2) t337 t338 t339 t340 _ A9.out).mono ?_
       rintro e w39 ⟨rfl, hb⟩
       refine ⟨_, rfl, ?_⟩
       have n0_ := kq_ BK317 hb
       have n1_ := kq_ BK318 hb
       have n2_ := kq_ BK332 hb
       have n3_ := kq_ BK341 hb
       have n4_ := bq_ HB hb
       clear BK317
       clear BK318
       clear BK332
       clear BK341
       clear HB
       have BK317 := n0_
       have BK318 := n1_
       have BK332 := n2_
       have BK341 := n3_
       have HB := n4_
       clear n0_ n1_ n2_ n3_ n4_
       (try clear hb)
       (try clear hb2)
       (try clear hk)
       (try clear hi)
       refine hK.out _ _ ⟨(blk_cell BK317.out 0).trans rfl, (blk_cell BK317.out 1).trans rfl, (blk_cell BK317.out 2).trans rfl, (blk_cell BK317.out 3).trans rfl, (blk_cell BK318.out 0).trans rfl, (blk_cell BK318.out 1).trans rfl, (blk_cell BK318.out 2).trans rfl, (blk_cell BK318.out 3).trans rfl⟩ (fun hHeld => ?_)
       clear hK K
       refine norm_ (a' := ?_) ?_ ?_
       rotate_left
       ·show Act.put _ (some 23) _ = _
        simp only [Act.put, List.setIfInBounds_toArray, List.set_cons_zero, List.set_cons_succ, i64_w, i32_w]
        rfl
       exact norm_ (by simp only [putAll, Act.put, List.setIfInBounds_toArray, List.set_cons_zero, List.set_cons_succ]) (hCont (gb341) _ ⟨hHeld, (kb_ BK317.out), (kb_ BK318.out), (kb_ BK332.out), (kb_ BK341.out), GW341.out, GE341.out, NB317_341.out, NB341_317.out, NB318_341.out, NB341_318.out, NB332_341.out, NB341_332.out, (bw_ HB.out)⟩)
     rintro gb341 w40 ⟨hS_, h0_, h1_, h2_, h3_, h4_, h5_, h6_, h7_, h8_, h9_, h10_, h11_, h12_⟩
     have n0_ : Aside0 (w40.heap[gb317]? = some (.cells #[.int .i64 a0_0, .bool a0_1, .int .u64 a0_2, .int .i64 a0_3] 24 (0, 0))) := ⟨h0_⟩
     have n1_ : Aside0 (w40.heap[gb318]? = some (.cells #[.int .i64 a1_0, .bool a1_1, .int .u64 a1_2, .int .i64 a1_3] 24 (0, 0))) := ⟨h1_⟩
     have n2_ : Aside0 (w40.heap[gb332]? = some (.cells #[.int .i64 t328, .bool t329, .int .u64 t330, .int .i64 t331] 24 (0, 0))) := ⟨h2_⟩
     have n3_ : Aside0 (w40.heap[gb341]? = some (.cells #[.int .i64 0, .bool false, .int .u64 0, .int .i64 0] 24 (0, 0))) := ⟨h3_⟩
     have n4_ : Aside0 (w.heap.size ≤ gb341) := ⟨h4_⟩
     have n5_ : Aside0 (w.heap.size ≤ gb341) := ⟨h5_⟩
     have n6_ : Aside0 (gb317 ≠ gb341) := ⟨h6_⟩
     have n7_ : Aside0 (gb341 ≠ gb317) := ⟨h7_⟩
     have n8_ : Aside0 (gb318 ≠ gb341) := ⟨h8_⟩
     have n9_ : Aside0 (gb341 ≠ gb318) := ⟨h9_⟩
     have n10_ : Aside0 (gb332 ≠ gb341) := ⟨h10_⟩
     have n11_ : Aside0 (gb341 ≠ gb332) := ⟨h11_⟩
     have n12_ : Aside0 (Below w.heap.size w w40) := ⟨h12_⟩
     clear BK317
     clear BK318
     clear BK332
     clear HB
     clear h0_ h1_ h2_ h3_ h4_ h5_ h6_ h7_ h8_ h9_ h10_ h11_ h12_
     have BK317 := n0_
     have BK318 := n1_
     have BK332 := n2_
     have BK341 := n3_
     have GW341 := n4_
     have GE341 := n5_
     have NB317_341 := n6_
     have NB341_317 := n7_
     have NB318_341 := n8_
     have NB341_318 := n9_
     have NB332_341 := n10_
     have NB341_332 := n11_
     have HB := n12_
     clear n0_ n1_ n2_ n3_ n4_ n5_ n6_ n7_ n8_ n9_ n10_ n11_ n12_
     have hHeld : w40.cell? ⟨gb317, 0, none⟩ = some (.int .i64 a0_0) ∧ w40.cell? ⟨gb317, 1, none⟩ = some (.bool a0_1) ∧ w40.cell? ⟨gb317, 2, none⟩ = some (.int .u64 a0_2) ∧ w40.cell? ⟨gb317, 3, none⟩ = some (.int .i64 a0_3) ∧ w40.cell? ⟨gb318, 0, none⟩ = some (.int .i64 a1_0) ∧ w40.cell? ⟨gb318, 1, none⟩ = some (.bool a1_1) ∧ w40.cell? ⟨gb318, 2, none⟩ = some (.int .u64 a1_2) ∧ w40.cell? ⟨gb318, 3, none⟩ = some (.int .i64 a1_3) := hS_
     refine norm_ (a' := ?_) ?_ ?_
     rotate_left
     ·simp only [putAll, Act.put, List.setIfInBounds_toArray, List.set_cons_zero, List.set_cons_succ]
      rfl
     refine one_ (i := 7) (N := none) #[true, true, true, true, true, true, true, true] rfl rfl (one_of HT_.out (by kernel_rfl)) (by decide) (fun K hK => ?_)
     have hs41 : w40.cell? ⟨gb341, 0, none⟩ = some (.int .i64 0) := (blk_cell BK341.out 0).trans rfl
     have hfs41 := fz_ BK341 0
     have hns41_0 := NB317_341.out
     have hns41_1 := NB318_341.out
     have hns41_2 := NB332_341.out
     have hms41_0 := NB341_317.out
     have hms41_1 := NB341_318.out
     have hms41_2 := NB341_332.out
     have hs42 : w40.cell? ⟨gb341, 1, none⟩ = some (.bool false) := (blk_cell BK341.out 1).trans rfl
     have hfs42 := fz_ BK341 1
     have hns42_0 := NB317_341.out
     have hns42_1 := NB318_341.out
     have hns42_2 := NB332_341.out
     have hms42_0 := NB341_317.out
     have hms42_1 := NB341_318.out
     have hms42_2 := NB341_332.out
     have hs43 : w40.cell? ⟨gb341, 2, none⟩ = some (.int .u64 0) := (blk_cell BK341.out 2).trans rfl
     have hfs43 := fz_ BK341 2
     have hns43_0 := NB317_341.out
     have hns43_1 := NB318_341.out
     have hns43_2 := NB332_341.out
     have hms43_0 := NB341_317.out
     have hms43_1 := NB341_318.out
     have hms43_2 := NB341_332.out
     have hs44 : w40.cell? ⟨gb341, 3, none⟩ = some (.int .i64 0) := (blk_cell BK341.out 3).trans rfl
     have hfs44 := fz_ BK341 3
     have hns44_0 := NB317_341.out
     have hns44_1 := NB318_341.out
     have hns44_2 := NB332_341.out
     have hms44_0 := NB341_317.out
     have hms44_1 := NB341_318.out
     have hms44_2 := NB341_332.out
     refine skip_ (w1 := ?_) (by rfl) rfl ?_ ?_
     rotate_left
     ·go_simp
      rfl
     refine hK.out _ _ ⟨((cell_far (p := ⟨gb341, _, none⟩) NB317_341.out _).trans (((cell_far (p := ⟨gb341, _, none⟩) NB317_341.out _).trans (((cell_far (p := ⟨gb341, _, none⟩) NB317_341.out _).trans (((cell_far (p := ⟨gb341, _, none⟩) NB317_341.out _).trans (hHeld.1)))))))), ((cell_far (p := ⟨gb341, _, none⟩) NB317_341.out _).trans (((cell_far (p := ⟨gb341, _, none⟩) NB317_341.out _).trans (((cell_far (p := ⟨gb341, _, none⟩) NB317_341.out _).trans (((cell_far (p := ⟨gb341, _, none⟩) NB317_341.out _).trans (hHeld.2.1)))))))), ((cell_far (p := ⟨gb341, _, none⟩) NB317_341.out _).trans (((cell_far (p := ⟨gb341, _, none⟩) NB317_341.out _).trans (((cell_far (p := ⟨gb341, _, none⟩) NB317_341.out _).trans (((cell_far (p := ⟨gb341, _, none⟩) NB317_341.out _).trans (hHeld.2.2.1)))))))), ((cell_far (p := ⟨gb341, _, none⟩) NB317_341.out _).trans (((cell_far (p := ⟨gb341, _, none⟩) NB317_341.out _).trans (((cell_far (p := ⟨gb341, _, none⟩) NB317_341.out _).trans (((cell_far (p := ⟨gb341, _, none⟩) NB317_341.out _).trans (hHeld.2.2.2.1)))))))), ((cell_far (p := ⟨gb341, _, none⟩) NB318_341.out _).trans (((cell_far (p := ⟨gb341, _, none⟩) NB318_341.out _).trans (((cell_far (p := ⟨gb341, _, none⟩) NB318_341.out _).trans (((cell_far (p := ⟨gb341, _, none⟩) NB318_341.out _).trans (hHeld.2.2.2.2.1)))))))), ((cell_far (p := ⟨gb341, _, none⟩) NB318_341.out _).trans (((cell_far (p := ⟨gb341, _, none⟩) NB318_341.out _).trans (((cell_far (p := ⟨gb341, _, none⟩) NB318_341.out _).trans (((cell_far (p := ⟨gb341, _, none⟩) NB318_341.out _).trans (hHeld.2.2.2.2.2.1)))))))), ((cell_far (p := ⟨gb341, _, none⟩) NB318_341.out _).trans (((cell_far (p := ⟨gb341, _, none⟩) NB318_341.out _).trans (((cell_far (p := ⟨gb341, _, none⟩) NB318_341.out _).trans (((cell_far (p := ⟨gb341, _, none⟩) NB318_341.out _).trans (hHeld.2.2.2.2.2.2.1)))))))), ((cell_far (p := ⟨gb341, _, none⟩) NB318_341.out _).trans (((cell_far (p := ⟨gb341, _, none⟩) NB318_341.out _).trans (((cell_far (p := ⟨gb341, _, none⟩) NB318_341.out _).trans (((cell_far (p := ⟨gb341, _, none⟩) NB318_341.out _).trans (hHeld.2.2.2.2.2.2.2))))))))⟩ (fun hHeld => ?_)
     clear hK K
     refine done_ (done_of HT_.out (by kernel_rfl)) ?_
     try go_wp2
     have n0_ : Aside0 (((((w40.setCell ⟨gb341, 0, none⟩ (.int .i64 t337)).setCell ⟨gb341, 1, none⟩ (.bool t338)).setCell ⟨gb341, 2, none⟩ (.int .u64 t339)).setCell ⟨gb341, 3, none⟩ (.int .i64 t340)).heap[gb317]? = some (.cells #[.int .i64 a0_0, .bool a0_1, .int .u64 a0_2, .int .i64 a0_3] 24 (0, 0))) := ⟨by refine kb_ ?_; refine bf_ NB317_341 ?_; refine bf_ NB317_341 ?_; refine bf_ NB317_341 ?_; refine bf_ NB317_341 ?_; exact BK317.out⟩
     have n1_ : Aside0 (((((w40.setCell ⟨gb341, 0, none⟩ (.int .i64 t337)).setCell ⟨gb341, 1, none⟩ (.bool t338)).setCell ⟨gb341, 2, none⟩ (.int .u64 t339)).setCell ⟨gb341, 3, none⟩ (.int .i64 t340)).heap[gb318]? = some (.cells #[.int .i64 a1_0, .bool a1_1, .int .u64 a1_2, .int .i64 a1_3] 24 (0, 0))) := ⟨by refine kb_ ?_; refine bf_ NB318_341 ?_; refine bf_ NB318_341 ?_; refine bf_ NB318_341 ?_; refine bf_ NB318_341 ?_; exact BK318.out⟩
     have n2_ : Aside0 (((((w40.setCell ⟨gb341, 0, none⟩ (.int .i64 t337)).setCell ⟨gb341, 1, none⟩ (.bool t338)).setCell ⟨gb341, 2, none⟩ (.int .u64 t339)).setCell ⟨gb341, 3, none⟩ (.int .i64 t340)).heap[gb332]? = some (.cells #[.int .i64 t328, .bool t329, .int .u64 t330, .int .i64 t331] 24 (0, 0))) := ⟨by refine kb_ ?_; refine bf_ NB332_341 ?_; refine bf_ NB332_341 ?_; refine bf_ NB332_341 ?_; refine bf_ NB332_341 ?_; exact BK332.out⟩
     have n3_ : Aside0 (((((w40.setCell ⟨gb341, 0, none⟩ (.int .i64 t337)).setCell ⟨gb341, 1, none⟩ (.bool t338)).setCell ⟨gb341, 2, none⟩ (.int .u64 t339)).setCell ⟨gb341, 3, none⟩ (.int .i64 t340)).heap[gb341]? = some (.cells #[.int .i64 t337, .bool t338, .int .u64 t339, .int .i64 t340] 24 (0, 0))) := ⟨by refine kb_ ?_; refine bp_ #[.int .i64 t337, .bool t338, .int .u64 t339, .int .i64 0] 3 ?_; refine bp_ #[.int .i64 t337, .bool t338, .int .u64 0, .int .i64 0] 2 ?_; refine bp_ #[.int .i64 t337, .bool false, .int .u64 0, .int .i64 0] 1 ?_; refine bp_ #[.int .i64 0, .bool false, .int .u64 0, .int .i64 0] 0 ?_; exact BK341.out⟩
     have n4_ : Aside0 (Below w.heap.size w ((((w40.setCell ⟨gb341, 0, none⟩ (.int .i64 t337)).setCell ⟨gb341, 1, none⟩ (.bool t338)).setCell ⟨gb341, 2, none⟩ (.int .u64 t339)).setCell ⟨gb341, 3, none⟩ (.int .i64 t340))) := ⟨bw_ HB.out⟩
     (try clear BK317)
     (try clear BK318)
     (try clear BK332)
     (try clear BK341)
     (try clear HB)
     generalize ((((w40.setCell ⟨gb341, 0, none⟩ (.int .i64 t337)).setCell ⟨gb341, 1, none⟩ (.bool t338)).setCell ⟨gb341, 2, none⟩ (.int .u64 t339)).setCell ⟨gb341, 3, none⟩ (.int .i64 t340)) = w45 at n0_ n1_ n2_ n3_ n4_ ⊢
     have BK317 := n0_
     have BK318 := n1_
     have BK332 := n2_
     have BK341 := n3_
     have HB := n4_
     clear n0_ n1_ n2_ n3_ n4_
     have n0_ := Aside0.mk (blk_drew BK317.out)
     have n1_ := Aside0.mk (blk_drew BK318.out)
     have n2_ := Aside0.mk (blk_drew BK332.out)
     have n3_ := Aside0.mk (blk_drew BK341.out)
     have n4_ := Aside0.mk (below_drew1 HB.out)
     clear BK317
     clear BK318
     clear BK332
     clear BK341
     clear HB
     have BK317 := n0_
     have BK318 := n1_
     have BK332 := n2_
     have BK341 := n3_
     have HB := n4_
     clear n0_ n1_ n2_ n3_ n4_
     refine start_ (n := 42) (S := fun w' => w'.cell? ⟨gb317, 0, none⟩ = some (.int .i64 a0_0) ∧ w'.cell? ⟨gb317, 1, none⟩ = some (.bool a0_1) ∧ w'.cell? ⟨gb317, 2, none⟩ = some (.int .u64 a0_2) ∧ w'.cell? ⟨gb317, 3, none⟩ = some (.int .i64 a0_3) ∧ w'.cell? ⟨gb318, 0, none⟩ = some (.int .i64 a1_0) ∧ w'.cell? ⟨gb318, 1, none⟩ = some (.bool a1_1) ∧ w'.cell? ⟨gb318, 2, none⟩ = some (.int .u64 a1_2) ∧ w'.cell? ⟨gb318, 3, none⟩ = some (.int .i64 a1_3) ∧ w'.cell? ⟨gb332, 0, none⟩ = some (.int .i64 t328) ∧ w'.cell? ⟨gb332, 1, none⟩ = some (.bool t329) ∧ w'.cell? ⟨gb332, 2, none⟩ = some (.int .u64 t330) ∧ w'.cell? ⟨gb332, 3, none⟩ = some (.int .i64 t331) ∧ w'.cell? ⟨gb341, 0, none⟩ = some (.int .i64 t337) ∧ w'.cell? ⟨gb341, 1, none⟩ = some (.bool t338) ∧ w'.cell? ⟨gb341, 2, none⟩ = some (.int .u64 t339) ∧ w'.cell? ⟨gb341, 3, none⟩ = some (.int .i64 t340)) (ds := []) #[false, false, false, false, false, false, false, false, false, false, false, false, false, false, false, false, false, false, false, false, false, false, false, false, false, false, false, false, false, false, false, false, false, false, false, false, false, false, false, false, false, false] (by kernel_rfl) rfl rfl ⟨(blk_cell BK317.out 0).trans rfl, (blk_cell BK317.out 1).trans rfl, (blk_cell BK317.out 2).trans rfl, (blk_cell BK317.out 3).trans rfl, (blk_cell BK318.out 0).trans rfl, (blk_cell BK318.out 1).trans rfl, (blk_cell BK318.out 2).trans rfl, (blk_cell BK318.out 3).trans rfl, (blk_cell BK332.out 0).trans rfl, (blk_cell BK332.out 1).trans rfl, (blk_cell BK332.out 2).trans rfl, (blk_cell BK332.out 3).trans rfl, (blk_cell BK341.out 0).trans rfl, (blk_cell BK341.out 1).trans rfl, (blk_cell BK341.out 2).trans rfl, (blk_cell BK341.out 3).trans rfl⟩ (fun hHeld => ?_); refine with_tabW peloruslaw06_ArithTurns.tab4 peloruslaw06_ArithTurns.bits4 (fun HT_ HW_ => ?_)
     generalize w45.drew = w46 at BK317 BK318 BK332 BK341 HB hHeld ⊢
     refine pure_ (i := 0) (N := some 24) (v := ?_) (a' := ?_) #[true, false, false, false, false, false, false, false, false, false, false, false, false, false, false, false, false, false, false, false, false, false, false, false, false, false, false, false, false, false, false, false, false, false, false, false, false, false, false, false, false, false] rfl rfl (any_of HT_.out (by kernel_rfl)) (fun _ _ _ h => h) (Or.inl ⟨by rfl, ?_⟩) ?_ ?_
     rotate_left
     ·intro w'
      go_simp
      with_reducible rfl
     rotate_left
     ·simp only [Act.put, List.setIfInBounds_toArray, List.set_cons_zero, List.set_cons_succ, i64_w, i32_w]
      rfl
     refine pure_ (i := 1) (N := some 25) (v := ?_) (a' := ?_) #[true, true, false, false, false, false, false, false, false, false, false, false, false, false, false, false, false, false, false, false, false, false, false, false, false, false, false, false, false, false, false, false, false, false, false, false, false, false, false, false, false, false] rfl rfl (any_of HT_.out (by kernel_rfl)) (fun _ _ _ h => h) (Or.inl ⟨by rfl, ?_⟩) ?_ ?_
     rotate_left
     ·intro w'
      go_simp
      with_reducible rfl
     rotate_left
     ·simp only [Act.put, List.setIfInBounds_toArray, List.set_cons_zero, List.set_cons_succ, i64_w, i32_w]
      rfl
     refine pure_ (i := 4) (N := some 28) (v := ?_) (a' := ?_) #[true, true, false, false, true, false, false, false, false, false, false, false, false, false, false, false, false, false, false, false, false, false, false, false, false, false, false, false, false, false, false, false, false, false, false, false, false, false, false, false, false, false] rfl rfl (any_of HT_.out (by kernel_rfl)) (fun _ _ _ h => h) (Or.inl ⟨by rfl, ?_⟩) ?_ ?_
     rotate_left
     ·intro w'
      go_simp
      with_reducible rfl
     rotate_left
     ·simp only [Act.put, List.setIfInBounds_toArray, List.set_cons_zero, List.set_cons_succ, i64_w, i32_w]
      rfl
     refine take_ (i := 2) (N := some 26) (v := ?_) (a' := ?_) #[true, true, true, false, true, false, false, false, false, false, false, false, false, false, false, false, false, false, false, false, false, false, false, false, false, false, false, false, false, false, false, false, false, false, false, false, false, false, false, false, false, false] rfl rfl (take_ofW HT_.out HW_.out (by kernel_rfl)) (fun _ _ _ h => h) (Or.inl ⟨by rfl, ?_⟩) hHeld ?_ ?_
     rotate_left
     ·rintro w' ⟨s0, s1, s2, s3, s4, s5, s6, s7, s8, s9, s10, s11, s12, s13, s14, s15⟩
      go_simp
      with_reducible rfl
     rotate_left
     ·simp only [Act.put, List.setIfInBounds_toArray, List.set_cons_zero, List.set_cons_succ, i64_w, i32_w]
      rfl
     refine take_ (i := 3) (N := some 27) (v := ?_) (a' := ?_) #[true, true, true, true, true, false, false, false, false, false, false, false, false, false, false, false, false, false, false, false, false, false, false, false, false, false, false, false, false, false, false, false, false, false, false, false, false, false, false, false, false, false] rfl rfl (take_ofW HT_.out HW_.out (by kernel_rfl)) (fun _ _ _ h => h) (Or.inl ⟨by rfl, ?_⟩) hHeld ?_ ?_
     rotate_left
     ·rintro w' ⟨s0, s1, s2, s3, s4, s5, s6, s7, s8, s9, s10, s11, s12, s13, s14, s15⟩
      go_simp
      with_reducible rfl
     rotate_left
     ·simp only [Act.put, List.setIfInBounds_toArray, List.set_cons_zero, List.set_cons_succ, i64_w, i32_w]
      rfl
     refine take_ (i := 6) (N := some 30) (v := ?_) (a' := ?_) #[true, true, true, true, true, false, true, false, false, false, false, false, false, false, false, false, false, false, false, false, false, false, false, false, false, false, false, false, false, false, false, false, false, false, false, false, false, false, false, false, false, false] rfl rfl (take_ofW HT_.out HW_.out (by kernel_rfl)) (fun _ _ _ h => h) (Or.inl ⟨by rfl, ?_⟩) hHeld ?_ ?_
     rotate_left
     ·rintro w' ⟨s0, s1, s2, s3, s4, s5, s6, s7, s8, s9, s10, s11, s12, s13, s14, s15⟩
      go_simp
      with_reducible rfl
     rotate_left
     ·simp only [Act.put, List.setIfInBounds_toArray, List.set_cons_zero, List.set_cons_succ, i64_w, i32_w]
      rfl
     refine one_ (i := 5) (N := some 29) #[true, true, true, true, true, true, true, false, false, false, false, false, false, false, false, false, false, false, false, false, false, false, false, false, false, false, false, false, false, false, false, false, false, false, false, false, false, false, false, false, false, false] rfl rfl (one_of HT_.out (by kernel_rfl)) (by decide) (fun K hK => ?_)
     refine gs_ Try.func11 #[.agg #[.int .i64 a0_0, .bool a0_1, .int .u64 a0_2, .int .i64 a0_3], .agg #[.int .i64 a1_0, .bool a1_1, .int .u64 a1_2, .int .i64 a1_3], .bool a2] ?_
     with_reducible refine (arith_Add.calls k a0_0 a0_1 a0_2 a0_3 a1_0 a1_1 a1_2 a1_3 a2 t342 t343 t344 t345 _ A11.out).mono ?_
     rintro e w47 ⟨rfl, hb⟩
     refine ⟨_, rfl, ?_⟩
     have n0_ := kq_ BK317 hb
     have n1_ := kq_ BK318 hb
     have n2_ := kq_ BK332 hb
     have n3_ := kq_ BK341 hb
     have n4_ := bq_ HB hb
     clear BK317
     clear BK318
     clear BK332
     clear BK341
     clear HB
     have BK317 := n0_
     have BK318 := n1_
     have BK332 := n2_
     have BK341 := n3_
     have HB := n4_
     clear n0_ n1_ n2_ n3_ n4_
     (try clear hb)
     (try clear hb2)
     (try clear hk)
     (try clear hi)
     refine hK.out _ _ ⟨(blk_cell BK317.out 0).trans rfl, (blk_cell BK317.out 1).trans rfl, (blk_cell BK317.out 2).trans rfl, (blk_cell BK317.out 3).trans rfl, (blk_cell BK318.out 0).trans rfl, (blk_cell BK318.out 1).trans rfl, (blk_cell BK318.out 2).trans rfl, (blk_cell BK318.out 3).trans rfl, (blk_cell BK332.out 0).trans rfl, (blk_cell BK332.out 1).trans rfl, (blk_cell BK332.out 2).trans rfl, (blk_cell BK332.out 3).trans rfl, (blk_cell BK341.out 0).trans rfl, (blk_cell BK341.out 1).trans rfl, (blk_cell BK341.out 2).trans rfl, (blk_cell BK341.out 3).trans rfl⟩ (fun hHeld => ?_)
     clear hK K
     refine norm_ (a' := ?_) ?_ ?_
     rotate_left
     ·show Act.put _ (some 29) _ = _
      simp only [Act.put, List.setIfInBounds_toArray, List.set_cons_zero, List.set_cons_succ, i64_w, i32_w]
      rfl
     refine one_ (i := 7) (N := some 31) #[true, true, true, true, true, true, true, true, false, false, false, false, false, false, false, false, false, false, false, false, false, false, false, false, false, false, false, false, false, false, false, false, false, false, false, false, false, false, false, false, false, false] rfl rfl (one_of HT_.out (by kernel_rfl)) (by decide) (fun K hK => ?_)
     refine gs_ Try.func12 #[.agg #[.int .i64 t328, .bool t329, .int .u64 t330, .int .i64 t331]] ?_
     with_reducible refine (num_Neg.calls t328 t329 t330 t331 t346 t347 t348 t349 _ A12.out).mono ?_
     rintro e w48 ⟨rfl, hb⟩
     refine ⟨_, rfl, ?_⟩
     have n0_ := kq_ BK317 hb
     have n1_ := kq_ BK318 hb
     have n2_ := kq_ BK332 hb
     have n3_ := kq_ BK341 hb
     have n4_ := bq_ HB hb
     clear BK317
     clear BK318
     clear BK332
     clear BK341
     clear HB
     have BK317 := n0_
     have BK318 := n1_
     have BK332 := n2_
     have BK341 := n3_
     have HB := n4_
     clear n0_ n1_ n2_ n3_ n4_
     (try clear hb)
     (try clear hb2)
     (try clear hk)
     (try clear hi)
     refine hK.out _ _ ⟨(blk_cell BK317.out 0).trans rfl, (blk_cell BK317.out 1).trans rfl, (blk_cell BK317.out 2).trans rfl, (blk_cell BK317.out 3).trans rfl, (blk_cell BK318.out 0).trans rfl, (blk_cell BK318.out 1).trans rfl, (blk_cell BK318.out 2).trans rfl, (blk_cell BK318.out 3).trans rfl, (blk_cell BK332.out 0).trans rfl, (blk_cell BK332.out 1).trans rfl, (blk_cell BK332.out 2).trans rfl, (blk_cell BK332.out 3).trans rfl, (blk_cell BK341.out 0).trans rfl, (blk_cell BK341.out 1).trans rfl, (blk_cell BK341.out 2).trans rfl, (blk_cell BK341.out 3).trans rfl⟩ (fun hHeld => ?_)
     clear hK K
     refine norm_ (a' := ?_) ?_ ?_
     rotate_left
     ·show Act.put _ (some 31) _ = _
      simp only [Act.put, List.setIfInBounds_toArray, List.set_cons_zero, List.set_cons_succ, i64_w, i32_w]
      rfl
     refine pure_ (i := 8) (N := some 32) (v := ?_) (a' := ?_) #[true, true, true, true, true, true, true, true, true, false, false, false, false, false, false, false, false, false, false, false, false, false, false, false, false, false, false, false, false, false, false, false, false, false, false, false, false, false, false, false, false, false] rfl rfl (any_of HT_.out (by kernel_rfl)) (fun _ _ _ h => h) (Or.inl ⟨by rfl, ?_⟩) ?_ ?_
     rotate_left
     ·intro w'
      go_simp
      with_reducible rfl
     rotate_left
     ·simp only [Act.put, List.setIfInBounds_toArray, List.set_cons_zero, List.set_cons_succ, i64_w, i32_w]
      rfl
     refine pure_ (i := 9) (N := some 33) (v := ?_) (a' := ?_) #[true, true, true, true, true, true, true, true, true, true, false, false, false, false, false, false, false, false, false, false, false, false, false, false, false, false, false, false, false, false, false, false, false, false, false, false, false, false, false, false, false, false] rfl rfl (any_of HT_.out (by kernel_rfl)) (fun _ _ _ h => h) (Or.inl ⟨by rfl, ?_⟩) ?_ ?_
     rotate_left
     ·intro w'
      go_simp
      with_reducible rfl
     rotate_left
     ·simp only [Act.put, List.setIfInBounds_toArray, List.set_cons_zero, List.set_cons_succ, i64_w, i32_w]
      rfl
     refine pure_ (i := 10) (N := some 34) (v := ?_) (a' := ?_) #[true, true, true, true, true, true, true, true, true, true, true, false, false, false, false, false, false, false, false, false, false, false, false, false, false, false, false, false, false, false, false, false, false, false, false, false, false, false, false, false, false, false] rfl rfl (any_of HT_.out (by kernel_rfl)) (fun _ _ _ h => h) (Or.inl ⟨by rfl, ?_⟩) ?_ ?_
     rotate_left
     ·intro w'
      go_simp
      with_reducible rfl
     rotate_left
     ·simp only [Act.put, List.setIfInBounds_toArray, List.set_cons_zero, List.set_cons_succ, i64_w, i32_w]
      rfl
     refine pure_ (i := 13) (N := some 37) (v := ?_) (a' := ?_) #[true, true, true, true, true, true, true, true, true, true, true, false, false, true, false, false, false, false, false, false, false, false, false, false, false, false, false, false, false, false, false, false, false, false, false, false, false, false, false, false, false, false] rfl rfl (any_of HT_.out (by kernel_rfl)) (fun _ _ _ h => h) (Or.inl ⟨by rfl, ?_⟩) ?_ ?_
     rotate_left
     ·intro w'
      go_simp
      with_reducible rfl
     rotate_left
     ·simp only [Act.put, List.setIfInBounds_toArray, List.set_cons_zero, List.set_cons_succ, i64_w, i32_w]
      rfl
     refine take_ (i := 11) (N := some 35) (v := ?_) (a' := ?_) #[true, true, true, true, true, true, true, true, true, true, true, true, false, true, false, false, false, false, false, false, false, false, false, false, false, false, false, false, false, false, false, false, false, false, false, false, false, false, false, false, false, false] rfl rfl (take_ofW HT_.out HW_.out (by kernel_rfl)) (fun _ _ _ h => h) (Or.inl ⟨by rfl, ?_⟩) hHeld ?_ ?_
     rotate_left
     ·rintro w' ⟨s0, s1, s2, s3, s4, s5, s6, s7, s8, s9, s10, s11, s12, s13, s14, s15⟩
      go_simp
      with_reducible rfl
     rotate_left
     ·simp only [Act.put, List.setIfInBounds_toArray, List.set_cons_zero, List.set_cons_succ, i64_w, i32_w]
      rfl
     refine take_ (i := 12) (N := some 36) (v := ?_) (a' := ?_) #[true, true, true, true, true, true, true, true, true, true, true, true, true, true, false, false, false, false, false, false, false, false, false, false, false, false, false, false, false, false, false, false, false, false, false, false, false, false, false, false, false, false] rfl rfl (take_ofW HT_.out HW_.out (by kernel_rfl)) (fun _ _ _ h => h) (Or.inl ⟨by rfl, ?_⟩) hHeld ?_ ?_
     rotate_left
     ·rintro w' ⟨s0, s1, s2, s3, s4, s5, s6, s7, s8, s9, s10, s11, s12, s13, s14, s15⟩
      go_simp
      with_reducible rfl
     rotate_left
     ·simp only [Act.put, List.setIfInBounds_toArray, List.set_cons_zero, List.set_cons_succ, i64_w, i32_w]
      rfl
     refine take_ (i := 15) (N := some 39) (v := ?_) (a' := ?_) #[true, true, true, true, true, true, true, true, true, true, true, true, true, true, false, true, false, false, false, false, false, false, false, false, false, false, false, false, false, false, false, false, false, false, false, false, false, false, false, false, false, false] rfl rfl (take_ofW HT_.out HW_.out (by kernel_rfl)) (fun _ _ _ h => h) (Or.inl ⟨by rfl, ?_⟩) hHeld ?_ ?_
     rotate_left
     ·rintro w' ⟨s0, s1, s2, s3, s4, s5, s6, s7, s8, s9, s10, s11, s12, s13, s14, s15⟩
      go_simp
      with_reducible rfl
     rotate_left
     ·simp only [Act.put, List.setIfInBounds_toArray, List.set_cons_zero, List.set_cons_succ, i64_w, i32_w]
      rfl
     refine one_ (i := 14) (N := some 38) #[true, true, true, true, true, true, true, true, true, true, true, true, true, true, true, true, false, false, false, false, false, false, false, false, false, false, false, false, false, false, false, false, false, false, false, false, false, false, false, false, false, false] rfl rfl (one_of HT_.out (by kernel_rfl)) (by decide) (fun K hK => ?_)
     refine gs_ Try.func13 #[.agg #[.int .i64 a0_0, .bool a0_1, .int .u64 a0_2, .int .i64 a0_3], .agg #[.int .i64 a1_0, .bool a1_1, .int .u64 a1_2, .int .i64 a1_3], .bool a2] ?_
     with_reducible refine (arith_Mul.calls k a0_0 a0_1 a0_2 a0_3 a1_0 a1_1 a1_2 a1_3 a2 t350 t351 t352 t353 _ A14.out).mono ?_
     rintro e w49 ⟨rfl, hb⟩
     refine ⟨_, rfl, ?_⟩
     have n0_ := kq_ BK317 hb
     have n1_ := kq_ BK318 hb
     have n2_ := kq_ BK332 hb
     have n3_ := kq_ BK341 hb
     have n4_ := bq_ HB hb
     clear BK317
     clear BK318
     clear BK332
     clear BK341
     clear HB
     have BK317 := n0_
     have BK318 := n1_
     have BK332 := n2_
     have BK341 := n3_
     have HB := n4_
     clear n0_ n1_ n2_ n3_ n4_
     (try clear hb)
     (try clear hb2)
     (try clear hk)
     (try clear hi)
     refine hK.out _ _ ⟨(blk_cell BK317.out 0).trans rfl, (blk_cell BK317.out 1).trans rfl, (blk_cell BK317.out 2).trans rfl, (blk_cell BK317.out 3).trans rfl, (blk_cell BK318.out 0).trans rfl, (blk_cell BK318.out 1).trans rfl, (blk_cell BK318.out 2).trans rfl, (blk_cell BK318.out 3).trans rfl, (blk_cell BK332.out 0).trans rfl, (blk_cell BK332.out 1).trans rfl, (blk_cell BK332.out 2).trans rfl, (blk_cell BK332.out 3).trans rfl, (blk_cell BK341.out 0).trans rfl, (blk_cell BK341.out 1).trans rfl, (blk_cell BK341.out 2).trans rfl, (blk_cell BK341.out 3).trans rfl⟩ (fun hHeld => ?_)
     clear hK K
     refine norm_ (a' := ?_) ?_ ?_
     rotate_left
     ·show Act.put _ (some 38) _ = _
      simp only [Act.put, List.setIfInBounds_toArray, List.set_cons_zero, List.set_cons_succ, i64_w, i32_w]
      rfl
     refine one_ (i := 16) (N := some 40) #[true, true, true, true, true, true, true, true, true, true, true, true, true, true, true, true, true, false, false, false, false, false, false, false, false, false, false, false, false, false, false, false, false, false, false, false, false, false, false, false, false, false] rfl rfl (one_of HT_.out (by kernel_rfl)) (by decide) (fun K hK => ?_)
     refine gs_ Try.func12 #[.agg #[.int .i64 t337, .bool t338, .int .u64 t339, .int .i64 t340]] ?_
     with_reducible refine (num_Neg.calls t337 t338 t339 t340 t354 t355 t356 t357 _ A15.out).mono ?_
     rintro e w50 ⟨rfl, hb⟩
     refine ⟨_, rfl, ?_⟩
     have n0_ := kq_ BK317 hb
     have n1_ := kq_ BK318 hb
     have n2_ := kq_ BK332 hb
     have n3_ := kq_ BK341 hb
     have n4_ := bq_ HB hb
     clear BK317
     clear BK318
     clear BK332
     clear BK341
     clear HB
     have BK317 := n0_
     have BK318 := n1_
     have BK332 := n2_
     have BK341 := n3_
     have HB := n4_
     clear n0_ n1_ n2_ n3_ n4_
     (try clear hb)
     (try clear hb2)
     (try clear hk)
     (try clear hi)
     refine hK.out _ _ ⟨(blk_cell BK317.out 0).trans rfl, (blk_cell BK317.out 1).trans rfl, (blk_cell BK317.out 2).trans rfl, (blk_cell BK317.out 3).trans rfl, (blk_cell BK318.out 0).trans rfl, (blk_cell BK318.out 1).trans rfl, (blk_cell BK318.out 2).trans rfl, (blk_cell BK318.out 3).trans rfl, (blk_cell BK332.out 0).trans rfl, (blk_cell BK332.out 1).trans rfl, (blk_cell BK332.out 2).trans rfl, (blk_cell BK332.out 3).trans rfl, (blk_cell BK341.out 0).trans rfl, (blk_cell BK341.out 1).trans rfl, (blk_cell BK341.out 2).trans rfl, (blk_cell BK341.out 3).trans rfl⟩ (fun hHeld => ?_)
     clear hK K
     refine norm_ (a' := ?_) ?_ ?_
     rotate_left
     ·show Act.put _ (some 40) _ = _
      simp only [Act.put, List.setIfInBounds_toArray, List.set_cons_zero, List.set_cons_succ, i64_w, i32_w]
      rfl
     refine pure_ (i := 17) (N := some 41) (v := ?_) (a' := ?_) #[true, true, true, true, true, true, true, true, true, true, true, true, true, true, true, true, true, true, false, false, false, false, false, false, false, false, false, false, false, false, false, false, false, false, false, false, false, false, false, false, false, false] rfl rfl (any_of HT_.out (by kernel_rfl)) (fun _ _ _ h => h) (Or.inl ⟨by rfl, ?_⟩) ?_ ?_
     rotate_left
     ·intro w'
      go_simp
      with_reducible rfl
     rotate_left
     ·simp only [Act.put, List.setIfInBounds_toArray, List.set_cons_zero, List.set_cons_succ, i64_w, i32_w]
      rfl
     refine pure_ (i := 18) (N := some 42) (v := ?_) (a' := ?_) #[true, true, true, true, true, true, true, true, true, true, true, true, true, true, true, true, true, true, true, false, false, false, false, false, false, false, false, false, false, false, false, false, false, false, false, false, false, false, false, false, false, false] rfl rfl (any_of HT_.out (by kernel_rfl)) (fun _ _ _ h => h) (Or.inl ⟨by rfl, ?_⟩) ?_ ?_
     rotate_left
     ·intro w'
      go_simp
      with_reducible rfl
     rotate_left
     ·simp only [Act.put, List.setIfInBounds_toArray, List.set_cons_zero, List.set_cons_succ, i64_w, i32_w]
      rfl
     refine pure_ (i := 19) (N := some 43) (v := ?_) (a' := ?_) #[true, true, true, true, true, true, true, true, true, true, true, true, true, true, true, true, true, true, true, true, false, false, false, false, false, false, false, false, false, false, false, false, false, false, false, false, false, false, false, false, false, false] rfl rfl (any_of HT_.out (by kernel_rfl)) (fun _ _ _ h => h) (Or.inl ⟨by rfl, ?_⟩) ?_ ?_
     rotate_left
     ·intro w'
      go_simp
      with_reducible rfl
     rotate_left
     ·simp only [Act.put, List.setIfInBounds_toArray, List.set_cons_zero, List.set_cons_succ, i64_w, i32_w]
      rfl
     refine pure_ (i := 22) (N := some 46) (v := ?_) (a' := ?_) #[true, true, true, true, true, true, true, true, true, true, true, true, true, true, true, true, true, true, true, true, false, false, true, false, false, false, false, false, false, false, false, false, false, false, false, false, false, false, false, false, false, false] rfl rfl (any_of HT_.out (by kernel_rfl)) (fun _ _ _ h => h) (Or.inl ⟨by rfl, ?_⟩) ?_ ?_
     rotate_left
     ·intro w'
      go_simp
      with_reducible rfl
     rotate_left
     ·simp only [Act.put, List.setIfInBounds_toArray, List.set_cons_zero, List.set_cons_succ, i64_w, i32_w]
      rfl
     refine pure_ (i := 26) (N := some 50) (v := ?_) (a' := ?_) #[true, true, true, true, true, true, true, true, true, true, true, true, true, true, true, true, true, true, true, true, false, false, true, false, false, false, true, false, false, false, false, false, false, false, false, false, false, false, false, false, false, false] rfl rfl (any_of HT_.out (by kernel_rfl)) (fun _ _ _ h => h) (Or.inl ⟨by rfl, ?_⟩) ?_ ?_
     rotate_left
     ·intro w'
      go_simp
      with_reducible rfl
     rotate_left
     ·simp only [Act.put, List.setIfInBounds_toArray, List.set_cons_zero, List.set_cons_succ, i64_w, i32_w]
      rfl
     refine take_ (i := 20) (N := some 44) (v := ?_) (a' := ?_) #[true, true, true, true, true, true, true, true, true, true, true, true, true, true, true, true, true, true, true, true, true, false, true, false, false, false, true, false, false, false, false, false, false, false, false, false, false, false, false, false, false, false] rfl rfl (take_ofW HT_.out HW_.out (by kernel_rfl)) (fun _ _ _ h => h) (Or.inl ⟨by rfl, ?_⟩) hHeld ?_ ?_
     rotate_left
     ·rintro w' ⟨s0, s1, s2, s3, s4, s5, s6, s7, s8, s9, s10, s11, s12, s13, s14, s15⟩
      go_simp
      with_reducible rfl
     rotate_left
     ·simp only [Act.put, List.setIfInBounds_toArray, List.set_cons_zero, List.set_cons_succ, i64_w, i32_w]
      rfl
     refine take_ (i := 21) (N := some 45) (v := ?_) (a' := ?_) #[true, true, true, true, true, true, true, true, true, true, true, true, true, true, true, true, true, true, true, true, true, true, true, false, false, false, true, false, false, false, false, false, false, false, false, false, false, false, false, false, false, false] rfl rfl (take_ofW HT_.out HW_.out (by kernel_rfl)) (fun _ _ _ h => h) (Or.inl ⟨by rfl, ?_⟩) hHeld ?_ ?_
     rotate_left
     ·rintro w' ⟨s0, s1, s2, s3, s4, s5, s6, s7, s8, s9, s10, s11, s12, s13, s14, s15⟩
      go_simp
      with_reducible rfl
     rotate_left
     ·simp only [Act.put, List.setIfInBounds_toArray, List.set_cons_zero, List.set_cons_succ, i64_w, i32_w]
      rfl
     refine take_ (i := 24) (N := some 48) (v := ?_) (a' := ?_) #[true, true, true, true, true, true, true, true, true, true, true, true, true, true, true, true, true, true, true, true, true, true, true, false, true, false, true, false, false, false, false, false, false, false, false, false, false, false, false, false, false, false] rfl rfl (take_ofW HT_.out HW_.out (by kernel_rfl)) (fun _ _ _ h => h) (Or.inl ⟨by rfl, ?_⟩) hHeld ?_ ?_
     rotate_left
     ·rintro w' ⟨s0, s1, s2, s3, s4, s5, s6, s7, s8, s9, s10, s11, s12, s13, s14, s15⟩
      go_simp
      with_reducible rfl
     rotate_left
     ·simp only [Act.put, List.setIfInBounds_toArray, List.set_cons_zero, List.set_cons_succ, i64_w, i32_w]
      rfl
     refine take_ (i := 25) (N := some 49) (v := ?_) (a' := ?_) #[true, true, true, true, true, true, true, true, true, true, true, true, true, true, true, true, true, true, true, true, true, true, true, false, true, true, true, false, false, false, false, false, false, false, false, false, false, false, false, false, false, false] rfl rfl (take_ofW HT_.out HW_.out (by kernel_rfl)) (fun _ _ _ h => h) (Or.inl ⟨by rfl, ?_⟩) hHeld ?_ ?_
     rotate_left
     ·rintro w' ⟨s0, s1, s2, s3, s4, s5, s6, s7, s8, s9, s10, s11, s12, s13, s14, s15⟩
      go_simp
      with_reducible rfl
     rotate_left
     ·simp only [Act.put, List.setIfInBounds_toArray, List.set_cons_zero, List.set_cons_succ, i64_w, i32_w]
      rfl
     refine one_ (i := 23) (N := some 47) #[true, true, true, true, true, true, true, true, true, true, true, true, true, true, true, true, true, true, true, true, true, true, true, true, true, true, true, false, false, false, false, false, false, false, false, false, false, false, false, false, false, false] rfl rfl (one_of HT_.out (by kernel_rfl)) (by decide) (fun K hK => ?_)
     refine gs_ Try.func11 #[.agg #[.int .i64 a0_0, .bool a0_1, .int .u64 a0_2, .int .i64 a0_3], .agg #[.int .i64 a1_0, .bool a1_1, .int .u64 a1_2, .int .i64 a1_3], .bool a2] ?_
     with_reducible refine (arith_Add.calls k a0_0 a0_1 a0_2 a0_3 a1_0 a1_1 a1_2 a1_3 a2 t358 t359 t360 t361 _ A17.out).mono ?_
     rintro e w51 ⟨rfl, hb⟩
     refine ⟨_, rfl, ?_⟩
     have n0_ := kq_ BK317 hb
     have n1_ := kq_ BK318 hb
     have n2_ := kq_ BK332 hb
     have n3_ := kq_ BK341 hb
     have n4_ := bq_ HB hb
     clear BK317
     clear BK318
     clear BK332
     clear BK341
     clear HB
     have BK317 := n0_
     have BK318 := n1_
     have BK332 := n2_
     have BK341 := n3_
     have HB := n4_
     clear n0_ n1_ n2_ n3_ n4_
     (try clear hb)
     (try clear hb2)
     (try clear hk)
     (try clear hi)
     refine hK.out _ _ ⟨(blk_cell BK317.out 0).trans rfl, (blk_cell BK317.out 1).trans rfl, (blk_cell BK317.out 2).trans rfl, (blk_cell BK317.out 3).trans rfl, (blk_cell BK318.out 0).trans rfl, (blk_cell BK318.out 1).trans rfl, (blk_cell BK318.out 2).trans rfl, (blk_cell BK318.out 3).trans rfl, (blk_cell BK332.out 0).trans rfl, (blk_cell BK332.out 1).trans rfl, (blk_cell BK332.out 2).trans rfl, (blk_cell BK332.out 3).trans rfl, (blk_cell BK341.out 0).trans rfl, (blk_cell BK341.out 1).trans rfl, (blk_cell BK341.out 2).trans rfl, (blk_cell BK341.out 3).trans rfl⟩ (fun hHeld => ?_)
     clear hK K
     refine norm_ (a' := ?_) ?_ ?_
     rotate_left
     ·show Act.put _ (some 47) _ = _
      simp only [Act.put, List.setIfInBounds_toArray, List.set_cons_zero, List.set_cons_succ, i64_w, i32_w]
      rfl
     refine one_ (i := 27) (N := some 51) #[true, true, true, true, true, true, true, true, true, true, true, true, true, true, true, true, true, true, true, true, true, true, true, true, true, true, true, true, false, false, false, false, false, false, false, false, false, false, false, false, false, false] rfl rfl (one_of HT_.out (by kernel_rfl)) (by decide) (fun K hK => ?_)
     refine gs_ Try.func11 #[.agg #[.int .i64 a1_0, .bool a1_1, .int .u64 a1_2, .int .i64 a1_3], .agg #[.int .i64 a0_0, .bool a0_1, .int .u64 a0_2, .int .i64 a0_3], .bool a2] ?_
     with_reducible refine (arith_Add.calls k a1_0 a1_1 a1_2 a1_3 a0_0 a0_1 a0_2 a0_3 a2 t362 t363 t364 t365 _ A18.out).mono ?_
     rintro e w52 ⟨rfl, hb⟩
     refine ⟨_, rfl, ?_⟩
     have n0_ := kq_ BK317 hb
     have n1_ := kq_ BK318 hb
     have n2_ := kq_ BK332 hb
     have n3_ := kq_ BK341 hb
     have n4_ := bq_ HB hb
     clear BK317
     clear BK318
     clear BK332
     clear BK341
     clear HB
     have BK317 := n0_
     have BK318 := n1_
     have BK332 := n2_
     have BK341 := n3_
     have HB := n4_
     clear n0_ n1_ n2_ n3_ n4_
     (try clear hb)
     (try clear hb2)
     (try clear hk)
     (try clear hi)
     refine hK.out _ _ ⟨(blk_cell BK317.out 0).trans rfl, (blk_cell BK317.out 1).trans rfl, (blk_cell BK317.out 2).trans rfl, (blk_cell BK317.out 3).trans rfl, (blk_cell BK318.out 0).trans rfl, (blk_cell BK318.out 1).trans rfl, (blk_cell BK318.out 2).trans rfl, (blk_cell BK318.out 3).trans rfl, (blk_cell BK332.out 0).trans rfl, (blk_cell BK332.out 1).trans rfl, (blk_cell BK332.out 2).trans rfl, (blk_cell BK332.out 3).trans rfl, (blk_cell BK341.out 0).trans rfl, (blk_cell BK341.out 1).trans rfl, (blk_cell BK341.out 2).trans rfl, (blk_cell BK341.out 3).trans rfl⟩ (fun hHeld => ?_)
     clear hK K
     refine norm_ (a' := ?_) ?_ ?_
     rotate_left
     ·show Act.put _ (some 51) _ = _
      simp only [Act.put, List.setIfInBounds_toArray, List.set_cons_zero, List.set_cons_succ, i64_w, i32_w]
      rfl
     refine pure_ (i := 28) (N := some 52) (v := ?_) (a' := ?_) #[true, true, true, true, true, true, true, true, true, true, true, true, true, true, true, true, true, true, true, true, true, true, true, true, true, true, true, true, true, false, false, false, false, false, false, false, false, false, false, false, false, false] rfl rfl (any_of HT_.out (by kernel_rfl)) (fun _ _ _ h => h) (Or.inl ⟨by rfl, ?_⟩) ?_ ?_
     rotate_left
     ·intro w'
      go_simp
      with_reducible rfl
     rotate_left
     ·simp only [Act.put, List.setIfInBounds_toArray, List.set_cons_zero, List.set_cons_succ, i64_w, i32_w]
      rfl
     refine pure_ (i := 29) (N := some 53) (v := ?_) (a' := ?_) #[true, true, true, true, true, true, true, true, true, true, true, true, true, true, true, true, true, true, true, true, true, true, true, true, true, true, true, true, true, true, false, false, false, false, false, false, false, false, false, false, false, false] rfl rfl (any_of HT_.out (by kernel_rfl)) (fun _ _ _ h => h) (Or.inl ⟨by rfl, ?_⟩) ?_ ?_
     rotate_left
     ·intro w'
      go_simp
      with_reducible rfl
     rotate_left
     ·simp only [Act.put, List.setIfInBounds_toArray, List.set_cons_zero, List.set_cons_succ, i64_w, i32_w]
      rfl
     refine pure_ (i := 30) (N := some 54) (v := ?_) (a' := ?_) #[true, true, true, true, true, true, true, true, true, true, true, true, true, true, true, true, true, true, true, true, true, true, true, true, true, true, true, true, true, true, true, false, false, false, false, false, false, false, false, false, false, false] rfl rfl (any_of HT_.out (by kernel_rfl)) (fun _ _ _ h => h) (Or.inl ⟨by rfl, ?_⟩) ?_ ?_
     rotate_left
     ·intro w'
      go_simp
      with_reducible rfl
     rotate_left
     ·simp only [Act.put, List.setIfInBounds_toArray, List.set_cons_zero, List.set_cons_succ, i64_w, i32_w]
      rfl
     refine pure_ (i := 33) (N := some 57) (v := ?_) (a' := ?_) #[true, true, true, true, true, true, true, true, true, true, true, true, true, true, true, true, true, true, true, true, true, true, true, true, true, true, true, true, true, true, true, false, false, true, false, false, false, false, false, false, false, false] rfl rfl (any_of HT_.out (by kernel_rfl)) (fun _ _ _ h => h) (Or.inl ⟨by rfl, ?_⟩) ?_ ?_
     rotate_left
     ·intro w'
      go_simp
      with_reducible rfl
     rotate_left
     ·simp only [Act.put, List.setIfInBounds_toArray, List.set_cons_zero, List.set_cons_succ, i64_w, i32_w]
      rfl
     refine pure_ (i := 37) (N := some 61) (v := ?_) (a' := ?_) #[true, true, true, true, true, true, true, true, true, true, true, true, true, true, true, true, true, true, true, true, true, true, true, true, true, true, true, true, true, true, true, false, false, true, false, false, false, true, false, false, false, false] rfl rfl (any_of HT_.out (by kernel_rfl)) (fun _ _ _ h => h) (Or.inl ⟨by rfl, ?_⟩) ?_ ?_
     rotate_left
     ·intro w'
      go_simp
      with_reducible rfl
     rotate_left
     ·simp only [Act.put, List.setIfInBounds_toArray, List.set_cons_zero, List.set_cons_succ, i64_w, i32_w]
      rfl
     refine take_ (i := 31) (N := some 55) (v := ?_) (a' := ?_) #[true, true, true, true, true, true, true, true, true, true, true, true, true, true, true, true, true, true, true, true, true, true, true, true, true, true, true, true, true, true, true, true, false, true, false, false, false, true, false, false, false, false] rfl rfl (take_ofW HT_.out HW_.out (by kernel_rfl)) (fun _ _ _ h => h) (Or.inl ⟨by rfl, ?_⟩) hHeld ?_ ?_
     rotate_left
     ·rintro w' ⟨s0, s1, s2, s3, s4, s5, s6, s7, s8, s9, s10, s11, s12, s13, s14, s15⟩
      go_simp
      with_reducible rfl
     rotate_left
     ·simp only [Act.put, List.setIfInBounds_toArray, List.set_cons_zero, List.set_cons_succ, i64_w, i32_w]
      rfl
     refine take_ (i := 32) (N := some 56) (v := ?_) (a' := ?_) #[true, true, true, true, true, true, true, true, true, true, true, true, true, true, true, true, true, true, true, true, true, true, true, true, true, true, true, true, true, true, true, true, true, true, false, false, false, true, false, false, false, false] rfl rfl (take_ofW HT_.out HW_.out (by kernel_rfl)) (fun _ _ _ h => h) (Or.inl ⟨by rfl, ?_⟩) hHeld ?_ ?_
     rotate_left
     ·rintro w' ⟨s0, s1, s2, s3, s4, s5, s6, s7, s8, s9, s10, s11, s12, s13, s14, s15⟩
      go_simp
      with_reducible rfl
     rotate_left
     ·simp only [Act.put, List.setIfInBounds_toArray, List.set_cons_zero, List.set_cons_succ, i64_w, i32_w]
      rfl
     refine take_ (i := 35) (N := some 59) (v := ?_) (a' := ?_) #[true, true, true, true, true, true, true, true, true, true, true, true, true, true, true, true, true, true, true, true, true, true, true, true, true, true, true, true, true, true, true, true, true, true, false, true, false, true, false, false, false, false] rfl rfl (take_ofW HT_.out HW_.out (by kernel_rfl)) (fun _ _ _ h => h) (Or.inl ⟨by rfl, ?_⟩) hHeld ?_ ?_
     rotate_left
     ·rintro w' ⟨s0, s1, s2, s3, s4, s5, s6, s7, s8, s9, s10, s11, s12, s13, s14, s15⟩
      go_simp
      with_reducible rfl
     rotate_left
     ·simp only [Act.put, List.setIfInBounds_toArray, List.set_cons_zero, List.set_cons_succ, i64_w, i32_w]
      rfl
     refine take_ (i := 36) (N := some 60) (v := ?_) (a' := ?_) #[true, true, true, true, true, true, true, true, true, true, true, true, true, true, true, true, true, true, true, true, true, true, true, true, true, true, true, true, true, true, true, true, true, true, false, true, true, true, false, false, false, false] rfl rfl (take_ofW HT_.out HW_.out (by kernel_rfl)) (fun _ _ _ h => h) (Or.inl ⟨by rfl, ?_⟩) hHeld ?_ ?_
     rotate_left
     ·rintro w' ⟨s0, s1, s2, s3, s4, s5, s6, s7, s8, s9, s10, s11, s12, s13, s14, s15⟩
      go_simp
      with_reducible rfl
     rotate_left
     ·simp only [Act.put, List.setIfInBounds_toArray, List.set_cons_zero, List.set_cons_succ, i64_w, i32_w]
      rfl
     refine one_ (i := 34) (N := some 58) #[true, true, true, true, true, true, true, true, true, true, true, true, true, true, true, true, true, true, true, true, true, true, true, true, true, true, true, true, true, true, true, true, true, true, true, true, true, true, false, false, false, false] rfl rfl (one_of HT_.out (by kernel_rfl)) (by decide) (fun K hK => ?_)
     refine gs_ Try.func13 #[.agg #[.int .i64 a0_0, .bool a0_1, .int .u64 a0_2, .int .i64 a0_3], .agg #[.int .i64 a1_0, .bool a1_1, .int .u64 a1_2, .int .i64 a1_3], .bool a2] ?_
     with_reducible refine (arith_Mul.calls k a0_0 a0_1 a0_2 a0_3 a1_0 a1_1 a1_2 a1_3 a2 t366 t367 t368 t369 _ A20.out).mono ?_
     rintro e w53 ⟨rfl, hb⟩
     refine ⟨_, rfl, ?_⟩
     have n0_ := kq_ BK317 hb
     have n1_ := kq_ BK318 hb
     have n2_ := kq_ BK332 hb
     have n3_ := kq_ BK341 hb
     have n4_ := bq_ HB hb
     clear BK317
     clear BK318
     clear BK332
     clear BK341
     clear HB
     have BK317 := n0_
     have BK318 := n1_
     have BK332 := n2_
     have BK341 := n3_
     have HB := n4_
     clear n0_ n1_ n2_ n3_ n4_
     (try clear hb)
     (try clear hb2)
     (try clear hk)
     (try clear hi)
     refine hK.out _ _ ⟨(blk_cell BK317.out 0).trans rfl, (blk_cell BK317.out 1).trans rfl, (blk_cell BK317.out 2).trans rfl, (blk_cell BK317.out 3).trans rfl, (blk_cell BK318.out 0).trans rfl, (blk_cell BK318.out 1).trans rfl, (blk_cell BK318.out 2).trans rfl, (blk_cell BK318.out 3).trans rfl, (blk_cell BK332.out 0).trans rfl, (blk_cell BK332.out 1).trans rfl, (blk_cell BK332.out 2).trans rfl, (blk_cell BK332.out 3).trans rfl, (blk_cell BK341.out 0).trans rfl, (blk_cell BK341.out 1).trans rfl, (blk_cell BK341.out 2).trans rfl, (blk_cell BK341.out 3).trans rfl⟩ (fun hHeld => ?_)
     clear hK K
     refine norm_ (a' := ?_) ?_ ?_
     rotate_left
     ·show Act.put _ (some 58) _ = _
      simp only [Act.put, List.setIfInBounds_toArray, List.set_cons_zero, List.set_cons_succ, i64_w, i32_w]
      rfl
     refine one_ (i := 38) (N := some 62) #[true, true, true, true, true, true, true, true, true, true, true, true, true, true, true, true, true, true, true, true, true, true, true, true, true, true, true, true, true, true, true, true, true, true, true, true, true, true, true, false, false, false] rfl rfl (one_of HT_.out (by kernel_rfl)) (by decide) (fun K hK => ?_)
     refine gs_ Try.func13 #[.agg #[.int .i64 a1_0, .bool a1_1, .int .u64 a1_2, .int .i64 a1_3], .agg #[.int .i64 a0_0, .bool a0_1, .int .u64 a0_2, .int .i64 a0_3], .bool a2] ?_
     with_reducible refine (arith_Mul.calls k a1_0 a1_1 a1_2 a1_3 a0_0 a0_1 a0_2 a0_3 a2 t370 t371 t372 t373 _ A21.out).mono ?_
     rintro e w54 ⟨rfl, hb⟩
     refine ⟨_, rfl, ?_⟩
     have n0_ := kq_ BK317 hb
     have n1_ := kq_ BK318 hb
     have n2_ := kq_ BK332 hb
     have n3_ := kq_ BK341 hb
     have n4_ := bq_ HB hb
     clear BK317
     clear BK318
     clear BK332
     clear BK341
     clear HB
     have BK317 := n0_
     have BK318 := n1_
     have BK332 := n2_
     have BK341 := n3_
     have HB := n4_
     clear n0_ n1_ n2_ n3_ n4_
     (try clear hb)
     (try clear hb2)
     (try clear hk)
     (try clear hi)
     refine hK.out _ _ ⟨(blk_cell BK317.out 0).trans rfl, (blk_cell BK317.out 1).trans rfl, (blk_cell BK317.out 2).trans rfl, (blk_cell BK317.out 3).trans rfl, (blk_cell BK318.out 0).trans rfl, (blk_cell BK318.out 1).trans rfl, (blk_cell BK318.out 2).trans rfl, (blk_cell BK318.out 3).trans rfl, (blk_cell BK332.out 0).trans rfl, (blk_cell BK332.out 1).trans rfl, (blk_cell BK332.out 2).trans rfl, (blk_cell BK332.out 3).trans rfl, (blk_cell BK341.out 0).trans rfl, (blk_cell BK341.out 1).trans rfl, (blk_cell BK341.out 2).trans rfl, (blk_cell BK341.out 3).trans rfl⟩ (fun hHeld => ?_)
     clear hK K
     refine norm_ (a' := ?_) ?_ ?_
     rotate_left
     ·show Act.put _ (some 62) _ = _
      simp only [Act.put, List.setIfInBounds_toArray, List.set_cons_zero, List.set_cons_succ, i64_w, i32_w]
      rfl
     refine pure_ (i := 39) (N := some 63) (v := ?_) (a' := ?_) #[true, true, true, true, true, true, true, true, true, true, true, true, true, true, true, true, true, true, true, true, true, true, true, true, true, true, true, true, true, true, true, true, true, true, true, true, true, true, true, true, false, false] rfl rfl (any_of HT_.out (by kernel_rfl)) (fun _ _ _ h => h) (Or.inl ⟨by rfl, ?_⟩) ?_ ?_
     rotate_left
     ·intro w'
      go_simp
      with_reducible rfl
     rotate_left
     ·simp only [Act.put, List.setIfInBounds_toArray, List.set_cons_zero, List.set_cons_succ, i64_w, i32_w]
      rfl
     refine pure_ (i := 40) (N := some 64) (v := ?_) (a' := ?_) #[true, true, true, true, true, true, true, true, true, true, true, true, true, true, true, true, true, true, true, true, true, true, true, true, true, true, true, true, true, true, true, true, true, true, true, true, true, true, true, true, true, false] rfl rfl (any_of HT_.out (by kernel_rfl)) (fun _ _ _ h => h) (Or.inl ⟨by rfl, ?_⟩) ?_ ?_
     rotate_left
     ·intro w'
      go_simp
      with_reducible rfl
     rotate_left
     ·simp only [Act.put, List.setIfInBounds_toArray, List.set_cons_zero, List.set_cons_succ, i64_w, i32_w]
      rfl
     refine pure_ (i := 41) (N := some 6) (v := ?_) (a' := ?_) #[true, true, true, true, true, true, true, true, true, true, true, true, true, true, true, true, true, true, true, true, true, true, true, true, true, true, true, true, true, true, true, true, true, true, true, true, true, true, true, true, true, true] rfl rfl (any_of HT_.out (by kernel_rfl)) (fun _ _ _ h => h) (Or.inl ⟨by rfl, ?_⟩) ?_ ?_
     rotate_left
     ·intro w'
      go_simp
      with_reducible rfl
     rotate_left
     ·simp only [Act.put, List.setIfInBounds_toArray, List.set_cons_zero, List.set_cons_succ, i64_w, i32_w]
      rfl
     refine done_ (done_of HT_.out (by kernel_rfl)) ?_
     try go_wp2
     go_ret
     exact ⟨by first | rfl | (simp [errW_none, errW_some] <;> rfl) | (simp [*, errW_none, errW_some] <;> rfl), bw_ HB.out⟩
    ·rw [if_neg c19] at H
     have c19b0 : (t358 == t362 && (t359 == t363 && (t360 == t364 && (t361 == t365)))) = false := by simpa using c19
     (try (have c19b1 : decide (t358 = t362 && (t359 == t363 && (t360 == t364 && (t361 == t365)))) = false := by simpa using c19))
     (try (have c19b2 : (t358 == t362 && (t359 == t363 && (t360 == t364 && (t361 == t365)))) = false := by simpa using c19))
     (try (have c19b3 : ¬ (t358 = t362 && (t359 == t363 && (t360 == t364 && (t361 == t365)))) := by simpa using c19))
     clear c19
     exact absurd ((Option.some.inj H).trans HRT_.out) (by simp)
   ·rw [if_neg c16] at H
    have c16b0 : (t350 == t354 && (t351 == t355 && (t352 == t356 && (t353 == t357)))) = false := by simpa using c16
    (try (have c16b1 : decide (t350 = t354 && (t351 == t355 && (t352 == t356 && (t353 == t357)))) = false := by simpa using c16))
    (try (have c16b2 : (t350 == t354 && (t351 == t355 && (t352 == t356 && (t353 == t357)))) = false := by simpa using c16))
    (try (have c16b3 : ¬ (t350 = t354 && (t351 == t355 && (t352 == t356 && (t353 == t357)))) := by simpa using c16))
    clear c16
    exact absurd ((Option.some.inj H).trans HRT_.out) (by simp)
  ·rw [if_neg c13] at H
   have c13b0 : (t342 == t346 && (t343 == t347 && (t344 == t348 && (t345 == t349)))) = false := by simpa using c13
   (try (have c13b1 : decide (t342 = t346 && (t343 == t347 && (t344 == t348 && (t345 == t349)))) = false := by simpa using c13))
   (try (have c13b2 : (t342 == t346 && (t343 == t347 && (t344 == t348 && (t345 == t349)))) = false := by simpa using c13))
   (try (have c13b3 : ¬ (t342 = t346 && (t343 == t347 && (t344 == t348 && (t345 == t349)))) := by simpa using c13))
   clear c13
   exact absurd ((Option.some.inj H).trans HRT_.out) (by simp)
 ·replace c10 := Bool.eq_false_iff.mpr c10
  subst c10
  have H1 : (some false) = some r := by rw [if_neg (show ¬ (false = true) by decide)] at H; exact H
  clear H
  have H := H1
  clear H1
  exact absurd ((Option.some.inj H).trans HRT_.out) (by simp)


end Go.Proofs.Ythlhogcnfaiphaa.PA
