-- Laid by this work's own program; Lean checks it.
import Derived.Test.YthlhogcnfaiphaaPAx0
import Derived.Test.YthlhogcnfaiphaaPAx1
import Derived.Test.YthlhogcnfaiphaaPAx2
import Derived.Test.YthlhogcnfaiphaaPAx3
import Derived.Test.YthlhogcnfaiphaaPAx6
import Derived.Test.YthlhogcnfaiphaaPAx18
import Derived.Test.YthlhogcnfaiphaaPAx23
import Derived.Test.YthlhogcnfaiphaaPAx25
namespace Go.Proofs.Ythlhogcnfaiphaa.PA
open Go.RowKit Go.Proofs.YthlhogcnfaiphaaW.PrintWords Go.Proofs.YthlhogcnfaiphaaW.PrintLast Go.Proofs.YthlhogcnfaiphaaW.PrintMore
attribute [local go_sem] max2_int min2_int max_two min_two max_three min_three max_four min_four   -- for this text's walks alone
set_option linter.unusedVariables false
set_option linter.unusedSimpArgs false

attribute [local go_sem ↓ high] isSome_set_
attribute [local go_sem high] eqA24
/-! ### peloruslaw06_ArithProducts: function 5 -/
theorem peloruslaw06_ArithProducts.tab3 : rtab .any (opsOf Try.f5 3) = peloruslaw06_ArithProducts.T3 := by kernel_rfl
theorem peloruslaw06_ArithProducts.bits3 : waitsOk peloruslaw06_ArithProducts.T3.2 peloruslaw06_ArithProducts.B3 = true := by kernel_rfl
set_option maxHeartbeats 8000000 in
set_option maxRecDepth 100000 in
theorem peloruslaw06_ArithProducts.calls (k : Nat) (a0_0 : Int) (a0_1 : Bool) (a0_2 : Int) (a0_3 : Int) (a1_0 : Int) (a1_1 : Bool) (a1_2 : Int) (a1_3 : Int) (a2 : Bool) (r : Bool) (w : World) (hr_ : r = true) (haw_ : ∀ r, peloruslaw06_awake.f k = some r → r = true) (h : peloruslaw06_ArithProducts.f k a0_0 a0_1 a0_2 a0_3 a1_0 a1_1 a1_2 a1_3 a2 = some r) :
  Calls Try.prog 5 #[.agg #[.int .i64 a0_0, .bool a0_1, .int .u64 a0_2, .int .i64 a0_3], .agg #[.int .i64 a1_0, .bool a1_1, .int .u64 a1_2, .int .i64 a1_3], .bool a2] w fun e w' => e = .returned (.bool r) ∧ Below w.heap.size w w' := by
 have HRT_ := Aside0.mk hr_
 clear hr_
 have HAW_ := Aside0.mk haw_
 clear haw_
 have hu24 := Try.underlying24
 have HB := Aside0.mk (Below.refl w.heap.size w)
 have H : ((peloruslaw06_awake.f k).bind fun t890 => ((arith_Mul.f k a0_0 a0_1 a0_2 a0_3 a1_0 a1_1 a1_2 a1_3 a2).bind fun bt891 => (if t890 = true then ((pelorusref06_Mul.f k a0_0 a0_1 a0_2 a0_3 a1_0 a1_1 a1_2 a1_3 a2).bind fun bt896 => (if (bt891.1 == bt896.1 && (bt891.2.1 == bt896.2.1 && (bt891.2.2.1 == bt896.2.2.1 && (bt891.2.2.2 == bt896.2.2.2)))) = true then ((num_May.f bt891.1 bt891.2.1 bt891.2.2.1 bt891.2.2.2).bind fun t900 => (if t900 = true then ((arith_Half.f k a0_0 a0_1 a0_2 a0_3 a2).bind fun bt901 => ((pelorusref06_Half.f k a0_0 a0_1 a0_2 a0_3 a2).bind fun bt905 => (if (bt901.1 == bt905.1 && (bt901.2.1 == bt905.2.1 && (bt901.2.2.1 == bt905.2.2.1 && (bt901.2.2.2 == bt905.2.2.2)))) = true then ((arith_Twice.f k a0_0 a0_1 a0_2 a0_3 a2).bind fun bt909 => ((pelorusref06_Twice.f k a0_0 a0_1 a0_2 a0_3 a2).bind fun bt913 => (some (bt909.1 == bt913.1 && (bt909.2.1 == bt913.2.1 && (bt909.2.2.1 == bt913.2.2.1 && (bt909.2.2.2 == bt913.2.2.2))))))) else (some false)))) else (some false))) else (some false))) else (some false)))) = some r := h
 clear h
 replace H := Option.bind_eq_some_iff.mp H
 obtain ⟨t890, A40, H⟩ := H
 (try dsimp only at H)
 have A4 := Aside0.mk A40
 clear A40
 replace H := Option.bind_eq_some_iff.mp H
 obtain ⟨⟨t891, t892, t893, t894⟩, A50, H⟩ := H
 (try dsimp only at H)
 have A5 := Aside0.mk A50
 clear A50
 by_cases c6 : t890 = true
 ·subst c6
  have H1 : ((pelorusref06_Mul.f k a0_0 a0_1 a0_2 a0_3 a1_0 a1_1 a1_2 a1_3 a2).bind fun bt896 => (if (t891 == bt896.1 && (t892 == bt896.2.1 && (t893 == bt896.2.2.1 && (t894 == bt896.2.2.2)))) = true then ((num_May.f t891 t892 t893 t894).bind fun t900 => (if t900 = true then ((arith_Half.f k a0_0 a0_1 a0_2 a0_3 a2).bind fun bt901 => ((pelorusref06_Half.f k a0_0 a0_1 a0_2 a0_3 a2).bind fun bt905 => (if (bt901.1 == bt905.1 && (bt901.2.1 == bt905.2.1 && (bt901.2.2.1 == bt905.2.2.1 && (bt901.2.2.2 == bt905.2.2.2)))) = true then ((arith_Twice.f k a0_0 a0_1 a0_2 a0_3 a2).bind fun bt909 => ((pelorusref06_Twice.f k a0_0 a0_1 a0_2 a0_3 a2).bind fun bt913 => (some (bt909.1 == bt913.1 && (bt909.2.1 == bt913.2.1 && (bt909.2.2.1 == bt913.2.2.1 && (bt909.2.2.2 == bt913.2.2.2))))))) else (some false)))) else (some false))) else (some false))) = some r := by rw [if_pos rfl] at H; exact H
  clear H
  have H := H1
  clear H1
  replace H := Option.bind_eq_some_iff.mp H
  obtain ⟨⟨t896, t897, t898, t899⟩, A70, H⟩ := H
  (try dsimp only at H)
  have A7 := Aside0.mk A70
  clear A70
  by_cases c8 : (t891 == t896 && (t892 == t897 && (t893 == t898 && (t894 == t899)))) = true
  ·rw [if_pos c8] at H
   have c8b0 : (t891 == t896 && (t892 == t897 && (t893 == t898 && (t894 == t899)))) = true := c8
   (try (have c8b1 : decide (t891 = t896 && (t892 == t897 && (t893 == t898 && (t894 == t899)))) = true := by simpa using c8))
   (try (have c8b2 : (t891 == t896 && (t892 == t897 && (t893 == t898 && (t894 == t899)))) = true := by simpa using c8))
   clear c8
   replace H := Option.bind_eq_some_iff.mp H
   obtain ⟨t900, A90, H⟩ := H
   (try dsimp only at H)
   have A9 := Aside0.mk A90
   clear A90
   by_cases c10 : t900 = true
   ·subst c10
    have H1 : ((arith_Half.f k a0_0 a0_1 a0_2 a0_3 a2).bind fun bt901 => ((pelorusref06_Half.f k a0_0 a0_1 a0_2 a0_3 a2).bind fun bt905 => (if (bt901.1 == bt905.1 && (bt901.2.1 == bt905.2.1 && (bt901.2.2.1 == bt905.2.2.1 && (bt901.2.2.2 == bt905.2.2.2)))) = true then ((arith_Twice.f k a0_0 a0_1 a0_2 a0_3 a2).bind fun bt909 => ((pelorusref06_Twice.f k a0_0 a0_1 a0_2 a0_3 a2).bind fun bt913 => (some (bt909.1 == bt913.1 && (bt909.2.1 == bt913.2.1 && (bt909.2.2.1 == bt913.2.2.1 && (bt909.2.2.2 == bt913.2.2.2))))))) else (some false)))) = some r := by rw [if_pos rfl] at H; exact H
    clear H
    have H := H1
    clear H1
    replace H := Option.bind_eq_some_iff.mp H
    obtain ⟨⟨t901, t902, t903, t904⟩, A110, H⟩ := H
    (try dsimp only at H)
    have A11 := Aside0.mk A110
    clear A110
    replace H := Option.bind_eq_some_iff.mp H
    obtain ⟨⟨t905, t906, t907, t908⟩, A120, H⟩ := H
    (try dsimp only at H)
    have A12 := Aside0.mk A120
    clear A120
    by_cases c13 : (t901 == t905 && (t902 == t906 && (t903 == t907 && (t904 == t908)))) = true
    ·rw [if_pos c13] at H
     have c13b0 : (t901 == t905 && (t902 == t906 && (t903 == t907 && (t904 == t908)))) = true := c13
     (try (have c13b1 : decide (t901 = t905 && (t902 == t906 && (t903 == t907 && (t904 == t908)))) = true := by simpa using c13))
     (try (have c13b2 : (t901 == t905 && (t902 == t906 && (t903 == t907 && (t904 == t908)))) = true := by simpa using c13))
     clear c13
     replace H := Option.bind_eq_some_iff.mp H
     obtain ⟨⟨t909, t910, t911, t912⟩, A140, H⟩ := H
     (try dsimp only at H)
     have A14 := Aside0.mk A140
     clear A140
     replace H := Option.bind_eq_some_iff.mp H
     obtain ⟨⟨t913, t914, t915, t916⟩, A150, H⟩ := H
     (try dsimp only at H)
     have A15 := Aside0.mk A150
     clear A150
     obtain rfl := Option.some.inj H
     go_enter Try.func5, Try.ntmps5
     try go_wp2_with (first | ((with_reducible refine gate_dst (N := 3) rfl ?_); refine bx_ 3 #[.int .i64 a0_0, .bool a0_1, .int .u64 a0_2, .int .i64 a0_3] 24 ?_; intro gb888 hg w16 hbox hb; have n0_ := bq_ HB hb; have n1_ := Aside0.mk (hbox); have n2_ := ge_ hg HB; have n3_ := ge_ hg HB; clear HB; have HB := n0_; have BK888 := n1_; have GW888 := n2_; have GE888 := n3_; clear n0_ n1_ n2_ n3_; clear hb hbox hg) | ((with_reducible refine gate_dst (N := 4) rfl ?_); refine bx_ 4 #[.int .i64 a1_0, .bool a1_1, .int .u64 a1_2, .int .i64 a1_3] 24 ?_; intro gb889 hg w17 hbox hb; have n0_ := kq_ BK888 hb; have n1_ := bq_ HB hb; have n2_ := Aside0.mk (hbox); have n3_ := ge_ hg HB; have n4_ := ge_ hg HB; have n5_ := nb_ hg BK888; have n6_ := nc_ hg BK888; clear BK888; clear HB; have BK888 := n0_; have HB := n1_; have BK889 := n2_; have GW889 := n3_; have GE889 := n4_; have NB888_889 := n5_; have NB889_888 := n6_; clear n0_ n1_ n2_ n3_ n4_ n5_ n6_; clear hb hbox hg) | ((with_reducible refine gate_callee (f := 10) rfl ?_); refine gl_ (some 9) Try.func10 #[] ?_; (with_reducible refine (peloruslaw06_awake.calls k  true _ (HAW_.out _ A4.out) A4.out).mono ?_); rintro e w18 ⟨rfl, hb⟩; refine ⟨_, rfl, ?_⟩; have n0_ := kq_ BK888 hb; have n1_ := kq_ BK889 hb; have n2_ := bq_ HB hb; clear BK888; clear BK889; clear HB; have BK888 := n0_; have BK889 := n1_; have HB := n2_; clear n0_ n1_ n2_; (try clear hb); (try clear hb2); (try clear hk); (try clear hi); have hnb19 := NB888_889.out; have hnc19 := NB889_888.out; have hcz20_0 := cz_ BK888 0 rfl; have hcz20_1 := cz_ BK888 1 rfl; have hcz20_2 := cz_ BK888 2 rfl; have hcz20_3 := cz_ BK888 3 rfl; have hfz20_0 := fz_ BK888 0; have hfz20_1 := fz_ BK888 1; have hfz20_2 := fz_ BK888 2; have hfz20_3 := fz_ BK888 3; have hcz21_0 := cz_ BK889 0 rfl; have hcz21_1 := cz_ BK889 1 rfl; have hcz21_2 := cz_ BK889 2 rfl; have hcz21_3 := cz_ BK889 3 rfl; have hfz21_0 := fz_ BK889 0; have hfz21_1 := fz_ BK889 1; have hfz21_2 := fz_ BK889 2; have hfz21_3 := fz_ BK889 3) | ((with_reducible refine gate_callee (f := 13) rfl ?_); refine gl_ (some 13) Try.func13 #[.agg #[.int .i64 a0_0, .bool a0_1, .int .u64 a0_2, .int .i64 a0_3], .agg #[.int .i64 a1_0, .bool a1_1, .int .u64 a1_2, .int .i64 a1_3], .bool a2] ?_; (with_reducible refine (arith_Mul.calls k a0_0 a0_1 a0_2 a0_3 a1_0 a1_1 a1_2 a1_3 a2 t891 t892 t893 t894 _ A5.out).mono ?_); rintro e w22 ⟨rfl, hb⟩; refine ⟨_, rfl, ?_⟩; have n0_ := kq_ BK888 hb; have n1_ := kq_ BK889 hb; have n2_ := bq_ HB hb; clear BK888; clear BK889; clear HB; have BK888 := n0_; have BK889 := n1_; have HB := n2_; clear n0_ n1_ n2_; (try clear hb); (try clear hb2); (try clear hk); (try clear hi)) | ((with_reducible refine gate_dst (N := 8) rfl ?_); refine bx_ 8 #[.int .i64 0, .bool false, .int .u64 0, .int .i64 0] 24 ?_; intro gb895 hg w23 hbox hb; have n0_ := kq_ BK888 hb; have n1_ := kq_ BK889 hb; have n2_ := bq_ HB hb; have n3_ := Aside0.mk (hbox); have n4_ := ge_ hg HB; have n5_ := ge_ hg HB; have n6_ := nb_ hg BK888; have n7_ := nc_ hg BK888; have n8_ := nb_ hg BK889; have n9_ := nc_ hg BK889; clear BK888; clear BK889; clear HB; have BK888 := n0_; have BK889 := n1_; have HB := n2_; have BK895 := n3_; have GW895 := n4_; have GE895 := n5_; have NB888_895 := n6_; have NB895_888 := n7_; have NB889_895 := n8_; have NB895_889 := n9_; clear n0_ n1_ n2_ n3_ n4_ n5_ n6_ n7_ n8_ n9_; clear hb hbox hg; have hnb24 := NB895_888.out; have hnc24 := NB888_895.out; have hnb25 := NB895_889.out; have hnc25 := NB889_895.out; have hcz26_0 := cz_ BK895 0 rfl; have hcz26_1 := cz_ BK895 1 rfl; have hcz26_2 := cz_ BK895 2 rfl; have hcz26_3 := cz_ BK895 3 rfl; have hfz26_0 := fz_ BK895 0; have hfz26_1 := fz_ BK895 1; have hfz26_2 := fz_ BK895 2; have hfz26_3 := fz_ BK895 3))
     have n0_ : Aside0 (((((w23.setCell ⟨gb895, 0, none⟩ (.int .i64 t891)).setCell ⟨gb895, 1, none⟩ (.bool t892)).setCell ⟨gb895, 2, none⟩ (.int .u64 t893)).setCell ⟨gb895, 3, none⟩ (.int .i64 t894)).heap[gb888]? = some (.cells #[.int .i64 a0_0, .bool a0_1, .int .u64 a0_2, .int .i64 a0_3] 24 (0, 0))) := ⟨by refine kb_ ?_; refine bf_ NB888_895 ?_; refine bf_ NB888_895 ?_; refine bf_ NB888_895 ?_; refine bf_ NB888_895 ?_; exact BK888.out⟩
     have n1_ : Aside0 (((((w23.setCell ⟨gb895, 0, none⟩ (.int .i64 t891)).setCell ⟨gb895, 1, none⟩ (.bool t892)).setCell ⟨gb895, 2, none⟩ (.int .u64 t893)).setCell ⟨gb895, 3, none⟩ (.int .i64 t894)).heap[gb889]? = some (.cells #[.int .i64 a1_0, .bool a1_1, .int .u64 a1_2, .int .i64 a1_3] 24 (0, 0))) := ⟨by refine kb_ ?_; refine bf_ NB889_895 ?_; refine bf_ NB889_895 ?_; refine bf_ NB889_895 ?_; refine bf_ NB889_895 ?_; exact BK889.out⟩
     have n2_ : Aside0 (((((w23.setCell ⟨gb895, 0, none⟩ (.int .i64 t891)).setCell ⟨gb895, 1, none⟩ (.bool t892)).setCell ⟨gb895, 2, none⟩ (.int .u64 t893)).setCell ⟨gb895, 3, none⟩ (.int .i64 t894)).heap[gb895]? = some (.cells #[.int .i64 t891, .bool t892, .int .u64 t893, .int .i64 t894] 24 (0, 0))) := ⟨by refine kb_ ?_; refine bp_ #[.int .i64 t891, .bool t892, .int .u64 t893, .int .i64 0] 3 ?_; refine bp_ #[.int .i64 t891, .bool t892, .int .u64 0, .int .i64 0] 2 ?_; refine bp_ #[.int .i64 t891, .bool false, .int .u64 0, .int .i64 0] 1 ?_; refine bp_ #[.int .i64 0, .bool false, .int .u64 0, .int .i64 0] 0 ?_; exact BK895.out⟩
     have n3_ : Aside0 (Below w.heap.size w ((((w23.setCell ⟨gb895, 0, none⟩ (.int .i64 t891)).setCell ⟨gb895, 1, none⟩ (.bool t892)).setCell ⟨gb895, 2, none⟩ (.int .u64 t893)).setCell ⟨gb895, 3, none⟩ (.int .i64 t894))) := ⟨bw_ HB.out⟩
     (try clear BK888)
     (try clear BK889)
     (try clear BK895)
     (try clear HB)
     generalize ((((w23.setCell ⟨gb895, 0, none⟩ (.int .i64 t891)).setCell ⟨gb895, 1, none⟩ (.bool t892)).setCell ⟨gb895, 2, none⟩ (.int .u64 t893)).setCell ⟨gb895, 3, none⟩ (.int .i64 t894)) = w27 at n0_ n1_ n2_ n3_ ⊢
     have BK888 := n0_
     have BK889 := n1_
     have BK895 := n2_
     have HB := n3_
     clear n0_ n1_ n2_ n3_
     have n0_ := Aside0.mk (blk_drew BK888.out)
     have n1_ := Aside0.mk (blk_drew BK889.out)
     have n2_ := Aside0.mk (blk_drew BK895.out)
     have n3_ := Aside0.mk (below_drew1 HB.out)
     clear BK888
     clear BK889
     clear BK895
     clear HB
     have BK888 := n0_
     have BK889 := n1_
     have BK895 := n2_
     have HB := n3_
     clear n0_ n1_ n2_ n3_
     refine start_ (n := 32) (S := fun w' => w'.cell? ⟨gb895, 0, none⟩ = some (.int .i64 t891) ∧ w'.cell? ⟨gb895, 1, none⟩ = some (.bool t892) ∧ w'.cell? ⟨gb895, 2, none⟩ = some (.int .u64 t893) ∧ w'.cell? ⟨gb895, 3, none⟩ = some (.int .i64 t894) ∧ w'.cell? ⟨gb888, 0, none⟩ = some (.int .i64 a0_0) ∧ w'.cell? ⟨gb888, 1, none⟩ = some (.bool a0_1) ∧ w'.cell? ⟨gb888, 2, none⟩ = some (.int .u64 a0_2) ∧ w'.cell? ⟨gb888, 3, none⟩ = some (.int .i64 a0_3) ∧ w'.cell? ⟨gb889, 0, none⟩ = some (.int .i64 a1_0) ∧ w'.cell? ⟨gb889, 1, none⟩ = some (.bool a1_1) ∧ w'.cell? ⟨gb889, 2, none⟩ = some (.int .u64 a1_2) ∧ w'.cell? ⟨gb889, 3, none⟩ = some (.int .i64 a1_3)) (ds := []) #[false, false, false, false, false, false, false, false, false, false, false, false, false, false, false, false, false, false, false, false, false, false, false, false, false, false, false, false, false, false, false, false] (by kernel_rfl) rfl rfl ⟨(blk_cell BK895.out 0).trans rfl, (blk_cell BK895.out 1).trans rfl, (blk_cell BK895.out 2).trans rfl, (blk_cell BK895.out 3).trans rfl, (blk_cell BK888.out 0).trans rfl, (blk_cell BK888.out 1).trans rfl, (blk_cell BK888.out 2).trans rfl, (blk_cell BK888.out 3).trans rfl, (blk_cell BK889.out 0).trans rfl, (blk_cell BK889.out 1).trans rfl, (blk_cell BK889.out 2).trans rfl, (blk_cell BK889.out 3).trans rfl⟩ (fun hHeld => ?_); refine with_tabW peloruslaw06_ArithProducts.tab3 peloruslaw06_ArithProducts.bits3 (fun HT_ HW_ => ?_)
     generalize w27.drew = w28 at BK888 BK889 BK895 HB hHeld ⊢
     refine pure_ (i := 0) (N := some 14) (v := ?_) (a' := ?_) #[true, false, false, false, false, false, false, false, false, false, false, false, false, false, false, false, false, false, false, false, false, false, false, false, false, false, false, false, false, false, false, false] rfl rfl (any_of HT_.out (by kernel_rfl)) (fun _ _ _ h => h) (Or.inl ⟨by rfl, ?_⟩) ?_ ?_
     rotate_left
     ·intro w'
      go_simp
      with_reducible rfl
     rotate_left
     ·simp only [Act.put, List.setIfInBounds_toArray, List.set_cons_zero, List.set_cons_succ, i64_w, i32_w]
      rfl
     refine pure_ (i := 1) (N := some 15) (v := ?_) (a' := ?_) #[true, true, false, false, false, false, false, false, false, false, false, false, false, false, false, false, false, false, false, false, false, false, false, false, false, false, false, false, false, false, false, false] rfl rfl (any_of HT_.out (by kernel_rfl)) (fun _ _ _ h => h) (Or.inl ⟨by rfl, ?_⟩) ?_ ?_
     rotate_left
     ·intro w'
      go_simp
      with_reducible rfl
     rotate_left
     ·simp only [Act.put, List.setIfInBounds_toArray, List.set_cons_zero, List.set_cons_succ, i64_w, i32_w]
      rfl
     refine pure_ (i := 5) (N := some 19) (v := ?_) (a' := ?_) #[true, true, false, false, false, true, false, false, false, false, false, false, false, false, false, false, false, false, false, false, false, false, false, false, false, false, false, false, false, false, false, false] rfl rfl (any_of HT_.out (by kernel_rfl)) (fun _ _ _ h => h) (Or.inl ⟨by rfl, ?_⟩) ?_ ?_
     rotate_left
     ·intro w'
      go_simp
      with_reducible rfl
     rotate_left
     ·simp only [Act.put, List.setIfInBounds_toArray, List.set_cons_zero, List.set_cons_succ, i64_w, i32_w]
      rfl
     refine take_ (i := 2) (N := some 16) (v := ?_) (a' := ?_) #[true, true, true, false, false, true, false, false, false, false, false, false, false, false, false, false, false, false, false, false, false, false, false, false, false, false, false, false, false, false, false, false] rfl rfl (take_ofW HT_.out HW_.out (by kernel_rfl)) (fun _ _ _ h => h) (Or.inl ⟨by rfl, ?_⟩) hHeld ?_ ?_
     rotate_left
     ·rintro w' ⟨s0, s1, s2, s3, s4, s5, s6, s7, s8, s9, s10, s11⟩
      go_simp
      with_reducible rfl
     rotate_left
     ·simp only [Act.put, List.setIfInBounds_toArray, List.set_cons_zero, List.set_cons_succ, i64_w, i32_w]
      rfl
     refine take_ (i := 3) (N := some 17) (v := ?_) (a' := ?_) #[true, true, true, true, false, true, false, false, false, false, false, false, false, false, false, false, false, false, false, false, false, false, false, false, false, false, false, false, false, false, false, false] rfl rfl (take_ofW HT_.out HW_.out (by kernel_rfl)) (fun _ _ _ h => h) (Or.inl ⟨by rfl, ?_⟩) hHeld ?_ ?_
     rotate_left
     ·rintro w' ⟨s0, s1, s2, s3, s4, s5, s6, s7, s8, s9, s10, s11⟩
      go_simp
      with_reducible rfl
     rotate_left
     ·simp only [Act.put, List.setIfInBounds_toArray, List.set_cons_zero, List.set_cons_succ, i64_w, i32_w]
      rfl
     refine take_ (i := 4) (N := some 18) (v := ?_) (a' := ?_) #[true, true, true, true, true, true, false, false, false, false, false, false, false, false, false, false, false, false, false, false, false, false, false, false, false, false, false, false, false, false, false, false] rfl rfl (take_ofW HT_.out HW_.out (by kernel_rfl)) (fun _ _ _ h => h) (Or.inl ⟨by rfl, ?_⟩) hHeld ?_ ?_
     rotate_left
     ·rintro w' ⟨s0, s1, s2, s3, s4, s5, s6, s7, s8, s9, s10, s11⟩
      go_simp
      with_reducible rfl
     rotate_left
     ·simp only [Act.put, List.setIfInBounds_toArray, List.set_cons_zero, List.set_cons_succ, i64_w, i32_w]
      rfl
     refine one_ (i := 6) (N := some 20) #[true, true, true, true, true, true, true, false, false, false, false, false, false, false, false, false, false, false, false, false, false, false, false, false, false, false, false, false, false, false, false, false] rfl rfl (one_of HT_.out (by kernel_rfl)) (by decide) (fun K hK => ?_)
     refine gs_ Try.func19 #[.agg #[.int .i64 a0_0, .bool a0_1, .int .u64 a0_2, .int .i64 a0_3], .agg #[.int .i64 a1_0, .bool a1_1, .int .u64 a1_2, .int .i64 a1_3], .bool a2] ?_
     with_reducible refine (pelorusref06_Mul.calls k a0_0 a0_1 a0_2 a0_3 a1_0 a1_1 a1_2 a1_3 a2 t896 t897 t898 t899 _ A7.out).mono ?_
     rintro e w29 ⟨rfl, hb⟩
     refine ⟨_, rfl, ?_⟩
     have n0_ := kq_ BK888 hb
     have n1_ := kq_ BK889 hb
     have n2_ := kq_ BK895 hb
     have n3_ := bq_ HB hb
     clear BK888
     clear BK889
     clear BK895
     clear HB
     have BK888 := n0_
     have BK889 := n1_
     have BK895 := n2_
     have HB := n3_
     clear n0_ n1_ n2_ n3_
     (try clear hb)
     (try clear hb2)
     (try clear hk)
     (try clear hi)
     refine hK.out _ _ ⟨(blk_cell BK895.out 0).trans rfl, (blk_cell BK895.out 1).trans rfl, (blk_cell BK895.out 2).trans rfl, (blk_cell BK895.out 3).trans rfl, (blk_cell BK888.out 0).trans rfl, (blk_cell BK888.out 1).trans rfl, (blk_cell BK888.out 2).trans rfl, (blk_cell BK888.out 3).trans rfl, (blk_cell BK889.out 0).trans rfl, (blk_cell BK889.out 1).trans rfl, (blk_cell BK889.out 2).trans rfl, (blk_cell BK889.out 3).trans rfl⟩ (fun hHeld => ?_)
     clear hK K
     refine norm_ (a' := ?_) ?_ ?_
     rotate_left
     ·show Act.put _ (some 20) _ = _
      simp only [Act.put, List.setIfInBounds_toArray, List.set_cons_zero, List.set_cons_succ, i64_w, i32_w]
      rfl
     refine pure_ (i := 7) (N := some 21) (v := ?_) (a' := ?_) #[true, true, true, true, true, true, true, true, false, false, false, false, false, false, false, false, false, false, false, false, false, false, false, false, false, false, false, false, false, false, false, false] rfl rfl (any_of HT_.out (by kernel_rfl)) (fun _ _ _ h => h) (Or.inl ⟨by rfl, ?_⟩) ?_ ?_
     rotate_left
     ·intro w'
      go_simp
      with_reducible rfl
     rotate_left
     ·simp only [Act.put, List.setIfInBounds_toArray, List.set_cons_zero, List.set_cons_succ, i64_w, i32_w]
      rfl
     refine pure_ (i := 8) (N := some 22) (v := ?_) (a' := ?_) #[true, true, true, true, true, true, true, true, true, false, false, false, false, false, false, false, false, false, false, false, false, false, false, false, false, false, false, false, false, false, false, false] rfl rfl (any_of HT_.out (by kernel_rfl)) (fun _ _ _ h => h) (Or.inl ⟨by rfl, ?_⟩) ?_ ?_
     rotate_left
     ·intro w'
      go_simp
      with_reducible rfl
     rotate_left
     ·simp only [Act.put, List.setIfInBounds_toArray, List.set_cons_zero, List.set_cons_succ, i64_w, i32_w]
      rfl
     refine pure_ (i := 9) (N := some 23) (v := ?_) (a' := ?_) #[true, true, true, true, true, true, true, true, true, true, false, false, false, false, false, false, false, false, false, false, false, false, false, false, false, false, false, false, false, false, false, false] rfl rfl (any_of HT_.out (by kernel_rfl)) (fun _ _ _ h => h) (Or.inl ⟨by rfl, ?_⟩) ?_ ?_
     rotate_left
     ·intro w'
      go_simp
      with_reducible rfl
     rotate_left
     ·simp only [Act.put, List.setIfInBounds_toArray, List.set_cons_zero, List.set_cons_succ, i64_w, i32_w]
      rfl
     refine take_ (i := 10) (N := some 24) (v := ?_) (a' := ?_) #[true, true, true, true, true, true, true, true, true, true, true, false, false, false, false, false, false, false, false, false, false, false, false, false, false, false, false, false, false, false, false, false] rfl rfl (take_ofW HT_.out HW_.out (by kernel_rfl)) (fun _ _ _ h => h) (Or.inl ⟨by rfl, ?_⟩) hHeld ?_ ?_
     rotate_left
     ·rintro w' ⟨s0, s1, s2, s3, s4, s5, s6, s7, s8, s9, s10, s11⟩
      go_simp
      with_reducible rfl
     rotate_left
     ·simp only [Act.put, List.setIfInBounds_toArray, List.set_cons_zero, List.set_cons_succ, i64_w, i32_w]
      rfl
     refine one_ (i := 11) (N := some 25) #[true, true, true, true, true, true, true, true, true, true, true, true, false, false, false, false, false, false, false, false, false, false, false, false, false, false, false, false, false, false, false, false] rfl rfl (one_of HT_.out (by kernel_rfl)) (by decide) (fun K hK => ?_)
     refine gs_ Try.func18 #[.agg #[.int .i64 t891, .bool t892, .int .u64 t893, .int .i64 t894]] ?_
     with_reducible refine (num_May.calls t891 t892 t893 t894 true _ A9.out).mono ?_
     rintro e w30 ⟨rfl, hb⟩
     refine ⟨_, rfl, ?_⟩
     have n0_ := kq_ BK888 hb
     have n1_ := kq_ BK889 hb
     have n2_ := kq_ BK895 hb
     have n3_ := bq_ HB hb
     clear BK888
     clear BK889
     clear BK895
     clear HB
     have BK888 := n0_
     have BK889 := n1_
     have BK895 := n2_
     have HB := n3_
     clear n0_ n1_ n2_ n3_
     (try clear hb)
     (try clear hb2)
     (try clear hk)
     (try clear hi)
     refine hK.out _ _ ⟨(blk_cell BK895.out 0).trans rfl, (blk_cell BK895.out 1).trans rfl, (blk_cell BK895.out 2).trans rfl, (blk_cell BK895.out 3).trans rfl, (blk_cell BK888.out 0).trans rfl, (blk_cell BK888.out 1).trans rfl, (blk_cell BK888.out 2).trans rfl, (blk_cell BK888.out 3).trans rfl, (blk_cell BK889.out 0).trans rfl, (blk_cell BK889.out 1).trans rfl, (blk_cell BK889.out 2).trans rfl, (blk_cell BK889.out 3).trans rfl⟩ (fun hHeld => ?_)
     clear hK K
     refine norm_ (a' := ?_) ?_ ?_
     rotate_left
     ·show Act.put _ (some 25) _ = _
      simp only [Act.put, List.setIfInBounds_toArray, List.set_cons_zero, List.set_cons_succ, i64_w, i32_w]
      rfl
     refine pure_ (i := 12) (N := some 26) (v := ?_) (a' := ?_) #[true, true, true, true, true, true, true, true, true, true, true, true, true, false, false, false, false, false, false, false, false, false, false, false, false, false, false, false, false, false, false, false] rfl rfl (any_of HT_.out (by kernel_rfl)) (fun _ _ _ h => h) (Or.inl ⟨by rfl, ?_⟩) ?_ ?_
     rotate_left
     ·intro w'
      go_simp
      with_reducible rfl
     rotate_left
     ·simp only [Act.put, List.setIfInBounds_toArray, List.set_cons_zero, List.set_cons_succ, i64_w, i32_w]
      rfl
     refine pure_ (i := 13) (N := some 27) (v := ?_) (a' := ?_) #[true, true, true, true, true, true, true, true, true, true, true, true, true, true, false, false, false, false, false, false, false, false, false, false, false, false, false, false, false, false, false, false] rfl rfl (any_of HT_.out (by kernel_rfl)) (fun _ _ _ h => h) (Or.inl ⟨by rfl, ?_⟩) ?_ ?_
     rotate_left
     ·intro w'
      go_simp
      with_reducible rfl
     rotate_left
     ·simp only [Act.put, List.setIfInBounds_toArray, List.set_cons_zero, List.set_cons_succ, i64_w, i32_w]
      rfl
     refine pure_ (i := 15) (N := some 29) (v := ?_) (a' := ?_) #[true, true, true, true, true, true, true, true, true, true, true, true, true, true, false, true, false, false, false, false, false, false, false, false, false, false, false, false, false, false, false, false] rfl rfl (any_of HT_.out (by kernel_rfl)) (fun _ _ _ h => h) (Or.inl ⟨by rfl, ?_⟩) ?_ ?_
     rotate_left
     ·intro w'
      go_simp
      with_reducible rfl
     rotate_left
     ·simp only [Act.put, List.setIfInBounds_toArray, List.set_cons_zero, List.set_cons_succ, i64_w, i32_w]
      rfl
     refine pure_ (i := 18) (N := some 32) (v := ?_) (a' := ?_) #[true, true, true, true, true, true, true, true, true, true, true, true, true, true, false, true, false, false, true, false, false, false, false, false, false, false, false, false, false, false, false, false] rfl rfl (any_of HT_.out (by kernel_rfl)) (fun _ _ _ h => h) (Or.inl ⟨by rfl, ?_⟩) ?_ ?_
     rotate_left
     ·intro w'
      go_simp
      with_reducible rfl
     rotate_left
     ·simp only [Act.put, List.setIfInBounds_toArray, List.set_cons_zero, List.set_cons_succ, i64_w, i32_w]
      rfl
     refine take_ (i := 14) (N := some 28) (v := ?_) (a' := ?_) #[true, true, true, true, true, true, true, true, true, true, true, true, true, true, true, true, false, false, true, false, false, false, false, false, false, false, false, false, false, false, false, false] rfl rfl (take_ofW HT_.out HW_.out (by kernel_rfl)) (fun _ _ _ h => h) (Or.inl ⟨by rfl, ?_⟩) hHeld ?_ ?_
     rotate_left
     ·rintro w' ⟨s0, s1, s2, s3, s4, s5, s6, s7, s8, s9, s10, s11⟩
      go_simp
      with_reducible rfl
     rotate_left
     ·simp only [Act.put, List.setIfInBounds_toArray, List.set_cons_zero, List.set_cons_succ, i64_w, i32_w]
      rfl
     refine take_ (i := 17) (N := some 31) (v := ?_) (a' := ?_) #[true, true, true, true, true, true, true, true, true, true, true, true, true, true, true, true, false, true, true, false, false, false, false, false, false, false, false, false, false, false, false, false] rfl rfl (take_ofW HT_.out HW_.out (by kernel_rfl)) (fun _ _ _ h => h) (Or.inl ⟨by rfl, ?_⟩) hHeld ?_ ?_
     rotate_left
     ·rintro w' ⟨s0, s1, s2, s3, s4, s5, s6, s7, s8, s9, s10, s11⟩
      go_simp
      with_reducible rfl
     rotate_left
     ·simp only [Act.put, List.setIfInBounds_toArray, List.set_cons_zero, List.set_cons_succ, i64_w, i32_w]
      rfl
     refine one_ (i := 16) (N := some 30) #[true, true, true, true, true, true, true, true, true, true, true, true, true, true, true, true, true, true, true, false, false, false, false, false, false, false, false, false, false, false, false, false] rfl rfl (one_of HT_.out (by kernel_rfl)) (by decide) (fun K hK => ?_)
     refine gs_ Try.func20 #[.agg #[.int .i64 a0_0, .bool a0_1, .int .u64 a0_2, .int .i64 a0_3], .bool a2] ?_
     with_reducible refine (arith_Half.calls k a0_0 a0_1 a0_2 a0_3 a2 t901 t902 t903 t904 _ A11.out).mono ?_
     rintro e w31 ⟨rfl, hb⟩
     refine ⟨_, rfl, ?_⟩
     have n0_ := kq_ BK888 hb
     have n1_ := kq_ BK889 hb
     have n2_ := kq_ BK895 hb
     have n3_ := bq_ HB hb
     clear BK888
     clear BK889
     clear BK895
     clear HB
     have BK888 := n0_
     have BK889 := n1_
     have BK895 := n2_
     have HB := n3_
     clear n0_ n1_ n2_ n3_
     (try clear hb)
     (try clear hb2)
     (try clear hk)
     (try clear hi)
     refine hK.out _ _ ⟨(blk_cell BK895.out 0).trans rfl, (blk_cell BK895.out 1).trans rfl, (blk_cell BK895.out 2).trans rfl, (blk_cell BK895.out 3).trans rfl, (blk_cell BK888.out 0).trans rfl, (blk_cell BK888.out 1).trans rfl, (blk_cell BK888.out 2).trans rfl, (blk_cell BK888.out 3).trans rfl, (blk_cell BK889.out 0).trans rfl, (blk_cell BK889.out 1).trans rfl, (blk_cell BK889.out 2).trans rfl, (blk_cell BK889.out 3).trans rfl⟩ (fun hHeld => ?_)
     clear hK K
     refine norm_ (a' := ?_) ?_ ?_
     rotate_left
     ·show Act.put _ (some 30) _ = _
      simp only [Act.put, List.setIfInBounds_toArray, List.set_cons_zero, List.set_cons_succ, i64_w, i32_w]
      rfl
     refine one_ (i := 19) (N := some 33) #[true, true, true, true, true, true, true, true, true, true, true, true, true, true, true, true, true, true, true, true, false, false, false, false, false, false, false, false, false, false, false, false] rfl rfl (one_of HT_.out (by kernel_rfl)) (by decide) (fun K hK => ?_)
     refine gs_ Try.func21 #[.agg #[.int .i64 a0_0, .bool a0_1, .int .u64 a0_2, .int .i64 a0_3], .bool a2] ?_
     with_reducible refine (pelorusref06_Half.calls k a0_0 a0_1 a0_2 a0_3 a2 t905 t906 t907 t908 _ A12.out).mono ?_
     rintro e w32 ⟨rfl, hb⟩
     refine ⟨_, rfl, ?_⟩
     have n0_ := kq_ BK888 hb
     have n1_ := kq_ BK889 hb
     have n2_ := kq_ BK895 hb
     have n3_ := bq_ HB hb
     clear BK888
     clear BK889
     clear BK895
     clear HB
     have BK888 := n0_
     have BK889 := n1_
     have BK895 := n2_
     have HB := n3_
     clear n0_ n1_ n2_ n3_
     (try clear hb)
     (try clear hb2)
     (try clear hk)
     (try clear hi)
     refine hK.out _ _ ⟨(blk_cell BK895.out 0).trans rfl, (blk_cell BK895.out 1).trans rfl, (blk_cell BK895.out 2).trans rfl, (blk_cell BK895.out 3).trans rfl, (blk_cell BK888.out 0).trans rfl, (blk_cell BK888.out 1).trans rfl, (blk_cell BK888.out 2).trans rfl, (blk_cell BK888.out 3).trans rfl, (blk_cell BK889.out 0).trans rfl, (blk_cell BK889.out 1).trans rfl, (blk_cell BK889.out 2).trans rfl, (blk_cell BK889.out 3).trans rfl⟩ (fun hHeld => ?_)
     clear hK K
     refine norm_ (a' := ?_) ?_ ?_
     rotate_left
     ·show Act.put _ (some 33) _ = _
      simp only [Act.put, List.setIfInBounds_toArray, List.set_cons_zero, List.set_cons_succ, i64_w, i32_w]
      rfl
     refine pure_ (i := 20) (N := some 34) (v := ?_) (a' := ?_) #[true, true, true, true, true, true, true, true, true, true, true, true, true, true, true, true, true, true, true, true, true, false, false, false, false, false, false, false, false, false, false, false] rfl rfl (any_of HT_.out (by kernel_rfl)) (fun _ _ _ h => h) (Or.inl ⟨by rfl, ?_⟩) ?_ ?_
     rotate_left
     ·intro w'
      go_simp
      with_reducible rfl
     rotate_left
     ·simp only [Act.put, List.setIfInBounds_toArray, List.set_cons_zero, List.set_cons_succ, i64_w, i32_w]
      rfl
     refine pure_ (i := 21) (N := some 35) (v := ?_) (a' := ?_) #[true, true, true, true, true, true, true, true, true, true, true, true, true, true, true, true, true, true, true, true, true, true, false, false, false, false, false, false, false, false, false, false] rfl rfl (any_of HT_.out (by kernel_rfl)) (fun _ _ _ h => h) (Or.inl ⟨by rfl, ?_⟩) ?_ ?_
     rotate_left
     ·intro w'
      go_simp
      with_reducible rfl
     rotate_left
     ·simp only [Act.put, List.setIfInBounds_toArray, List.set_cons_zero, List.set_cons_succ, i64_w, i32_w]
      rfl
     refine pure_ (i := 22) (N := some 36) (v := ?_) (a' := ?_) #[true, true, true, true, true, true, true, true, true, true, true, true, true, true, true, true, true, true, true, true, true, true, true, false, false, false, false, false, false, false, false, false] rfl rfl (any_of HT_.out (by kernel_rfl)) (fun _ _ _ h => h) (Or.inl ⟨by rfl, ?_⟩) ?_ ?_
     rotate_left
     ·intro w'
      go_simp
      with_reducible rfl
     rotate_left
     ·simp only [Act.put, List.setIfInBounds_toArray, List.set_cons_zero, List.set_cons_succ, i64_w, i32_w]
      rfl
     refine pure_ (i := 24) (N := some 38) (v := ?_) (a' := ?_) #[true, true, true, true, true, true, true, true, true, true, true, true, true, true, true, true, true, true, true, true, true, true, true, false, true, false, false, false, false, false, false, false] rfl rfl (any_of HT_.out (by kernel_rfl)) (fun _ _ _ h => h) (Or.inl ⟨by rfl, ?_⟩) ?_ ?_
     rotate_left
     ·intro w'
      go_simp
      with_reducible rfl
     rotate_left
     ·simp only [Act.put, List.setIfInBounds_toArray, List.set_cons_zero, List.set_cons_succ, i64_w, i32_w]
      rfl
     refine pure_ (i := 27) (N := some 41) (v := ?_) (a' := ?_) #[true, true, true, true, true, true, true, true, true, true, true, true, true, true, true, true, true, true, true, true, true, true, true, false, true, false, false, true, false, false, false, false] rfl rfl (any_of HT_.out (by kernel_rfl)) (fun _ _ _ h => h) (Or.inl ⟨by rfl, ?_⟩) ?_ ?_
     rotate_left
     ·intro w'
      go_simp
      with_reducible rfl
     rotate_left
     ·simp only [Act.put, List.setIfInBounds_toArray, List.set_cons_zero, List.set_cons_succ, i64_w, i32_w]
      rfl
     refine take_ (i := 23) (N := some 37) (v := ?_) (a' := ?_) #[true, true, true, true, true, true, true, true, true, true, true, true, true, true, true, true, true, true, true, true, true, true, true, true, true, false, false, true, false, false, false, false] rfl rfl (take_ofW HT_.out HW_.out (by kernel_rfl)) (fun _ _ _ h => h) (Or.inl ⟨by rfl, ?_⟩) hHeld ?_ ?_
     rotate_left
     ·rintro w' ⟨s0, s1, s2, s3, s4, s5, s6, s7, s8, s9, s10, s11⟩
      go_simp
      with_reducible rfl
     rotate_left
     ·simp only [Act.put, List.setIfInBounds_toArray, List.set_cons_zero, List.set_cons_succ, i64_w, i32_w]
      rfl
     refine take_ (i := 26) (N := some 40) (v := ?_) (a' := ?_) #[true, true, true, true, true, true, true, true, true, true, true, true, true, true, true, true, true, true, true, true, true, true, true, true, true, false, true, true, false, false, false, false] rfl rfl (take_ofW HT_.out HW_.out (by kernel_rfl)) (fun _ _ _ h => h) (Or.inl ⟨by rfl, ?_⟩) hHeld ?_ ?_
     rotate_left
     ·rintro w' ⟨s0, s1, s2, s3, s4, s5, s6, s7, s8, s9, s10, s11⟩
      go_simp
      with_reducible rfl
     rotate_left
     ·simp only [Act.put, List.setIfInBounds_toArray, List.set_cons_zero, List.set_cons_succ, i64_w, i32_w]
      rfl
     refine one_ (i := 25) (N := some 39) #[true, true, true, true, true, true, true, true, true, true, true, true, true, true, true, true, true, true, true, true, true, true, true, true, true, true, true, true, false, false, false, false] rfl rfl (one_of HT_.out (by kernel_rfl)) (by decide) (fun K hK => ?_)
     refine gs_ Try.func22 #[.agg #[.int .i64 a0_0, .bool a0_1, .int .u64 a0_2, .int .i64 a0_3], .bool a2] ?_
     with_reducible refine (arith_Twice.calls k a0_0 a0_1 a0_2 a0_3 a2 t909 t910 t911 t912 _ A14.out).mono ?_
     rintro e w33 ⟨rfl, hb⟩
     refine ⟨_, rfl, ?_⟩
     have n0_ := kq_ BK888 hb
     have n1_ := kq_ BK889 hb
     have n2_ := kq_ BK895 hb
     have n3_ := bq_ HB hb
     clear BK888
     clear BK889
     clear BK895
     clear HB
     have BK888 := n0_
     have BK889 := n1_
     have BK895 := n2_
     have HB := n3_
     clear n0_ n1_ n2_ n3_
     (try clear hb)
     (try clear hb2)
     (try clear hk)
     (try clear hi)
     refine hK.out _ _ ⟨(blk_cell BK895.out 0).trans rfl, (blk_cell BK895.out 1).trans rfl, (blk_cell BK895.out 2).trans rfl, (blk_cell BK895.out 3).trans rfl, (blk_cell BK888.out 0).trans rfl, (blk_cell BK888.out 1).trans rfl, (blk_cell BK888.out 2).trans rfl, (blk_cell BK888.out 3).trans rfl, (blk_cell BK889.out 0).trans rfl, (blk_cell BK889.out 1).trans rfl, (blk_cell BK889.out 2).trans rfl, (blk_cell BK889.out 3).trans rfl⟩ (fun hHeld => ?_)
     clear hK K
     refine norm_ (a' := ?_) ?_ ?_
     rotate_left
     ·show Act.put _ (some 39) _ = _
      simp only [Act.put, List.setIfInBounds_toArray, List.set_cons_zero, List.set_cons_succ, i64_w, i32_w]
      rfl
     refine one_ (i := 28) (N := some 42) #[true, true, true, true, true, true, true, true, true, true, true, true, true, true, true, true, true, true, true, true, true, true, true, true, true, true, true, true, true, false, false, false] rfl rfl (one_of HT_.out (by kernel_rfl)) (by decide) (fun K hK => ?_)
     refine gs_ Try.func23 #[.agg #[.int .i64 a0_0, .bool a0_1, .int .u64 a0_2, .int .i64 a0_3], .bool a2] ?_
     with_reducible refine (pelorusref06_Twice.calls k a0_0 a0_1 a0_2 a0_3 a2 t913 t914 t915 t916 _ A15.out).mono ?_
     rintro e w34 ⟨rfl, hb⟩
     refine ⟨_, rfl, ?_⟩
     have n0_ := kq_ BK888 hb
     have n1_ := kq_ BK889 hb
     have n2_ := kq_ BK895 hb
     have n3_ := bq_ HB hb
     clear BK888
     clear BK889
     clear BK895
     clear HB
     have BK888 := n0_
     have BK889 := n1_
     have BK895 := n2_
     have HB := n3_
     clear n0_ n1_ n2_ n3_
     (try clear hb)
     (try clear hb2)
     (try clear hk)
     (try clear hi)
     refine hK.out _ _ ⟨(blk_cell BK895.out 0).trans rfl, (blk_cell BK895.out 1).trans rfl, (blk_cell BK895.out 2).trans rfl, (blk_cell BK895.out 3).trans rfl, (blk_cell BK888.out 0).trans rfl, (blk_cell BK888.out 1).trans rfl, (blk_cell BK888.out 2).trans rfl, (blk_cell BK888.out 3).trans rfl, (blk_cell BK889.out 0).trans rfl, (blk_cell BK889.out 1).trans rfl, (blk_cell BK889.out 2).trans rfl, (blk_cell BK889.out 3).trans rfl⟩ (fun hHeld => ?_)
     clear hK K
     refine norm_ (a' := ?_) ?_ ?_
     rotate_left
     ·show Act.put _ (some 42) _ = _
      simp only [Act.put, List.setIfInBounds_toArray, List.set_cons_zero, List.set_cons_succ, i64_w, i32_w]
      rfl
     refine pure_ (i := 29) (N := some 43) (v := ?_) (a' := ?_) #[true, true, true, true, true, true, true, true, true, true, true, true, true, true, true, true, true, true, true, true, true, true, true, true, true, true, true, true, true, true, false, false] rfl rfl (any_of HT_.out (by kernel_rfl)) (fun _ _ _ h => h) (Or.inl ⟨by rfl, ?_⟩) ?_ ?_
     rotate_left
     ·intro w'
      go_simp
      with_reducible rfl
     rotate_left
     ·simp only [Act.put, List.setIfInBounds_toArray, List.set_cons_zero, List.set_cons_succ, i64_w, i32_w]
      rfl
     refine pure_ (i := 30) (N := some 44) (v := ?_) (a' := ?_) #[true, true, true, true, true, true, true, true, true, true, true, true, true, true, true, true, true, true, true, true, true, true, true, true, true, true, true, true, true, true, true, false] rfl rfl (any_of HT_.out (by kernel_rfl)) (fun _ _ _ h => h) (Or.inl ⟨by rfl, ?_⟩) ?_ ?_
     rotate_left
     ·intro w'
      go_simp
      with_reducible rfl
     rotate_left
     ·simp only [Act.put, List.setIfInBounds_toArray, List.set_cons_zero, List.set_cons_succ, i64_w, i32_w]
      rfl
     refine pure_ (i := 31) (N := some 6) (v := ?_) (a' := ?_) #[true, true, true, true, true, true, true, true, true, true, true, true, true, true, true, true, true, true, true, true, true, true, true, true, true, true, true, true, true, true, true, true] rfl rfl (any_of HT_.out (by kernel_rfl)) (fun _ _ _ h => h) (Or.inl ⟨by rfl, ?_⟩) ?_ ?_
     rotate_left
     ·intro w'
      go_simp
      with_reducible rfl
     rotate_left
     ·simp only [Act.put, List.setIfInBounds_toArray, List.set_cons_zero, List.set_cons_succ, i64_w, i32_w]
      rfl
     refine done_ (done_of HT_.out (by kernel_rfl)) ?_
     try go_wp2
     go_ret
     exact ⟨by first | rfl | (simp [errW_none, errW_some] <;> rfl) | (simp [*, errW_none, errW_some] <;> rfl), bw_ HB.out⟩
    ·rw [if_neg c13] at H
     have c13b0 : (t901 == t905 && (t902 == t906 && (t903 == t907 && (t904 == t908)))) = false := by simpa using c13
     (try (have c13b1 : decide (t901 = t905 && (t902 == t906 && (t903 == t907 && (t904 == t908)))) = false := by simpa using c13))
     (try (have c13b2 : (t901 == t905 && (t902 == t906 && (t903 == t907 && (t904 == t908)))) = false := by simpa using c13))
     (try (have c13b3 : ¬ (t901 = t905 && (t902 == t906 && (t903 == t907 && (t904 == t908)))) := by simpa using c13))
     clear c13
     exact absurd ((Option.some.inj H).trans HRT_.out) (by simp)
   ·replace c10 := Bool.eq_false_iff.mpr c10
    subst c10
    have H1 : (some false) = some r := by rw [if_neg (show ¬ (false = true) by decide)] at H; exact H
    clear H
    have H := H1
    clear H1
    exact absurd ((Option.some.inj H).trans HRT_.out) (by simp)
  ·rw [if_neg c8] at H
   have c8b0 : (t891 == t896 && (t892 == t897 && (t893 == t898 && (t894 == t899)))) = false := by simpa using c8
   (try (have c8b1 : decide (t891 = t896 && (t892 == t897 && (t893 == t898 && (t894 == t899)))) = false := by simpa using c8))
   (try (have c8b2 : (t891 == t896 && (t892 == t897 && (t893 == t898 && (t894 == t899)))) = false := by simpa using c8))
   (try (have c8b3 : ¬ (t891 = t896 && (t892 == t897 && (t893 == t898 && (t894 == t899)))) := by simpa using c8))
   clear c8
   exact absurd ((Option.some.inj H).trans HRT_.out) (by simp)
 ·replace c6 := Bool.eq_false_iff.mpr c6
  subst c6
  have H1 : (some false) = some r := by rw [if_neg (show ¬ (false = true) by decide)] at H; exact H
  clear H
  have H := H1
  clear H1
  exact absurd ((Option.some.inj H).trans HRT_.out) (by simp)


end Go.Proofs.Ythlhogcnfaiphaa.PA
