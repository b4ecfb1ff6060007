-- Laid by this work's own program; Lean checks it.
import Derived.Test.YthlhogcnfaiphaaPAx0
import Derived.Test.YthlhogcnfaiphaaPAx2
import Derived.Test.YthlhogcnfaiphaaPAx9
import Derived.Test.YthlhogcnfaiphaaPAx17
namespace Go.Proofs.Ythlhogcnfaiphaa.PA
open Go.RowKit Go.Proofs.YthlhogcnfaiphaaW.PrintWords Go.Proofs.YthlhogcnfaiphaaW.PrintLast Go.Proofs.YthlhogcnfaiphaaW.PrintMore
attribute [local go_sem] max2_int min2_int max_two min_two max_three min_three max_four min_four   -- for this text's walks alone
set_option linter.unusedVariables false
set_option linter.unusedSimpArgs false

attribute [local go_sem ↓ high] isSome_set_
/-! ### pelorusref05_fair: function 64 -/
set_option maxHeartbeats 8000000 in
set_option maxRecDepth 100000 in
theorem pelorusref05_fair.calls (a0_0 : Int) (a0_1 : Bool) (a0_2 : Int) (a0_3 : Int) (r1 : Int) (r2 : Bool) (r3 : Int) (r4 : Int) (w : World) (h : pelorusref05_fair.f a0_0 a0_1 a0_2 a0_3 = some (r1, r2, r3, r4)) :
  Calls Try.prog 64 #[.agg #[.int .i64 a0_0, .bool a0_1, .int .u64 a0_2, .int .i64 a0_3]] w fun e w' => e = .returned (.agg #[.int .i64 r1, .bool r2, .int .u64 r3, .int .i64 r4]) ∧ Below w.heap.size w w' := by
 have hu24 := Try.underlying24
 have HB := Aside0.mk (Below.refl w.heap.size w)
 have H : ((pelorusref05_May.f a0_0 a0_1 a0_2 a0_3).bind fun t706 => (if t706 = true then (some (a0_0, a0_1, a0_2, a0_3)) else (some (0, false, 0, 0)))) = some (r1, r2, r3, r4) := h
 clear h
 replace H := Option.bind_eq_some_iff.mp H
 obtain ⟨t706, A20, H⟩ := H
 (try dsimp only at H)
 have A2 := Aside0.mk A20
 clear A20
 by_cases c3 : t706 = true
 ·subst c3
  have H1 : (some (a0_0, a0_1, a0_2, a0_3)) = some (r1, r2, r3, r4) := by rw [if_pos rfl] at H; exact H
  clear H
  have H := H1
  clear H1
  simp only [Option.some.injEq, Prod.mk.injEq] at H
  obtain ⟨rfl, rfl, rfl, rfl⟩ := H
  go_enter Try.func64, Try.ntmps64
  go_wp2_with (first | ((with_reducible refine gate_dst (N := 1) rfl ?_); refine bx_ 1 #[.int .i64 a0_0, .bool a0_1, .int .u64 a0_2, .int .i64 a0_3] 24 ?_; intro gb704 hg w4 hbox hb; have n0_ := bq_ HB hb; have n1_ := Aside0.mk (hbox); have n2_ := ge_ hg HB; have n3_ := ge_ hg HB; clear HB; have HB := n0_; have BK704 := n1_; have GW704 := n2_; have GE704 := n3_; clear n0_ n1_ n2_ n3_; clear hb hbox hg) | ((with_reducible refine gate_dst (N := 2) rfl ?_); refine bx_ 2 #[.int .i64 0, .bool false, .int .u64 0, .int .i64 0] 24 ?_; intro gb705 hg w5 hbox hb; have n0_ := kq_ BK704 hb; have n1_ := bq_ HB hb; have n2_ := Aside0.mk (hbox); have n3_ := ge_ hg HB; have n4_ := ge_ hg HB; have n5_ := nb_ hg BK704; have n6_ := nc_ hg BK704; clear BK704; clear HB; have BK704 := n0_; have HB := n1_; have BK705 := n2_; have GW705 := n3_; have GE705 := n4_; have NB704_705 := n5_; have NB705_704 := n6_; clear n0_ n1_ n2_ n3_ n4_ n5_ n6_; clear hb hbox hg; have hnb6 := NB704_705.out; have hnc6 := NB705_704.out; have hcz7_0 := cz_ BK704 0 rfl; have hcz7_1 := cz_ BK704 1 rfl; have hcz7_2 := cz_ BK704 2 rfl; have hcz7_3 := cz_ BK704 3 rfl; have hfz7_0 := fz_ BK704 0; have hfz7_1 := fz_ BK704 1; have hfz7_2 := fz_ BK704 2; have hfz7_3 := fz_ BK704 3) | ((with_reducible refine gate_callee (f := 53) rfl ?_); refine gl_ (some 5) Try.func53 #[.agg #[.int .i64 a0_0, .bool a0_1, .int .u64 a0_2, .int .i64 a0_3]] ?_; (with_reducible refine (pelorusref05_May.calls a0_0 a0_1 a0_2 a0_3 true _ A2.out).mono ?_); rintro e w8 ⟨rfl, hb⟩; refine ⟨_, rfl, ?_⟩; have n0_ := kq_ BK704 hb; have n1_ := kq_ BK705 hb; have n2_ := bq_ HB hb; clear BK704; clear BK705; clear HB; have BK704 := n0_; have BK705 := n1_; have HB := n2_; clear n0_ n1_ n2_; (try clear hb); (try clear hb2); (try clear hk); (try clear hi); have hcz9_0 := cz_ BK704 0 rfl; have hcz9_1 := cz_ BK704 1 rfl; have hcz9_2 := cz_ BK704 2 rfl; have hcz9_3 := cz_ BK704 3 rfl; have hfz9_0 := fz_ BK704 0; have hfz9_1 := fz_ BK704 1; have hfz9_2 := fz_ BK704 2; have hfz9_3 := fz_ BK704 3; have hcz10_0 := cz_ BK705 0 rfl; have hcz10_1 := cz_ BK705 1 rfl; have hcz10_2 := cz_ BK705 2 rfl; have hcz10_3 := cz_ BK705 3 rfl; have hfz10_0 := fz_ BK705 0; have hfz10_1 := fz_ BK705 1; have hfz10_2 := fz_ BK705 2; have hfz10_3 := fz_ BK705 3))
  refine bodyPost_ret (results_cell_row rfl _ _ gb705 24 #[.int .i64 a0_0, .bool a0_1, .int .u64 a0_2, .int .i64 a0_3] (0, 0) _ rfl (by refine kb_ ?_; refine bp_ #[.int .i64 a0_0, .bool a0_1, .int .u64 a0_2, .int .i64 0] 3 ?_; refine bp_ #[.int .i64 a0_0, .bool a0_1, .int .u64 0, .int .i64 0] 2 ?_; refine bp_ #[.int .i64 a0_0, .bool false, .int .u64 0, .int .i64 0] 1 ?_; refine bp_ #[.int .i64 0, .bool false, .int .u64 0, .int .i64 0] 0 ?_; exact BK705.out) Try.underlying24 rfl (by kernel_rfl)) rfl ?_
  exact ⟨by first | rfl | (simp [errW_none, errW_some] <;> rfl) | (simp [*, errW_none, errW_some] <;> rfl), bw_ HB.out⟩
 ·replace c3 := Bool.eq_false_iff.mpr c3
  subst c3
  have H1 : (some (0, false, 0, 0)) = some (r1, r2, r3, r4) := by rw [if_neg (show ¬ (false = true) by decide)] at H; exact H
  clear H
  have H := H1
  clear H1
  simp only [Option.some.injEq, Prod.mk.injEq] at H
  obtain ⟨rfl, rfl, rfl, rfl⟩ := H
  go_enter Try.func64, Try.ntmps64
  go_wp2_with (first | ((with_reducible refine gate_dst (N := 1) rfl ?_); refine bx_ 1 #[.int .i64 a0_0, .bool a0_1, .int .u64 a0_2, .int .i64 a0_3] 24 ?_; intro gb704 hg w11 hbox hb; have n0_ := bq_ HB hb; have n1_ := Aside0.mk (hbox); have n2_ := ge_ hg HB; have n3_ := ge_ hg HB; clear HB; have HB := n0_; have BK704 := n1_; have GW704 := n2_; have GE704 := n3_; clear n0_ n1_ n2_ n3_; clear hb hbox hg) | ((with_reducible refine gate_dst (N := 2) rfl ?_); refine bx_ 2 #[.int .i64 0, .bool false, .int .u64 0, .int .i64 0] 24 ?_; intro gb705 hg w12 hbox hb; have n0_ := kq_ BK704 hb; have n1_ := bq_ HB hb; have n2_ := Aside0.mk (hbox); have n3_ := ge_ hg HB; have n4_ := ge_ hg HB; have n5_ := nb_ hg BK704; have n6_ := nc_ hg BK704; clear BK704; clear HB; have BK704 := n0_; have HB := n1_; have BK705 := n2_; have GW705 := n3_; have GE705 := n4_; have NB704_705 := n5_; have NB705_704 := n6_; clear n0_ n1_ n2_ n3_ n4_ n5_ n6_; clear hb hbox hg; have hnb13 := NB704_705.out; have hnc13 := NB705_704.out; have hcz14_0 := cz_ BK704 0 rfl; have hcz14_1 := cz_ BK704 1 rfl; have hcz14_2 := cz_ BK704 2 rfl; have hcz14_3 := cz_ BK704 3 rfl; have hfz14_0 := fz_ BK704 0; have hfz14_1 := fz_ BK704 1; have hfz14_2 := fz_ BK704 2; have hfz14_3 := fz_ BK704 3) | ((with_reducible refine gate_callee (f := 53) rfl ?_); refine gl_ (some 5) Try.func53 #[.agg #[.int .i64 a0_0, .bool a0_1, .int .u64 a0_2, .int .i64 a0_3]] ?_; (with_reducible refine (pelorusref05_May.calls a0_0 a0_1 a0_2 a0_3 false _ A2.out).mono ?_); rintro e w15 ⟨rfl, hb⟩; refine ⟨_, rfl, ?_⟩; have n0_ := kq_ BK704 hb; have n1_ := kq_ BK705 hb; have n2_ := bq_ HB hb; clear BK704; clear BK705; clear HB; have BK704 := n0_; have BK705 := n1_; have HB := n2_; clear n0_ n1_ n2_; (try clear hb); (try clear hb2); (try clear hk); (try clear hi); have hcz16_0 := cz_ BK705 0 rfl; have hcz16_1 := cz_ BK705 1 rfl; have hcz16_2 := cz_ BK705 2 rfl; have hcz16_3 := cz_ BK705 3 rfl; have hfz16_0 := fz_ BK705 0; have hfz16_1 := fz_ BK705 1; have hfz16_2 := fz_ BK705 2; have hfz16_3 := fz_ BK705 3))
  refine bodyPost_ret (results_cell_row rfl _ _ gb705 24 #[.int .i64 0, .bool false, .int .u64 0, .int .i64 0] (0, 0) _ rfl (by refine kb_ ?_; refine bp_ #[.int .i64 0, .bool false, .int .u64 0, .int .i64 0] 3 ?_; refine bp_ #[.int .i64 0, .bool false, .int .u64 0, .int .i64 0] 2 ?_; refine bp_ #[.int .i64 0, .bool false, .int .u64 0, .int .i64 0] 1 ?_; refine bp_ #[.int .i64 0, .bool false, .int .u64 0, .int .i64 0] 0 ?_; exact BK705.out) Try.underlying24 rfl (by kernel_rfl)) rfl ?_
  exact ⟨by first | rfl | (simp [errW_none, errW_some] <;> rfl) | (simp [*, errW_none, errW_some] <;> rfl), bw_ HB.out⟩

/-! ### pelorusref05_Neg: function 42 -/
set_option maxHeartbeats 8000000 in
set_option maxRecDepth 100000 in
theorem pelorusref05_Neg.calls (a0_0 : Int) (a0_1 : Bool) (a0_2 : Int) (a0_3 : Int) (r1 : Int) (r2 : Bool) (r3 : Int) (r4 : Int) (w : World) (h : pelorusref05_Neg.f a0_0 a0_1 a0_2 a0_3 = some (r1, r2, r3, r4)) :
  Calls Try.prog 42 #[.agg #[.int .i64 a0_0, .bool a0_1, .int .u64 a0_2, .int .i64 a0_3]] w fun e w' => e = .returned (.agg #[.int .i64 r1, .bool r2, .int .u64 r3, .int .i64 r4]) ∧ Below w.heap.size w w' := by
 have hu24 := Try.underlying24
 have HB := Aside0.mk (Below.refl w.heap.size w)
 have H : ((pelorusref05_fair.f a0_0 a0_1 a0_2 a0_3).bind fun bt709 => (if bt709.1 = 0 then (some (bt709.1, bt709.2.1, bt709.2.2.1, bt709.2.2.2)) else (some (bt709.1, !bt709.2.1, bt709.2.2.1, bt709.2.2.2)))) = some (r1, r2, r3, r4) := h
 clear h
 replace H := Option.bind_eq_some_iff.mp H
 obtain ⟨⟨t709, t710, t711, t712⟩, A20, H⟩ := H
 (try dsimp only at H)
 have A2 := Aside0.mk A20
 clear A20
 by_cases c3 : t709 = 0
 ·rw [if_pos c3] at H
  have c3b0 : (t709 == 0) = true := beq_iff_eq.mpr c3
  have c3b1 : (t709 != 0) = false := bne_eq_false_iff_eq.mpr c3
  clear c3
  simp only [Option.some.injEq, Prod.mk.injEq] at H
  obtain ⟨rfl, rfl, rfl, rfl⟩ := H
  go_enter Try.func42, Try.ntmps42
  go_wp2_with (first | ((with_reducible refine gate_dst (N := 1) rfl ?_); refine bx_ 1 #[.int .i64 a0_0, .bool a0_1, .int .u64 a0_2, .int .i64 a0_3] 24 ?_; intro gb707 hg w4 hbox hb; have n0_ := bq_ HB hb; have n1_ := Aside0.mk (hbox); have n2_ := ge_ hg HB; have n3_ := ge_ hg HB; clear HB; have HB := n0_; have BK707 := n1_; have GW707 := n2_; have GE707 := n3_; clear n0_ n1_ n2_ n3_; clear hb hbox hg) | ((with_reducible refine gate_dst (N := 2) rfl ?_); refine bx_ 2 #[.int .i64 0, .bool false, .int .u64 0, .int .i64 0] 24 ?_; intro gb708 hg w5 hbox hb; have n0_ := kq_ BK707 hb; have n1_ := bq_ HB hb; have n2_ := Aside0.mk (hbox); have n3_ := ge_ hg HB; have n4_ := ge_ hg HB; have n5_ := nb_ hg BK707; have n6_ := nc_ hg BK707; clear BK707; clear HB; have BK707 := n0_; have HB := n1_; have BK708 := n2_; have GW708 := n3_; have GE708 := n4_; have NB707_708 := n5_; have NB708_707 := n6_; clear n0_ n1_ n2_ n3_ n4_ n5_ n6_; clear hb hbox hg; have hnb6 := NB707_708.out; have hnc6 := NB708_707.out; have hcz7_0 := cz_ BK707 0 rfl; have hcz7_1 := cz_ BK707 1 rfl; have hcz7_2 := cz_ BK707 2 rfl; have hcz7_3 := cz_ BK707 3 rfl; have hfz7_0 := fz_ BK707 0; have hfz7_1 := fz_ BK707 1; have hfz7_2 := fz_ BK707 2; have hfz7_3 := fz_ BK707 3) | ((with_reducible refine gate_callee (f := 64) rfl ?_); refine gl_ (some 5) Try.func64 #[.agg #[.int .i64 a0_0, .bool a0_1, .int .u64 a0_2, .int .i64 a0_3]] ?_; (with_reducible refine (pelorusref05_fair.calls a0_0 a0_1 a0_2 a0_3 t709 t710 t711 t712 _ A2.out).mono ?_); rintro e w8 ⟨rfl, hb⟩; refine ⟨_, rfl, ?_⟩; have n0_ := kq_ BK707 hb; have n1_ := kq_ BK708 hb; have n2_ := bq_ HB hb; clear BK707; clear BK708; clear HB; have BK707 := n0_; have BK708 := n1_; have HB := n2_; clear n0_ n1_ n2_; (try clear hb); (try clear hb2); (try clear hk); (try clear hi)) | ((with_reducible refine gate_dst (N := 3) rfl ?_); refine bx_ 3 #[.int .i64 0, .bool false, .int .u64 0, .int .i64 0] 24 ?_; intro gb713 hg w9 hbox hb; have n0_ := kq_ BK707 hb; have n1_ := kq_ BK708 hb; have n2_ := bq_ HB hb; have n3_ := Aside0.mk (hbox); have n4_ := ge_ hg HB; have n5_ := ge_ hg HB; have n6_ := nb_ hg BK707; have n7_ := nc_ hg BK707; have n8_ := nb_ hg BK708; have n9_ := nc_ hg BK708; clear BK707; clear BK708; clear HB; have BK707 := n0_; have BK708 := n1_; have HB := n2_; have BK713 := n3_; have GW713 := n4_; have GE713 := n5_; have NB707_713 := n6_; have NB713_707 := n7_; have NB708_713 := n8_; have NB713_708 := n9_; clear n0_ n1_ n2_ n3_ n4_ n5_ n6_ n7_ n8_ n9_; clear hb hbox hg; have hnb10 := NB713_707.out; have hnc10 := NB707_713.out; have hnb11 := NB713_708.out; have hnc11 := NB708_713.out; have hcz12_0 := cz_ BK713 0 rfl; have hcz12_1 := cz_ BK713 1 rfl; have hcz12_2 := cz_ BK713 2 rfl; have hcz12_3 := cz_ BK713 3 rfl; have hfz12_0 := fz_ BK713 0; have hfz12_1 := fz_ BK713 1; have hfz12_2 := fz_ BK713 2; have hfz12_3 := fz_ BK713 3; have hcz13_0 := cz_ BK708 0 rfl; have hcz13_1 := cz_ BK708 1 rfl; have hcz13_2 := cz_ BK708 2 rfl; have hcz13_3 := cz_ BK708 3 rfl; have hfz13_0 := fz_ BK708 0; have hfz13_1 := fz_ BK708 1; have hfz13_2 := fz_ BK708 2; have hfz13_3 := fz_ BK708 3))
  refine bodyPost_ret (results_cell_row rfl _ _ gb708 24 #[.int .i64 t709, .bool t710, .int .u64 t711, .int .i64 t712] (0, 0) _ rfl (by refine kb_ ?_; refine bp_ #[.int .i64 t709, .bool t710, .int .u64 t711, .int .i64 0] 3 ?_; refine bp_ #[.int .i64 t709, .bool t710, .int .u64 0, .int .i64 0] 2 ?_; refine bp_ #[.int .i64 t709, .bool false, .int .u64 0, .int .i64 0] 1 ?_; refine bp_ #[.int .i64 0, .bool false, .int .u64 0, .int .i64 0] 0 ?_; refine bf_ NB708_713 ?_; refine bf_ NB708_713 ?_; refine bf_ NB708_713 ?_; refine bf_ NB708_713 ?_; exact BK708.out) Try.underlying24 rfl (by kernel_rfl)) rfl ?_
  exact ⟨by first | rfl | (simp [errW_none, errW_some] <;> rfl) | (simp [*, errW_none, errW_some] <;> rfl), bw_ HB.out⟩
 ·rw [if_neg c3] at H
  have c3b0 : (t709 == 0) = false := beq_eq_false_iff_ne.mpr c3
  have c3b1 : (t709 != 0) = true := bne_iff_ne.mpr c3
  simp only [Option.some.injEq, Prod.mk.injEq] at H
  obtain ⟨rfl, rfl, rfl, rfl⟩ := H
  go_enter Try.func42, Try.ntmps42
  go_wp2_with (first | ((with_reducible refine gate_dst (N := 1) rfl ?_); refine bx_ 1 #[.int .i64 a0_0, .bool a0_1, .int .u64 a0_2, .int .i64 a0_3] 24 ?_; intro gb707 hg w14 hbox hb; have n0_ := bq_ HB hb; have n1_ := Aside0.mk (hbox); have n2_ := ge_ hg HB; have n3_ := ge_ hg HB; clear HB; have HB := n0_; have BK707 := n1_; have GW707 := n2_; have GE707 := n3_; clear n0_ n1_ n2_ n3_; clear hb hbox hg) | ((with_reducible refine gate_dst (N := 2) rfl ?_); refine bx_ 2 #[.int .i64 0, .bool false, .int .u64 0, .int .i64 0] 24 ?_; intro gb708 hg w15 hbox hb; have n0_ := kq_ BK707 hb; have n1_ := bq_ HB hb; have n2_ := Aside0.mk (hbox); have n3_ := ge_ hg HB; have n4_ := ge_ hg HB; have n5_ := nb_ hg BK707; have n6_ := nc_ hg BK707; clear BK707; clear HB; have BK707 := n0_; have HB := n1_; have BK708 := n2_; have GW708 := n3_; have GE708 := n4_; have NB707_708 := n5_; have NB708_707 := n6_; clear n0_ n1_ n2_ n3_ n4_ n5_ n6_; clear hb hbox hg; have hnb16 := NB707_708.out; have hnc16 := NB708_707.out; have hcz17_0 := cz_ BK707 0 rfl; have hcz17_1 := cz_ BK707 1 rfl; have hcz17_2 := cz_ BK707 2 rfl; have hcz17_3 := cz_ BK707 3 rfl; have hfz17_0 := fz_ BK707 0; have hfz17_1 := fz_ BK707 1; have hfz17_2 := fz_ BK707 2; have hfz17_3 := fz_ BK707 3) | ((with_reducible refine gate_callee (f := 64) rfl ?_); refine gl_ (some 5) Try.func64 #[.agg #[.int .i64 a0_0, .bool a0_1, .int .u64 a0_2, .int .i64 a0_3]] ?_; (with_reducible refine (pelorusref05_fair.calls a0_0 a0_1 a0_2 a0_3 t709 t710 t711 t712 _ A2.out).mono ?_); rintro e w18 ⟨rfl, hb⟩; refine ⟨_, rfl, ?_⟩; have n0_ := kq_ BK707 hb; have n1_ := kq_ BK708 hb; have n2_ := bq_ HB hb; clear BK707; clear BK708; clear HB; have BK707 := n0_; have BK708 := n1_; have HB := n2_; clear n0_ n1_ n2_; (try clear hb); (try clear hb2); (try clear hk); (try clear hi)) | ((with_reducible refine gate_dst (N := 3) rfl ?_); refine bx_ 3 #[.int .i64 0, .bool false, .int .u64 0, .int .i64 0] 24 ?_; intro gb713 hg w19 hbox hb; have n0_ := kq_ BK707 hb; have n1_ := kq_ BK708 hb; have n2_ := bq_ HB hb; have n3_ := Aside0.mk (hbox); have n4_ := ge_ hg HB; have n5_ := ge_ hg HB; have n6_ := nb_ hg BK707; have n7_ := nc_ hg BK707; have n8_ := nb_ hg BK708; have n9_ := nc_ hg BK708; clear BK707; clear BK708; clear HB; have BK707 := n0_; have BK708 := n1_; have HB := n2_; have BK713 := n3_; have GW713 := n4_; have GE713 := n5_; have NB707_713 := n6_; have NB713_707 := n7_; have NB708_713 := n8_; have NB713_708 := n9_; clear n0_ n1_ n2_ n3_ n4_ n5_ n6_ n7_ n8_ n9_; clear hb hbox hg; have hnb20 := NB713_707.out; have hnc20 := NB707_713.out; have hnb21 := NB713_708.out; have hnc21 := NB708_713.out; have hcz22_0 := cz_ BK713 0 rfl; have hcz22_1 := cz_ BK713 1 rfl; have hcz22_2 := cz_ BK713 2 rfl; have hcz22_3 := cz_ BK713 3 rfl; have hfz22_0 := fz_ BK713 0; have hfz22_1 := fz_ BK713 1; have hfz22_2 := fz_ BK713 2; have hfz22_3 := fz_ BK713 3; have hcz23_0 := cz_ BK708 0 rfl; have hcz23_1 := cz_ BK708 1 rfl; have hcz23_2 := cz_ BK708 2 rfl; have hcz23_3 := cz_ BK708 3 rfl; have hfz23_0 := fz_ BK708 0; have hfz23_1 := fz_ BK708 1; have hfz23_2 := fz_ BK708 2; have hfz23_3 := fz_ BK708 3))
  refine bodyPost_ret (results_cell_row rfl _ _ gb708 24 #[.int .i64 t709, .bool (!t710), .int .u64 t711, .int .i64 t712] (0, 0) _ rfl (by refine kb_ ?_; refine bp_ #[.int .i64 t709, .bool (!t710), .int .u64 t711, .int .i64 0] 3 ?_; refine bp_ #[.int .i64 t709, .bool (!t710), .int .u64 0, .int .i64 0] 2 ?_; refine bp_ #[.int .i64 t709, .bool false, .int .u64 0, .int .i64 0] 1 ?_; refine bp_ #[.int .i64 0, .bool false, .int .u64 0, .int .i64 0] 0 ?_; refine bf_ NB708_713 ?_; refine bf_ NB708_713 ?_; refine bf_ NB708_713 ?_; refine bf_ NB708_713 ?_; refine bf_ NB708_713 ?_; exact BK708.out) Try.underlying24 rfl (by kernel_rfl)) rfl ?_
  exact ⟨by first | rfl | (simp [errW_none, errW_some] <;> rfl) | (simp [*, errW_none, errW_some] <;> rfl), bw_ HB.out⟩

/-! ### pelorusref06_Sub: function 17 -/
set_option maxHeartbeats 8000000 in
set_option maxRecDepth 100000 in
theorem pelorusref06_Sub.calls (k : Nat) (a0_0 : Int) (a0_1 : Bool) (a0_2 : Int) (a0_3 : Int) (a1_0 : Int) (a1_1 : Bool) (a1_2 : Int) (a1_3 : Int) (a2 : Bool) (r1 : Int) (r2 : Bool) (r3 : Int) (r4 : Int) (w : World) (h : pelorusref06_Sub.f k a0_0 a0_1 a0_2 a0_3 a1_0 a1_1 a1_2 a1_3 a2 = some (r1, r2, r3, r4)) :
  Calls Try.prog 17 #[.agg #[.int .i64 a0_0, .bool a0_1, .int .u64 a0_2, .int .i64 a0_3], .agg #[.int .i64 a1_0, .bool a1_1, .int .u64 a1_2, .int .i64 a1_3], .bool a2] w fun e w' => e = .returned (.agg #[.int .i64 r1, .bool r2, .int .u64 r3, .int .i64 r4]) ∧ Below w.heap.size w w' := by
 have hu24 := Try.underlying24
 have HB := Aside0.mk (Below.refl w.heap.size w)
 have H : ((pelorusref05_Neg.f a1_0 a1_1 a1_2 a1_3).bind fun bt717 => ((pelorusref06_Add.f k a0_0 a0_1 a0_2 a0_3 bt717.1 bt717.2.1 bt717.2.2.1 bt717.2.2.2 a2).bind fun bt721 => (some (bt721.1, bt721.2.1, bt721.2.2.1, bt721.2.2.2)))) = some (r1, r2, r3, r4) := h
 clear h
 replace H := Option.bind_eq_some_iff.mp H
 obtain ⟨⟨t717, t718, t719, t720⟩, A40, H⟩ := H
 (try dsimp only at H)
 have A4 := Aside0.mk A40
 clear A40
 replace H := Option.bind_eq_some_iff.mp H
 obtain ⟨⟨t721, t722, t723, t724⟩, A50, H⟩ := H
 (try dsimp only at H)
 have A5 := Aside0.mk A50
 clear A50
 simp only [Option.some.injEq, Prod.mk.injEq] at H
 obtain ⟨rfl, rfl, rfl, rfl⟩ := H
 go_enter Try.func17, Try.ntmps17
 try go_wp2_with (first | ((with_reducible refine gate_dst (N := 3) rfl ?_); refine bx_ 3 #[.int .i64 a0_0, .bool a0_1, .int .u64 a0_2, .int .i64 a0_3] 24 ?_; intro gb714 hg w6 hbox hb; have n0_ := bq_ HB hb; have n1_ := Aside0.mk (hbox); have n2_ := ge_ hg HB; have n3_ := ge_ hg HB; clear HB; have HB := n0_; have BK714 := n1_; have GW714 := n2_; have GE714 := n3_; clear n0_ n1_ n2_ n3_; clear hb hbox hg) | ((with_reducible refine gate_dst (N := 4) rfl ?_); refine bx_ 4 #[.int .i64 a1_0, .bool a1_1, .int .u64 a1_2, .int .i64 a1_3] 24 ?_; intro gb715 hg w7 hbox hb; have n0_ := kq_ BK714 hb; have n1_ := bq_ HB hb; have n2_ := Aside0.mk (hbox); have n3_ := ge_ hg HB; have n4_ := ge_ hg HB; have n5_ := nb_ hg BK714; have n6_ := nc_ hg BK714; clear BK714; clear HB; have BK714 := n0_; have HB := n1_; have BK715 := n2_; have GW715 := n3_; have GE715 := n4_; have NB714_715 := n5_; have NB715_714 := n6_; clear n0_ n1_ n2_ n3_ n4_ n5_ n6_; clear hb hbox hg) | ((with_reducible refine gate_dst (N := 6) rfl ?_); refine bx_ 6 #[.int .i64 0, .bool false, .int .u64 0, .int .i64 0] 24 ?_; intro gb716 hg w8 hbox hb; have n0_ := kq_ BK714 hb; have n1_ := kq_ BK715 hb; have n2_ := bq_ HB hb; have n3_ := Aside0.mk (hbox); have n4_ := ge_ hg HB; have n5_ := ge_ hg HB; have n6_ := nb_ hg BK714; have n7_ := nc_ hg BK714; have n8_ := nb_ hg BK715; have n9_ := nc_ hg BK715; clear BK714; clear BK715; clear HB; have BK714 := n0_; have BK715 := n1_; have HB := n2_; have BK716 := n3_; have GW716 := n4_; have GE716 := n5_; have NB714_716 := n6_; have NB716_714 := n7_; have NB715_716 := n8_; have NB716_715 := n9_; clear n0_ n1_ n2_ n3_ n4_ n5_ n6_ n7_ n8_ n9_; clear hb hbox hg))
 have n0_ := Aside0.mk (blk_drew BK714.out)
 have n1_ := Aside0.mk (blk_drew BK715.out)
 have n2_ := Aside0.mk (blk_drew BK716.out)
 have n3_ := Aside0.mk (below_drew1 HB.out)
 clear BK714
 clear BK715
 clear BK716
 clear HB
 have BK714 := n0_
 have BK715 := n1_
 have BK716 := n2_
 have HB := n3_
 clear n0_ n1_ n2_ n3_
 refine start_ (n := 6) (S := fun w' => w'.cell? ⟨gb714, 0, none⟩ = some (.int .i64 a0_0) ∧ w'.cell? ⟨gb714, 1, none⟩ = some (.bool a0_1) ∧ w'.cell? ⟨gb714, 2, none⟩ = some (.int .u64 a0_2) ∧ w'.cell? ⟨gb714, 3, none⟩ = some (.int .i64 a0_3) ∧ w'.cell? ⟨gb715, 0, none⟩ = some (.int .i64 a1_0) ∧ w'.cell? ⟨gb715, 1, none⟩ = some (.bool a1_1) ∧ w'.cell? ⟨gb715, 2, none⟩ = some (.int .u64 a1_2) ∧ w'.cell? ⟨gb715, 3, none⟩ = some (.int .i64 a1_3)) (ds := []) #[false, false, false, false, false, false] (by kernel_rfl) rfl rfl ⟨(blk_cell BK714.out 0).trans rfl, (blk_cell BK714.out 1).trans rfl, (blk_cell BK714.out 2).trans rfl, (blk_cell BK714.out 3).trans rfl, (blk_cell BK715.out 0).trans rfl, (blk_cell BK715.out 1).trans rfl, (blk_cell BK715.out 2).trans rfl, (blk_cell BK715.out 3).trans rfl⟩ (fun hHeld => ?_)
 generalize w8.drew = w9 at BK714 BK715 BK716 HB hHeld ⊢
 refine pure_ (i := 3) (N := some 10) (v := ?_) (a' := ?_) #[false, false, false, true, false, false] rfl rfl (by kernel_rfl) (fun _ _ _ h => h) (Or.inl ⟨by rfl, ?_⟩) ?_ ?_
 rotate_left
 ·intro w'
  go_simp
  with_reducible rfl
 rotate_left
 ·simp only [Act.put, List.setIfInBounds_toArray, List.set_cons_zero, List.set_cons_succ, i64_w, i32_w]
  rfl
 refine take_ (i := 0) (N := some 7) (v := ?_) (a' := ?_) #[true, false, false, true, false, false] rfl rfl (by kernel_rfl) (fun _ _ _ h => h) (Or.inl ⟨by rfl, ?_⟩) hHeld ?_ ?_
 rotate_left
 ·rintro w' ⟨s0, s1, s2, s3, s4, s5, s6, s7⟩
  go_simp
  with_reducible rfl
 rotate_left
 ·simp only [Act.put, List.setIfInBounds_toArray, List.set_cons_zero, List.set_cons_succ, i64_w, i32_w]
  rfl
 refine take_ (i := 1) (N := some 8) (v := ?_) (a' := ?_) #[true, true, false, true, false, false] rfl rfl (by kernel_rfl) (fun _ _ _ h => h) (Or.inl ⟨by rfl, ?_⟩) hHeld ?_ ?_
 rotate_left
 ·rintro w' ⟨s0, s1, s2, s3, s4, s5, s6, s7⟩
  go_simp
  with_reducible rfl
 rotate_left
 ·simp only [Act.put, List.setIfInBounds_toArray, List.set_cons_zero, List.set_cons_succ, i64_w, i32_w]
  rfl
 refine one_ (i := 2) (N := some 9) #[true, true, true, true, false, false] rfl rfl (by kernel_rfl) (by decide) (fun K hK => ?_)
 refine gs_ Try.func42 #[.agg #[.int .i64 a1_0, .bool a1_1, .int .u64 a1_2, .int .i64 a1_3]] ?_
 with_reducible refine (pelorusref05_Neg.calls a1_0 a1_1 a1_2 a1_3 t717 t718 t719 t720 _ A4.out).mono ?_
 rintro e w10 ⟨rfl, hb⟩
 refine ⟨_, rfl, ?_⟩
 have n0_ := kq_ BK714 hb
 have n1_ := kq_ BK715 hb
 have n2_ := kq_ BK716 hb
 have n3_ := bq_ HB hb
 clear BK714
 clear BK715
 clear BK716
 clear HB
 have BK714 := n0_
 have BK715 := n1_
 have BK716 := n2_
 have HB := n3_
 clear n0_ n1_ n2_ n3_
 (try clear hb)
 (try clear hb2)
 (try clear hk)
 (try clear hi)
 refine hK.out _ _ ⟨(blk_cell BK714.out 0).trans rfl, (blk_cell BK714.out 1).trans rfl, (blk_cell BK714.out 2).trans rfl, (blk_cell BK714.out 3).trans rfl, (blk_cell BK715.out 0).trans rfl, (blk_cell BK715.out 1).trans rfl, (blk_cell BK715.out 2).trans rfl, (blk_cell BK715.out 3).trans rfl⟩ (fun hHeld => ?_)
 clear hK K
 refine norm_ (a' := ?_) ?_ ?_
 rotate_left
 ·show Act.put _ (some 9) _ = _
  simp only [Act.put, List.setIfInBounds_toArray, List.set_cons_zero, List.set_cons_succ, i64_w, i32_w]
  rfl
 refine one_ (i := 4) (N := some 11) #[true, true, true, true, true, false] rfl rfl (by kernel_rfl) (by decide) (fun K hK => ?_)
 refine gs_ Try.func15 #[.agg #[.int .i64 a0_0, .bool a0_1, .int .u64 a0_2, .int .i64 a0_3], .agg #[.int .i64 t717, .bool t718, .int .u64 t719, .int .i64 t720], .bool a2] ?_
 with_reducible refine (pelorusref06_Add.calls k a0_0 a0_1 a0_2 a0_3 t717 t718 t719 t720 a2 t721 t722 t723 t724 _ A5.out).mono ?_
 rintro e w11 ⟨rfl, hb⟩
 refine ⟨_, rfl, ?_⟩
 have n0_ := kq_ BK714 hb
 have n1_ := kq_ BK715 hb
 have n2_ := kq_ BK716 hb
 have n3_ := bq_ HB hb
 clear BK714
 clear BK715
 clear BK716
 clear HB
 have BK714 := n0_
 have BK715 := n1_
 have BK716 := n2_
 have HB := n3_
 clear n0_ n1_ n2_ n3_
 (try clear hb)
 (try clear hb2)
 (try clear hk)
 (try clear hi)
 refine hK.out _ _ ⟨(blk_cell BK714.out 0).trans rfl, (blk_cell BK714.out 1).trans rfl, (blk_cell BK714.out 2).trans rfl, (blk_cell BK714.out 3).trans rfl, (blk_cell BK715.out 0).trans rfl, (blk_cell BK715.out 1).trans rfl, (blk_cell BK715.out 2).trans rfl, (blk_cell BK715.out 3).trans rfl⟩ (fun hHeld => ?_)
 clear hK K
 refine norm_ (a' := ?_) ?_ ?_
 rotate_left
 ·show Act.put _ (some 11) _ = _
  simp only [Act.put, List.setIfInBounds_toArray, List.set_cons_zero, List.set_cons_succ, i64_w, i32_w]
  rfl
 refine one_ (i := 5) (N := none) #[true, true, true, true, true, true] rfl rfl (by kernel_rfl) (by decide) (fun K hK => ?_)
 have hs12 : w11.cell? ⟨gb716, 0, none⟩ = some (.int .i64 0) := (blk_cell BK716.out 0).trans rfl
 have hfs12 := fz_ BK716 0
 have hns12_0 := NB714_716.out
 have hns12_1 := NB715_716.out
 have hms12_0 := NB716_714.out
 have hms12_1 := NB716_715.out
 have hs13 : w11.cell? ⟨gb716, 1, none⟩ = some (.bool false) := (blk_cell BK716.out 1).trans rfl
 have hfs13 := fz_ BK716 1
 have hns13_0 := NB714_716.out
 have hns13_1 := NB715_716.out
 have hms13_0 := NB716_714.out
 have hms13_1 := NB716_715.out
 have hs14 : w11.cell? ⟨gb716, 2, none⟩ = some (.int .u64 0) := (blk_cell BK716.out 2).trans rfl
 have hfs14 := fz_ BK716 2
 have hns14_0 := NB714_716.out
 have hns14_1 := NB715_716.out
 have hms14_0 := NB716_714.out
 have hms14_1 := NB716_715.out
 have hs15 : w11.cell? ⟨gb716, 3, none⟩ = some (.int .i64 0) := (blk_cell BK716.out 3).trans rfl
 have hfs15 := fz_ BK716 3
 have hns15_0 := NB714_716.out
 have hns15_1 := NB715_716.out
 have hms15_0 := NB716_714.out
 have hms15_1 := NB716_715.out
 refine skip_ (w1 := ?_) (by rfl) rfl ?_ ?_
 rotate_left
 ·go_simp
  rfl
 refine hK.out _ _ ⟨((cell_far (p := ⟨gb716, _, none⟩) NB714_716.out _).trans (((cell_far (p := ⟨gb716, _, none⟩) NB714_716.out _).trans (((cell_far (p := ⟨gb716, _, none⟩) NB714_716.out _).trans (((cell_far (p := ⟨gb716, _, none⟩) NB714_716.out _).trans (hHeld.1)))))))), ((cell_far (p := ⟨gb716, _, none⟩) NB714_716.out _).trans (((cell_far (p := ⟨gb716, _, none⟩) NB714_716.out _).trans (((cell_far (p := ⟨gb716, _, none⟩) NB714_716.out _).trans (((cell_far (p := ⟨gb716, _, none⟩) NB714_716.out _).trans (hHeld.2.1)))))))), ((cell_far (p := ⟨gb716, _, none⟩) NB714_716.out _).trans (((cell_far (p := ⟨gb716, _, none⟩) NB714_716.out _).trans (((cell_far (p := ⟨gb716, _, none⟩) NB714_716.out _).trans (((cell_far (p := ⟨gb716, _, none⟩) NB714_716.out _).trans (hHeld.2.2.1)))))))), ((cell_far (p := ⟨gb716, _, none⟩) NB714_716.out _).trans (((cell_far (p := ⟨gb716, _, none⟩) NB714_716.out _).trans (((cell_far (p := ⟨gb716, _, none⟩) NB714_716.out _).trans (((cell_far (p := ⟨gb716, _, none⟩) NB714_716.out _).trans (hHeld.2.2.2.1)))))))), ((cell_far (p := ⟨gb716, _, none⟩) NB715_716.out _).trans (((cell_far (p := ⟨gb716, _, none⟩) NB715_716.out _).trans (((cell_far (p := ⟨gb716, _, none⟩) NB715_716.out _).trans (((cell_far (p := ⟨gb716, _, none⟩) NB715_716.out _).trans (hHeld.2.2.2.2.1)))))))), ((cell_far (p := ⟨gb716, _, none⟩) NB715_716.out _).trans (((cell_far (p := ⟨gb716, _, none⟩) NB715_716.out _).trans (((cell_far (p := ⟨gb716, _, none⟩) NB715_716.out _).trans (((cell_far (p := ⟨gb716, _, none⟩) NB715_716.out _).trans (hHeld.2.2.2.2.2.1)))))))), ((cell_far (p := ⟨gb716, _, none⟩) NB715_716.out _).trans (((cell_far (p := ⟨gb716, _, none⟩) NB715_716.out _).trans (((cell_far (p := ⟨gb716, _, none⟩) NB715_716.out _).trans (((cell_far (p := ⟨gb716, _, none⟩) NB715_716.out _).trans (hHeld.2.2.2.2.2.2.1)))))))), ((cell_far (p := ⟨gb716, _, none⟩) NB715_716.out _).trans (((cell_far (p := ⟨gb716, _, none⟩) NB715_716.out _).trans (((cell_far (p := ⟨gb716, _, none⟩) NB715_716.out _).trans (((cell_far (p := ⟨gb716, _, none⟩) NB715_716.out _).trans (hHeld.2.2.2.2.2.2.2))))))))⟩ (fun hHeld => ?_)
 clear hK K
 refine done_ (by kernel_rfl) ?_
 try go_wp2
 refine bodyPost_ret (results_cell_row rfl _ _ gb716 24 #[.int .i64 t721, .bool t722, .int .u64 t723, .int .i64 t724] (0, 0) _ rfl (by refine kb_ ?_; refine bp_ #[.int .i64 t721, .bool t722, .int .u64 t723, .int .i64 0] 3 ?_; refine bp_ #[.int .i64 t721, .bool t722, .int .u64 0, .int .i64 0] 2 ?_; refine bp_ #[.int .i64 t721, .bool false, .int .u64 0, .int .i64 0] 1 ?_; refine bp_ #[.int .i64 0, .bool false, .int .u64 0, .int .i64 0] 0 ?_; exact BK716.out) Try.underlying24 rfl (by kernel_rfl)) rfl ?_
 exact ⟨by first | rfl | (simp [errW_none, errW_some] <;> rfl) | (simp [*, errW_none, errW_some] <;> rfl), bw_ HB.out⟩

end Go.Proofs.Ythlhogcnfaiphaa.PA
