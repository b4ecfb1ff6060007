-- Laid by this work's own program; Lean checks it.
import Derived.Test.YthlhogcnfaiphaaPAx0
import Derived.Test.YthlhogcnfaiphaaPAx2
import Derived.Test.YthlhogcnfaiphaaPAx6
namespace Go.Proofs.Ythlhogcnfaiphaa.PA
open Go.RowKit Go.Proofs.YthlhogcnfaiphaaW.PrintWords Go.Proofs.YthlhogcnfaiphaaW.PrintLast Go.Proofs.YthlhogcnfaiphaaW.PrintMore
attribute [local go_sem] max2_int min2_int max_two min_two max_three min_three max_four min_four   -- for this text's walks alone
set_option linter.unusedVariables false
set_option linter.unusedSimpArgs false

attribute [local go_sem ↓ high] isSome_set_
/-! ### num_Neg: function 12 -/
set_option maxHeartbeats 8000000 in
set_option maxRecDepth 100000 in
theorem num_Neg.calls (a0_0 : Int) (a0_1 : Bool) (a0_2 : Int) (a0_3 : Int) (r1 : Int) (r2 : Bool) (r3 : Int) (r4 : Int) (w : World) (h : num_Neg.f a0_0 a0_1 a0_2 a0_3 = some (r1, r2, r3, r4)) :
  Calls Try.prog 12 #[.agg #[.int .i64 a0_0, .bool a0_1, .int .u64 a0_2, .int .i64 a0_3]] w fun e w' => e = .returned (.agg #[.int .i64 r1, .bool r2, .int .u64 r3, .int .i64 r4]) ∧ Below w.heap.size w w' := by
 have hu24 := Try.underlying24
 have HB := Aside0.mk (Below.refl w.heap.size w)
 have H : ((num_fair.f a0_0 a0_1 a0_2 a0_3).bind fun bt313 => (if bt313.1 = 0 then (some (bt313.1, false, bt313.2.2.1, bt313.2.2.2)) else (some (bt313.1, !bt313.2.1, bt313.2.2.1, bt313.2.2.2)))) = some (r1, r2, r3, r4) := h
 clear h
 replace H := Option.bind_eq_some_iff.mp H
 obtain ⟨⟨t313, t314, t315, t316⟩, A20, H⟩ := H
 (try dsimp only at H)
 have A2 := Aside0.mk A20
 clear A20
 by_cases c3 : t313 = 0
 ·rw [if_pos c3] at H
  have c3b0 : (t313 == 0) = true := beq_iff_eq.mpr c3
  have c3b1 : (t313 != 0) = false := bne_eq_false_iff_eq.mpr c3
  clear c3
  simp only [Option.some.injEq, Prod.mk.injEq] at H
  obtain ⟨rfl, rfl, rfl, rfl⟩ := H
  go_enter Try.func12, Try.ntmps12
  go_wp2_with (first | ((with_reducible refine gate_dst (N := 1) rfl ?_); refine bx_ 1 #[.int .i64 a0_0, .bool a0_1, .int .u64 a0_2, .int .i64 a0_3] 24 ?_; intro gb311 hg w4 hbox hb; have n0_ := bq_ HB hb; have n1_ := Aside0.mk (hbox); have n2_ := ge_ hg HB; have n3_ := ge_ hg HB; clear HB; have HB := n0_; have BK311 := n1_; have GW311 := n2_; have GE311 := n3_; clear n0_ n1_ n2_ n3_; clear hb hbox hg) | ((with_reducible refine gate_dst (N := 2) rfl ?_); refine bx_ 2 #[.int .i64 0, .bool false, .int .u64 0, .int .i64 0] 24 ?_; intro gb312 hg w5 hbox hb; have n0_ := kq_ BK311 hb; have n1_ := bq_ HB hb; have n2_ := Aside0.mk (hbox); have n3_ := ge_ hg HB; have n4_ := ge_ hg HB; have n5_ := nb_ hg BK311; have n6_ := nc_ hg BK311; clear BK311; clear HB; have BK311 := n0_; have HB := n1_; have BK312 := n2_; have GW312 := n3_; have GE312 := n4_; have NB311_312 := n5_; have NB312_311 := n6_; clear n0_ n1_ n2_ n3_ n4_ n5_ n6_; clear hb hbox hg; have hnb6 := NB311_312.out; have hnc6 := NB312_311.out; have hcz7_0 := cz_ BK311 0 rfl; have hcz7_1 := cz_ BK311 1 rfl; have hcz7_2 := cz_ BK311 2 rfl; have hcz7_3 := cz_ BK311 3 rfl; have hfz7_0 := fz_ BK311 0; have hfz7_1 := fz_ BK311 1; have hfz7_2 := fz_ BK311 2; have hfz7_3 := fz_ BK311 3) | ((with_reducible refine gate_callee (f := 34) rfl ?_); refine gl_ (some 4) Try.func34 #[.agg #[.int .i64 a0_0, .bool a0_1, .int .u64 a0_2, .int .i64 a0_3]] ?_; (with_reducible refine (num_fair.calls a0_0 a0_1 a0_2 a0_3 t313 t314 t315 t316 _ A2.out).mono ?_); rintro e w8 ⟨rfl, hb⟩; refine ⟨_, rfl, ?_⟩; have n0_ := kq_ BK311 hb; have n1_ := kq_ BK312 hb; have n2_ := bq_ HB hb; clear BK311; clear BK312; clear HB; have BK311 := n0_; have BK312 := n1_; have HB := n2_; clear n0_ n1_ n2_; (try clear hb); (try clear hb2); (try clear hk); (try clear hi); have hcz9_0 := cz_ BK311 0 rfl; have hcz9_1 := cz_ BK311 1 rfl; have hcz9_2 := cz_ BK311 2 rfl; have hcz9_3 := cz_ BK311 3 rfl; have hfz9_0 := fz_ BK311 0; have hfz9_1 := fz_ BK311 1; have hfz9_2 := fz_ BK311 2; have hfz9_3 := fz_ BK311 3; have hcz10_0 := cz_ BK312 0 rfl; have hcz10_1 := cz_ BK312 1 rfl; have hcz10_2 := cz_ BK312 2 rfl; have hcz10_3 := cz_ BK312 3 rfl; have hfz10_0 := fz_ BK312 0; have hfz10_1 := fz_ BK312 1; have hfz10_2 := fz_ BK312 2; have hfz10_3 := fz_ BK312 3))
  refine bodyPost_ret (results_cell_row rfl _ _ gb312 24 #[.int .i64 t313, .bool false, .int .u64 t315, .int .i64 t316] (0, 0) _ rfl (by refine kb_ ?_; refine bp_ #[.int .i64 t313, .bool false, .int .u64 t315, .int .i64 0] 3 ?_; refine bp_ #[.int .i64 t313, .bool false, .int .u64 0, .int .i64 0] 2 ?_; refine bp_ #[.int .i64 t313, .bool false, .int .u64 0, .int .i64 0] 1 ?_; refine bp_ #[.int .i64 0, .bool false, .int .u64 0, .int .i64 0] 0 ?_; refine bf_ NB312_311 ?_; refine bf_ NB312_311 ?_; refine bf_ NB312_311 ?_; refine bf_ NB312_311 ?_; refine bf_ NB312_311 ?_; exact BK312.out) Try.underlying24 rfl (by kernel_rfl)) rfl ?_
  exact ⟨by first | rfl | (simp [errW_none, errW_some] <;> rfl) | (simp [*, errW_none, errW_some] <;> rfl), bw_ HB.out⟩
 ·rw [if_neg c3] at H
  have c3b0 : (t313 == 0) = false := beq_eq_false_iff_ne.mpr c3
  have c3b1 : (t313 != 0) = true := bne_iff_ne.mpr c3
  simp only [Option.some.injEq, Prod.mk.injEq] at H
  obtain ⟨rfl, rfl, rfl, rfl⟩ := H
  go_enter Try.func12, Try.ntmps12
  go_wp2_with (first | ((with_reducible refine gate_dst (N := 1) rfl ?_); refine bx_ 1 #[.int .i64 a0_0, .bool a0_1, .int .u64 a0_2, .int .i64 a0_3] 24 ?_; intro gb311 hg w11 hbox hb; have n0_ := bq_ HB hb; have n1_ := Aside0.mk (hbox); have n2_ := ge_ hg HB; have n3_ := ge_ hg HB; clear HB; have HB := n0_; have BK311 := n1_; have GW311 := n2_; have GE311 := n3_; clear n0_ n1_ n2_ n3_; clear hb hbox hg) | ((with_reducible refine gate_dst (N := 2) rfl ?_); refine bx_ 2 #[.int .i64 0, .bool false, .int .u64 0, .int .i64 0] 24 ?_; intro gb312 hg w12 hbox hb; have n0_ := kq_ BK311 hb; have n1_ := bq_ HB hb; have n2_ := Aside0.mk (hbox); have n3_ := ge_ hg HB; have n4_ := ge_ hg HB; have n5_ := nb_ hg BK311; have n6_ := nc_ hg BK311; clear BK311; clear HB; have BK311 := n0_; have HB := n1_; have BK312 := n2_; have GW312 := n3_; have GE312 := n4_; have NB311_312 := n5_; have NB312_311 := n6_; clear n0_ n1_ n2_ n3_ n4_ n5_ n6_; clear hb hbox hg; have hnb13 := NB311_312.out; have hnc13 := NB312_311.out; have hcz14_0 := cz_ BK311 0 rfl; have hcz14_1 := cz_ BK311 1 rfl; have hcz14_2 := cz_ BK311 2 rfl; have hcz14_3 := cz_ BK311 3 rfl; have hfz14_0 := fz_ BK311 0; have hfz14_1 := fz_ BK311 1; have hfz14_2 := fz_ BK311 2; have hfz14_3 := fz_ BK311 3) | ((with_reducible refine gate_callee (f := 34) rfl ?_); refine gl_ (some 4) Try.func34 #[.agg #[.int .i64 a0_0, .bool a0_1, .int .u64 a0_2, .int .i64 a0_3]] ?_; (with_reducible refine (num_fair.calls a0_0 a0_1 a0_2 a0_3 t313 t314 t315 t316 _ A2.out).mono ?_); rintro e w15 ⟨rfl, hb⟩; refine ⟨_, rfl, ?_⟩; have n0_ := kq_ BK311 hb; have n1_ := kq_ BK312 hb; have n2_ := bq_ HB hb; clear BK311; clear BK312; clear HB; have BK311 := n0_; have BK312 := n1_; have HB := n2_; clear n0_ n1_ n2_; (try clear hb); (try clear hb2); (try clear hk); (try clear hi); have hcz16_0 := cz_ BK311 0 rfl; have hcz16_1 := cz_ BK311 1 rfl; have hcz16_2 := cz_ BK311 2 rfl; have hcz16_3 := cz_ BK311 3 rfl; have hfz16_0 := fz_ BK311 0; have hfz16_1 := fz_ BK311 1; have hfz16_2 := fz_ BK311 2; have hfz16_3 := fz_ BK311 3; have hcz17_0 := cz_ BK312 0 rfl; have hcz17_1 := cz_ BK312 1 rfl; have hcz17_2 := cz_ BK312 2 rfl; have hcz17_3 := cz_ BK312 3 rfl; have hfz17_0 := fz_ BK312 0; have hfz17_1 := fz_ BK312 1; have hfz17_2 := fz_ BK312 2; have hfz17_3 := fz_ BK312 3))
  refine bodyPost_ret (results_cell_row rfl _ _ gb312 24 #[.int .i64 t313, .bool (!t314), .int .u64 t315, .int .i64 t316] (0, 0) _ rfl (by refine kb_ ?_; refine bp_ #[.int .i64 t313, .bool (!t314), .int .u64 t315, .int .i64 0] 3 ?_; refine bp_ #[.int .i64 t313, .bool (!t314), .int .u64 0, .int .i64 0] 2 ?_; refine bp_ #[.int .i64 t313, .bool false, .int .u64 0, .int .i64 0] 1 ?_; refine bp_ #[.int .i64 0, .bool false, .int .u64 0, .int .i64 0] 0 ?_; refine bf_ NB312_311 ?_; refine bf_ NB312_311 ?_; refine bf_ NB312_311 ?_; refine bf_ NB312_311 ?_; refine bf_ NB312_311 ?_; exact BK312.out) Try.underlying24 rfl (by kernel_rfl)) rfl ?_
  exact ⟨by first | rfl | (simp [errW_none, errW_some] <;> rfl) | (simp [*, errW_none, errW_some] <;> rfl), bw_ HB.out⟩

end Go.Proofs.Ythlhogcnfaiphaa.PA
