-- Laid by this work's own program; Lean checks it.
import Derived.Test.YthlhogcnfaiphaaDoorPAx0
import Derived.Test.YthlhogcnfaiphaaDoorPAx1
import Derived.Test.YthlhogcnfaiphaaDoorPAx2
namespace Go.Proofs.YthlhogcnfaiphaaDoor.PA
open Go.RowKit Go.Proofs.YthlhogcnfaiphaaDoorW.PrintWords Go.Proofs.YthlhogcnfaiphaaDoorW.PrintLast Go.Proofs.YthlhogcnfaiphaaDoorW.PrintMore
attribute [local go_sem] max2_int min2_int max_two min_two max_three min_three max_four min_four   -- for this text's walks alone
set_option linter.unusedVariables false
set_option linter.unusedSimpArgs false

attribute [local go_sem ↓ high] isSome_set_
attribute [local go_sem high] eqA24
/-! ### num_Infinite: function 14 -/
set_option maxHeartbeats 8000000 in
set_option maxRecDepth 100000 in
theorem num_Infinite.calls (a0 : Bool) (r1 : Int) (r2 : Bool) (r3 : Int) (r4 : Int) (w : World) (h : num_Infinite.f a0 = some (r1, r2, r3, r4)) :
  Calls Tryd.prog 14 #[.bool a0] w fun e w' => e = .returned (.agg #[.int .i64 r1, .bool r2, .int .u64 r3, .int .i64 r4]) ∧ Below w.heap.size w w' := by
 have hu24 := Tryd.underlying24
 have HB := Aside0.mk (Below.refl w.heap.size w)
 have H : (some (2, a0, 0, 0)) = some (r1, r2, r3, r4) := h
 clear h
 simp only [Option.some.injEq, Prod.mk.injEq] at H
 obtain ⟨rfl, rfl, rfl, rfl⟩ := H
 go_enter Tryd.func14, Tryd.ntmps14
 go_wp2_with (first | ((with_reducible refine gate_dst (N := 2) rfl ?_); refine bx_ 2 #[.int .i64 0, .bool false, .int .u64 0, .int .i64 0] 24 ?_; intro gb101 hg w2 hbox hb; have BK101 := Aside0.mk (hbox); have GW101 := ge_ hg HB; have GE101 := ge_ hg HB; replace HB := bq_ HB hb; clear hb hbox hg; obtain ⟨hcz3_0, hcz3_1, hcz3_2, hcz3_3, hfz3_0, hfz3_1, hfz3_2, hfz3_3⟩ := c4_ BK101))
 refine bodyPost_ret (results_cell_row rfl _ _ gb101 24 #[.int .i64 2, .bool a0, .int .u64 0, .int .i64 0] (0, 0) _ rfl (by refine kb_ ?_; refine bp_ #[.int .i64 2, .bool a0, .int .u64 0, .int .i64 0] 3 ?_; refine bp_ #[.int .i64 2, .bool a0, .int .u64 0, .int .i64 0] 2 ?_; refine bp_ #[.int .i64 2, .bool false, .int .u64 0, .int .i64 0] 1 ?_; refine bp_ #[.int .i64 0, .bool false, .int .u64 0, .int .i64 0] 0 ?_; exact BK101.out) Tryd.underlying24 rfl (by kernel_rfl)) rfl ?_
 exact ⟨rf_, bw_ HB.out⟩

/-! ### num_May: function 15 -/
set_option maxHeartbeats 8000000 in
set_option maxRecDepth 100000 in
theorem num_May.calls (a0_0 : Int) (a0_1 : Bool) (a0_2 : Int) (a0_3 : Int) (r : Bool) (w : World) (h : num_May.f a0_0 a0_1 a0_2 a0_3 = some r) :
  Calls Tryd.prog 15 #[.agg #[.int .i64 a0_0, .bool a0_1, .int .u64 a0_2, .int .i64 a0_3]] w fun e w' => e = .returned (.bool r) ∧ Below w.heap.size w w' := by
 have hu24 := Tryd.underlying24
 have HB := Aside0.mk (Below.refl w.heap.size w)
 have H : (if a0_0 = 0 then (some (a0_0 == 0 && (!a0_1 && (a0_2 == 0 && (a0_3 == 0))))) else (if a0_0 = 1 then (if a0_2 ≥ 9223372036854775808 then (if a0_3 ≥ (-1048576) then (some (decide (a0_3 ≤ 1048576))) else (some false)) else (some false)) else (if a0_0 = 2 then (if a0_2 = 0 then (some (a0_3 == 0)) else (some false)) else (some false)))) = some r := h
 clear h
 by_cases c2 : a0_0 = 0
 ·rw [if_pos c2] at H
  have c2b0 : (a0_0 == 0) = true := beq_iff_eq.mpr c2
  have c2b1 : (a0_0 != 0) = false := bne_eq_false_iff_eq.mpr c2
  clear c2
  obtain rfl := Option.some.inj H
  go_enter Tryd.func15, Tryd.ntmps15
  go_wp2_with (first | ((with_reducible refine gate_dst (N := 1) rfl ?_); refine bx_ 1 #[.int .i64 a0_0, .bool a0_1, .int .u64 a0_2, .int .i64 a0_3] 24 ?_; intro gb102 hg w3 hbox hb; have BK102 := Aside0.mk (hbox); have GW102 := ge_ hg HB; have GE102 := ge_ hg HB; replace HB := bq_ HB hb; clear hb hbox hg; obtain ⟨hcz4_0, hcz4_1, hcz4_2, hcz4_3, hfz4_0, hfz4_1, hfz4_2, hfz4_3⟩ := c4_ BK102))
  go_ret
  exact ⟨rf_, bw_ HB.out⟩
 ·rw [if_neg c2] at H
  have c2b0 : (a0_0 == 0) = false := beq_eq_false_iff_ne.mpr c2
  have c2b1 : (a0_0 != 0) = true := bne_iff_ne.mpr c2
  by_cases c5 : a0_0 = 1
  ·rw [if_pos c5] at H
   have c5b0 : (a0_0 == 1) = true := beq_iff_eq.mpr c5
   have c5b1 : (a0_0 != 1) = false := bne_eq_false_iff_eq.mpr c5
   clear c5
   by_cases c6 : a0_2 ≥ 9223372036854775808
   ·rw [if_pos c6] at H
    have c6b0 : decide (9223372036854775808 ≤ a0_2) = true := decide_eq_true c6
    clear c6
    by_cases c7 : a0_3 ≥ (-1048576)
    ·rw [if_pos c7] at H
     have c7b0 : decide ((-1048576) ≤ a0_3) = true := decide_eq_true c7
     clear c7
     obtain rfl := Option.some.inj H
     go_enter Tryd.func15, Tryd.ntmps15
     go_wp2_with (first | ((with_reducible refine gate_dst (N := 1) rfl ?_); refine bx_ 1 #[.int .i64 a0_0, .bool a0_1, .int .u64 a0_2, .int .i64 a0_3] 24 ?_; intro gb102 hg w8 hbox hb; have BK102 := Aside0.mk (hbox); have GW102 := ge_ hg HB; have GE102 := ge_ hg HB; replace HB := bq_ HB hb; clear hb hbox hg; obtain ⟨hcz9_0, hcz9_1, hcz9_2, hcz9_3, hfz9_0, hfz9_1, hfz9_2, hfz9_3⟩ := c4_ BK102))
     go_ret
     exact ⟨rf_, bw_ HB.out⟩
    ·rw [if_neg c7] at H
     have c7b0 : decide ((-1048576) ≤ a0_3) = false := decide_eq_false c7
     clear c7
     obtain rfl := Option.some.inj H
     go_enter Tryd.func15, Tryd.ntmps15
     go_wp2_with (first | ((with_reducible refine gate_dst (N := 1) rfl ?_); refine bx_ 1 #[.int .i64 a0_0, .bool a0_1, .int .u64 a0_2, .int .i64 a0_3] 24 ?_; intro gb102 hg w10 hbox hb; have BK102 := Aside0.mk (hbox); have GW102 := ge_ hg HB; have GE102 := ge_ hg HB; replace HB := bq_ HB hb; clear hb hbox hg; obtain ⟨hcz11_0, hcz11_1, hcz11_2, hcz11_3, hfz11_0, hfz11_1, hfz11_2, hfz11_3⟩ := c4_ BK102))
     go_ret
     exact ⟨rf_, bw_ HB.out⟩
   ·rw [if_neg c6] at H
    have c6b0 : decide (9223372036854775808 ≤ a0_2) = false := decide_eq_false c6
    clear c6
    obtain rfl := Option.some.inj H
    go_enter Tryd.func15, Tryd.ntmps15
    go_wp2_with (first | ((with_reducible refine gate_dst (N := 1) rfl ?_); refine bx_ 1 #[.int .i64 a0_0, .bool a0_1, .int .u64 a0_2, .int .i64 a0_3] 24 ?_; intro gb102 hg w12 hbox hb; have BK102 := Aside0.mk (hbox); have GW102 := ge_ hg HB; have GE102 := ge_ hg HB; replace HB := bq_ HB hb; clear hb hbox hg; obtain ⟨hcz13_0, hcz13_1, hcz13_2, hcz13_3, hfz13_0, hfz13_1, hfz13_2, hfz13_3⟩ := c4_ BK102))
    go_ret
    exact ⟨rf_, bw_ HB.out⟩
  ·rw [if_neg c5] at H
   have c5b0 : (a0_0 == 1) = false := beq_eq_false_iff_ne.mpr c5
   have c5b1 : (a0_0 != 1) = true := bne_iff_ne.mpr c5
   by_cases c14 : a0_0 = 2
   ·rw [if_pos c14] at H
    have c14b0 : (a0_0 == 2) = true := beq_iff_eq.mpr c14
    have c14b1 : (a0_0 != 2) = false := bne_eq_false_iff_eq.mpr c14
    clear c14
    by_cases c15 : a0_2 = 0
    ·rw [if_pos c15] at H
     have c15b0 : (a0_2 == 0) = true := beq_iff_eq.mpr c15
     have c15b1 : (a0_2 != 0) = false := bne_eq_false_iff_eq.mpr c15
     clear c15
     obtain rfl := Option.some.inj H
     go_enter Tryd.func15, Tryd.ntmps15
     go_wp2_with (first | ((with_reducible refine gate_dst (N := 1) rfl ?_); refine bx_ 1 #[.int .i64 a0_0, .bool a0_1, .int .u64 a0_2, .int .i64 a0_3] 24 ?_; intro gb102 hg w16 hbox hb; have BK102 := Aside0.mk (hbox); have GW102 := ge_ hg HB; have GE102 := ge_ hg HB; replace HB := bq_ HB hb; clear hb hbox hg; obtain ⟨hcz17_0, hcz17_1, hcz17_2, hcz17_3, hfz17_0, hfz17_1, hfz17_2, hfz17_3⟩ := c4_ BK102))
     go_ret
     exact ⟨rf_, bw_ HB.out⟩
    ·rw [if_neg c15] at H
     have c15b0 : (a0_2 == 0) = false := beq_eq_false_iff_ne.mpr c15
     have c15b1 : (a0_2 != 0) = true := bne_iff_ne.mpr c15
     obtain rfl := Option.some.inj H
     go_enter Tryd.func15, Tryd.ntmps15
     go_wp2_with (first | ((with_reducible refine gate_dst (N := 1) rfl ?_); refine bx_ 1 #[.int .i64 a0_0, .bool a0_1, .int .u64 a0_2, .int .i64 a0_3] 24 ?_; intro gb102 hg w18 hbox hb; have BK102 := Aside0.mk (hbox); have GW102 := ge_ hg HB; have GE102 := ge_ hg HB; replace HB := bq_ HB hb; clear hb hbox hg; obtain ⟨hcz19_0, hcz19_1, hcz19_2, hcz19_3, hfz19_0, hfz19_1, hfz19_2, hfz19_3⟩ := c4_ BK102))
     go_ret
     exact ⟨rf_, bw_ HB.out⟩
   ·rw [if_neg c14] at H
    have c14b0 : (a0_0 == 2) = false := beq_eq_false_iff_ne.mpr c14
    have c14b1 : (a0_0 != 2) = true := bne_iff_ne.mpr c14
    obtain rfl := Option.some.inj H
    go_enter Tryd.func15, Tryd.ntmps15
    go_wp2_with (first | ((with_reducible refine gate_dst (N := 1) rfl ?_); refine bx_ 1 #[.int .i64 a0_0, .bool a0_1, .int .u64 a0_2, .int .i64 a0_3] 24 ?_; intro gb102 hg w20 hbox hb; have BK102 := Aside0.mk (hbox); have GW102 := ge_ hg HB; have GE102 := ge_ hg HB; replace HB := bq_ HB hb; clear hb hbox hg; obtain ⟨hcz21_0, hcz21_1, hcz21_2, hcz21_3, hfz21_0, hfz21_1, hfz21_2, hfz21_3⟩ := c4_ BK102))
    go_ret
    exact ⟨rf_, bw_ HB.out⟩

/-! ### arith_fair: function 23 -/
set_option maxHeartbeats 8000000 in
set_option maxRecDepth 100000 in
theorem arith_fair.calls (a0_0 : Int) (a0_1 : Bool) (a0_2 : Int) (a0_3 : Int) (r1 : Int) (r2 : Bool) (r3 : Int) (r4 : Int) (w : World) (h : arith_fair.f a0_0 a0_1 a0_2 a0_3 = some (r1, r2, r3, r4)) :
  Calls Tryd.prog 23 #[.agg #[.int .i64 a0_0, .bool a0_1, .int .u64 a0_2, .int .i64 a0_3]] w fun e w' => e = .returned (.agg #[.int .i64 r1, .bool r2, .int .u64 r3, .int .i64 r4]) ∧ Below w.heap.size w w' := by
 have hu24 := Tryd.underlying24
 have HB := Aside0.mk (Below.refl w.heap.size w)
 have H : ((num_May.f a0_0 a0_1 a0_2 a0_3).bind fun t105 => (if t105 = true then (some (a0_0, a0_1, a0_2, a0_3)) else (some (0, false, 0, 0)))) = some (r1, r2, r3, r4) := h
 clear h
 replace H := Option.bind_eq_some_iff.mp H
 obtain ⟨t105, A20, H⟩ := H
 (try dsimp only at H)
 have A2 := Aside0.mk A20
 clear A20
 by_cases c3 : t105 = true
 ·subst c3
  have H1 : (some (a0_0, a0_1, a0_2, a0_3)) = some (r1, r2, r3, r4) := by rw [if_pos rfl] at H; exact H
  clear H
  have H := H1
  clear H1
  simp only [Option.some.injEq, Prod.mk.injEq] at H
  obtain ⟨rfl, rfl, rfl, rfl⟩ := H
  go_enter Tryd.func23, Tryd.ntmps23
  go_wp2_with (first | ((with_reducible refine gate_dst (N := 1) rfl ?_); refine bx_ 1 #[.int .i64 a0_0, .bool a0_1, .int .u64 a0_2, .int .i64 a0_3] 24 ?_; intro gb103 hg w4 hbox hb; have BK103 := Aside0.mk (hbox); have GW103 := ge_ hg HB; have GE103 := ge_ hg HB; replace HB := bq_ HB hb; clear hb hbox hg) | ((with_reducible refine gate_dst (N := 2) rfl ?_); refine bx_ 2 #[.int .i64 0, .bool false, .int .u64 0, .int .i64 0] 24 ?_; intro gb104 hg w5 hbox hb; have BK104 := Aside0.mk (hbox); have GW104 := ge_ hg HB; have GE104 := ge_ hg HB; have NB103_104 := nb_ hg BK103; have NB104_103 := nc_ hg BK103; replace BK103 := kq_ BK103 hb; replace HB := bq_ HB hb; clear hb hbox hg; have hnb6 := NB103_104.out; have hnc6 := NB104_103.out; obtain ⟨hcz7_0, hcz7_1, hcz7_2, hcz7_3, hfz7_0, hfz7_1, hfz7_2, hfz7_3⟩ := c4_ BK103) | ((with_reducible refine gate_callee (f := 15) rfl ?_); refine gl_ (some 4) Tryd.func15 #[.agg #[.int .i64 a0_0, .bool a0_1, .int .u64 a0_2, .int .i64 a0_3]] ?_; (with_reducible refine (num_May.calls a0_0 a0_1 a0_2 a0_3 true _ A2.out).mono ?_); rintro e w8 ⟨rfl, hb⟩; refine ⟨_, rfl, ?_⟩; replace BK103 := kq_ BK103 hb; replace BK104 := kq_ BK104 hb; replace HB := bq_ HB hb; (try clear hb); (try clear hb2); (try clear hk); (try clear hi); obtain ⟨hcz9_0, hcz9_1, hcz9_2, hcz9_3, hfz9_0, hfz9_1, hfz9_2, hfz9_3⟩ := c4_ BK103; obtain ⟨hcz10_0, hcz10_1, hcz10_2, hcz10_3, hfz10_0, hfz10_1, hfz10_2, hfz10_3⟩ := c4_ BK104))
  refine bodyPost_ret (results_cell_row rfl _ _ gb104 24 #[.int .i64 a0_0, .bool a0_1, .int .u64 a0_2, .int .i64 a0_3] (0, 0) _ rfl (by refine kb_ ?_; refine bp_ #[.int .i64 a0_0, .bool a0_1, .int .u64 a0_2, .int .i64 0] 3 ?_; refine bp_ #[.int .i64 a0_0, .bool a0_1, .int .u64 0, .int .i64 0] 2 ?_; refine bp_ #[.int .i64 a0_0, .bool false, .int .u64 0, .int .i64 0] 1 ?_; refine bp_ #[.int .i64 0, .bool false, .int .u64 0, .int .i64 0] 0 ?_; exact BK104.out) Tryd.underlying24 rfl (by kernel_rfl)) rfl ?_
  exact ⟨rf_, bw_ HB.out⟩
 ·replace c3 := Bool.eq_false_iff.mpr c3
  subst c3
  have H1 : (some (0, false, 0, 0)) = some (r1, r2, r3, r4) := by rw [if_neg (show ¬ (false = true) by decide)] at H; exact H
  clear H
  have H := H1
  clear H1
  simp only [Option.some.injEq, Prod.mk.injEq] at H
  obtain ⟨rfl, rfl, rfl, rfl⟩ := H
  go_enter Tryd.func23, Tryd.ntmps23
  go_wp2_with (first | ((with_reducible refine gate_dst (N := 1) rfl ?_); refine bx_ 1 #[.int .i64 a0_0, .bool a0_1, .int .u64 a0_2, .int .i64 a0_3] 24 ?_; intro gb103 hg w11 hbox hb; have BK103 := Aside0.mk (hbox); have GW103 := ge_ hg HB; have GE103 := ge_ hg HB; replace HB := bq_ HB hb; clear hb hbox hg) | ((with_reducible refine gate_dst (N := 2) rfl ?_); refine bx_ 2 #[.int .i64 0, .bool false, .int .u64 0, .int .i64 0] 24 ?_; intro gb104 hg w12 hbox hb; have BK104 := Aside0.mk (hbox); have GW104 := ge_ hg HB; have GE104 := ge_ hg HB; have NB103_104 := nb_ hg BK103; have NB104_103 := nc_ hg BK103; replace BK103 := kq_ BK103 hb; replace HB := bq_ HB hb; clear hb hbox hg; have hnb13 := NB103_104.out; have hnc13 := NB104_103.out; obtain ⟨hcz14_0, hcz14_1, hcz14_2, hcz14_3, hfz14_0, hfz14_1, hfz14_2, hfz14_3⟩ := c4_ BK103) | ((with_reducible refine gate_callee (f := 15) rfl ?_); refine gl_ (some 4) Tryd.func15 #[.agg #[.int .i64 a0_0, .bool a0_1, .int .u64 a0_2, .int .i64 a0_3]] ?_; (with_reducible refine (num_May.calls a0_0 a0_1 a0_2 a0_3 false _ A2.out).mono ?_); rintro e w15 ⟨rfl, hb⟩; refine ⟨_, rfl, ?_⟩; replace BK103 := kq_ BK103 hb; replace BK104 := kq_ BK104 hb; replace HB := bq_ HB hb; (try clear hb); (try clear hb2); (try clear hk); (try clear hi); obtain ⟨hcz16_0, hcz16_1, hcz16_2, hcz16_3, hfz16_0, hfz16_1, hfz16_2, hfz16_3⟩ := c4_ BK104))
  refine bodyPost_ret (results_cell_row rfl _ _ gb104 24 #[.int .i64 0, .bool false, .int .u64 0, .int .i64 0] (0, 0) _ rfl (by refine kb_ ?_; refine bp_ #[.int .i64 0, .bool false, .int .u64 0, .int .i64 0] 3 ?_; refine bp_ #[.int .i64 0, .bool false, .int .u64 0, .int .i64 0] 2 ?_; refine bp_ #[.int .i64 0, .bool false, .int .u64 0, .int .i64 0] 1 ?_; refine bp_ #[.int .i64 0, .bool false, .int .u64 0, .int .i64 0] 0 ?_; exact BK104.out) Tryd.underlying24 rfl (by kernel_rfl)) rfl ?_
  exact ⟨rf_, bw_ HB.out⟩

/-! ### num_tiny: function 30 -/
set_option maxHeartbeats 8000000 in
set_option maxRecDepth 100000 in
theorem num_tiny.calls (a0 : Bool) (r1 : Int) (r2 : Bool) (r3 : Int) (r4 : Int) (w : World) (h : num_tiny.f a0 = some (r1, r2, r3, r4)) :
  Calls Tryd.prog 30 #[.bool a0] w fun e w' => e = .returned (.agg #[.int .i64 r1, .bool r2, .int .u64 r3, .int .i64 r4]) ∧ Below w.heap.size w w' := by
 have hu24 := Tryd.underlying24
 have HB := Aside0.mk (Below.refl w.heap.size w)
 have H : (some (1, a0, 9223372036854775808, (-1048576))) = some (r1, r2, r3, r4) := h
 clear h
 simp only [Option.some.injEq, Prod.mk.injEq] at H
 obtain ⟨rfl, rfl, rfl, rfl⟩ := H
 go_enter Tryd.func30, Tryd.ntmps30
 go_wp2_with (first | ((with_reducible refine gate_dst (N := 2) rfl ?_); refine bx_ 2 #[.int .i64 0, .bool false, .int .u64 0, .int .i64 0] 24 ?_; intro gb106 hg w2 hbox hb; have BK106 := Aside0.mk (hbox); have GW106 := ge_ hg HB; have GE106 := ge_ hg HB; replace HB := bq_ HB hb; clear hb hbox hg; obtain ⟨hcz3_0, hcz3_1, hcz3_2, hcz3_3, hfz3_0, hfz3_1, hfz3_2, hfz3_3⟩ := c4_ BK106))
 refine bodyPost_ret (results_cell_row rfl _ _ gb106 24 #[.int .i64 1, .bool a0, .int .u64 9223372036854775808, .int .i64 (-1048576)] (0, 0) _ rfl (by refine kb_ ?_; refine bp_ #[.int .i64 1, .bool a0, .int .u64 9223372036854775808, .int .i64 0] 3 ?_; refine bp_ #[.int .i64 1, .bool a0, .int .u64 0, .int .i64 0] 2 ?_; refine bp_ #[.int .i64 1, .bool false, .int .u64 0, .int .i64 0] 1 ?_; refine bp_ #[.int .i64 0, .bool false, .int .u64 0, .int .i64 0] 0 ?_; exact BK106.out) Tryd.underlying24 rfl (by kernel_rfl)) rfl ?_
 exact ⟨rf_, bw_ HB.out⟩

/-! ### num_huge: function 31 -/
set_option maxHeartbeats 8000000 in
set_option maxRecDepth 100000 in
theorem num_huge.calls (a0 : Bool) (r1 : Int) (r2 : Bool) (r3 : Int) (r4 : Int) (w : World) (h : num_huge.f a0 = some (r1, r2, r3, r4)) :
  Calls Tryd.prog 31 #[.bool a0] w fun e w' => e = .returned (.agg #[.int .i64 r1, .bool r2, .int .u64 r3, .int .i64 r4]) ∧ Below w.heap.size w w' := by
 have hu24 := Tryd.underlying24
 have HB := Aside0.mk (Below.refl w.heap.size w)
 have H : (some (1, a0, 18446744073709551615, 1048576)) = some (r1, r2, r3, r4) := h
 clear h
 simp only [Option.some.injEq, Prod.mk.injEq] at H
 obtain ⟨rfl, rfl, rfl, rfl⟩ := H
 go_enter Tryd.func31, Tryd.ntmps31
 go_wp2_with (first | ((with_reducible refine gate_dst (N := 2) rfl ?_); refine bx_ 2 #[.int .i64 0, .bool false, .int .u64 0, .int .i64 0] 24 ?_; intro gb107 hg w2 hbox hb; have BK107 := Aside0.mk (hbox); have GW107 := ge_ hg HB; have GE107 := ge_ hg HB; replace HB := bq_ HB hb; clear hb hbox hg; obtain ⟨hcz3_0, hcz3_1, hcz3_2, hcz3_3, hfz3_0, hfz3_1, hfz3_2, hfz3_3⟩ := c4_ BK107))
 refine bodyPost_ret (results_cell_row rfl _ _ gb107 24 #[.int .i64 1, .bool a0, .int .u64 18446744073709551615, .int .i64 1048576] (0, 0) _ rfl (by refine kb_ ?_; refine bp_ #[.int .i64 1, .bool a0, .int .u64 18446744073709551615, .int .i64 0] 3 ?_; refine bp_ #[.int .i64 1, .bool a0, .int .u64 0, .int .i64 0] 2 ?_; refine bp_ #[.int .i64 1, .bool false, .int .u64 0, .int .i64 0] 1 ?_; refine bp_ #[.int .i64 0, .bool false, .int .u64 0, .int .i64 0] 0 ?_; exact BK107.out) Tryd.underlying24 rfl (by kernel_rfl)) rfl ?_
 exact ⟨rf_, bw_ HB.out⟩

/-! ### num_Bound: function 32 -/
set_option maxHeartbeats 8000000 in
set_option maxRecDepth 100000 in
theorem num_Bound.calls (k : Nat) (a0 : Bool) (a1 : Int) (a2 : Int) (a3 : Bool) (r1 : Int) (r2 : Bool) (r3 : Int) (r4 : Int) (w : World) (h : num_Bound.f k a0 a1 a2 a3 = some (r1, r2, r3, r4)) :
  Calls Tryd.prog 32 #[.bool a0, .int .u64 a1, .int .i64 a2, .bool a3] w fun e w' => e = .returned (.agg #[.int .i64 r1, .bool r2, .int .u64 r3, .int .i64 r4]) ∧ Below w.heap.size w w' := by
 have hu24 := Tryd.underlying24
 have HB := Aside0.mk (Below.refl w.heap.size w)
 have H : (if a2 > 1048576 then (num_Bound.j0 k a0 a1 a2 a3 a3) else (num_Bound.j0 k a0 a1 a2 a3 false)) = some (r1, r2, r3, r4) := h
 clear h
 have HC5 := Aside0.mk H
 clear H
 go_enter Tryd.func32, Tryd.ntmps32
 go_upto_region 1 with (first | ((with_reducible refine gate_dst (N := 8) rfl ?_); refine bx_ 8 #[.int .i64 0, .bool false, .int .u64 0, .int .i64 0] 24 ?_; intro gb108 hg w6 hbox hb; have BK108 := Aside0.mk (hbox); have GW108 := ge_ hg HB; have GE108 := ge_ hg HB; replace HB := bq_ HB hb; clear hb hbox hg))
 (try simp only [Act.put, List.setIfInBounds_toArray, List.set_cons_zero, List.set_cons_succ])
 go_cut [9] (fun v9 wc => ∃ (kq : Nat) (x9_4 : Bool), v9 = .bool x9_4 ∧ Aside0 (num_Bound.j0 kq a0 a1 a2 a3 x9_4 = some (r1, r2, r3, r4)) ∧ Aside0 (kq ≤ k) ∧ Aside0 (wc.heap[gb108]? = some (.cells #[.int .i64 0, .bool false, .int .u64 0, .int .i64 0] 24 (0, 0))) ∧ Aside0 (Below w.heap.size w wc))
 case first =>
  have H := HC5.out
  clear HC5
  by_cases c7 : a2 > 1048576
  ·rw [if_pos c7] at H
   have c7b0 : decide (1048576 < a2) = true := decide_eq_true c7
   clear c7
   (first | rw [c7b0] | (simp only [i64_w, i32_w]; rw [c7b0]) | skip)
   have H' := Aside0.mk H
   clear H
   go_wp2
   go_meet
   case rel => exact ⟨_, (a3), (by first | rfl | (simp; done) | (simp [*]; done)), H', ⟨by first | omega | exact Nat.le_refl _⟩, ⟨kb_ BK108.out⟩, ⟨bw_ HB.out⟩⟩
  ·rw [if_neg c7] at H
   have c7b0 : decide (1048576 < a2) = false := decide_eq_false c7
   clear c7
   (first | rw [c7b0] | (simp only [i64_w, i32_w]; rw [c7b0]) | skip)
   have H' := Aside0.mk H
   clear H
   go_wp2
   go_meet
   case rel => exact ⟨_, (false), (by first | rfl | (simp; done) | (simp [*]; done)), H', ⟨by first | omega | exact Nat.le_refl _⟩, ⟨kb_ BK108.out⟩, ⟨bw_ HB.out⟩⟩
 case rest =>
  clear HC5
  try clear p2
  try clear c3
  try clear c7
  try clear c7b0
  obtain ⟨kq, x9_4, rfl, HA, HJ4, BK108, HB⟩ := hcut
  cases kq with
  | zero => exact absurd HA.out (by simp [num_Bound.j0])
  | succ kj4 =>
   have H := HA.out
   clear HA
   simp only [num_Bound.j0] at H
   by_cases c8 : x9_4 = true
   ·subst c8
    have H1 : ((num_Infinite.f a0).bind fun bt109 => (some (bt109.1, bt109.2.1, bt109.2.2.1, bt109.2.2.2))) = some (r1, r2, r3, r4) := by rw [if_pos rfl] at H; exact H
    clear H
    have H := H1
    clear H1
    replace H := Option.bind_eq_some_iff.mp H
    obtain ⟨⟨t109, t110, t111, t112⟩, A90, H⟩ := H
    (try dsimp only at H)
    have A9 := Aside0.mk A90
    clear A90
    simp only [Option.some.injEq, Prod.mk.injEq] at H
    obtain ⟨rfl, rfl, rfl, rfl⟩ := H
    go_wp2_with (first | ((with_reducible refine gate_callee (f := 14) rfl ?_); refine gl_ (some 16) Tryd.func14 #[.bool a0] ?_; (with_reducible refine (num_Infinite.calls a0 t109 t110 t111 t112 _ A9.out).mono ?_); rintro e w10 ⟨rfl, hb⟩; refine ⟨_, rfl, ?_⟩; replace BK108 := kq_ BK108 hb; replace HB := bq_ HB hb; (try clear hb); (try clear hb2); (try clear hk); (try clear hi); obtain ⟨hcz11_0, hcz11_1, hcz11_2, hcz11_3, hfz11_0, hfz11_1, hfz11_2, hfz11_3⟩ := c4_ BK108))
    refine bodyPost_ret (results_cell_row rfl _ _ gb108 24 #[.int .i64 t109, .bool t110, .int .u64 t111, .int .i64 t112] (0, 0) _ rfl (by refine kb_ ?_; refine bp_ #[.int .i64 t109, .bool t110, .int .u64 t111, .int .i64 0] 3 ?_; refine bp_ #[.int .i64 t109, .bool t110, .int .u64 0, .int .i64 0] 2 ?_; refine bp_ #[.int .i64 t109, .bool false, .int .u64 0, .int .i64 0] 1 ?_; refine bp_ #[.int .i64 0, .bool false, .int .u64 0, .int .i64 0] 0 ?_; exact BK108.out) Tryd.underlying24 rfl (by kernel_rfl)) rfl ?_
    exact ⟨rf_, bw_ HB.out⟩
   ·replace c8 := Bool.eq_false_iff.mpr c8
    subst c8
    have H1 : (if a2 > 1048576 then ((num_huge.f a0).bind fun bt113 => (some (bt113.1, bt113.2.1, bt113.2.2.1, bt113.2.2.2))) else (if a2 < (-1048576) then (num_Bound.j1 kj4 a0 a1 a2 a3) else (num_Bound.j1 kj4 a0 a1 a2 false))) = some (r1, r2, r3, r4) := by rw [if_neg (show ¬ (false = true) by decide)] at H; exact H
    clear H
    have H := H1
    clear H1
    by_cases c12 : a2 > 1048576
    ·rw [if_pos c12] at H
     have c12b0 : decide (1048576 < a2) = true := decide_eq_true c12
     clear c12
     replace H := Option.bind_eq_some_iff.mp H
     obtain ⟨⟨t113, t114, t115, t116⟩, A130, H⟩ := H
     (try dsimp only at H)
     have A13 := Aside0.mk A130
     clear A130
     simp only [Option.some.injEq, Prod.mk.injEq] at H
     obtain ⟨rfl, rfl, rfl, rfl⟩ := H
     go_wp2_with (first | ((with_reducible refine gate_callee (f := 31) rfl ?_); refine gl_ (some 21) Tryd.func31 #[.bool a0] ?_; (with_reducible refine (num_huge.calls a0 t113 t114 t115 t116 _ A13.out).mono ?_); rintro e w14 ⟨rfl, hb⟩; refine ⟨_, rfl, ?_⟩; replace BK108 := kq_ BK108 hb; replace HB := bq_ HB hb; (try clear hb); (try clear hb2); (try clear hk); (try clear hi); obtain ⟨hcz15_0, hcz15_1, hcz15_2, hcz15_3, hfz15_0, hfz15_1, hfz15_2, hfz15_3⟩ := c4_ BK108))
     refine bodyPost_ret (results_cell_row rfl _ _ gb108 24 #[.int .i64 t113, .bool t114, .int .u64 t115, .int .i64 t116] (0, 0) _ rfl (by refine kb_ ?_; refine bp_ #[.int .i64 t113, .bool t114, .int .u64 t115, .int .i64 0] 3 ?_; refine bp_ #[.int .i64 t113, .bool t114, .int .u64 0, .int .i64 0] 2 ?_; refine bp_ #[.int .i64 t113, .bool false, .int .u64 0, .int .i64 0] 1 ?_; refine bp_ #[.int .i64 0, .bool false, .int .u64 0, .int .i64 0] 0 ?_; exact BK108.out) Tryd.underlying24 rfl (by kernel_rfl)) rfl ?_
     exact ⟨rf_, bw_ HB.out⟩
    ·rw [if_neg c12] at H
     have c12b0 : decide (1048576 < a2) = false := decide_eq_false c12
     clear c12
     have HC16 := Aside0.mk H
     clear H
     go_upto_region 5 with (fail)
     go_cut [22] (fun v22 wc => ∃ (kq : Nat) (x22_15 : Bool), v22 = .bool x22_15 ∧ Aside0 (num_Bound.j1 kq a0 a1 a2 x22_15 = some (r1, r2, r3, r4)) ∧ Aside0 (kq ≤ kj4) ∧ Aside0 (wc.heap[gb108]? = some (.cells #[.int .i64 0, .bool false, .int .u64 0, .int .i64 0] 24 (0, 0))) ∧ Aside0 (Below w.heap.size w wc))
     case first =>
      have H := HC16.out
      clear HC16
      by_cases c17 : a2 < (-1048576)
      ·rw [if_pos c17] at H
       have c17b0 : decide (a2 < (-1048576)) = true := decide_eq_true c17
       clear c17
       (first | rw [c17b0] | (simp only [i64_w, i32_w]; rw [c17b0]) | skip)
       have H' := Aside0.mk H
       clear H
       go_wp2
       go_meet
       case rel => exact ⟨_, (a3), (by first | rfl | (simp; done) | (simp [*]; done)), H', ⟨by have := HJ4.out; first | omega | exact Nat.le_refl _⟩, ⟨kb_ BK108.out⟩, ⟨bw_ HB.out⟩⟩
      ·rw [if_neg c17] at H
       have c17b0 : decide (a2 < (-1048576)) = false := decide_eq_false c17
       clear c17
       (first | rw [c17b0] | (simp only [i64_w, i32_w]; rw [c17b0]) | skip)
       have H' := Aside0.mk H
       clear H
       go_wp2
       go_meet
       case rel => exact ⟨_, (false), (by first | rfl | (simp; done) | (simp [*]; done)), H', ⟨by have := HJ4.out; first | omega | exact Nat.le_refl _⟩, ⟨kb_ BK108.out⟩, ⟨bw_ HB.out⟩⟩
     case rest =>
      clear HC16
      try clear c1
      try clear p2
      try clear c3
      try clear c7
      try clear c7b0
      try clear c8
      try clear c12
      try clear c12b0
      try clear c14
      try clear c17
      try clear c17b0
      try clear hcz11_0 hcz11_1 hcz11_2 hcz11_3
      try clear hcz15_0 hcz15_1 hcz15_2 hcz15_3
      try clear hfz11_0 hfz11_1 hfz11_2 hfz11_3
      try clear hfz15_0 hfz15_1 hfz15_2 hfz15_3
      try clear p2
      obtain ⟨kq, x22_15, rfl, HA, HJ15, BK108, HB⟩ := hcut
      cases kq with
      | zero => exact absurd HA.out (by simp [num_Bound.j1])
      | succ kj15 =>
       have H := HA.out
       clear HA
       simp only [num_Bound.j1] at H
       by_cases c18 : x22_15 = true
       ·subst c18
        have H1 : ((num_tiny.f a0).bind fun bt117 => (some (bt117.1, bt117.2.1, bt117.2.2.1, bt117.2.2.2))) = some (r1, r2, r3, r4) := by rw [if_pos rfl] at H; exact H
        clear H
        have H := H1
        clear H1
        replace H := Option.bind_eq_some_iff.mp H
        obtain ⟨⟨t117, t118, t119, t120⟩, A190, H⟩ := H
        (try dsimp only at H)
        have A19 := Aside0.mk A190
        clear A190
        simp only [Option.some.injEq, Prod.mk.injEq] at H
        obtain ⟨rfl, rfl, rfl, rfl⟩ := H
        go_wp2_with (first | ((with_reducible refine gate_callee (f := 30) rfl ?_); refine gl_ (some 29) Tryd.func30 #[.bool a0] ?_; (with_reducible refine (num_tiny.calls a0 t117 t118 t119 t120 _ A19.out).mono ?_); rintro e w20 ⟨rfl, hb⟩; refine ⟨_, rfl, ?_⟩; replace BK108 := kq_ BK108 hb; replace HB := bq_ HB hb; (try clear hb); (try clear hb2); (try clear hk); (try clear hi); obtain ⟨hcz21_0, hcz21_1, hcz21_2, hcz21_3, hfz21_0, hfz21_1, hfz21_2, hfz21_3⟩ := c4_ BK108))
        refine bodyPost_ret (results_cell_row rfl _ _ gb108 24 #[.int .i64 t117, .bool t118, .int .u64 t119, .int .i64 t120] (0, 0) _ rfl (by refine kb_ ?_; refine bp_ #[.int .i64 t117, .bool t118, .int .u64 t119, .int .i64 0] 3 ?_; refine bp_ #[.int .i64 t117, .bool t118, .int .u64 0, .int .i64 0] 2 ?_; refine bp_ #[.int .i64 t117, .bool false, .int .u64 0, .int .i64 0] 1 ?_; refine bp_ #[.int .i64 0, .bool false, .int .u64 0, .int .i64 0] 0 ?_; exact BK108.out) Tryd.underlying24 rfl (by kernel_rfl)) rfl ?_
        exact ⟨rf_, bw_ HB.out⟩
       ·replace c18 := Bool.eq_false_iff.mpr c18
        subst c18
        have H1 : (if a2 < (-1048576) then (some (0, false, 0, 0)) else (some (1, a0, a1, a2))) = some (r1, r2, r3, r4) := by rw [if_neg (show ¬ (false = true) by decide)] at H; exact H
        clear H
        have H := H1
        clear H1
        by_cases c22 : a2 < (-1048576)
        ·rw [if_pos c22] at H
         have c22b0 : decide (a2 < (-1048576)) = true := decide_eq_true c22
         clear c22
         simp only [Option.some.injEq, Prod.mk.injEq] at H
         obtain ⟨rfl, rfl, rfl, rfl⟩ := H
         obtain ⟨hcz23_0, hcz23_1, hcz23_2, hcz23_3, hfz23_0, hfz23_1, hfz23_2, hfz23_3⟩ := c4_ BK108
         go_wp2
         refine bodyPost_ret (results_cell_row rfl _ _ gb108 24 #[.int .i64 0, .bool false, .int .u64 0, .int .i64 0] (0, 0) _ rfl (by refine kb_ ?_; refine bp_ #[.int .i64 0, .bool false, .int .u64 0, .int .i64 0] 3 ?_; refine bp_ #[.int .i64 0, .bool false, .int .u64 0, .int .i64 0] 2 ?_; refine bp_ #[.int .i64 0, .bool false, .int .u64 0, .int .i64 0] 1 ?_; refine bp_ #[.int .i64 0, .bool false, .int .u64 0, .int .i64 0] 0 ?_; exact BK108.out) Tryd.underlying24 rfl (by kernel_rfl)) rfl ?_
         exact ⟨rf_, bw_ HB.out⟩
        ·rw [if_neg c22] at H
         have c22b0 : decide (a2 < (-1048576)) = false := decide_eq_false c22
         clear c22
         simp only [Option.some.injEq, Prod.mk.injEq] at H
         obtain ⟨rfl, rfl, rfl, rfl⟩ := H
         obtain ⟨hcz24_0, hcz24_1, hcz24_2, hcz24_3, hfz24_0, hfz24_1, hfz24_2, hfz24_3⟩ := c4_ BK108
         go_wp2
         refine bodyPost_ret (results_cell_row rfl _ _ gb108 24 #[.int .i64 1, .bool a0, .int .u64 a1, .int .i64 a2] (0, 0) _ rfl (by refine kb_ ?_; refine bp_ #[.int .i64 1, .bool a0, .int .u64 a1, .int .i64 0] 3 ?_; refine bp_ #[.int .i64 1, .bool a0, .int .u64 0, .int .i64 0] 2 ?_; refine bp_ #[.int .i64 1, .bool false, .int .u64 0, .int .i64 0] 1 ?_; refine bp_ #[.int .i64 0, .bool false, .int .u64 0, .int .i64 0] 0 ?_; exact BK108.out) Tryd.underlying24 rfl (by kernel_rfl)) rfl ?_
         exact ⟨rf_, bw_ HB.out⟩

/-! ### num_Grow: function 27 -/
set_option maxHeartbeats 8000000 in
set_option maxRecDepth 100000 in
theorem num_Grow.calls (k : Nat) (a0 : Bool) (a1 : Int) (a2 : Int) (a3 : Bool) (a4 : Bool) (r1 : Int) (r2 : Bool) (r3 : Int) (r4 : Int) (w : World) (h : num_Grow.f k a0 a1 a2 a3 a4 = some (r1, r2, r3, r4)) :
  Calls Tryd.prog 27 #[.bool a0, .int .u64 a1, .int .i64 a2, .bool a3, .bool a4] w fun e w' => e = .returned (.agg #[.int .i64 r1, .bool r2, .int .u64 r3, .int .i64 r4]) ∧ Below w.heap.size w w' := by
 have hu24 := Tryd.underlying24
 have HB := Aside0.mk (Below.refl w.heap.size w)
 have H : (if a3 = true then (num_Grow.j0 k a0 a1 a2 a4 a4) else (num_Grow.j0 k a0 a1 a2 a4 false)) = some (r1, r2, r3, r4) := h
 clear h
 have HC6 := Aside0.mk H
 clear H
 go_enter Tryd.func27, Tryd.ntmps27
 go_upto_region 1 with (first | ((with_reducible refine gate_dst (N := 10) rfl ?_); refine bx_ 10 #[.int .i64 0, .bool false, .int .u64 0, .int .i64 0] 24 ?_; intro gb121 hg w7 hbox hb; have BK121 := Aside0.mk (hbox); have GW121 := ge_ hg HB; have GE121 := ge_ hg HB; replace HB := bq_ HB hb; clear hb hbox hg))
 (try simp only [Act.put, List.setIfInBounds_toArray, List.set_cons_zero, List.set_cons_succ])
 go_cut [14] (fun v14 wc => ∃ (kq : Nat) (x14_5 : Bool), v14 = .bool x14_5 ∧ Aside0 (num_Grow.j0 kq a0 a1 a2 a4 x14_5 = some (r1, r2, r3, r4)) ∧ Aside0 (kq ≤ k) ∧ Aside0 (wc.heap[gb121]? = some (.cells #[.int .i64 0, .bool false, .int .u64 0, .int .i64 0] 24 (0, 0))) ∧ Aside0 (Below w.heap.size w wc))
 case first =>
  have H := HC6.out
  clear HC6
  by_cases c8 : a3 = true
  ·subst c8
   have H1 : (num_Grow.j0 k a0 a1 a2 a4 a4) = some (r1, r2, r3, r4) := by rw [if_pos rfl] at H; exact H
   clear H
   have H := H1
   clear H1
   have H' := Aside0.mk H
   clear H
   go_wp2
   go_meet
   case rel => exact ⟨_, (a4), (by first | rfl | (simp; done) | (simp [*]; done)), H', ⟨by first | omega | exact Nat.le_refl _⟩, ⟨kb_ BK121.out⟩, ⟨bw_ HB.out⟩⟩
  ·replace c8 := Bool.eq_false_iff.mpr c8
   subst c8
   have H1 : (num_Grow.j0 k a0 a1 a2 a4 false) = some (r1, r2, r3, r4) := by rw [if_neg (show ¬ (false = true) by decide)] at H; exact H
   clear H
   have H := H1
   clear H1
   have H' := Aside0.mk H
   clear H
   go_wp2
   go_meet
   case rel => exact ⟨_, (false), (by first | rfl | (simp; done) | (simp [*]; done)), H', ⟨by first | omega | exact Nat.le_refl _⟩, ⟨kb_ BK121.out⟩, ⟨bw_ HB.out⟩⟩
 case rest =>
  clear HC6
  try clear c2
  try clear p2
  try clear c8
  obtain ⟨kq, x14_5, rfl, HA, HJ5, BK121, HB⟩ := hcut
  cases kq with
  | zero => exact absurd HA.out (by simp [num_Grow.j0])
  | succ kj5 =>
   have H := HA.out
   clear HA
   simp only [num_Grow.j0] at H
   by_cases c9 : x14_5 = true
   ·subst c9
    have H1 : (if (IntKind.u64.wrap (a1 + 1)) = 0 then ((num_Bound.f kj5 a0 9223372036854775808 (wrap64 (a2 + 1)) a4).bind fun bt122 => (some (bt122.1, bt122.2.1, bt122.2.2.1, bt122.2.2.2))) else ((num_Bound.f kj5 a0 (IntKind.u64.wrap (a1 + 1)) a2 a4).bind fun bt126 => (some (bt126.1, bt126.2.1, bt126.2.2.1, bt126.2.2.2)))) = some (r1, r2, r3, r4) := by rw [if_pos rfl] at H; exact H
    clear H
    have H := H1
    clear H1
    by_cases c10 : (IntKind.u64.wrap (a1 + 1)) = 0
    ·rw [if_pos c10] at H
     have c10b0 : ((IntKind.u64.wrap (a1 + 1)) == 0) = true := beq_iff_eq.mpr c10
     have c10b1 : ((IntKind.u64.wrap (a1 + 1)) != 0) = false := bne_eq_false_iff_eq.mpr c10
     clear c10
     replace H := Option.bind_eq_some_iff.mp H
     obtain ⟨⟨t122, t123, t124, t125⟩, A110, H⟩ := H
     (try dsimp only at H)
     have A11 := Aside0.mk A110
     clear A110
     simp only [Option.some.injEq, Prod.mk.injEq] at H
     obtain ⟨rfl, rfl, rfl, rfl⟩ := H
     go_wp2_with (first | ((with_reducible refine gate_callee (f := 32) rfl ?_); refine gl_ (some 25) Tryd.func32 #[.bool a0, .int .u64 9223372036854775808, .int .i64 (wrap64 (a2 + 1)), .bool a4] ?_; (with_reducible refine (num_Bound.calls kj5 a0 9223372036854775808 (wrap64 (a2 + 1)) a4 t122 t123 t124 t125 _ A11.out).mono ?_); rintro e w12 ⟨rfl, hb⟩; refine ⟨_, rfl, ?_⟩; replace BK121 := kq_ BK121 hb; replace HB := bq_ HB hb; (try clear hb); (try clear hb2); (try clear hk); (try clear hi); obtain ⟨hcz13_0, hcz13_1, hcz13_2, hcz13_3, hfz13_0, hfz13_1, hfz13_2, hfz13_3⟩ := c4_ BK121))
     refine bodyPost_ret (results_cell_row rfl _ _ gb121 24 #[.int .i64 t122, .bool t123, .int .u64 t124, .int .i64 t125] (0, 0) _ rfl (by refine kb_ ?_; refine bp_ #[.int .i64 t122, .bool t123, .int .u64 t124, .int .i64 0] 3 ?_; refine bp_ #[.int .i64 t122, .bool t123, .int .u64 0, .int .i64 0] 2 ?_; refine bp_ #[.int .i64 t122, .bool false, .int .u64 0, .int .i64 0] 1 ?_; refine bp_ #[.int .i64 0, .bool false, .int .u64 0, .int .i64 0] 0 ?_; exact BK121.out) Tryd.underlying24 rfl (by kernel_rfl)) rfl ?_
     exact ⟨rf_, bw_ HB.out⟩
    ·rw [if_neg c10] at H
     have c10b0 : ((IntKind.u64.wrap (a1 + 1)) == 0) = false := beq_eq_false_iff_ne.mpr c10
     have c10b1 : ((IntKind.u64.wrap (a1 + 1)) != 0) = true := bne_iff_ne.mpr c10
     replace H := Option.bind_eq_some_iff.mp H
     obtain ⟨⟨t126, t127, t128, t129⟩, A140, H⟩ := H
     (try dsimp only at H)
     have A14 := Aside0.mk A140
     clear A140
     simp only [Option.some.injEq, Prod.mk.injEq] at H
     obtain ⟨rfl, rfl, rfl, rfl⟩ := H
     go_wp2_with (first | ((with_reducible refine gate_callee (f := 32) rfl ?_); refine gl_ (some 25) Tryd.func32 #[.bool a0, .int .u64 (IntKind.u64.wrap (a1 + 1)), .int .i64 a2, .bool a4] ?_; (with_reducible refine (num_Bound.calls kj5 a0 (IntKind.u64.wrap (a1 + 1)) a2 a4 t126 t127 t128 t129 _ A14.out).mono ?_); rintro e w15 ⟨rfl, hb⟩; refine ⟨_, rfl, ?_⟩; replace BK121 := kq_ BK121 hb; replace HB := bq_ HB hb; (try clear hb); (try clear hb2); (try clear hk); (try clear hi); obtain ⟨hcz16_0, hcz16_1, hcz16_2, hcz16_3, hfz16_0, hfz16_1, hfz16_2, hfz16_3⟩ := c4_ BK121))
     refine bodyPost_ret (results_cell_row rfl _ _ gb121 24 #[.int .i64 t126, .bool t127, .int .u64 t128, .int .i64 t129] (0, 0) _ rfl (by refine kb_ ?_; refine bp_ #[.int .i64 t126, .bool t127, .int .u64 t128, .int .i64 0] 3 ?_; refine bp_ #[.int .i64 t126, .bool t127, .int .u64 0, .int .i64 0] 2 ?_; refine bp_ #[.int .i64 t126, .bool false, .int .u64 0, .int .i64 0] 1 ?_; refine bp_ #[.int .i64 0, .bool false, .int .u64 0, .int .i64 0] 0 ?_; exact BK121.out) Tryd.underlying24 rfl (by kernel_rfl)) rfl ?_
     exact ⟨rf_, bw_ HB.out⟩
   ·replace c9 := Bool.eq_false_iff.mpr c9
    subst c9
    have H1 : ((num_Bound.f kj5 a0 a1 a2 a4).bind fun bt130 => (some (bt130.1, bt130.2.1, bt130.2.2.1, bt130.2.2.2))) = some (r1, r2, r3, r4) := by rw [if_neg (show ¬ (false = true) by decide)] at H; exact H
    clear H
    have H := H1
    clear H1
    replace H := Option.bind_eq_some_iff.mp H
    obtain ⟨⟨t130, t131, t132, t133⟩, A170, H⟩ := H
    (try dsimp only at H)
    have A17 := Aside0.mk A170
    clear A170
    simp only [Option.some.injEq, Prod.mk.injEq] at H
    obtain ⟨rfl, rfl, rfl, rfl⟩ := H
    go_wp2_with (first | ((with_reducible refine gate_callee (f := 32) rfl ?_); refine gl_ (some 25) Tryd.func32 #[.bool a0, .int .u64 a1, .int .i64 a2, .bool a4] ?_; (with_reducible refine (num_Bound.calls kj5 a0 a1 a2 a4 t130 t131 t132 t133 _ A17.out).mono ?_); rintro e w18 ⟨rfl, hb⟩; refine ⟨_, rfl, ?_⟩; replace BK121 := kq_ BK121 hb; replace HB := bq_ HB hb; (try clear hb); (try clear hb2); (try clear hk); (try clear hi); obtain ⟨hcz19_0, hcz19_1, hcz19_2, hcz19_3, hfz19_0, hfz19_1, hfz19_2, hfz19_3⟩ := c4_ BK121))
    refine bodyPost_ret (results_cell_row rfl _ _ gb121 24 #[.int .i64 t130, .bool t131, .int .u64 t132, .int .i64 t133] (0, 0) _ rfl (by refine kb_ ?_; refine bp_ #[.int .i64 t130, .bool t131, .int .u64 t132, .int .i64 0] 3 ?_; refine bp_ #[.int .i64 t130, .bool t131, .int .u64 0, .int .i64 0] 2 ?_; refine bp_ #[.int .i64 t130, .bool false, .int .u64 0, .int .i64 0] 1 ?_; refine bp_ #[.int .i64 0, .bool false, .int .u64 0, .int .i64 0] 0 ?_; exact BK121.out) Tryd.underlying24 rfl (by kernel_rfl)) rfl ?_
    exact ⟨rf_, bw_ HB.out⟩

/-! ### arith_lower: function 44 -/
theorem arith_lower.tab2 : rtab .any (opsOf Tryd.f44 2) = arith_lower.T2 := by kernel_rfl
theorem arith_lower.bits2 : waitsOk arith_lower.T2.2 arith_lower.B2 = true := by kernel_rfl
def arith_lower.T5 : Bool × List (List Nat × List Nat) := (true, [([], []), ([], []), ([0, 1], [0, 1]), ([], []), ([], []), ([4], [4]), ([3, 5], [3, 5]), ([6], [6]), ([2, 7], [2, 7]), ([8, 0, 1, 2, 3, 4, 5, 6, 7, 8], [8])])
def arith_lower.B5 : List Nat := [0, 0, 3, 0, 0, 16, 56, 120, 255, 511]
theorem arith_lower.tab5 : rtab .any (opsOf Tryd.f44 5) = arith_lower.T5 := by kernel_rfl
theorem arith_lower.bits5 : waitsOk arith_lower.T5.2 arith_lower.B5 = true := by kernel_rfl
set_option maxHeartbeats 8000000 in
set_option maxRecDepth 100000 in
theorem arith_lower.calls (a0 : Int) (a1 : Int) (r1 : Int) (r2 : Int) (r3 : Bool) (w : World) (h : arith_lower.f a0 a1 = some (r1, r2, r3)) :
  Calls Tryd.prog 44 #[.int .u64 a0, .int .i64 a1] w fun e w' => e = .returned (.agg #[.int .u64 r1, .int .u64 r2, .bool r3]) ∧ Below w.heap.size w w' := by
 have hu67 := Tryd.underlying67
 have HB := Aside0.mk (Below.refl w.heap.size w)
 have H : (if a1 < 64 then (if 0 ≤ a1 then (if 0 ≤ (wrap64 (64 - a1)) then (some (shr .u64 a0 a1, shl .u64 a0 (wrap64 (64 - a1)), false)) else (none)) else (none)) else (if a1 < 128 then (if 0 ≤ (wrap64 (a1 - 64)) then (if 0 ≤ (wrap64 (64 - (wrap64 (a1 - 64)))) then (some (0, shr .u64 a0 (wrap64 (a1 - 64)), ((shl .u64 a0 (wrap64 (64 - (wrap64 (a1 - 64))))) != 0))) else (none)) else (none)) else (some (0, 0, true)))) = some (r1, r2, r3) := h
 clear h
 by_cases c3 : a1 < 64
 ·rw [if_pos c3] at H
  have c3b0 : decide (a1 < 64) = true := decide_eq_true c3
  clear c3
  by_cases c4 : 0 ≤ a1
  ·rw [if_pos c4] at H
   have c4b0 := eq_true c4
   have c4b1 : decide (0 ≤ a1) = true := decide_eq_true c4
   clear c4
   obtain ⟨ji5, hji5⟩ : ∃ j_ : Int, (shr .u64 a0 a1) = j_ := ⟨_, rfl⟩
   (first | rw [hji5] at H | simp only [hji5] at H)
   have hji5_ : (a0 / 2 ^ min a1.toNat 64) = ji5 := hji5
   have hji5z : a1 ≤ 64 → (a0 / 2 ^ a1.toNat) = ji5 := shr_small hji5
   obtain ⟨ji6, hji6⟩ : ∃ j_ : Int, (wrap64 (64 - a1)) = j_ := ⟨_, rfl⟩
   (first | rw [hji6] at H | simp only [hji6] at H)
   have hji6w : (IntKind.i64.wrap (64 - a1)) = ji6 := (i64_w _).trans hji6
   by_cases c7 : 0 ≤ (ji6)
   ·rw [if_pos c7] at H
    have c7b0 := eq_true c7
    have c7b1 : decide (0 ≤ (ji6)) = true := decide_eq_true c7
    clear c7
    obtain ⟨ji8, hji8⟩ : ∃ j_ : Int, (shl .u64 a0 (ji6)) = j_ := ⟨_, rfl⟩
    (first | rw [hji8] at H | simp only [hji8] at H)
    have hji8_ : (IntKind.u64.wrap (a0 * 2 ^ min (ji6).toNat 64)) = ji8 := hji8
    have hji8z : (ji6) ≤ 64 → (IntKind.u64.wrap (a0 * 2 ^ (ji6).toNat)) = ji8 := shl_small hji8
    simp only [Option.some.injEq, Prod.mk.injEq] at H
    obtain ⟨rfl, rfl, rfl⟩ := H
    go_enter Tryd.func44, Tryd.ntmps44
    try go_wp2_with (first | ((with_reducible refine gate_dst (N := 4) rfl ?_); refine bx_ 4 #[.int .u64 0, .int .u64 0, .bool false] 67 ?_; intro gb134 hg w9 hbox hb; have BK134 := Aside0.mk (hbox); have GW134 := ge_ hg HB; have GE134 := ge_ hg HB; replace HB := bq_ HB hb; clear hb hbox hg))
    replace BK134 := Aside0.mk (blk_drew BK134.out)
    replace HB := Aside0.mk (below_drew1 HB.out)
    refine start_ (n := 9) (S := fun w' => True) (ds := []) #[false, false, false, false, false, false, false, false, false] (by kernel_rfl) rfl rfl trivial (fun hHeld => ?_); refine with_tabW arith_lower.tab2 arith_lower.bits2 (fun HT_ HW_ => ?_)
    generalize w9.drew = w10 at BK134 HB hHeld ⊢
    refine pure_ (i := 0) (N := some 8) (v := ?_) (a' := ?_) #[true, false, false, false, false, false, false, false, false] rfl rfl (any_of HT_.out (by kernel_rfl)) (fun _ _ _ h => h) (Or.inl ⟨by rfl, ?_⟩) ?_ ?_
    rotate_left
    ·intro w'
     go_simp
     with_reducible rfl
    rotate_left
    ·exact pt_
    refine pure_ (i := 1) (N := some 9) (v := ?_) (a' := ?_) #[true, true, false, false, false, false, false, false, false] rfl rfl (any_of HT_.out (by kernel_rfl)) (fun _ _ _ h => h) (Or.inl ⟨by rfl, ?_⟩) ?_ ?_
    rotate_left
    ·intro w'
     go_simp
     with_reducible rfl
    rotate_left
    ·exact pt_
    refine pure_ (i := 2) (N := some 10) (v := ?_) (a' := ?_) #[true, true, true, false, false, false, false, false, false] rfl rfl (any_of HT_.out (by kernel_rfl)) (fun _ _ _ h => h) (Or.inl ⟨by rfl, ?_⟩) ?_ ?_
    rotate_left
    ·intro w'
     go_simp
     with_reducible rfl
    rotate_left
    ·exact pt_
    refine pure_ (i := 3) (N := some 11) (v := ?_) (a' := ?_) #[true, true, true, true, false, false, false, false, false] rfl rfl (any_of HT_.out (by kernel_rfl)) (fun _ _ _ h => h) (Or.inl ⟨by rfl, ?_⟩) ?_ ?_
    rotate_left
    ·intro w'
     go_simp
     with_reducible rfl
    rotate_left
    ·exact pt_
    refine pure_ (i := 4) (N := some 12) (v := ?_) (a' := ?_) #[true, true, true, true, true, false, false, false, false] rfl rfl (any_of HT_.out (by kernel_rfl)) (fun _ _ _ h => h) (Or.inl ⟨by rfl, ?_⟩) ?_ ?_
    rotate_left
    ·intro w'
     go_simp
     with_reducible rfl
    rotate_left
    ·exact pt_
    refine pure_ (i := 5) (N := some 13) (v := ?_) (a' := ?_) #[true, true, true, true, true, true, false, false, false] rfl rfl (any_of HT_.out (by kernel_rfl)) (fun _ _ _ h => h) (Or.inl ⟨by rfl, ?_⟩) ?_ ?_
    rotate_left
    ·intro w'
     go_simp
     with_reducible rfl
    rotate_left
    ·exact pt_
    refine pure_ (i := 6) (N := some 14) (v := ?_) (a' := ?_) #[true, true, true, true, true, true, true, false, false] rfl rfl (any_of HT_.out (by kernel_rfl)) (fun _ _ _ h => h) (Or.inl ⟨by rfl, ?_⟩) ?_ ?_
    rotate_left
    ·intro w'
     go_simp
     with_reducible rfl
    rotate_left
    ·exact pt_
    refine pure_ (i := 7) (N := some 15) (v := ?_) (a' := ?_) #[true, true, true, true, true, true, true, true, false] rfl rfl (any_of HT_.out (by kernel_rfl)) (fun _ _ _ h => h) (Or.inl ⟨by rfl, ?_⟩) ?_ ?_
    rotate_left
    ·intro w'
     go_simp
     with_reducible rfl
    rotate_left
    ·exact pt_
    refine one_ (i := 8) (N := none) #[true, true, true, true, true, true, true, true, true] rfl rfl (one_of HT_.out (by kernel_rfl)) (by decide) (fun K hK => ?_)
    have hs11 : w10.cell? ⟨gb134, 0, none⟩ = some (.int .u64 0) := (blk_cell BK134.out 0).trans rfl
    have hfs11 := fz_ BK134 0
    have hs12 : w10.cell? ⟨gb134, 1, none⟩ = some (.int .u64 0) := (blk_cell BK134.out 1).trans rfl
    have hfs12 := fz_ BK134 1
    have hs13 : w10.cell? ⟨gb134, 2, none⟩ = some (.bool false) := (blk_cell BK134.out 2).trans rfl
    have hfs13 := fz_ BK134 2
    refine skip_ (w1 := ?_) (by rfl) rfl ?_ ?_
    rotate_left
    ·go_simp
     rfl
    refine hK.out _ _ trivial (fun hHeld => ?_)
    clear hK K
    refine done_ (done_of HT_.out (by kernel_rfl)) ?_
    try go_wp2
    refine bodyPost_ret (results_cell_row rfl _ _ gb134 67 #[.int .u64 ji5, .int .u64 ji8, .bool false] (0, 0) _ rfl (by refine kb_ ?_; refine bp_ #[.int .u64 ji5, .int .u64 ji8, .bool false] 2 ?_; refine bp_ #[.int .u64 ji5, .int .u64 0, .bool false] 1 ?_; refine bp_ #[.int .u64 0, .int .u64 0, .bool false] 0 ?_; exact BK134.out) Tryd.underlying67 rfl (by kernel_rfl)) rfl ?_
    exact ⟨by first | rfl | (simp [errW_none, errW_some] <;> rfl) | (simp only [← hji5, ← hji6, ← hji8]; first | rfl | (simp [errW_none, errW_some] <;> rfl)) | (simp [*, errW_none, errW_some] <;> rfl), bw_ HB.out⟩
   ·rw [if_neg c7] at H
    exact absurd H (by simp)
  ·rw [if_neg c4] at H
   exact absurd H (by simp)
 ·rw [if_neg c3] at H
  have c3b0 : decide (a1 < 64) = false := decide_eq_false c3
  clear c3
  by_cases c14 : a1 < 128
  ·rw [if_pos c14] at H
   have c14b0 : decide (a1 < 128) = true := decide_eq_true c14
   clear c14
   obtain ⟨ji15, hji15⟩ : ∃ j_ : Int, (wrap64 (a1 - 64)) = j_ := ⟨_, rfl⟩
   (first | rw [hji15] at H | simp only [hji15] at H)
   have hji15w : (IntKind.i64.wrap (a1 - 64)) = ji15 := (i64_w _).trans hji15
   by_cases c16 : 0 ≤ (ji15)
   ·rw [if_pos c16] at H
    have c16b0 := eq_true c16
    have c16b1 : decide (0 ≤ (ji15)) = true := decide_eq_true c16
    clear c16
    obtain ⟨ji17, hji17⟩ : ∃ j_ : Int, (shr .u64 a0 (ji15)) = j_ := ⟨_, rfl⟩
    (first | rw [hji17] at H | simp only [hji17] at H)
    have hji17_ : (a0 / 2 ^ min (ji15).toNat 64) = ji17 := hji17
    have hji17z : (ji15) ≤ 64 → (a0 / 2 ^ (ji15).toNat) = ji17 := shr_small hji17
    obtain ⟨ji18, hji18⟩ : ∃ j_ : Int, (wrap64 (64 - (ji15))) = j_ := ⟨_, rfl⟩
    (first | rw [hji18] at H | simp only [hji18] at H)
    have hji18w : (IntKind.i64.wrap (64 - (ji15))) = ji18 := (i64_w _).trans hji18
    by_cases c19 : 0 ≤ (ji18)
    ·rw [if_pos c19] at H
     have c19b0 := eq_true c19
     have c19b1 : decide (0 ≤ (ji18)) = true := decide_eq_true c19
     clear c19
     obtain ⟨ji20, hji20⟩ : ∃ j_ : Int, (shl .u64 a0 (ji18)) = j_ := ⟨_, rfl⟩
     (first | rw [hji20] at H | simp only [hji20] at H)
     have hji20_ : (IntKind.u64.wrap (a0 * 2 ^ min (ji18).toNat 64)) = ji20 := hji20
     have hji20z : (ji18) ≤ 64 → (IntKind.u64.wrap (a0 * 2 ^ (ji18).toNat)) = ji20 := shl_small hji20
     simp only [Option.some.injEq, Prod.mk.injEq] at H
     obtain ⟨rfl, rfl, rfl⟩ := H
     go_enter Tryd.func44, Tryd.ntmps44
     try go_wp2_with (first | ((with_reducible refine gate_dst (N := 4) rfl ?_); refine bx_ 4 #[.int .u64 0, .int .u64 0, .bool false] 67 ?_; intro gb134 hg w21 hbox hb; have BK134 := Aside0.mk (hbox); have GW134 := ge_ hg HB; have GE134 := ge_ hg HB; replace HB := bq_ HB hb; clear hb hbox hg))
     replace BK134 := Aside0.mk (blk_drew BK134.out)
     replace HB := Aside0.mk (below_drew1 HB.out)
     refine start_ (n := 10) (S := fun w' => True) (ds := []) #[false, false, false, false, false, false, false, false, false, false] (by kernel_rfl) rfl rfl trivial (fun hHeld => ?_); refine with_tabW arith_lower.tab5 arith_lower.bits5 (fun HT_ HW_ => ?_)
     generalize w21.drew = w22 at BK134 HB hHeld ⊢
     refine pure_ (i := 0) (N := some 21) (v := ?_) (a' := ?_) #[true, false, false, false, false, false, false, false, false, false] rfl rfl (any_of HT_.out (by kernel_rfl)) (fun _ _ _ h => h) (Or.inl ⟨by rfl, ?_⟩) ?_ ?_
     rotate_left
     ·intro w'
      go_simp
      with_reducible rfl
     rotate_left
     ·exact pt_
     refine pure_ (i := 1) (N := some 22) (v := ?_) (a' := ?_) #[true, true, false, false, false, false, false, false, false, false] rfl rfl (any_of HT_.out (by kernel_rfl)) (fun _ _ _ h => h) (Or.inl ⟨by rfl, ?_⟩) ?_ ?_
     rotate_left
     ·intro w'
      go_simp
      with_reducible rfl
     rotate_left
     ·exact pt_
     refine pure_ (i := 2) (N := some 23) (v := ?_) (a' := ?_) #[true, true, true, false, false, false, false, false, false, false] rfl rfl (any_of HT_.out (by kernel_rfl)) (fun _ _ _ h => h) (Or.inl ⟨by rfl, ?_⟩) ?_ ?_
     rotate_left
     ·intro w'
      go_simp
      with_reducible rfl
     rotate_left
     ·exact pt_
     refine pure_ (i := 3) (N := some 24) (v := ?_) (a' := ?_) #[true, true, true, true, false, false, false, false, false, false] rfl rfl (any_of HT_.out (by kernel_rfl)) (fun _ _ _ h => h) (Or.inl ⟨by rfl, ?_⟩) ?_ ?_
     rotate_left
     ·intro w'
      go_simp
      with_reducible rfl
     rotate_left
     ·exact pt_
     refine pure_ (i := 4) (N := some 25) (v := ?_) (a' := ?_) #[true, true, true, true, true, false, false, false, false, false] rfl rfl (any_of HT_.out (by kernel_rfl)) (fun _ _ _ h => h) (Or.inl ⟨by rfl, ?_⟩) ?_ ?_
     rotate_left
     ·intro w'
      go_simp
      with_reducible rfl
     rotate_left
     ·exact pt_
     refine pure_ (i := 5) (N := some 26) (v := ?_) (a' := ?_) #[true, true, true, true, true, true, false, false, false, false] rfl rfl (any_of HT_.out (by kernel_rfl)) (fun _ _ _ h => h) (Or.inl ⟨by rfl, ?_⟩) ?_ ?_
     rotate_left
     ·intro w'
      go_simp
      with_reducible rfl
     rotate_left
     ·exact pt_
     refine pure_ (i := 6) (N := some 27) (v := ?_) (a' := ?_) #[true, true, true, true, true, true, true, false, false, false] rfl rfl (any_of HT_.out (by kernel_rfl)) (fun _ _ _ h => h) (Or.inl ⟨by rfl, ?_⟩) ?_ ?_
     rotate_left
     ·intro w'
      go_simp
      with_reducible rfl
     rotate_left
     ·exact pt_
     refine pure_ (i := 7) (N := some 28) (v := ?_) (a' := ?_) #[true, true, true, true, true, true, true, true, false, false] rfl rfl (any_of HT_.out (by kernel_rfl)) (fun _ _ _ h => h) (Or.inl ⟨by rfl, ?_⟩) ?_ ?_
     rotate_left
     ·intro w'
      go_simp
      with_reducible rfl
     rotate_left
     ·exact pt_
     refine pure_ (i := 8) (N := some 29) (v := ?_) (a' := ?_) #[true, true, true, true, true, true, true, true, true, false] rfl rfl (any_of HT_.out (by kernel_rfl)) (fun _ _ _ h => h) (Or.inl ⟨by rfl, ?_⟩) ?_ ?_
     rotate_left
     ·intro w'
      go_simp
      with_reducible rfl
     rotate_left
     ·exact pt_
     refine one_ (i := 9) (N := none) #[true, true, true, true, true, true, true, true, true, true] rfl rfl (one_of HT_.out (by kernel_rfl)) (by decide) (fun K hK => ?_)
     have hs23 : w22.cell? ⟨gb134, 0, none⟩ = some (.int .u64 0) := (blk_cell BK134.out 0).trans rfl
     have hfs23 := fz_ BK134 0
     have hs24 : w22.cell? ⟨gb134, 1, none⟩ = some (.int .u64 0) := (blk_cell BK134.out 1).trans rfl
     have hfs24 := fz_ BK134 1
     have hs25 : w22.cell? ⟨gb134, 2, none⟩ = some (.bool false) := (blk_cell BK134.out 2).trans rfl
     have hfs25 := fz_ BK134 2
     refine skip_ (w1 := ?_) (by rfl) rfl ?_ ?_
     rotate_left
     ·go_simp
      rfl
     refine hK.out _ _ trivial (fun hHeld => ?_)
     clear hK K
     refine done_ (done_of HT_.out (by kernel_rfl)) ?_
     try go_wp2
     refine bodyPost_ret (results_cell_row rfl _ _ gb134 67 #[.int .u64 0, .int .u64 ji17, .bool ((ji20) != 0)] (0, 0) _ rfl (by refine kb_ ?_; refine bp_ #[.int .u64 0, .int .u64 ji17, .bool false] 2 ?_; refine bp_ #[.int .u64 0, .int .u64 0, .bool false] 1 ?_; refine bp_ #[.int .u64 0, .int .u64 0, .bool false] 0 ?_; exact BK134.out) Tryd.underlying67 rfl (by kernel_rfl)) rfl ?_
     exact ⟨by first | rfl | (simp [errW_none, errW_some] <;> rfl) | (simp only [← hji15, ← hji17, ← hji18, ← hji20]; first | rfl | (simp [errW_none, errW_some] <;> rfl)) | (simp [*, errW_none, errW_some] <;> rfl), bw_ HB.out⟩
    ·rw [if_neg c19] at H
     exact absurd H (by simp)
   ·rw [if_neg c16] at H
    exact absurd H (by simp)
  ·rw [if_neg c14] at H
   have c14b0 : decide (a1 < 128) = false := decide_eq_false c14
   clear c14
   simp only [Option.some.injEq, Prod.mk.injEq] at H
   obtain ⟨rfl, rfl, rfl⟩ := H
   go_enter Tryd.func44, Tryd.ntmps44
   go_wp2_with (first | ((with_reducible refine gate_dst (N := 4) rfl ?_); refine bx_ 4 #[.int .u64 0, .int .u64 0, .bool false] 67 ?_; intro gb134 hg w26 hbox hb; have BK134 := Aside0.mk (hbox); have GW134 := ge_ hg HB; have GE134 := ge_ hg HB; replace HB := bq_ HB hb; clear hb hbox hg; obtain ⟨hcz27_0, hcz27_1, hcz27_2, hfz27_0, hfz27_1, hfz27_2⟩ := c3_ BK134))
   refine bodyPost_ret (results_cell_row rfl _ _ gb134 67 #[.int .u64 0, .int .u64 0, .bool true] (0, 0) _ rfl (by refine kb_ ?_; refine bp_ #[.int .u64 0, .int .u64 0, .bool false] 2 ?_; refine bp_ #[.int .u64 0, .int .u64 0, .bool false] 1 ?_; refine bp_ #[.int .u64 0, .int .u64 0, .bool false] 0 ?_; exact BK134.out) Tryd.underlying67 rfl (by kernel_rfl)) rfl ?_
   exact ⟨rf_, bw_ HB.out⟩

/-! ### arith_plus: function 24 -/
set_option maxHeartbeats 8000000 in
set_option maxRecDepth 100000 in
theorem arith_plus.calls (k : Nat) (a0_0 : Int) (a0_1 : Bool) (a0_2 : Int) (a0_3 : Int) (a1_0 : Int) (a1_1 : Bool) (a1_2 : Int) (a1_3 : Int) (a2 : Bool) (r1 : Int) (r2 : Bool) (r3 : Int) (r4 : Int) (w : World) (h : arith_plus.f k a0_0 a0_1 a0_2 a0_3 a1_0 a1_1 a1_2 a1_3 a2 = some (r1, r2, r3, r4)) :
  Calls Tryd.prog 24 #[.agg #[.int .i64 a0_0, .bool a0_1, .int .u64 a0_2, .int .i64 a0_3], .agg #[.int .i64 a1_0, .bool a1_1, .int .u64 a1_2, .int .i64 a1_3], .bool a2] w fun e w' => e = .returned (.agg #[.int .i64 r1, .bool r2, .int .u64 r3, .int .i64 r4]) ∧ Below w.heap.size w w' := by
 have hu24 := Tryd.underlying24
 have hu67 := Tryd.underlying67
 have HB := Aside0.mk (Below.refl w.heap.size w)
 have H : ((arith_lower.f a1_2 (wrap64 (a0_3 - a1_3))).bind fun bt138 => ((bits_Add64.f a0_2 bt138.1 0).bind fun bt142 => (if bt138.2.2 = true then (if bt142.2 = 0 then ((num_Grow.f k a0_1 bt142.1 a0_3 true (a2 != a0_1)).bind fun bt144 => (some (bt144.1, bt144.2.1, bt144.2.2.1, bt144.2.2.2))) else ((num_Grow.f k a0_1 (Go.bits .or .u64 (bt142.1 / 2) 9223372036854775808) (wrap64 (a0_3 + 1)) true (a2 != a0_1)).bind fun bt148 => (some (bt148.1, bt148.2.1, bt148.2.2.1, bt148.2.2.2)))) else (if bt142.2 = 0 then ((num_Grow.f k a0_1 bt142.1 a0_3 (bt138.2.1 != 0) (a2 != a0_1)).bind fun bt152 => (some (bt152.1, bt152.2.1, bt152.2.2.1, bt152.2.2.2))) else (if bt138.2.1 = 0 then ((num_Grow.f k a0_1 (Go.bits .or .u64 (bt142.1 / 2) 9223372036854775808) (wrap64 (a0_3 + 1)) ((Go.bits .and .u64 bt142.1 1) != 0) (a2 != a0_1)).bind fun bt156 => (some (bt156.1, bt156.2.1, bt156.2.2.1, bt156.2.2.2))) else ((num_Grow.f k a0_1 (Go.bits .or .u64 (bt142.1 / 2) 9223372036854775808) (wrap64 (a0_3 + 1)) true (a2 != a0_1)).bind fun bt160 => (some (bt160.1, bt160.2.1, bt160.2.2.1, bt160.2.2.2)))))))) = some (r1, r2, r3, r4) := h
 clear h
 replace H := Option.bind_eq_some_iff.mp H
 obtain ⟨⟨t138, t139, t140⟩, A40, H⟩ := H
 (try dsimp only at H)
 have A4 := Aside0.mk A40
 clear A40
 replace H := Option.bind_eq_some_iff.mp H
 obtain ⟨⟨t142, t143⟩, A50, H⟩ := H
 (try dsimp only at H)
 have A5 := Aside0.mk A50
 clear A50
 by_cases c6 : t140 = true
 ·subst c6
  have H1 : (if t143 = 0 then ((num_Grow.f k a0_1 t142 a0_3 true (a2 != a0_1)).bind fun bt144 => (some (bt144.1, bt144.2.1, bt144.2.2.1, bt144.2.2.2))) else ((num_Grow.f k a0_1 (Go.bits .or .u64 (t142 / 2) 9223372036854775808) (wrap64 (a0_3 + 1)) true (a2 != a0_1)).bind fun bt148 => (some (bt148.1, bt148.2.1, bt148.2.2.1, bt148.2.2.2)))) = some (r1, r2, r3, r4) := by rw [if_pos rfl] at H; exact H
  clear H
  have H := H1
  clear H1
  by_cases c7 : t143 = 0
  ·rw [if_pos c7] at H
   have c7b0 : (t143 == 0) = true := beq_iff_eq.mpr c7
   have c7b1 : (t143 != 0) = false := bne_eq_false_iff_eq.mpr c7
   clear c7
   replace H := Option.bind_eq_some_iff.mp H
   obtain ⟨⟨t144, t145, t146, t147⟩, A80, H⟩ := H
   (try dsimp only at H)
   have A8 := Aside0.mk A80
   clear A80
   simp only [Option.some.injEq, Prod.mk.injEq] at H
   obtain ⟨rfl, rfl, rfl, rfl⟩ := H
   go_enter Tryd.func24, Tryd.ntmps24
   go_wp2_with (first | ((with_reducible refine gate_dst (N := 3) rfl ?_); refine bx_ 3 #[.int .i64 a0_0, .bool a0_1, .int .u64 a0_2, .int .i64 a0_3] 24 ?_; intro gb135 hg w9 hbox hb; have BK135 := Aside0.mk (hbox); have GW135 := ge_ hg HB; have GE135 := ge_ hg HB; replace HB := bq_ HB hb; clear hb hbox hg) | ((with_reducible refine gate_dst (N := 4) rfl ?_); refine bx_ 4 #[.int .i64 a1_0, .bool a1_1, .int .u64 a1_2, .int .i64 a1_3] 24 ?_; intro gb136 hg w10 hbox hb; have BK136 := Aside0.mk (hbox); have GW136 := ge_ hg HB; have GE136 := ge_ hg HB; have NB135_136 := nb_ hg BK135; have NB136_135 := nc_ hg BK135; replace BK135 := kq_ BK135 hb; replace HB := bq_ HB hb; clear hb hbox hg) | ((with_reducible refine gate_dst (N := 6) rfl ?_); refine bx_ 6 #[.int .i64 0, .bool false, .int .u64 0, .int .i64 0] 24 ?_; intro gb137 hg w11 hbox hb; have BK137 := Aside0.mk (hbox); have GW137 := ge_ hg HB; have GE137 := ge_ hg HB; have NB135_137 := nb_ hg BK135; have NB137_135 := nc_ hg BK135; have NB136_137 := nb_ hg BK136; have NB137_136 := nc_ hg BK136; replace BK135 := kq_ BK135 hb; replace BK136 := kq_ BK136 hb; replace HB := bq_ HB hb; clear hb hbox hg; have hnb12 := NB136_135.out; have hnc12 := NB135_136.out; have hnb13 := NB136_137.out; have hnc13 := NB137_136.out; obtain ⟨hcz14_0, hcz14_1, hcz14_2, hcz14_3, hfz14_0, hfz14_1, hfz14_2, hfz14_3⟩ := c4_ BK136; have hnb15 := NB135_137.out; have hnc15 := NB137_135.out; obtain ⟨hcz16_0, hcz16_1, hcz16_2, hcz16_3, hfz16_0, hfz16_1, hfz16_2, hfz16_3⟩ := c4_ BK135) | ((with_reducible refine gate_callee (f := 44) rfl ?_); refine gl_ (some 19) Tryd.func44 #[.int .u64 a1_2, .int .i64 (wrap64 (a0_3 - a1_3))] ?_; (with_reducible refine (arith_lower.calls a1_2 (wrap64 (a0_3 - a1_3)) t138 t139 true _ A4.out).mono ?_); rintro e w17 ⟨rfl, hb⟩; refine ⟨_, rfl, ?_⟩; replace BK135 := kq_ BK135 hb; replace BK136 := kq_ BK136 hb; replace BK137 := kq_ BK137 hb; replace HB := bq_ HB hb; (try clear hb); (try clear hb2); (try clear hk); (try clear hi)) | ((with_reducible refine gate_dst (N := 7) rfl ?_); refine bx_ 7 #[.int .u64 0, .int .u64 0, .bool false] 67 ?_; intro gb141 hg w18 hbox hb; have BK141 := Aside0.mk (hbox); have GW141 := ge_ hg HB; have GE141 := ge_ hg HB; have NB135_141 := nb_ hg BK135; have NB141_135 := nc_ hg BK135; have NB136_141 := nb_ hg BK136; have NB141_136 := nc_ hg BK136; have NB137_141 := nb_ hg BK137; have NB141_137 := nc_ hg BK137; replace BK135 := kq_ BK135 hb; replace BK136 := kq_ BK136 hb; replace BK137 := kq_ BK137 hb; replace HB := bq_ HB hb; clear hb hbox hg; have hnb19 := NB141_135.out; have hnc19 := NB135_141.out; have hnb20 := NB141_136.out; have hnc20 := NB136_141.out; have hnb21 := NB141_137.out; have hnc21 := NB137_141.out; obtain ⟨hcz22_0, hcz22_1, hcz22_2, hfz22_0, hfz22_1, hfz22_2⟩ := c3_ BK141; obtain ⟨hcz23_0, hcz23_1, hcz23_2, hcz23_3, hfz23_0, hfz23_1, hfz23_2, hfz23_3⟩ := c4_ BK135) | ((with_reducible refine gate_callee (f := 45) rfl ?_); refine goesX_ (some 25) rfl rfl #[.int .u64 a0_2, .int .u64 t138, .int .u64 0] rfl (by (try simp only [List.map_toArray, List.map_cons, List.map_nil]); first | done | rfl) ?_; (with_reducible refine (bits_Add64.calls a0_2 t138 0 t142 t143 _ A5.out).mono ?_); rintro e w' ⟨rfl, ⟨nd, rfl⟩⟩; refine ⟨_, rfl, ?_⟩) | ((with_reducible refine gate_callee (f := 27) rfl ?_); refine gl_ (some 59) Tryd.func27 #[.bool a0_1, .int .u64 t142, .int .i64 a0_3, .bool true, .bool (a2 != a0_1)] ?_; (with_reducible refine (num_Grow.calls k a0_1 t142 a0_3 true (a2 != a0_1) t144 t145 t146 t147 _ A8.out).mono ?_); rintro e w24 ⟨rfl, hb⟩; refine ⟨_, rfl, ?_⟩; have n0_ := Aside0.mk (blk_below (g := gb135) (o := .cells #[.int .i64 a0_0, .bool a0_1, .int .u64 a0_2, .int .i64 a0_3] 24 (0, 0)) (by refine kb_ ?_; refine bf_ NB135_141 ?_; refine bf_ NB135_141 ?_; refine bf_ NB135_141 ?_; exact BK135.out) hb); have n1_ := Aside0.mk (blk_below (g := gb136) (o := .cells #[.int .i64 a1_0, .bool a1_1, .int .u64 a1_2, .int .i64 a1_3] 24 (0, 0)) (by refine kb_ ?_; refine bf_ NB136_141 ?_; refine bf_ NB136_141 ?_; refine bf_ NB136_141 ?_; exact BK136.out) hb); have n2_ := Aside0.mk (blk_below (g := gb137) (o := .cells #[.int .i64 0, .bool false, .int .u64 0, .int .i64 0] 24 (0, 0)) (by refine kb_ ?_; refine bf_ NB137_141 ?_; refine bf_ NB137_141 ?_; refine bf_ NB137_141 ?_; exact BK137.out) hb); have n3_ := Aside0.mk (blk_below (g := gb141) (o := .cells #[.int .u64 t138, .int .u64 t139, .bool true] 67 (0, 0)) (by refine kb_ ?_; refine bp_ #[.int .u64 t138, .int .u64 t139, .bool false] 2 ?_; refine bp_ #[.int .u64 t138, .int .u64 0, .bool false] 1 ?_; refine bp_ #[.int .u64 0, .int .u64 0, .bool false] 0 ?_; exact BK141.out) hb); have n4_ := bq_ HB hb; clear BK135; clear BK136; clear BK137; clear BK141; clear HB; have BK135 := n0_; have BK136 := n1_; have BK137 := n2_; have BK141 := n3_; have HB := n4_; clear n0_ n1_ n2_ n3_ n4_; (try clear hb); (try clear hb2); (try clear hk); (try clear hi); obtain ⟨hcz25_0, hcz25_1, hcz25_2, hcz25_3, hfz25_0, hfz25_1, hfz25_2, hfz25_3⟩ := c4_ BK137))
   refine bodyPost_ret (results_cell_row rfl _ _ gb137 24 #[.int .i64 t144, .bool t145, .int .u64 t146, .int .i64 t147] (0, 0) _ rfl (by refine kb_ ?_; refine bp_ #[.int .i64 t144, .bool t145, .int .u64 t146, .int .i64 0] 3 ?_; refine bp_ #[.int .i64 t144, .bool t145, .int .u64 0, .int .i64 0] 2 ?_; refine bp_ #[.int .i64 t144, .bool false, .int .u64 0, .int .i64 0] 1 ?_; refine bp_ #[.int .i64 0, .bool false, .int .u64 0, .int .i64 0] 0 ?_; exact BK137.out) Tryd.underlying24 rfl (by kernel_rfl)) rfl ?_
   exact ⟨rf_, bw_ HB.out⟩
  ·rw [if_neg c7] at H
   have c7b0 : (t143 == 0) = false := beq_eq_false_iff_ne.mpr c7
   have c7b1 : (t143 != 0) = true := bne_iff_ne.mpr c7
   replace H := Option.bind_eq_some_iff.mp H
   obtain ⟨⟨t148, t149, t150, t151⟩, A260, H⟩ := H
   (try dsimp only at H)
   have A26 := Aside0.mk A260
   clear A260
   simp only [Option.some.injEq, Prod.mk.injEq] at H
   obtain ⟨rfl, rfl, rfl, rfl⟩ := H
   go_enter Tryd.func24, Tryd.ntmps24
   go_wp2_with (first | ((with_reducible refine gate_dst (N := 3) rfl ?_); refine bx_ 3 #[.int .i64 a0_0, .bool a0_1, .int .u64 a0_2, .int .i64 a0_3] 24 ?_; intro gb135 hg w27 hbox hb; have BK135 := Aside0.mk (hbox); have GW135 := ge_ hg HB; have GE135 := ge_ hg HB; replace HB := bq_ HB hb; clear hb hbox hg) | ((with_reducible refine gate_dst (N := 4) rfl ?_); refine bx_ 4 #[.int .i64 a1_0, .bool a1_1, .int .u64 a1_2, .int .i64 a1_3] 24 ?_; intro gb136 hg w28 hbox hb; have BK136 := Aside0.mk (hbox); have GW136 := ge_ hg HB; have GE136 := ge_ hg HB; have NB135_136 := nb_ hg BK135; have NB136_135 := nc_ hg BK135; replace BK135 := kq_ BK135 hb; replace HB := bq_ HB hb; clear hb hbox hg) | ((with_reducible refine gate_dst (N := 6) rfl ?_); refine bx_ 6 #[.int .i64 0, .bool false, .int .u64 0, .int .i64 0] 24 ?_; intro gb137 hg w29 hbox hb; have BK137 := Aside0.mk (hbox); have GW137 := ge_ hg HB; have GE137 := ge_ hg HB; have NB135_137 := nb_ hg BK135; have NB137_135 := nc_ hg BK135; have NB136_137 := nb_ hg BK136; have NB137_136 := nc_ hg BK136; replace BK135 := kq_ BK135 hb; replace BK136 := kq_ BK136 hb; replace HB := bq_ HB hb; clear hb hbox hg; have hnb30 := NB136_135.out; have hnc30 := NB135_136.out; have hnb31 := NB136_137.out; have hnc31 := NB137_136.out; obtain ⟨hcz32_0, hcz32_1, hcz32_2, hcz32_3, hfz32_0, hfz32_1, hfz32_2, hfz32_3⟩ := c4_ BK136; have hnb33 := NB135_137.out; have hnc33 := NB137_135.out; obtain ⟨hcz34_0, hcz34_1, hcz34_2, hcz34_3, hfz34_0, hfz34_1, hfz34_2, hfz34_3⟩ := c4_ BK135) | ((with_reducible refine gate_callee (f := 44) rfl ?_); refine gl_ (some 19) Tryd.func44 #[.int .u64 a1_2, .int .i64 (wrap64 (a0_3 - a1_3))] ?_; (with_reducible refine (arith_lower.calls a1_2 (wrap64 (a0_3 - a1_3)) t138 t139 true _ A4.out).mono ?_); rintro e w35 ⟨rfl, hb⟩; refine ⟨_, rfl, ?_⟩; replace BK135 := kq_ BK135 hb; replace BK136 := kq_ BK136 hb; replace BK137 := kq_ BK137 hb; replace HB := bq_ HB hb; (try clear hb); (try clear hb2); (try clear hk); (try clear hi)) | ((with_reducible refine gate_dst (N := 7) rfl ?_); refine bx_ 7 #[.int .u64 0, .int .u64 0, .bool false] 67 ?_; intro gb141 hg w36 hbox hb; have BK141 := Aside0.mk (hbox); have GW141 := ge_ hg HB; have GE141 := ge_ hg HB; have NB135_141 := nb_ hg BK135; have NB141_135 := nc_ hg BK135; have NB136_141 := nb_ hg BK136; have NB141_136 := nc_ hg BK136; have NB137_141 := nb_ hg BK137; have NB141_137 := nc_ hg BK137; replace BK135 := kq_ BK135 hb; replace BK136 := kq_ BK136 hb; replace BK137 := kq_ BK137 hb; replace HB := bq_ HB hb; clear hb hbox hg; have hnb37 := NB141_135.out; have hnc37 := NB135_141.out; have hnb38 := NB141_136.out; have hnc38 := NB136_141.out; have hnb39 := NB141_137.out; have hnc39 := NB137_141.out; obtain ⟨hcz40_0, hcz40_1, hcz40_2, hfz40_0, hfz40_1, hfz40_2⟩ := c3_ BK141; obtain ⟨hcz41_0, hcz41_1, hcz41_2, hcz41_3, hfz41_0, hfz41_1, hfz41_2, hfz41_3⟩ := c4_ BK135) | ((with_reducible refine gate_callee (f := 45) rfl ?_); refine goesX_ (some 25) rfl rfl #[.int .u64 a0_2, .int .u64 t138, .int .u64 0] rfl (by (try simp only [List.map_toArray, List.map_cons, List.map_nil]); first | done | rfl) ?_; (with_reducible refine (bits_Add64.calls a0_2 t138 0 t142 t143 _ A5.out).mono ?_); rintro e w' ⟨rfl, ⟨nd, rfl⟩⟩; refine ⟨_, rfl, ?_⟩) | ((with_reducible refine gate_callee (f := 27) rfl ?_); refine gl_ (some 59) Tryd.func27 #[.bool a0_1, .int .u64 (Go.bits .or .u64 (t142 / 2) 9223372036854775808), .int .i64 (wrap64 (a0_3 + 1)), .bool true, .bool (a2 != a0_1)] ?_; (with_reducible refine (num_Grow.calls k a0_1 (Go.bits .or .u64 (t142 / 2) 9223372036854775808) (wrap64 (a0_3 + 1)) true (a2 != a0_1) t148 t149 t150 t151 _ A26.out).mono ?_); rintro e w42 ⟨rfl, hb⟩; refine ⟨_, rfl, ?_⟩; have n0_ := Aside0.mk (blk_below (g := gb135) (o := .cells #[.int .i64 a0_0, .bool a0_1, .int .u64 a0_2, .int .i64 a0_3] 24 (0, 0)) (by refine kb_ ?_; refine bf_ NB135_141 ?_; refine bf_ NB135_141 ?_; refine bf_ NB135_141 ?_; exact BK135.out) hb); have n1_ := Aside0.mk (blk_below (g := gb136) (o := .cells #[.int .i64 a1_0, .bool a1_1, .int .u64 a1_2, .int .i64 a1_3] 24 (0, 0)) (by refine kb_ ?_; refine bf_ NB136_141 ?_; refine bf_ NB136_141 ?_; refine bf_ NB136_141 ?_; exact BK136.out) hb); have n2_ := Aside0.mk (blk_below (g := gb137) (o := .cells #[.int .i64 0, .bool false, .int .u64 0, .int .i64 0] 24 (0, 0)) (by refine kb_ ?_; refine bf_ NB137_141 ?_; refine bf_ NB137_141 ?_; refine bf_ NB137_141 ?_; exact BK137.out) hb); have n3_ := Aside0.mk (blk_below (g := gb141) (o := .cells #[.int .u64 t138, .int .u64 t139, .bool true] 67 (0, 0)) (by refine kb_ ?_; refine bp_ #[.int .u64 t138, .int .u64 t139, .bool false] 2 ?_; refine bp_ #[.int .u64 t138, .int .u64 0, .bool false] 1 ?_; refine bp_ #[.int .u64 0, .int .u64 0, .bool false] 0 ?_; exact BK141.out) hb); have n4_ := bq_ HB hb; clear BK135; clear BK136; clear BK137; clear BK141; clear HB; have BK135 := n0_; have BK136 := n1_; have BK137 := n2_; have BK141 := n3_; have HB := n4_; clear n0_ n1_ n2_ n3_ n4_; (try clear hb); (try clear hb2); (try clear hk); (try clear hi); obtain ⟨hcz43_0, hcz43_1, hcz43_2, hcz43_3, hfz43_0, hfz43_1, hfz43_2, hfz43_3⟩ := c4_ BK137))
   refine bodyPost_ret (results_cell_row rfl _ _ gb137 24 #[.int .i64 t148, .bool t149, .int .u64 t150, .int .i64 t151] (0, 0) _ rfl (by refine kb_ ?_; refine bp_ #[.int .i64 t148, .bool t149, .int .u64 t150, .int .i64 0] 3 ?_; refine bp_ #[.int .i64 t148, .bool t149, .int .u64 0, .int .i64 0] 2 ?_; refine bp_ #[.int .i64 t148, .bool false, .int .u64 0, .int .i64 0] 1 ?_; refine bp_ #[.int .i64 0, .bool false, .int .u64 0, .int .i64 0] 0 ?_; exact BK137.out) Tryd.underlying24 rfl (by kernel_rfl)) rfl ?_
   exact ⟨rf_, bw_ HB.out⟩
 ·replace c6 := Bool.eq_false_iff.mpr c6
  subst c6
  have H1 : (if t143 = 0 then ((num_Grow.f k a0_1 t142 a0_3 (t139 != 0) (a2 != a0_1)).bind fun bt152 => (some (bt152.1, bt152.2.1, bt152.2.2.1, bt152.2.2.2))) else (if t139 = 0 then ((num_Grow.f k a0_1 (Go.bits .or .u64 (t142 / 2) 9223372036854775808) (wrap64 (a0_3 + 1)) ((Go.bits .and .u64 t142 1) != 0) (a2 != a0_1)).bind fun bt156 => (some (bt156.1, bt156.2.1, bt156.2.2.1, bt156.2.2.2))) else ((num_Grow.f k a0_1 (Go.bits .or .u64 (t142 / 2) 9223372036854775808) (wrap64 (a0_3 + 1)) true (a2 != a0_1)).bind fun bt160 => (some (bt160.1, bt160.2.1, bt160.2.2.1, bt160.2.2.2))))) = some (r1, r2, r3, r4) := by rw [if_neg (show ¬ (false = true) by decide)] at H; exact H
  clear H
  have H := H1
  clear H1
  by_cases c44 : t143 = 0
  ·rw [if_pos c44] at H
   have c44b0 : (t143 == 0) = true := beq_iff_eq.mpr c44
   have c44b1 : (t143 != 0) = false := bne_eq_false_iff_eq.mpr c44
   clear c44
   replace H := Option.bind_eq_some_iff.mp H
   obtain ⟨⟨t152, t153, t154, t155⟩, A450, H⟩ := H
   (try dsimp only at H)
   have A45 := Aside0.mk A450
   clear A450
   simp only [Option.some.injEq, Prod.mk.injEq] at H
   obtain ⟨rfl, rfl, rfl, rfl⟩ := H
   go_enter Tryd.func24, Tryd.ntmps24
   go_wp2_with (first | ((with_reducible refine gate_dst (N := 3) rfl ?_); refine bx_ 3 #[.int .i64 a0_0, .bool a0_1, .int .u64 a0_2, .int .i64 a0_3] 24 ?_; intro gb135 hg w46 hbox hb; have BK135 := Aside0.mk (hbox); have GW135 := ge_ hg HB; have GE135 := ge_ hg HB; replace HB := bq_ HB hb; clear hb hbox hg) | ((with_reducible refine gate_dst (N := 4) rfl ?_); refine bx_ 4 #[.int .i64 a1_0, .bool a1_1, .int .u64 a1_2, .int .i64 a1_3] 24 ?_; intro gb136 hg w47 hbox hb; have BK136 := Aside0.mk (hbox); have GW136 := ge_ hg HB; have GE136 := ge_ hg HB; have NB135_136 := nb_ hg BK135; have NB136_135 := nc_ hg BK135; replace BK135 := kq_ BK135 hb; replace HB := bq_ HB hb; clear hb hbox hg) | ((with_reducible refine gate_dst (N := 6) rfl ?_); refine bx_ 6 #[.int .i64 0, .bool false, .int .u64 0, .int .i64 0] 24 ?_; intro gb137 hg w48 hbox hb; have BK137 := Aside0.mk (hbox); have GW137 := ge_ hg HB; have GE137 := ge_ hg HB; have NB135_137 := nb_ hg BK135; have NB137_135 := nc_ hg BK135; have NB136_137 := nb_ hg BK136; have NB137_136 := nc_ hg BK136; replace BK135 := kq_ BK135 hb; replace BK136 := kq_ BK136 hb; replace HB := bq_ HB hb; clear hb hbox hg; have hnb49 := NB136_135.out; have hnc49 := NB135_136.out; have hnb50 := NB136_137.out; have hnc50 := NB137_136.out; obtain ⟨hcz51_0, hcz51_1, hcz51_2, hcz51_3, hfz51_0, hfz51_1, hfz51_2, hfz51_3⟩ := c4_ BK136; have hnb52 := NB135_137.out; have hnc52 := NB137_135.out; obtain ⟨hcz53_0, hcz53_1, hcz53_2, hcz53_3, hfz53_0, hfz53_1, hfz53_2, hfz53_3⟩ := c4_ BK135) | ((with_reducible refine gate_callee (f := 44) rfl ?_); refine gl_ (some 19) Tryd.func44 #[.int .u64 a1_2, .int .i64 (wrap64 (a0_3 - a1_3))] ?_; (with_reducible refine (arith_lower.calls a1_2 (wrap64 (a0_3 - a1_3)) t138 t139 false _ A4.out).mono ?_); rintro e w54 ⟨rfl, hb⟩; refine ⟨_, rfl, ?_⟩; replace BK135 := kq_ BK135 hb; replace BK136 := kq_ BK136 hb; replace BK137 := kq_ BK137 hb; replace HB := bq_ HB hb; (try clear hb); (try clear hb2); (try clear hk); (try clear hi)) | ((with_reducible refine gate_dst (N := 7) rfl ?_); refine bx_ 7 #[.int .u64 0, .int .u64 0, .bool false] 67 ?_; intro gb141 hg w55 hbox hb; have BK141 := Aside0.mk (hbox); have GW141 := ge_ hg HB; have GE141 := ge_ hg HB; have NB135_141 := nb_ hg BK135; have NB141_135 := nc_ hg BK135; have NB136_141 := nb_ hg BK136; have NB141_136 := nc_ hg BK136; have NB137_141 := nb_ hg BK137; have NB141_137 := nc_ hg BK137; replace BK135 := kq_ BK135 hb; replace BK136 := kq_ BK136 hb; replace BK137 := kq_ BK137 hb; replace HB := bq_ HB hb; clear hb hbox hg; have hnb56 := NB141_135.out; have hnc56 := NB135_141.out; have hnb57 := NB141_136.out; have hnc57 := NB136_141.out; have hnb58 := NB141_137.out; have hnc58 := NB137_141.out; obtain ⟨hcz59_0, hcz59_1, hcz59_2, hfz59_0, hfz59_1, hfz59_2⟩ := c3_ BK141; obtain ⟨hcz60_0, hcz60_1, hcz60_2, hcz60_3, hfz60_0, hfz60_1, hfz60_2, hfz60_3⟩ := c4_ BK135) | ((with_reducible refine gate_callee (f := 45) rfl ?_); refine goesX_ (some 25) rfl rfl #[.int .u64 a0_2, .int .u64 t138, .int .u64 0] rfl (by (try simp only [List.map_toArray, List.map_cons, List.map_nil]); first | done | rfl) ?_; (with_reducible refine (bits_Add64.calls a0_2 t138 0 t142 t143 _ A5.out).mono ?_); rintro e w' ⟨rfl, ⟨nd, rfl⟩⟩; refine ⟨_, rfl, ?_⟩) | ((with_reducible refine gate_callee (f := 27) rfl ?_); refine gl_ (some 59) Tryd.func27 #[.bool a0_1, .int .u64 t142, .int .i64 a0_3, .bool (t139 != 0), .bool (a2 != a0_1)] ?_; (with_reducible refine (num_Grow.calls k a0_1 t142 a0_3 (t139 != 0) (a2 != a0_1) t152 t153 t154 t155 _ A45.out).mono ?_); rintro e w61 ⟨rfl, hb⟩; refine ⟨_, rfl, ?_⟩; have n0_ := Aside0.mk (blk_below (g := gb135) (o := .cells #[.int .i64 a0_0, .bool a0_1, .int .u64 a0_2, .int .i64 a0_3] 24 (0, 0)) (by refine kb_ ?_; refine bf_ NB135_141 ?_; refine bf_ NB135_141 ?_; refine bf_ NB135_141 ?_; exact BK135.out) hb); have n1_ := Aside0.mk (blk_below (g := gb136) (o := .cells #[.int .i64 a1_0, .bool a1_1, .int .u64 a1_2, .int .i64 a1_3] 24 (0, 0)) (by refine kb_ ?_; refine bf_ NB136_141 ?_; refine bf_ NB136_141 ?_; refine bf_ NB136_141 ?_; exact BK136.out) hb); have n2_ := Aside0.mk (blk_below (g := gb137) (o := .cells #[.int .i64 0, .bool false, .int .u64 0, .int .i64 0] 24 (0, 0)) (by refine kb_ ?_; refine bf_ NB137_141 ?_; refine bf_ NB137_141 ?_; refine bf_ NB137_141 ?_; exact BK137.out) hb); have n3_ := Aside0.mk (blk_below (g := gb141) (o := .cells #[.int .u64 t138, .int .u64 t139, .bool false] 67 (0, 0)) (by refine kb_ ?_; refine bp_ #[.int .u64 t138, .int .u64 t139, .bool false] 2 ?_; refine bp_ #[.int .u64 t138, .int .u64 0, .bool false] 1 ?_; refine bp_ #[.int .u64 0, .int .u64 0, .bool false] 0 ?_; exact BK141.out) hb); have n4_ := bq_ HB hb; clear BK135; clear BK136; clear BK137; clear BK141; clear HB; have BK135 := n0_; have BK136 := n1_; have BK137 := n2_; have BK141 := n3_; have HB := n4_; clear n0_ n1_ n2_ n3_ n4_; (try clear hb); (try clear hb2); (try clear hk); (try clear hi); obtain ⟨hcz62_0, hcz62_1, hcz62_2, hcz62_3, hfz62_0, hfz62_1, hfz62_2, hfz62_3⟩ := c4_ BK137))
   refine bodyPost_ret (results_cell_row rfl _ _ gb137 24 #[.int .i64 t152, .bool t153, .int .u64 t154, .int .i64 t155] (0, 0) _ rfl (by refine kb_ ?_; refine bp_ #[.int .i64 t152, .bool t153, .int .u64 t154, .int .i64 0] 3 ?_; refine bp_ #[.int .i64 t152, .bool t153, .int .u64 0, .int .i64 0] 2 ?_; refine bp_ #[.int .i64 t152, .bool false, .int .u64 0, .int .i64 0] 1 ?_; refine bp_ #[.int .i64 0, .bool false, .int .u64 0, .int .i64 0] 0 ?_; exact BK137.out) Tryd.underlying24 rfl (by kernel_rfl)) rfl ?_
   exact ⟨rf_, bw_ HB.out⟩
  ·rw [if_neg c44] at H
   have c44b0 : (t143 == 0) = false := beq_eq_false_iff_ne.mpr c44
   have c44b1 : (t143 != 0) = true := bne_iff_ne.mpr c44
   by_cases c63 : t139 = 0
   ·rw [if_pos c63] at H
    have c63b0 : (t139 == 0) = true := beq_iff_eq.mpr c63
    have c63b1 : (t139 != 0) = false := bne_eq_false_iff_eq.mpr c63
    clear c63
    replace H := Option.bind_eq_some_iff.mp H
    obtain ⟨⟨t156, t157, t158, t159⟩, A640, H⟩ := H
    (try dsimp only at H)
    have A64 := Aside0.mk A640
    clear A640
    simp only [Option.some.injEq, Prod.mk.injEq] at H
    obtain ⟨rfl, rfl, rfl, rfl⟩ := H
    go_enter Tryd.func24, Tryd.ntmps24
    go_wp2_with (first | ((with_reducible refine gate_dst (N := 3) rfl ?_); refine bx_ 3 #[.int .i64 a0_0, .bool a0_1, .int .u64 a0_2, .int .i64 a0_3] 24 ?_; intro gb135 hg w65 hbox hb; have BK135 := Aside0.mk (hbox); have GW135 := ge_ hg HB; have GE135 := ge_ hg HB; replace HB := bq_ HB hb; clear hb hbox hg) | ((with_reducible refine gate_dst (N := 4) rfl ?_); refine bx_ 4 #[.int .i64 a1_0, .bool a1_1, .int .u64 a1_2, .int .i64 a1_3] 24 ?_; intro gb136 hg w66 hbox hb; have BK136 := Aside0.mk (hbox); have GW136 := ge_ hg HB; have GE136 := ge_ hg HB; have NB135_136 := nb_ hg BK135; have NB136_135 := nc_ hg BK135; replace BK135 := kq_ BK135 hb; replace HB := bq_ HB hb; clear hb hbox hg) | ((with_reducible refine gate_dst (N := 6) rfl ?_); refine bx_ 6 #[.int .i64 0, .bool false, .int .u64 0, .int .i64 0] 24 ?_; intro gb137 hg w67 hbox hb; have BK137 := Aside0.mk (hbox); have GW137 := ge_ hg HB; have GE137 := ge_ hg HB; have NB135_137 := nb_ hg BK135; have NB137_135 := nc_ hg BK135; have NB136_137 := nb_ hg BK136; have NB137_136 := nc_ hg BK136; replace BK135 := kq_ BK135 hb; replace BK136 := kq_ BK136 hb; replace HB := bq_ HB hb; clear hb hbox hg; have hnb68 := NB136_135.out; have hnc68 := NB135_136.out; have hnb69 := NB136_137.out; have hnc69 := NB137_136.out; obtain ⟨hcz70_0, hcz70_1, hcz70_2, hcz70_3, hfz70_0, hfz70_1, hfz70_2, hfz70_3⟩ := c4_ BK136; have hnb71 := NB135_137.out; have hnc71 := NB137_135.out; obtain ⟨hcz72_0, hcz72_1, hcz72_2, hcz72_3, hfz72_0, hfz72_1, hfz72_2, hfz72_3⟩ := c4_ BK135) | ((with_reducible refine gate_callee (f := 44) rfl ?_); refine gl_ (some 19) Tryd.func44 #[.int .u64 a1_2, .int .i64 (wrap64 (a0_3 - a1_3))] ?_; (with_reducible refine (arith_lower.calls a1_2 (wrap64 (a0_3 - a1_3)) t138 t139 false _ A4.out).mono ?_); rintro e w73 ⟨rfl, hb⟩; refine ⟨_, rfl, ?_⟩; replace BK135 := kq_ BK135 hb; replace BK136 := kq_ BK136 hb; replace BK137 := kq_ BK137 hb; replace HB := bq_ HB hb; (try clear hb); (try clear hb2); (try clear hk); (try clear hi)) | ((with_reducible refine gate_dst (N := 7) rfl ?_); refine bx_ 7 #[.int .u64 0, .int .u64 0, .bool false] 67 ?_; intro gb141 hg w74 hbox hb; have BK141 := Aside0.mk (hbox); have GW141 := ge_ hg HB; have GE141 := ge_ hg HB; have NB135_141 := nb_ hg BK135; have NB141_135 := nc_ hg BK135; have NB136_141 := nb_ hg BK136; have NB141_136 := nc_ hg BK136; have NB137_141 := nb_ hg BK137; have NB141_137 := nc_ hg BK137; replace BK135 := kq_ BK135 hb; replace BK136 := kq_ BK136 hb; replace BK137 := kq_ BK137 hb; replace HB := bq_ HB hb; clear hb hbox hg; have hnb75 := NB141_135.out; have hnc75 := NB135_141.out; have hnb76 := NB141_136.out; have hnc76 := NB136_141.out; have hnb77 := NB141_137.out; have hnc77 := NB137_141.out; obtain ⟨hcz78_0, hcz78_1, hcz78_2, hfz78_0, hfz78_1, hfz78_2⟩ := c3_ BK141; obtain ⟨hcz79_0, hcz79_1, hcz79_2, hcz79_3, hfz79_0, hfz79_1, hfz79_2, hfz79_3⟩ := c4_ BK135) | ((with_reducible refine gate_callee (f := 45) rfl ?_); refine goesX_ (some 25) rfl rfl #[.int .u64 a0_2, .int .u64 t138, .int .u64 0] rfl (by (try simp only [List.map_toArray, List.map_cons, List.map_nil]); first | done | rfl) ?_; (with_reducible refine (bits_Add64.calls a0_2 t138 0 t142 t143 _ A5.out).mono ?_); rintro e w' ⟨rfl, ⟨nd, rfl⟩⟩; refine ⟨_, rfl, ?_⟩) | ((with_reducible refine gate_callee (f := 27) rfl ?_); refine gl_ (some 59) Tryd.func27 #[.bool a0_1, .int .u64 (Go.bits .or .u64 (t142 / 2) 9223372036854775808), .int .i64 (wrap64 (a0_3 + 1)), .bool ((Go.bits .and .u64 t142 1) != 0), .bool (a2 != a0_1)] ?_; (with_reducible refine (num_Grow.calls k a0_1 (Go.bits .or .u64 (t142 / 2) 9223372036854775808) (wrap64 (a0_3 + 1)) ((Go.bits .and .u64 t142 1) != 0) (a2 != a0_1) t156 t157 t158 t159 _ A64.out).mono ?_); rintro e w80 ⟨rfl, hb⟩; refine ⟨_, rfl, ?_⟩; have n0_ := Aside0.mk (blk_below (g := gb135) (o := .cells #[.int .i64 a0_0, .bool a0_1, .int .u64 a0_2, .int .i64 a0_3] 24 (0, 0)) (by refine kb_ ?_; refine bf_ NB135_141 ?_; refine bf_ NB135_141 ?_; refine bf_ NB135_141 ?_; exact BK135.out) hb); have n1_ := Aside0.mk (blk_below (g := gb136) (o := .cells #[.int .i64 a1_0, .bool a1_1, .int .u64 a1_2, .int .i64 a1_3] 24 (0, 0)) (by refine kb_ ?_; refine bf_ NB136_141 ?_; refine bf_ NB136_141 ?_; refine bf_ NB136_141 ?_; exact BK136.out) hb); have n2_ := Aside0.mk (blk_below (g := gb137) (o := .cells #[.int .i64 0, .bool false, .int .u64 0, .int .i64 0] 24 (0, 0)) (by refine kb_ ?_; refine bf_ NB137_141 ?_; refine bf_ NB137_141 ?_; refine bf_ NB137_141 ?_; exact BK137.out) hb); have n3_ := Aside0.mk (blk_below (g := gb141) (o := .cells #[.int .u64 t138, .int .u64 t139, .bool false] 67 (0, 0)) (by refine kb_ ?_; refine bp_ #[.int .u64 t138, .int .u64 t139, .bool false] 2 ?_; refine bp_ #[.int .u64 t138, .int .u64 0, .bool false] 1 ?_; refine bp_ #[.int .u64 0, .int .u64 0, .bool false] 0 ?_; exact BK141.out) hb); have n4_ := bq_ HB hb; clear BK135; clear BK136; clear BK137; clear BK141; clear HB; have BK135 := n0_; have BK136 := n1_; have BK137 := n2_; have BK141 := n3_; have HB := n4_; clear n0_ n1_ n2_ n3_ n4_; (try clear hb); (try clear hb2); (try clear hk); (try clear hi); obtain ⟨hcz81_0, hcz81_1, hcz81_2, hcz81_3, hfz81_0, hfz81_1, hfz81_2, hfz81_3⟩ := c4_ BK137))
    refine bodyPost_ret (results_cell_row rfl _ _ gb137 24 #[.int .i64 t156, .bool t157, .int .u64 t158, .int .i64 t159] (0, 0) _ rfl (by refine kb_ ?_; refine bp_ #[.int .i64 t156, .bool t157, .int .u64 t158, .int .i64 0] 3 ?_; refine bp_ #[.int .i64 t156, .bool t157, .int .u64 0, .int .i64 0] 2 ?_; refine bp_ #[.int .i64 t156, .bool false, .int .u64 0, .int .i64 0] 1 ?_; refine bp_ #[.int .i64 0, .bool false, .int .u64 0, .int .i64 0] 0 ?_; exact BK137.out) Tryd.underlying24 rfl (by kernel_rfl)) rfl ?_
    exact ⟨rf_, bw_ HB.out⟩
   ·rw [if_neg c63] at H
    have c63b0 : (t139 == 0) = false := beq_eq_false_iff_ne.mpr c63
    have c63b1 : (t139 != 0) = true := bne_iff_ne.mpr c63
    replace H := Option.bind_eq_some_iff.mp H
    obtain ⟨⟨t160, t161, t162, t163⟩, A820, H⟩ := H
    (try dsimp only at H)
    have A82 := Aside0.mk A820
    clear A820
    simp only [Option.some.injEq, Prod.mk.injEq] at H
    obtain ⟨rfl, rfl, rfl, rfl⟩ := H
    go_enter Tryd.func24, Tryd.ntmps24
    go_wp2_with (first | ((with_reducible refine gate_dst (N := 3) rfl ?_); refine bx_ 3 #[.int .i64 a0_0, .bool a0_1, .int .u64 a0_2, .int .i64 a0_3] 24 ?_; intro gb135 hg w83 hbox hb; have BK135 := Aside0.mk (hbox); have GW135 := ge_ hg HB; have GE135 := ge_ hg HB; replace HB := bq_ HB hb; clear hb hbox hg) | ((with_reducible refine gate_dst (N := 4) rfl ?_); refine bx_ 4 #[.int .i64 a1_0, .bool a1_1, .int .u64 a1_2, .int .i64 a1_3] 24 ?_; intro gb136 hg w84 hbox hb; have BK136 := Aside0.mk (hbox); have GW136 := ge_ hg HB; have GE136 := ge_ hg HB; have NB135_136 := nb_ hg BK135; have NB136_135 := nc_ hg BK135; replace BK135 := kq_ BK135 hb; replace HB := bq_ HB hb; clear hb hbox hg) | ((with_reducible refine gate_dst (N := 6) rfl ?_); refine bx_ 6 #[.int .i64 0, .bool false, .int .u64 0, .int .i64 0] 24 ?_; intro gb137 hg w85 hbox hb; have BK137 := Aside0.mk (hbox); have GW137 := ge_ hg HB; have GE137 := ge_ hg HB; have NB135_137 := nb_ hg BK135; have NB137_135 := nc_ hg BK135; have NB136_137 := nb_ hg BK136; have NB137_136 := nc_ hg BK136; replace BK135 := kq_ BK135 hb; replace BK136 := kq_ BK136 hb; replace HB := bq_ HB hb; clear hb hbox hg; have hnb86 := NB136_135.out; have hnc86 := NB135_136.out; have hnb87 := NB136_137.out; have hnc87 := NB137_136.out; obtain ⟨hcz88_0, hcz88_1, hcz88_2, hcz88_3, hfz88_0, hfz88_1, hfz88_2, hfz88_3⟩ := c4_ BK136; have hnb89 := NB135_137.out; have hnc89 := NB137_135.out; obtain ⟨hcz90_0, hcz90_1, hcz90_2, hcz90_3, hfz90_0, hfz90_1, hfz90_2, hfz90_3⟩ := c4_ BK135) | ((with_reducible refine gate_callee (f := 44) rfl ?_); refine gl_ (some 19) Tryd.func44 #[.int .u64 a1_2, .int .i64 (wrap64 (a0_3 - a1_3))] ?_; (with_reducible refine (arith_lower.calls a1_2 (wrap64 (a0_3 - a1_3)) t138 t139 false _ A4.out).mono ?_); rintro e w91 ⟨rfl, hb⟩; refine ⟨_, rfl, ?_⟩; replace BK135 := kq_ BK135 hb; replace BK136 := kq_ BK136 hb; replace BK137 := kq_ BK137 hb; replace HB := bq_ HB hb; (try clear hb); (try clear hb2); (try clear hk); (try clear hi)) | ((with_reducible refine gate_dst (N := 7) rfl ?_); refine bx_ 7 #[.int .u64 0, .int .u64 0, .bool false] 67 ?_; intro gb141 hg w92 hbox hb; have BK141 := Aside0.mk (hbox); have GW141 := ge_ hg HB; have GE141 := ge_ hg HB; have NB135_141 := nb_ hg BK135; have NB141_135 := nc_ hg BK135; have NB136_141 := nb_ hg BK136; have NB141_136 := nc_ hg BK136; have NB137_141 := nb_ hg BK137; have NB141_137 := nc_ hg BK137; replace BK135 := kq_ BK135 hb; replace BK136 := kq_ BK136 hb; replace BK137 := kq_ BK137 hb; replace HB := bq_ HB hb; clear hb hbox hg; have hnb93 := NB141_135.out; have hnc93 := NB135_141.out; have hnb94 := NB141_136.out; have hnc94 := NB136_141.out; have hnb95 := NB141_137.out; have hnc95 := NB137_141.out; obtain ⟨hcz96_0, hcz96_1, hcz96_2, hfz96_0, hfz96_1, hfz96_2⟩ := c3_ BK141; obtain ⟨hcz97_0, hcz97_1, hcz97_2, hcz97_3, hfz97_0, hfz97_1, hfz97_2, hfz97_3⟩ := c4_ BK135) | ((with_reducible refine gate_callee (f := 45) rfl ?_); refine goesX_ (some 25) rfl rfl #[.int .u64 a0_2, .int .u64 t138, .int .u64 0] rfl (by (try simp only [List.map_toArray, List.map_cons, List.map_nil]); first | done | rfl) ?_; (with_reducible refine (bits_Add64.calls a0_2 t138 0 t142 t143 _ A5.out).mono ?_); rintro e w' ⟨rfl, ⟨nd, rfl⟩⟩; refine ⟨_, rfl, ?_⟩) | ((with_reducible refine gate_callee (f := 27) rfl ?_); refine gl_ (some 59) Tryd.func27 #[.bool a0_1, .int .u64 (Go.bits .or .u64 (t142 / 2) 9223372036854775808), .int .i64 (wrap64 (a0_3 + 1)), .bool true, .bool (a2 != a0_1)] ?_; (with_reducible refine (num_Grow.calls k a0_1 (Go.bits .or .u64 (t142 / 2) 9223372036854775808) (wrap64 (a0_3 + 1)) true (a2 != a0_1) t160 t161 t162 t163 _ A82.out).mono ?_); rintro e w98 ⟨rfl, hb⟩; refine ⟨_, rfl, ?_⟩; have n0_ := Aside0.mk (blk_below (g := gb135) (o := .cells #[.int .i64 a0_0, .bool a0_1, .int .u64 a0_2, .int .i64 a0_3] 24 (0, 0)) (by refine kb_ ?_; refine bf_ NB135_141 ?_; refine bf_ NB135_141 ?_; refine bf_ NB135_141 ?_; exact BK135.out) hb); have n1_ := Aside0.mk (blk_below (g := gb136) (o := .cells #[.int .i64 a1_0, .bool a1_1, .int .u64 a1_2, .int .i64 a1_3] 24 (0, 0)) (by refine kb_ ?_; refine bf_ NB136_141 ?_; refine bf_ NB136_141 ?_; refine bf_ NB136_141 ?_; exact BK136.out) hb); have n2_ := Aside0.mk (blk_below (g := gb137) (o := .cells #[.int .i64 0, .bool false, .int .u64 0, .int .i64 0] 24 (0, 0)) (by refine kb_ ?_; refine bf_ NB137_141 ?_; refine bf_ NB137_141 ?_; refine bf_ NB137_141 ?_; exact BK137.out) hb); have n3_ := Aside0.mk (blk_below (g := gb141) (o := .cells #[.int .u64 t138, .int .u64 t139, .bool false] 67 (0, 0)) (by refine kb_ ?_; refine bp_ #[.int .u64 t138, .int .u64 t139, .bool false] 2 ?_; refine bp_ #[.int .u64 t138, .int .u64 0, .bool false] 1 ?_; refine bp_ #[.int .u64 0, .int .u64 0, .bool false] 0 ?_; exact BK141.out) hb); have n4_ := bq_ HB hb; clear BK135; clear BK136; clear BK137; clear BK141; clear HB; have BK135 := n0_; have BK136 := n1_; have BK137 := n2_; have BK141 := n3_; have HB := n4_; clear n0_ n1_ n2_ n3_ n4_; (try clear hb); (try clear hb2); (try clear hk); (try clear hi); obtain ⟨hcz99_0, hcz99_1, hcz99_2, hcz99_3, hfz99_0, hfz99_1, hfz99_2, hfz99_3⟩ := c4_ BK137))
    refine bodyPost_ret (results_cell_row rfl _ _ gb137 24 #[.int .i64 t160, .bool t161, .int .u64 t162, .int .i64 t163] (0, 0) _ rfl (by refine kb_ ?_; refine bp_ #[.int .i64 t160, .bool t161, .int .u64 t162, .int .i64 0] 3 ?_; refine bp_ #[.int .i64 t160, .bool t161, .int .u64 0, .int .i64 0] 2 ?_; refine bp_ #[.int .i64 t160, .bool false, .int .u64 0, .int .i64 0] 1 ?_; refine bp_ #[.int .i64 0, .bool false, .int .u64 0, .int .i64 0] 0 ?_; exact BK137.out) Tryd.underlying24 rfl (by kernel_rfl)) rfl ?_
    exact ⟨rf_, bw_ HB.out⟩

end Go.Proofs.YthlhogcnfaiphaaDoor.PA
