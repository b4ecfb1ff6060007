-- Laid by this work's own program; Lean checks it.
import Derived.Test.YtkemnoejpbknhaaDoorPAx0
import Derived.Test.YtkemnoejpbknhaaDoorPAx1
import Derived.Test.YtkemnoejpbknhaaDoorPAx2
namespace Go.Proofs.YtkemnoejpbknhaaDoor.PA
open Go.RowKit Go.Proofs.YtkemnoejpbknhaaDoorW.PrintWords Go.Proofs.YtkemnoejpbknhaaDoorW.PrintLast Go.Proofs.YtkemnoejpbknhaaDoorW.PrintMore
attribute [local go_sem] max2_int min2_int max_two min_two max_three min_three max_four min_four   -- for this text's walks alone
set_option linter.unusedVariables false
set_option linter.unusedSimpArgs false

attribute [local go_sem ↓ high] isSome_set_
attribute [local go_sem high] eqA30
/-! ### pelorusref05_May: function 28 -/
set_option maxHeartbeats 8000000 in
set_option maxRecDepth 100000 in
theorem pelorusref05_May.calls (a0_0 : Int) (a0_1 : Bool) (a0_2 : Int) (a0_3 : Int) (r : Bool) (w : World) (h : pelorusref05_May.f a0_0 a0_1 a0_2 a0_3 = some r) :
  Calls Tryd.prog 28 #[.agg #[.int .i64 a0_0, .bool a0_1, .int .u64 a0_2, .int .i64 a0_3]] w fun e w' => e = .returned (.bool r) ∧ Below w.heap.size w w' := by
 have hu30 := Tryd.underlying30
 have HB := Aside0.mk (Below.refl w.heap.size w)
 have H : (if a0_0 = 1 then (if a0_2 ≥ 9223372036854775808 then (if a0_3 ≥ (-1048576) then (some (decide (a0_3 ≤ 1048576))) else (some false)) else (some false)) else (if a0_0 = 2 then (if a0_2 = 0 then (some (a0_3 == 0)) else (some false)) else (if a0_0 = 0 then (if a0_1 = true then (some false) else (if a0_2 = 0 then (some (a0_3 == 0)) else (some false))) else (some false)))) = some r := h
 clear h
 by_cases c2 : a0_0 = 1
 ·rw [if_pos c2] at H
  have c2b0 : (a0_0 == 1) = true := beq_iff_eq.mpr c2
  have c2b1 : (a0_0 != 1) = false := bne_eq_false_iff_eq.mpr c2
  clear c2
  by_cases c3 : a0_2 ≥ 9223372036854775808
  ·rw [if_pos c3] at H
   have c3b0 : decide (9223372036854775808 ≤ a0_2) = true := decide_eq_true c3
   clear c3
   by_cases c4 : a0_3 ≥ (-1048576)
   ·rw [if_pos c4] at H
    have c4b0 : decide ((-1048576) ≤ a0_3) = true := decide_eq_true c4
    clear c4
    obtain rfl := Option.some.inj H
    go_enter Tryd.func28, Tryd.ntmps28
    go_wp2_with (first | ((with_reducible refine gate_dst (N := 1) rfl ?_); refine bx_ 1 #[.int .i64 a0_0, .bool a0_1, .int .u64 a0_2, .int .i64 a0_3] 30 ?_; intro gb557 hg w5 hbox hb; have BK557 := Aside0.mk (hbox); have GW557 := ge_ hg HB; have GE557 := ge_ hg HB; replace HB := bq_ HB hb; clear hb hbox hg; obtain ⟨hcz6_0, hcz6_1, hcz6_2, hcz6_3, hfz6_0, hfz6_1, hfz6_2, hfz6_3⟩ := c4_ BK557))
    go_ret
    exact ⟨rf_, bw_ HB.out⟩
   ·rw [if_neg c4] at H
    have c4b0 : decide ((-1048576) ≤ a0_3) = false := decide_eq_false c4
    clear c4
    obtain rfl := Option.some.inj H
    go_enter Tryd.func28, Tryd.ntmps28
    go_wp2_with (first | ((with_reducible refine gate_dst (N := 1) rfl ?_); refine bx_ 1 #[.int .i64 a0_0, .bool a0_1, .int .u64 a0_2, .int .i64 a0_3] 30 ?_; intro gb557 hg w7 hbox hb; have BK557 := Aside0.mk (hbox); have GW557 := ge_ hg HB; have GE557 := ge_ hg HB; replace HB := bq_ HB hb; clear hb hbox hg; obtain ⟨hcz8_0, hcz8_1, hcz8_2, hcz8_3, hfz8_0, hfz8_1, hfz8_2, hfz8_3⟩ := c4_ BK557))
    go_ret
    exact ⟨rf_, bw_ HB.out⟩
  ·rw [if_neg c3] at H
   have c3b0 : decide (9223372036854775808 ≤ a0_2) = false := decide_eq_false c3
   clear c3
   obtain rfl := Option.some.inj H
   go_enter Tryd.func28, Tryd.ntmps28
   go_wp2_with (first | ((with_reducible refine gate_dst (N := 1) rfl ?_); refine bx_ 1 #[.int .i64 a0_0, .bool a0_1, .int .u64 a0_2, .int .i64 a0_3] 30 ?_; intro gb557 hg w9 hbox hb; have BK557 := Aside0.mk (hbox); have GW557 := ge_ hg HB; have GE557 := ge_ hg HB; replace HB := bq_ HB hb; clear hb hbox hg; obtain ⟨hcz10_0, hcz10_1, hcz10_2, hcz10_3, hfz10_0, hfz10_1, hfz10_2, hfz10_3⟩ := c4_ BK557))
   go_ret
   exact ⟨rf_, bw_ HB.out⟩
 ·rw [if_neg c2] at H
  have c2b0 : (a0_0 == 1) = false := beq_eq_false_iff_ne.mpr c2
  have c2b1 : (a0_0 != 1) = true := bne_iff_ne.mpr c2
  by_cases c11 : a0_0 = 2
  ·rw [if_pos c11] at H
   have c11b0 : (a0_0 == 2) = true := beq_iff_eq.mpr c11
   have c11b1 : (a0_0 != 2) = false := bne_eq_false_iff_eq.mpr c11
   clear c11
   by_cases c12 : a0_2 = 0
   ·rw [if_pos c12] at H
    have c12b0 : (a0_2 == 0) = true := beq_iff_eq.mpr c12
    have c12b1 : (a0_2 != 0) = false := bne_eq_false_iff_eq.mpr c12
    clear c12
    obtain rfl := Option.some.inj H
    go_enter Tryd.func28, Tryd.ntmps28
    go_wp2_with (first | ((with_reducible refine gate_dst (N := 1) rfl ?_); refine bx_ 1 #[.int .i64 a0_0, .bool a0_1, .int .u64 a0_2, .int .i64 a0_3] 30 ?_; intro gb557 hg w13 hbox hb; have BK557 := Aside0.mk (hbox); have GW557 := ge_ hg HB; have GE557 := ge_ hg HB; replace HB := bq_ HB hb; clear hb hbox hg; obtain ⟨hcz14_0, hcz14_1, hcz14_2, hcz14_3, hfz14_0, hfz14_1, hfz14_2, hfz14_3⟩ := c4_ BK557))
    go_ret
    exact ⟨rf_, bw_ HB.out⟩
   ·rw [if_neg c12] at H
    have c12b0 : (a0_2 == 0) = false := beq_eq_false_iff_ne.mpr c12
    have c12b1 : (a0_2 != 0) = true := bne_iff_ne.mpr c12
    obtain rfl := Option.some.inj H
    go_enter Tryd.func28, Tryd.ntmps28
    go_wp2_with (first | ((with_reducible refine gate_dst (N := 1) rfl ?_); refine bx_ 1 #[.int .i64 a0_0, .bool a0_1, .int .u64 a0_2, .int .i64 a0_3] 30 ?_; intro gb557 hg w15 hbox hb; have BK557 := Aside0.mk (hbox); have GW557 := ge_ hg HB; have GE557 := ge_ hg HB; replace HB := bq_ HB hb; clear hb hbox hg; obtain ⟨hcz16_0, hcz16_1, hcz16_2, hcz16_3, hfz16_0, hfz16_1, hfz16_2, hfz16_3⟩ := c4_ BK557))
    go_ret
    exact ⟨rf_, bw_ HB.out⟩
  ·rw [if_neg c11] at H
   have c11b0 : (a0_0 == 2) = false := beq_eq_false_iff_ne.mpr c11
   have c11b1 : (a0_0 != 2) = true := bne_iff_ne.mpr c11
   by_cases c17 : a0_0 = 0
   ·rw [if_pos c17] at H
    have c17b0 : (a0_0 == 0) = true := beq_iff_eq.mpr c17
    have c17b1 : (a0_0 != 0) = false := bne_eq_false_iff_eq.mpr c17
    clear c17
    by_cases c18 : a0_1 = true
    ·subst c18
     have H1 : (some false) = some r := by rw [if_pos rfl] at H; exact H
     clear H
     have H := H1
     clear H1
     obtain rfl := Option.some.inj H
     go_enter Tryd.func28, Tryd.ntmps28
     go_wp2_with (first | ((with_reducible refine gate_dst (N := 1) rfl ?_); refine bx_ 1 #[.int .i64 a0_0, .bool true, .int .u64 a0_2, .int .i64 a0_3] 30 ?_; intro gb557 hg w19 hbox hb; have BK557 := Aside0.mk (hbox); have GW557 := ge_ hg HB; have GE557 := ge_ hg HB; replace HB := bq_ HB hb; clear hb hbox hg; obtain ⟨hcz20_0, hcz20_1, hcz20_2, hcz20_3, hfz20_0, hfz20_1, hfz20_2, hfz20_3⟩ := c4_ BK557))
     go_ret
     exact ⟨rf_, bw_ HB.out⟩
    ·replace c18 := Bool.eq_false_iff.mpr c18
     subst c18
     have H1 : (if a0_2 = 0 then (some (a0_3 == 0)) else (some false)) = some r := by rw [if_neg (show ¬ (false = true) by decide)] at H; exact H
     clear H
     have H := H1
     clear H1
     by_cases c21 : a0_2 = 0
     ·rw [if_pos c21] at H
      have c21b0 : (a0_2 == 0) = true := beq_iff_eq.mpr c21
      have c21b1 : (a0_2 != 0) = false := bne_eq_false_iff_eq.mpr c21
      clear c21
      obtain rfl := Option.some.inj H
      go_enter Tryd.func28, Tryd.ntmps28
      go_wp2_with (first | ((with_reducible refine gate_dst (N := 1) rfl ?_); refine bx_ 1 #[.int .i64 a0_0, .bool false, .int .u64 a0_2, .int .i64 a0_3] 30 ?_; intro gb557 hg w22 hbox hb; have BK557 := Aside0.mk (hbox); have GW557 := ge_ hg HB; have GE557 := ge_ hg HB; replace HB := bq_ HB hb; clear hb hbox hg; obtain ⟨hcz23_0, hcz23_1, hcz23_2, hcz23_3, hfz23_0, hfz23_1, hfz23_2, hfz23_3⟩ := c4_ BK557))
      go_ret
      exact ⟨rf_, bw_ HB.out⟩
     ·rw [if_neg c21] at H
      have c21b0 : (a0_2 == 0) = false := beq_eq_false_iff_ne.mpr c21
      have c21b1 : (a0_2 != 0) = true := bne_iff_ne.mpr c21
      obtain rfl := Option.some.inj H
      go_enter Tryd.func28, Tryd.ntmps28
      go_wp2_with (first | ((with_reducible refine gate_dst (N := 1) rfl ?_); refine bx_ 1 #[.int .i64 a0_0, .bool false, .int .u64 a0_2, .int .i64 a0_3] 30 ?_; intro gb557 hg w24 hbox hb; have BK557 := Aside0.mk (hbox); have GW557 := ge_ hg HB; have GE557 := ge_ hg HB; replace HB := bq_ HB hb; clear hb hbox hg; obtain ⟨hcz25_0, hcz25_1, hcz25_2, hcz25_3, hfz25_0, hfz25_1, hfz25_2, hfz25_3⟩ := c4_ BK557))
      go_ret
      exact ⟨rf_, bw_ HB.out⟩
   ·rw [if_neg c17] at H
    have c17b0 : (a0_0 == 0) = false := beq_eq_false_iff_ne.mpr c17
    have c17b1 : (a0_0 != 0) = true := bne_iff_ne.mpr c17
    obtain rfl := Option.some.inj H
    go_enter Tryd.func28, Tryd.ntmps28
    go_wp2_with (first | ((with_reducible refine gate_dst (N := 1) rfl ?_); refine bx_ 1 #[.int .i64 a0_0, .bool a0_1, .int .u64 a0_2, .int .i64 a0_3] 30 ?_; intro gb557 hg w26 hbox hb; have BK557 := Aside0.mk (hbox); have GW557 := ge_ hg HB; have GE557 := ge_ hg HB; replace HB := bq_ HB hb; clear hb hbox hg; obtain ⟨hcz27_0, hcz27_1, hcz27_2, hcz27_3, hfz27_0, hfz27_1, hfz27_2, hfz27_3⟩ := c4_ BK557))
    go_ret
    exact ⟨rf_, bw_ HB.out⟩

/-! ### pelorusref05_fair: function 54 -/
set_option maxHeartbeats 8000000 in
set_option maxRecDepth 100000 in
theorem pelorusref05_fair.calls (a0_0 : Int) (a0_1 : Bool) (a0_2 : Int) (a0_3 : Int) (r1 : Int) (r2 : Bool) (r3 : Int) (r4 : Int) (w : World) (h : pelorusref05_fair.f a0_0 a0_1 a0_2 a0_3 = some (r1, r2, r3, r4)) :
  Calls Tryd.prog 54 #[.agg #[.int .i64 a0_0, .bool a0_1, .int .u64 a0_2, .int .i64 a0_3]] w fun e w' => e = .returned (.agg #[.int .i64 r1, .bool r2, .int .u64 r3, .int .i64 r4]) ∧ Below w.heap.size w w' := by
 have hu30 := Tryd.underlying30
 have HB := Aside0.mk (Below.refl w.heap.size w)
 have H : ((pelorusref05_May.f a0_0 a0_1 a0_2 a0_3).bind fun t560 => (if t560 = true then (some (a0_0, a0_1, a0_2, a0_3)) else (some (0, false, 0, 0)))) = some (r1, r2, r3, r4) := h
 clear h
 replace H := Option.bind_eq_some_iff.mp H
 obtain ⟨t560, A20, H⟩ := H
 (try dsimp only at H)
 have A2 := Aside0.mk A20
 clear A20
 by_cases c3 : t560 = true
 ·subst c3
  have H1 : (some (a0_0, a0_1, a0_2, a0_3)) = some (r1, r2, r3, r4) := by rw [if_pos rfl] at H; exact H
  clear H
  have H := H1
  clear H1
  simp only [Option.some.injEq, Prod.mk.injEq] at H
  obtain ⟨rfl, rfl, rfl, rfl⟩ := H
  go_enter Tryd.func54, Tryd.ntmps54
  go_wp2_with (first | ((with_reducible refine gate_dst (N := 1) rfl ?_); refine bx_ 1 #[.int .i64 a0_0, .bool a0_1, .int .u64 a0_2, .int .i64 a0_3] 30 ?_; intro gb558 hg w4 hbox hb; have BK558 := Aside0.mk (hbox); have GW558 := ge_ hg HB; have GE558 := ge_ hg HB; replace HB := bq_ HB hb; clear hb hbox hg) | ((with_reducible refine gate_dst (N := 2) rfl ?_); refine bx_ 2 #[.int .i64 0, .bool false, .int .u64 0, .int .i64 0] 30 ?_; intro gb559 hg w5 hbox hb; have BK559 := Aside0.mk (hbox); have GW559 := ge_ hg HB; have GE559 := ge_ hg HB; have NB558_559 := nb_ hg BK558; have NB559_558 := nc_ hg BK558; replace BK558 := kq_ BK558 hb; replace HB := bq_ HB hb; clear hb hbox hg; have hnb6 := NB558_559.out; have hnc6 := NB559_558.out; obtain ⟨hcz7_0, hcz7_1, hcz7_2, hcz7_3, hfz7_0, hfz7_1, hfz7_2, hfz7_3⟩ := c4_ BK558) | ((with_reducible refine gate_callee (f := 28) rfl ?_); refine gl_ (some 5) Tryd.func28 #[.agg #[.int .i64 a0_0, .bool a0_1, .int .u64 a0_2, .int .i64 a0_3]] ?_; (with_reducible refine (pelorusref05_May.calls a0_0 a0_1 a0_2 a0_3 true _ A2.out).mono ?_); rintro e w8 ⟨rfl, hb⟩; refine ⟨_, rfl, ?_⟩; replace BK558 := kq_ BK558 hb; replace BK559 := kq_ BK559 hb; replace HB := bq_ HB hb; (try clear hb); (try clear hb2); (try clear hk); (try clear hi); obtain ⟨hcz9_0, hcz9_1, hcz9_2, hcz9_3, hfz9_0, hfz9_1, hfz9_2, hfz9_3⟩ := c4_ BK558; obtain ⟨hcz10_0, hcz10_1, hcz10_2, hcz10_3, hfz10_0, hfz10_1, hfz10_2, hfz10_3⟩ := c4_ BK559))
  refine bodyPost_ret (results_cell_row rfl _ _ gb559 30 #[.int .i64 a0_0, .bool a0_1, .int .u64 a0_2, .int .i64 a0_3] (0, 0) _ rfl (by refine kb_ ?_; refine bp_ #[.int .i64 a0_0, .bool a0_1, .int .u64 a0_2, .int .i64 0] 3 ?_; refine bp_ #[.int .i64 a0_0, .bool a0_1, .int .u64 0, .int .i64 0] 2 ?_; refine bp_ #[.int .i64 a0_0, .bool false, .int .u64 0, .int .i64 0] 1 ?_; refine bp_ #[.int .i64 0, .bool false, .int .u64 0, .int .i64 0] 0 ?_; exact BK559.out) Tryd.underlying30 rfl (by kernel_rfl)) rfl ?_
  exact ⟨rf_, bw_ HB.out⟩
 ·replace c3 := Bool.eq_false_iff.mpr c3
  subst c3
  have H1 : (some (0, false, 0, 0)) = some (r1, r2, r3, r4) := by rw [if_neg (show ¬ (false = true) by decide)] at H; exact H
  clear H
  have H := H1
  clear H1
  simp only [Option.some.injEq, Prod.mk.injEq] at H
  obtain ⟨rfl, rfl, rfl, rfl⟩ := H
  go_enter Tryd.func54, Tryd.ntmps54
  go_wp2_with (first | ((with_reducible refine gate_dst (N := 1) rfl ?_); refine bx_ 1 #[.int .i64 a0_0, .bool a0_1, .int .u64 a0_2, .int .i64 a0_3] 30 ?_; intro gb558 hg w11 hbox hb; have BK558 := Aside0.mk (hbox); have GW558 := ge_ hg HB; have GE558 := ge_ hg HB; replace HB := bq_ HB hb; clear hb hbox hg) | ((with_reducible refine gate_dst (N := 2) rfl ?_); refine bx_ 2 #[.int .i64 0, .bool false, .int .u64 0, .int .i64 0] 30 ?_; intro gb559 hg w12 hbox hb; have BK559 := Aside0.mk (hbox); have GW559 := ge_ hg HB; have GE559 := ge_ hg HB; have NB558_559 := nb_ hg BK558; have NB559_558 := nc_ hg BK558; replace BK558 := kq_ BK558 hb; replace HB := bq_ HB hb; clear hb hbox hg; have hnb13 := NB558_559.out; have hnc13 := NB559_558.out; obtain ⟨hcz14_0, hcz14_1, hcz14_2, hcz14_3, hfz14_0, hfz14_1, hfz14_2, hfz14_3⟩ := c4_ BK558) | ((with_reducible refine gate_callee (f := 28) rfl ?_); refine gl_ (some 5) Tryd.func28 #[.agg #[.int .i64 a0_0, .bool a0_1, .int .u64 a0_2, .int .i64 a0_3]] ?_; (with_reducible refine (pelorusref05_May.calls a0_0 a0_1 a0_2 a0_3 false _ A2.out).mono ?_); rintro e w15 ⟨rfl, hb⟩; refine ⟨_, rfl, ?_⟩; replace BK558 := kq_ BK558 hb; replace BK559 := kq_ BK559 hb; replace HB := bq_ HB hb; (try clear hb); (try clear hb2); (try clear hk); (try clear hi); obtain ⟨hcz16_0, hcz16_1, hcz16_2, hcz16_3, hfz16_0, hfz16_1, hfz16_2, hfz16_3⟩ := c4_ BK559))
  refine bodyPost_ret (results_cell_row rfl _ _ gb559 30 #[.int .i64 0, .bool false, .int .u64 0, .int .i64 0] (0, 0) _ rfl (by refine kb_ ?_; refine bp_ #[.int .i64 0, .bool false, .int .u64 0, .int .i64 0] 3 ?_; refine bp_ #[.int .i64 0, .bool false, .int .u64 0, .int .i64 0] 2 ?_; refine bp_ #[.int .i64 0, .bool false, .int .u64 0, .int .i64 0] 1 ?_; refine bp_ #[.int .i64 0, .bool false, .int .u64 0, .int .i64 0] 0 ?_; exact BK559.out) Tryd.underlying30 rfl (by kernel_rfl)) rfl ?_
  exact ⟨rf_, bw_ HB.out⟩

/-! ### pelorusref05_Sign: function 29 -/
set_option maxHeartbeats 8000000 in
set_option maxRecDepth 100000 in
theorem pelorusref05_Sign.calls (a0_0 : Int) (a0_1 : Bool) (a0_2 : Int) (a0_3 : Int) (r : Int) (w : World) (h : pelorusref05_Sign.f a0_0 a0_1 a0_2 a0_3 = some r) :
  Calls Tryd.prog 29 #[.agg #[.int .i64 a0_0, .bool a0_1, .int .u64 a0_2, .int .i64 a0_3]] w fun e w' => e = .returned (.int .i64 r) ∧ Below w.heap.size w w' := by
 have hu30 := Tryd.underlying30
 have HB := Aside0.mk (Below.refl w.heap.size w)
 have H : ((pelorusref05_fair.f a0_0 a0_1 a0_2 a0_3).bind fun bt562 => (if bt562.1 = 0 then (some 0) else (if bt562.2.1 = true then (some (-1)) else (some 1)))) = some r := h
 clear h
 replace H := Option.bind_eq_some_iff.mp H
 obtain ⟨⟨t562, t563, t564, t565⟩, A20, H⟩ := H
 (try dsimp only at H)
 have A2 := Aside0.mk A20
 clear A20
 by_cases c3 : t562 = 0
 ·rw [if_pos c3] at H
  have c3b0 : (t562 == 0) = true := beq_iff_eq.mpr c3
  have c3b1 : (t562 != 0) = false := bne_eq_false_iff_eq.mpr c3
  clear c3
  obtain rfl := Option.some.inj H
  go_enter Tryd.func29, Tryd.ntmps29
  go_wp2_with (first | ((with_reducible refine gate_dst (N := 1) rfl ?_); refine bx_ 1 #[.int .i64 a0_0, .bool a0_1, .int .u64 a0_2, .int .i64 a0_3] 30 ?_; intro gb561 hg w4 hbox hb; have BK561 := Aside0.mk (hbox); have GW561 := ge_ hg HB; have GE561 := ge_ hg HB; replace HB := bq_ HB hb; clear hb hbox hg; obtain ⟨hcz5_0, hcz5_1, hcz5_2, hcz5_3, hfz5_0, hfz5_1, hfz5_2, hfz5_3⟩ := c4_ BK561) | ((with_reducible refine gate_callee (f := 54) rfl ?_); refine gl_ (some 5) Tryd.func54 #[.agg #[.int .i64 a0_0, .bool a0_1, .int .u64 a0_2, .int .i64 a0_3]] ?_; (with_reducible refine (pelorusref05_fair.calls a0_0 a0_1 a0_2 a0_3 t562 t563 t564 t565 _ A2.out).mono ?_); rintro e w6 ⟨rfl, hb⟩; refine ⟨_, rfl, ?_⟩; replace BK561 := kq_ BK561 hb; replace HB := bq_ HB hb; (try clear hb); (try clear hb2); (try clear hk); (try clear hi)) | ((with_reducible refine gate_dst (N := 3) rfl ?_); refine bx_ 3 #[.int .i64 0, .bool false, .int .u64 0, .int .i64 0] 30 ?_; intro gb566 hg w7 hbox hb; have BK566 := Aside0.mk (hbox); have GW566 := ge_ hg HB; have GE566 := ge_ hg HB; have NB561_566 := nb_ hg BK561; have NB566_561 := nc_ hg BK561; replace BK561 := kq_ BK561 hb; replace HB := bq_ HB hb; clear hb hbox hg; have hnb8 := NB566_561.out; have hnc8 := NB561_566.out; obtain ⟨hcz9_0, hcz9_1, hcz9_2, hcz9_3, hfz9_0, hfz9_1, hfz9_2, hfz9_3⟩ := c4_ BK566))
  go_ret
  exact ⟨rf_, bw_ HB.out⟩
 ·rw [if_neg c3] at H
  have c3b0 : (t562 == 0) = false := beq_eq_false_iff_ne.mpr c3
  have c3b1 : (t562 != 0) = true := bne_iff_ne.mpr c3
  by_cases c10 : t563 = true
  ·subst c10
   have H1 : (some (-1)) = some r := by rw [if_pos rfl] at H; exact H
   clear H
   have H := H1
   clear H1
   obtain rfl := Option.some.inj H
   go_enter Tryd.func29, Tryd.ntmps29
   go_wp2_with (first | ((with_reducible refine gate_dst (N := 1) rfl ?_); refine bx_ 1 #[.int .i64 a0_0, .bool a0_1, .int .u64 a0_2, .int .i64 a0_3] 30 ?_; intro gb561 hg w11 hbox hb; have BK561 := Aside0.mk (hbox); have GW561 := ge_ hg HB; have GE561 := ge_ hg HB; replace HB := bq_ HB hb; clear hb hbox hg; obtain ⟨hcz12_0, hcz12_1, hcz12_2, hcz12_3, hfz12_0, hfz12_1, hfz12_2, hfz12_3⟩ := c4_ BK561) | ((with_reducible refine gate_callee (f := 54) rfl ?_); refine gl_ (some 5) Tryd.func54 #[.agg #[.int .i64 a0_0, .bool a0_1, .int .u64 a0_2, .int .i64 a0_3]] ?_; (with_reducible refine (pelorusref05_fair.calls a0_0 a0_1 a0_2 a0_3 t562 true t564 t565 _ A2.out).mono ?_); rintro e w13 ⟨rfl, hb⟩; refine ⟨_, rfl, ?_⟩; replace BK561 := kq_ BK561 hb; replace HB := bq_ HB hb; (try clear hb); (try clear hb2); (try clear hk); (try clear hi)) | ((with_reducible refine gate_dst (N := 3) rfl ?_); refine bx_ 3 #[.int .i64 0, .bool false, .int .u64 0, .int .i64 0] 30 ?_; intro gb566 hg w14 hbox hb; have BK566 := Aside0.mk (hbox); have GW566 := ge_ hg HB; have GE566 := ge_ hg HB; have NB561_566 := nb_ hg BK561; have NB566_561 := nc_ hg BK561; replace BK561 := kq_ BK561 hb; replace HB := bq_ HB hb; clear hb hbox hg; have hnb15 := NB566_561.out; have hnc15 := NB561_566.out; obtain ⟨hcz16_0, hcz16_1, hcz16_2, hcz16_3, hfz16_0, hfz16_1, hfz16_2, hfz16_3⟩ := c4_ BK566))
   go_ret
   exact ⟨rf_, bw_ HB.out⟩
  ·replace c10 := Bool.eq_false_iff.mpr c10
   subst c10
   have H1 : (some 1) = some r := by rw [if_neg (show ¬ (false = true) by decide)] at H; exact H
   clear H
   have H := H1
   clear H1
   obtain rfl := Option.some.inj H
   go_enter Tryd.func29, Tryd.ntmps29
   go_wp2_with (first | ((with_reducible refine gate_dst (N := 1) rfl ?_); refine bx_ 1 #[.int .i64 a0_0, .bool a0_1, .int .u64 a0_2, .int .i64 a0_3] 30 ?_; intro gb561 hg w17 hbox hb; have BK561 := Aside0.mk (hbox); have GW561 := ge_ hg HB; have GE561 := ge_ hg HB; replace HB := bq_ HB hb; clear hb hbox hg; obtain ⟨hcz18_0, hcz18_1, hcz18_2, hcz18_3, hfz18_0, hfz18_1, hfz18_2, hfz18_3⟩ := c4_ BK561) | ((with_reducible refine gate_callee (f := 54) rfl ?_); refine gl_ (some 5) Tryd.func54 #[.agg #[.int .i64 a0_0, .bool a0_1, .int .u64 a0_2, .int .i64 a0_3]] ?_; (with_reducible refine (pelorusref05_fair.calls a0_0 a0_1 a0_2 a0_3 t562 false t564 t565 _ A2.out).mono ?_); rintro e w19 ⟨rfl, hb⟩; refine ⟨_, rfl, ?_⟩; replace BK561 := kq_ BK561 hb; replace HB := bq_ HB hb; (try clear hb); (try clear hb2); (try clear hk); (try clear hi)) | ((with_reducible refine gate_dst (N := 3) rfl ?_); refine bx_ 3 #[.int .i64 0, .bool false, .int .u64 0, .int .i64 0] 30 ?_; intro gb566 hg w20 hbox hb; have BK566 := Aside0.mk (hbox); have GW566 := ge_ hg HB; have GE566 := ge_ hg HB; have NB561_566 := nb_ hg BK561; have NB566_561 := nc_ hg BK561; replace BK561 := kq_ BK561 hb; replace HB := bq_ HB hb; clear hb hbox hg; have hnb21 := NB566_561.out; have hnc21 := NB561_566.out; obtain ⟨hcz22_0, hcz22_1, hcz22_2, hcz22_3, hfz22_0, hfz22_1, hfz22_2, hfz22_3⟩ := c4_ BK566))
   go_ret
   exact ⟨rf_, bw_ HB.out⟩

/-! ### pelorusref05_Cmp: function 32 -/
set_option maxHeartbeats 8000000 in
set_option maxRecDepth 100000 in
theorem pelorusref05_Cmp.calls (k : Nat) (a0_0 : Int) (a0_1 : Bool) (a0_2 : Int) (a0_3 : Int) (a1_0 : Int) (a1_1 : Bool) (a1_2 : Int) (a1_3 : Int) (r : Int) (w : World) (h : pelorusref05_Cmp.f k a0_0 a0_1 a0_2 a0_3 a1_0 a1_1 a1_2 a1_3 = some r) :
  Calls Tryd.prog 32 #[.agg #[.int .i64 a0_0, .bool a0_1, .int .u64 a0_2, .int .i64 a0_3], .agg #[.int .i64 a1_0, .bool a1_1, .int .u64 a1_2, .int .i64 a1_3]] w fun e w' => e = .returned (.int .i64 r) ∧ Below w.heap.size w w' := by
 have hu30 := Tryd.underlying30
 have HB := Aside0.mk (Below.refl w.heap.size w)
 have H : ((pelorusref05_fair.f a0_0 a0_1 a0_2 a0_3).bind fun bt569 => ((pelorusref05_fair.f a1_0 a1_1 a1_2 a1_3).bind fun bt574 => ((pelorusref05_Sign.f bt569.1 bt569.2.1 bt569.2.2.1 bt569.2.2.2).bind fun t579 => ((pelorusref05_Sign.f bt574.1 bt574.2.1 bt574.2.2.1 bt574.2.2.2).bind fun t580 => (if t579 = t580 then (if t579 = 0 then (pelorusref05_Cmp.j0 k t579 true bt569.1 bt569.2.1 bt569.2.2.1 bt569.2.2.2 bt574.1 bt574.2.1 bt574.2.2.1 bt574.2.2.2) else (pelorusref05_Cmp.j0 k t579 (bt569.1 == bt574.1 && (bt569.2.1 == bt574.2.1 && (bt569.2.2.1 == bt574.2.2.1 && (bt569.2.2.2 == bt574.2.2.2)))) bt569.1 bt569.2.1 bt569.2.2.1 bt569.2.2.2 bt574.1 bt574.2.1 bt574.2.2.1 bt574.2.2.2)) else (if t579 < t580 then (some (-1)) else (some 1))))))) = some r := h
 clear h
 replace H := Option.bind_eq_some_iff.mp H
 obtain ⟨⟨t569, t570, t571, t572⟩, A30, H⟩ := H
 (try dsimp only at H)
 have A3 := Aside0.mk A30
 clear A30
 replace H := Option.bind_eq_some_iff.mp H
 obtain ⟨⟨t574, t575, t576, t577⟩, A40, H⟩ := H
 (try dsimp only at H)
 have A4 := Aside0.mk A40
 clear A40
 replace H := Option.bind_eq_some_iff.mp H
 obtain ⟨t579, A50, H⟩ := H
 (try dsimp only at H)
 have A5 := Aside0.mk A50
 clear A50
 replace H := Option.bind_eq_some_iff.mp H
 obtain ⟨t580, A60, H⟩ := H
 (try dsimp only at H)
 have A6 := Aside0.mk A60
 clear A60
 by_cases c7 : t579 = t580
 ·rw [if_pos c7] at H
  have c7b0 : (t579 == t580) = true := beq_iff_eq.mpr c7
  have c7b1 : (t579 != t580) = false := bne_eq_false_iff_eq.mpr c7
  clear c7
  have HC8 := Aside0.mk H
  clear H
  go_enter Tryd.func32, Tryd.ntmps32
  go_upto_region 9 with (first | ((with_reducible refine gate_dst (N := 2) rfl ?_); refine bx_ 2 #[.int .i64 a0_0, .bool a0_1, .int .u64 a0_2, .int .i64 a0_3] 30 ?_; intro gb567 hg w9 hbox hb; have BK567 := Aside0.mk (hbox); have GW567 := ge_ hg HB; have GE567 := ge_ hg HB; replace HB := bq_ HB hb; clear hb hbox hg) | ((with_reducible refine gate_dst (N := 3) rfl ?_); refine bx_ 3 #[.int .i64 a1_0, .bool a1_1, .int .u64 a1_2, .int .i64 a1_3] 30 ?_; intro gb568 hg w10 hbox hb; have BK568 := Aside0.mk (hbox); have GW568 := ge_ hg HB; have GE568 := ge_ hg HB; have NB567_568 := nb_ hg BK567; have NB568_567 := nc_ hg BK567; replace BK567 := kq_ BK567 hb; replace HB := bq_ HB hb; clear hb hbox hg; have hnb11 := NB567_568.out; have hnc11 := NB568_567.out; obtain ⟨hcz12_0, hcz12_1, hcz12_2, hcz12_3, hfz12_0, hfz12_1, hfz12_2, hfz12_3⟩ := c4_ BK567) | ((with_reducible refine gate_callee (f := 54) rfl ?_); refine gl_ (some 11) Tryd.func54 #[.agg #[.int .i64 a0_0, .bool a0_1, .int .u64 a0_2, .int .i64 a0_3]] ?_; (with_reducible refine (pelorusref05_fair.calls a0_0 a0_1 a0_2 a0_3 t569 t570 t571 t572 _ A3.out).mono ?_); rintro e w13 ⟨rfl, hb⟩; refine ⟨_, rfl, ?_⟩; replace BK567 := kq_ BK567 hb; replace BK568 := kq_ BK568 hb; replace HB := bq_ HB hb; (try clear hb); (try clear hb2); (try clear hk); (try clear hi)) | ((with_reducible refine gate_dst (N := 5) rfl ?_); refine bx_ 5 #[.int .i64 0, .bool false, .int .u64 0, .int .i64 0] 30 ?_; intro gb573 hg w14 hbox hb; have BK573 := Aside0.mk (hbox); have GW573 := ge_ hg HB; have GE573 := ge_ hg HB; have NB567_573 := nb_ hg BK567; have NB573_567 := nc_ hg BK567; have NB568_573 := nb_ hg BK568; have NB573_568 := nc_ hg BK568; replace BK567 := kq_ BK567 hb; replace BK568 := kq_ BK568 hb; replace HB := bq_ HB hb; clear hb hbox hg; have hnb15 := NB573_567.out; have hnc15 := NB567_573.out; have hnb16 := NB573_568.out; have hnc16 := NB568_573.out; obtain ⟨hcz17_0, hcz17_1, hcz17_2, hcz17_3, hfz17_0, hfz17_1, hfz17_2, hfz17_3⟩ := c4_ BK573; obtain ⟨hcz18_0, hcz18_1, hcz18_2, hcz18_3, hfz18_0, hfz18_1, hfz18_2, hfz18_3⟩ := c4_ BK568) | ((with_reducible refine gate_callee (f := 54) rfl ?_); refine gl_ (some 13) Tryd.func54 #[.agg #[.int .i64 a1_0, .bool a1_1, .int .u64 a1_2, .int .i64 a1_3]] ?_; (with_reducible refine (pelorusref05_fair.calls a1_0 a1_1 a1_2 a1_3 t574 t575 t576 t577 _ A4.out).mono ?_); rintro e w19 ⟨rfl, hb⟩; refine ⟨_, rfl, ?_⟩; have n0_ := Aside0.mk (blk_below (g := gb567) (o := .cells #[.int .i64 a0_0, .bool a0_1, .int .u64 a0_2, .int .i64 a0_3] 30 (0, 0)) (by refine kb_ ?_; refine bf_ NB567_573 ?_; refine bf_ NB567_573 ?_; refine bf_ NB567_573 ?_; refine bf_ NB567_573 ?_; exact BK567.out) hb); have n1_ := Aside0.mk (blk_below (g := gb568) (o := .cells #[.int .i64 a1_0, .bool a1_1, .int .u64 a1_2, .int .i64 a1_3] 30 (0, 0)) (by refine kb_ ?_; refine bf_ NB568_573 ?_; refine bf_ NB568_573 ?_; refine bf_ NB568_573 ?_; refine bf_ NB568_573 ?_; exact BK568.out) hb); have n2_ := Aside0.mk (blk_below (g := gb573) (o := .cells #[.int .i64 t569, .bool t570, .int .u64 t571, .int .i64 t572] 30 (0, 0)) (by refine kb_ ?_; refine bp_ #[.int .i64 t569, .bool t570, .int .u64 t571, .int .i64 0] 3 ?_; refine bp_ #[.int .i64 t569, .bool t570, .int .u64 0, .int .i64 0] 2 ?_; refine bp_ #[.int .i64 t569, .bool false, .int .u64 0, .int .i64 0] 1 ?_; refine bp_ #[.int .i64 0, .bool false, .int .u64 0, .int .i64 0] 0 ?_; exact BK573.out) hb); have n3_ := bq_ HB hb; clear BK567; clear BK568; clear BK573; clear HB; have BK567 := n0_; have BK568 := n1_; have BK573 := n2_; have HB := n3_; clear n0_ n1_ n2_ n3_; (try clear hb); (try clear hb2); (try clear hk); (try clear hi)) | ((with_reducible refine gate_dst (N := 6) rfl ?_); refine bx_ 6 #[.int .i64 0, .bool false, .int .u64 0, .int .i64 0] 30 ?_; intro gb578 hg w20 hbox hb; have BK578 := Aside0.mk (hbox); have GW578 := ge_ hg HB; have GE578 := ge_ hg HB; have NB567_578 := nb_ hg BK567; have NB578_567 := nc_ hg BK567; have NB568_578 := nb_ hg BK568; have NB578_568 := nc_ hg BK568; have NB573_578 := nb_ hg BK573; have NB578_573 := nc_ hg BK573; replace BK567 := kq_ BK567 hb; replace BK568 := kq_ BK568 hb; replace BK573 := kq_ BK573 hb; replace HB := bq_ HB hb; clear hb hbox hg; have hnb21 := NB578_567.out; have hnc21 := NB567_578.out; have hnb22 := NB578_568.out; have hnc22 := NB568_578.out; have hnb23 := NB578_573.out; have hnc23 := NB573_578.out; obtain ⟨hcz24_0, hcz24_1, hcz24_2, hcz24_3, hfz24_0, hfz24_1, hfz24_2, hfz24_3⟩ := c4_ BK578; obtain ⟨hcz25_0, hcz25_1, hcz25_2, hcz25_3, hfz25_0, hfz25_1, hfz25_2, hfz25_3⟩ := c4_ BK573) | ((with_reducible refine gate_callee (f := 29) rfl ?_); refine gl_ (some 15) Tryd.func29 #[.agg #[.int .i64 t569, .bool t570, .int .u64 t571, .int .i64 t572]] ?_; (with_reducible refine (pelorusref05_Sign.calls t569 t570 t571 t572 t579 _ A5.out).mono ?_); rintro e w26 ⟨rfl, hb⟩; refine ⟨_, rfl, ?_⟩; have n0_ := Aside0.mk (blk_below (g := gb567) (o := .cells #[.int .i64 a0_0, .bool a0_1, .int .u64 a0_2, .int .i64 a0_3] 30 (0, 0)) (by refine kb_ ?_; refine bf_ NB567_578 ?_; refine bf_ NB567_578 ?_; refine bf_ NB567_578 ?_; refine bf_ NB567_578 ?_; exact BK567.out) hb); have n1_ := Aside0.mk (blk_below (g := gb568) (o := .cells #[.int .i64 a1_0, .bool a1_1, .int .u64 a1_2, .int .i64 a1_3] 30 (0, 0)) (by refine kb_ ?_; refine bf_ NB568_578 ?_; refine bf_ NB568_578 ?_; refine bf_ NB568_578 ?_; refine bf_ NB568_578 ?_; exact BK568.out) hb); have n2_ := Aside0.mk (blk_below (g := gb573) (o := .cells #[.int .i64 t569, .bool t570, .int .u64 t571, .int .i64 t572] 30 (0, 0)) (by refine kb_ ?_; refine bf_ NB573_578 ?_; refine bf_ NB573_578 ?_; refine bf_ NB573_578 ?_; refine bf_ NB573_578 ?_; exact BK573.out) hb); have n3_ := Aside0.mk (blk_below (g := gb578) (o := .cells #[.int .i64 t574, .bool t575, .int .u64 t576, .int .i64 t577] 30 (0, 0)) (by refine kb_ ?_; refine bp_ #[.int .i64 t574, .bool t575, .int .u64 t576, .int .i64 0] 3 ?_; refine bp_ #[.int .i64 t574, .bool t575, .int .u64 0, .int .i64 0] 2 ?_; refine bp_ #[.int .i64 t574, .bool false, .int .u64 0, .int .i64 0] 1 ?_; refine bp_ #[.int .i64 0, .bool false, .int .u64 0, .int .i64 0] 0 ?_; exact BK578.out) hb); have n4_ := bq_ HB hb; clear BK567; clear BK568; clear BK573; clear BK578; clear HB; have BK567 := n0_; have BK568 := n1_; have BK573 := n2_; have BK578 := n3_; have HB := n4_; clear n0_ n1_ n2_ n3_ n4_; (try clear hb); (try clear hb2); (try clear hk); (try clear hi); obtain ⟨hcz27_0, hcz27_1, hcz27_2, hcz27_3, hfz27_0, hfz27_1, hfz27_2, hfz27_3⟩ := c4_ BK578) | ((with_reducible refine gate_callee (f := 29) rfl ?_); refine gl_ (some 17) Tryd.func29 #[.agg #[.int .i64 t574, .bool t575, .int .u64 t576, .int .i64 t577]] ?_; (with_reducible refine (pelorusref05_Sign.calls t574 t575 t576 t577 t580 _ A6.out).mono ?_); rintro e w28 ⟨rfl, hb⟩; refine ⟨_, rfl, ?_⟩; replace BK567 := kq_ BK567 hb; replace BK568 := kq_ BK568 hb; replace BK573 := kq_ BK573 hb; replace BK578 := kq_ BK578 hb; replace HB := bq_ HB hb; (try clear hb); (try clear hb2); (try clear hk); (try clear hi)))
  (try simp only [Act.put, List.setIfInBounds_toArray, List.set_cons_zero, List.set_cons_succ])
  go_cut [30] (fun v30 wc => ∃ (kq : Nat) (x30_7 : Bool), v30 = .bool x30_7 ∧ Aside0 (pelorusref05_Cmp.j0 kq t579 x30_7 t569 t570 t571 t572 t574 t575 t576 t577 = some r) ∧ Aside0 (kq ≤ k) ∧ Aside0 (wc.heap[gb567]? = some (.cells #[.int .i64 a0_0, .bool a0_1, .int .u64 a0_2, .int .i64 a0_3] 30 (0, 0))) ∧ Aside0 (wc.heap[gb568]? = some (.cells #[.int .i64 a1_0, .bool a1_1, .int .u64 a1_2, .int .i64 a1_3] 30 (0, 0))) ∧ Aside0 (wc.heap[gb573]? = some (.cells #[.int .i64 t569, .bool t570, .int .u64 t571, .int .i64 t572] 30 (0, 0))) ∧ Aside0 (wc.heap[gb578]? = some (.cells #[.int .i64 t574, .bool t575, .int .u64 t576, .int .i64 t577] 30 (0, 0))) ∧ Aside0 (Below w.heap.size w wc))
  case first =>
   have H := HC8.out
   clear HC8
   by_cases c29 : t579 = 0
   ·rw [if_pos c29] at H
    have c29b0 : (t579 == 0) = true := beq_iff_eq.mpr c29
    have c29b1 : (t579 != 0) = false := bne_eq_false_iff_eq.mpr c29
    clear c29
    (first | rw [c29b0] | (simp only [i64_w, i32_w]; rw [c29b0]) | skip)
    have H' := Aside0.mk H
    clear H
    go_wp2
    go_meet
    case rel => exact ⟨_, (true), (by first | rfl | (simp; done) | (simp [*]; done)), H', ⟨by first | omega | exact Nat.le_refl _⟩, ⟨kb_ BK567.out⟩, ⟨kb_ BK568.out⟩, ⟨kb_ BK573.out⟩, ⟨kb_ BK578.out⟩, ⟨bw_ HB.out⟩⟩
   ·rw [if_neg c29] at H
    have c29b0 : (t579 == 0) = false := beq_eq_false_iff_ne.mpr c29
    have c29b1 : (t579 != 0) = true := bne_iff_ne.mpr c29
    (first | rw [c29b0] | (simp only [i64_w, i32_w]; rw [c29b0]) | skip)
    have H' := Aside0.mk H
    clear H
    have hnb30 := NB573_567.out
    have hnc30 := NB567_573.out
    have hnb31 := NB573_568.out
    have hnc31 := NB568_573.out
    have hnb32 := NB573_578.out
    have hnc32 := NB578_573.out
    obtain ⟨hcz33_0, hcz33_1, hcz33_2, hcz33_3, hfz33_0, hfz33_1, hfz33_2, hfz33_3⟩ := c4_ BK573
    have hnb34 := NB578_567.out
    have hnc34 := NB567_578.out
    have hnb35 := NB578_568.out
    have hnc35 := NB568_578.out
    obtain ⟨hcz36_0, hcz36_1, hcz36_2, hcz36_3, hfz36_0, hfz36_1, hfz36_2, hfz36_3⟩ := c4_ BK578
    go_wp2
    go_meet
    case rel => exact ⟨_, ((t569 == t574 && (t570 == t575 && (t571 == t576 && (t572 == t577))))), (by first | rfl | (simp; done) | (simp [*]; done)), H', ⟨by first | omega | exact Nat.le_refl _⟩, ⟨kb_ BK567.out⟩, ⟨kb_ BK568.out⟩, ⟨kb_ BK573.out⟩, ⟨kb_ BK578.out⟩, ⟨bw_ HB.out⟩⟩
  case rest =>
   clear HC8
   try clear c1
   try clear c2
   try clear p2
   try clear c3
   try clear c5
   try clear c7
   try clear c7b0
   try clear c7b1
   try clear c11
   try clear c15
   try clear c16
   try clear c21
   try clear c22
   try clear c23
   try clear c29
   try clear c29b0
   try clear c29b1
   try clear c30
   try clear c31
   try clear c32
   try clear c34
   try clear c35
   try clear hcz12_0 hcz12_1 hcz12_2 hcz12_3
   try clear hcz17_0 hcz17_1 hcz17_2 hcz17_3
   try clear hcz18_0 hcz18_1 hcz18_2 hcz18_3
   try clear hcz24_0 hcz24_1 hcz24_2 hcz24_3
   try clear hcz25_0 hcz25_1 hcz25_2 hcz25_3
   try clear hcz27_0 hcz27_1 hcz27_2 hcz27_3
   try clear hcz33_0 hcz33_1 hcz33_2 hcz33_3
   try clear hcz36_0 hcz36_1 hcz36_2 hcz36_3
   try clear hfz12_0 hfz12_1 hfz12_2 hfz12_3
   try clear hfz17_0 hfz17_1 hfz17_2 hfz17_3
   try clear hfz18_0 hfz18_1 hfz18_2 hfz18_3
   try clear hfz24_0 hfz24_1 hfz24_2 hfz24_3
   try clear hfz25_0 hfz25_1 hfz25_2 hfz25_3
   try clear hfz27_0 hfz27_1 hfz27_2 hfz27_3
   try clear hfz33_0 hfz33_1 hfz33_2 hfz33_3
   try clear hfz36_0 hfz36_1 hfz36_2 hfz36_3
   obtain ⟨kq, x30_7, rfl, HA, HJ7, BK567, BK568, BK573, BK578, HB⟩ := hcut
   cases kq with
   | zero => exact absurd HA.out (by simp [pelorusref05_Cmp.j0])
   | succ kj7 =>
    have H := HA.out
    clear HA
    simp only [pelorusref05_Cmp.j0] at H
    by_cases c37 : x30_7 = true
    ·subst c37
     have H1 : (some 0) = some r := by rw [if_pos rfl] at H; exact H
     clear H
     have H := H1
     clear H1
     obtain rfl := Option.some.inj H
     go_wp2
     go_ret
     exact ⟨rf_, bw_ HB.out⟩
    ·replace c37 := Bool.eq_false_iff.mpr c37
     subst c37
     have H1 : (if t569 = 2 then (some t579) else (if t574 = 2 then (some (wrap64 (-t579))) else (if t572 > t577 then (some t579) else (if t572 = t577 then (if t571 > t576 then (some t579) else (some (wrap64 (-t579)))) else (some (wrap64 (-t579))))))) = some r := by rw [if_neg (show ¬ (false = true) by decide)] at H; exact H
     clear H
     have H := H1
     clear H1
     by_cases c38 : t569 = 2
     ·rw [if_pos c38] at H
      have c38b0 : (t569 == 2) = true := beq_iff_eq.mpr c38
      have c38b1 : (t569 != 2) = false := bne_eq_false_iff_eq.mpr c38
      clear c38
      obtain rfl := Option.some.inj H
      have hnb39 := NB573_567.out
      have hnc39 := NB567_573.out
      have hnb40 := NB573_568.out
      have hnc40 := NB568_573.out
      have hnb41 := NB573_578.out
      have hnc41 := NB578_573.out
      obtain ⟨hcz42_0, hcz42_1, hcz42_2, hcz42_3, hfz42_0, hfz42_1, hfz42_2, hfz42_3⟩ := c4_ BK573
      go_wp2
      go_ret
      exact ⟨rf_, bw_ HB.out⟩
     ·rw [if_neg c38] at H
      have c38b0 : (t569 == 2) = false := beq_eq_false_iff_ne.mpr c38
      have c38b1 : (t569 != 2) = true := bne_iff_ne.mpr c38
      by_cases c43 : t574 = 2
      ·rw [if_pos c43] at H
       have c43b0 : (t574 == 2) = true := beq_iff_eq.mpr c43
       have c43b1 : (t574 != 2) = false := bne_eq_false_iff_eq.mpr c43
       clear c43
       obtain rfl := Option.some.inj H
       have hnb44 := NB573_567.out
       have hnc44 := NB567_573.out
       have hnb45 := NB573_568.out
       have hnc45 := NB568_573.out
       have hnb46 := NB573_578.out
       have hnc46 := NB578_573.out
       obtain ⟨hcz47_0, hcz47_1, hcz47_2, hcz47_3, hfz47_0, hfz47_1, hfz47_2, hfz47_3⟩ := c4_ BK573
       have hnb48 := NB578_567.out
       have hnc48 := NB567_578.out
       have hnb49 := NB578_568.out
       have hnc49 := NB568_578.out
       obtain ⟨hcz50_0, hcz50_1, hcz50_2, hcz50_3, hfz50_0, hfz50_1, hfz50_2, hfz50_3⟩ := c4_ BK578
       go_wp2
       go_ret
       exact ⟨rf_, bw_ HB.out⟩
      ·rw [if_neg c43] at H
       have c43b0 : (t574 == 2) = false := beq_eq_false_iff_ne.mpr c43
       have c43b1 : (t574 != 2) = true := bne_iff_ne.mpr c43
       by_cases c51 : t572 > t577
       ·rw [if_pos c51] at H
        have c51b0 : decide (t577 < t572) = true := decide_eq_true c51
        clear c51
        obtain rfl := Option.some.inj H
        have hnb52 := NB573_567.out
        have hnc52 := NB567_573.out
        have hnb53 := NB573_568.out
        have hnc53 := NB568_573.out
        have hnb54 := NB573_578.out
        have hnc54 := NB578_573.out
        obtain ⟨hcz55_0, hcz55_1, hcz55_2, hcz55_3, hfz55_0, hfz55_1, hfz55_2, hfz55_3⟩ := c4_ BK573
        have hnb56 := NB578_567.out
        have hnc56 := NB567_578.out
        have hnb57 := NB578_568.out
        have hnc57 := NB568_578.out
        obtain ⟨hcz58_0, hcz58_1, hcz58_2, hcz58_3, hfz58_0, hfz58_1, hfz58_2, hfz58_3⟩ := c4_ BK578
        go_wp2
        go_ret
        exact ⟨rf_, bw_ HB.out⟩
       ·rw [if_neg c51] at H
        have c51b0 : decide (t577 < t572) = false := decide_eq_false c51
        clear c51
        by_cases c59 : t572 = t577
        ·rw [if_pos c59] at H
         have c59b0 : (t572 == t577) = true := beq_iff_eq.mpr c59
         have c59b1 : (t572 != t577) = false := bne_eq_false_iff_eq.mpr c59
         clear c59
         by_cases c60 : t571 > t576
         ·rw [if_pos c60] at H
          have c60b0 : decide (t576 < t571) = true := decide_eq_true c60
          clear c60
          obtain rfl := Option.some.inj H
          have hnb61 := NB573_567.out
          have hnc61 := NB567_573.out
          have hnb62 := NB573_568.out
          have hnc62 := NB568_573.out
          have hnb63 := NB573_578.out
          have hnc63 := NB578_573.out
          obtain ⟨hcz64_0, hcz64_1, hcz64_2, hcz64_3, hfz64_0, hfz64_1, hfz64_2, hfz64_3⟩ := c4_ BK573
          have hnb65 := NB578_567.out
          have hnc65 := NB567_578.out
          have hnb66 := NB578_568.out
          have hnc66 := NB568_578.out
          obtain ⟨hcz67_0, hcz67_1, hcz67_2, hcz67_3, hfz67_0, hfz67_1, hfz67_2, hfz67_3⟩ := c4_ BK578
          go_wp2
          go_ret
          exact ⟨rf_, bw_ HB.out⟩
         ·rw [if_neg c60] at H
          have c60b0 : decide (t576 < t571) = false := decide_eq_false c60
          clear c60
          obtain rfl := Option.some.inj H
          have hnb68 := NB573_567.out
          have hnc68 := NB567_573.out
          have hnb69 := NB573_568.out
          have hnc69 := NB568_573.out
          have hnb70 := NB573_578.out
          have hnc70 := NB578_573.out
          obtain ⟨hcz71_0, hcz71_1, hcz71_2, hcz71_3, hfz71_0, hfz71_1, hfz71_2, hfz71_3⟩ := c4_ BK573
          have hnb72 := NB578_567.out
          have hnc72 := NB567_578.out
          have hnb73 := NB578_568.out
          have hnc73 := NB568_578.out
          obtain ⟨hcz74_0, hcz74_1, hcz74_2, hcz74_3, hfz74_0, hfz74_1, hfz74_2, hfz74_3⟩ := c4_ BK578
          go_wp2
          go_ret
          exact ⟨rf_, bw_ HB.out⟩
        ·rw [if_neg c59] at H
         have c59b0 : (t572 == t577) = false := beq_eq_false_iff_ne.mpr c59
         have c59b1 : (t572 != t577) = true := bne_iff_ne.mpr c59
         obtain rfl := Option.some.inj H
         have hnb75 := NB573_567.out
         have hnc75 := NB567_573.out
         have hnb76 := NB573_568.out
         have hnc76 := NB568_573.out
         have hnb77 := NB573_578.out
         have hnc77 := NB578_573.out
         obtain ⟨hcz78_0, hcz78_1, hcz78_2, hcz78_3, hfz78_0, hfz78_1, hfz78_2, hfz78_3⟩ := c4_ BK573
         have hnb79 := NB578_567.out
         have hnc79 := NB567_578.out
         have hnb80 := NB578_568.out
         have hnc80 := NB568_578.out
         obtain ⟨hcz81_0, hcz81_1, hcz81_2, hcz81_3, hfz81_0, hfz81_1, hfz81_2, hfz81_3⟩ := c4_ BK578
         go_wp2
         go_ret
         exact ⟨rf_, bw_ HB.out⟩
 ·rw [if_neg c7] at H
  have c7b0 : (t579 == t580) = false := beq_eq_false_iff_ne.mpr c7
  have c7b1 : (t579 != t580) = true := bne_iff_ne.mpr c7
  by_cases c82 : t579 < t580
  ·rw [if_pos c82] at H
   have c82b0 : decide (t579 < t580) = true := decide_eq_true c82
   clear c82
   obtain rfl := Option.some.inj H
   go_enter Tryd.func32, Tryd.ntmps32
   go_wp2_with (first | ((with_reducible refine gate_dst (N := 2) rfl ?_); refine bx_ 2 #[.int .i64 a0_0, .bool a0_1, .int .u64 a0_2, .int .i64 a0_3] 30 ?_; intro gb567 hg w83 hbox hb; have BK567 := Aside0.mk (hbox); have GW567 := ge_ hg HB; have GE567 := ge_ hg HB; replace HB := bq_ HB hb; clear hb hbox hg) | ((with_reducible refine gate_dst (N := 3) rfl ?_); refine bx_ 3 #[.int .i64 a1_0, .bool a1_1, .int .u64 a1_2, .int .i64 a1_3] 30 ?_; intro gb568 hg w84 hbox hb; have BK568 := Aside0.mk (hbox); have GW568 := ge_ hg HB; have GE568 := ge_ hg HB; have NB567_568 := nb_ hg BK567; have NB568_567 := nc_ hg BK567; replace BK567 := kq_ BK567 hb; replace HB := bq_ HB hb; clear hb hbox hg; have hnb85 := NB567_568.out; have hnc85 := NB568_567.out; obtain ⟨hcz86_0, hcz86_1, hcz86_2, hcz86_3, hfz86_0, hfz86_1, hfz86_2, hfz86_3⟩ := c4_ BK567) | ((with_reducible refine gate_callee (f := 54) rfl ?_); refine gl_ (some 11) Tryd.func54 #[.agg #[.int .i64 a0_0, .bool a0_1, .int .u64 a0_2, .int .i64 a0_3]] ?_; (with_reducible refine (pelorusref05_fair.calls a0_0 a0_1 a0_2 a0_3 t569 t570 t571 t572 _ A3.out).mono ?_); rintro e w87 ⟨rfl, hb⟩; refine ⟨_, rfl, ?_⟩; replace BK567 := kq_ BK567 hb; replace BK568 := kq_ BK568 hb; replace HB := bq_ HB hb; (try clear hb); (try clear hb2); (try clear hk); (try clear hi)) | ((with_reducible refine gate_dst (N := 5) rfl ?_); refine bx_ 5 #[.int .i64 0, .bool false, .int .u64 0, .int .i64 0] 30 ?_; intro gb573 hg w88 hbox hb; have BK573 := Aside0.mk (hbox); have GW573 := ge_ hg HB; have GE573 := ge_ hg HB; have NB567_573 := nb_ hg BK567; have NB573_567 := nc_ hg BK567; have NB568_573 := nb_ hg BK568; have NB573_568 := nc_ hg BK568; replace BK567 := kq_ BK567 hb; replace BK568 := kq_ BK568 hb; replace HB := bq_ HB hb; clear hb hbox hg; have hnb89 := NB573_567.out; have hnc89 := NB567_573.out; have hnb90 := NB573_568.out; have hnc90 := NB568_573.out; obtain ⟨hcz91_0, hcz91_1, hcz91_2, hcz91_3, hfz91_0, hfz91_1, hfz91_2, hfz91_3⟩ := c4_ BK573; obtain ⟨hcz92_0, hcz92_1, hcz92_2, hcz92_3, hfz92_0, hfz92_1, hfz92_2, hfz92_3⟩ := c4_ BK568) | ((with_reducible refine gate_callee (f := 54) rfl ?_); refine gl_ (some 13) Tryd.func54 #[.agg #[.int .i64 a1_0, .bool a1_1, .int .u64 a1_2, .int .i64 a1_3]] ?_; (with_reducible refine (pelorusref05_fair.calls a1_0 a1_1 a1_2 a1_3 t574 t575 t576 t577 _ A4.out).mono ?_); rintro e w93 ⟨rfl, hb⟩; refine ⟨_, rfl, ?_⟩; have n0_ := Aside0.mk (blk_below (g := gb567) (o := .cells #[.int .i64 a0_0, .bool a0_1, .int .u64 a0_2, .int .i64 a0_3] 30 (0, 0)) (by refine kb_ ?_; refine bf_ NB567_573 ?_; refine bf_ NB567_573 ?_; refine bf_ NB567_573 ?_; refine bf_ NB567_573 ?_; exact BK567.out) hb); have n1_ := Aside0.mk (blk_below (g := gb568) (o := .cells #[.int .i64 a1_0, .bool a1_1, .int .u64 a1_2, .int .i64 a1_3] 30 (0, 0)) (by refine kb_ ?_; refine bf_ NB568_573 ?_; refine bf_ NB568_573 ?_; refine bf_ NB568_573 ?_; refine bf_ NB568_573 ?_; exact BK568.out) hb); have n2_ := Aside0.mk (blk_below (g := gb573) (o := .cells #[.int .i64 t569, .bool t570, .int .u64 t571, .int .i64 t572] 30 (0, 0)) (by refine kb_ ?_; refine bp_ #[.int .i64 t569, .bool t570, .int .u64 t571, .int .i64 0] 3 ?_; refine bp_ #[.int .i64 t569, .bool t570, .int .u64 0, .int .i64 0] 2 ?_; refine bp_ #[.int .i64 t569, .bool false, .int .u64 0, .int .i64 0] 1 ?_; refine bp_ #[.int .i64 0, .bool false, .int .u64 0, .int .i64 0] 0 ?_; exact BK573.out) hb); have n3_ := bq_ HB hb; clear BK567; clear BK568; clear BK573; clear HB; have BK567 := n0_; have BK568 := n1_; have BK573 := n2_; have HB := n3_; clear n0_ n1_ n2_ n3_; (try clear hb); (try clear hb2); (try clear hk); (try clear hi)) | ((with_reducible refine gate_dst (N := 6) rfl ?_); refine bx_ 6 #[.int .i64 0, .bool false, .int .u64 0, .int .i64 0] 30 ?_; intro gb578 hg w94 hbox hb; have BK578 := Aside0.mk (hbox); have GW578 := ge_ hg HB; have GE578 := ge_ hg HB; have NB567_578 := nb_ hg BK567; have NB578_567 := nc_ hg BK567; have NB568_578 := nb_ hg BK568; have NB578_568 := nc_ hg BK568; have NB573_578 := nb_ hg BK573; have NB578_573 := nc_ hg BK573; replace BK567 := kq_ BK567 hb; replace BK568 := kq_ BK568 hb; replace BK573 := kq_ BK573 hb; replace HB := bq_ HB hb; clear hb hbox hg; have hnb95 := NB578_567.out; have hnc95 := NB567_578.out; have hnb96 := NB578_568.out; have hnc96 := NB568_578.out; have hnb97 := NB578_573.out; have hnc97 := NB573_578.out; obtain ⟨hcz98_0, hcz98_1, hcz98_2, hcz98_3, hfz98_0, hfz98_1, hfz98_2, hfz98_3⟩ := c4_ BK578; obtain ⟨hcz99_0, hcz99_1, hcz99_2, hcz99_3, hfz99_0, hfz99_1, hfz99_2, hfz99_3⟩ := c4_ BK573) | ((with_reducible refine gate_callee (f := 29) rfl ?_); refine gl_ (some 15) Tryd.func29 #[.agg #[.int .i64 t569, .bool t570, .int .u64 t571, .int .i64 t572]] ?_; (with_reducible refine (pelorusref05_Sign.calls t569 t570 t571 t572 t579 _ A5.out).mono ?_); rintro e w100 ⟨rfl, hb⟩; refine ⟨_, rfl, ?_⟩; have n0_ := Aside0.mk (blk_below (g := gb567) (o := .cells #[.int .i64 a0_0, .bool a0_1, .int .u64 a0_2, .int .i64 a0_3] 30 (0, 0)) (by refine kb_ ?_; refine bf_ NB567_578 ?_; refine bf_ NB567_578 ?_; refine bf_ NB567_578 ?_; refine bf_ NB567_578 ?_; exact BK567.out) hb); have n1_ := Aside0.mk (blk_below (g := gb568) (o := .cells #[.int .i64 a1_0, .bool a1_1, .int .u64 a1_2, .int .i64 a1_3] 30 (0, 0)) (by refine kb_ ?_; refine bf_ NB568_578 ?_; refine bf_ NB568_578 ?_; refine bf_ NB568_578 ?_; refine bf_ NB568_578 ?_; exact BK568.out) hb); have n2_ := Aside0.mk (blk_below (g := gb573) (o := .cells #[.int .i64 t569, .bool t570, .int .u64 t571, .int .i64 t572] 30 (0, 0)) (by refine kb_ ?_; refine bf_ NB573_578 ?_; refine bf_ NB573_578 ?_; refine bf_ NB573_578 ?_; refine bf_ NB573_578 ?_; exact BK573.out) hb); have n3_ := Aside0.mk (blk_below (g := gb578) (o := .cells #[.int .i64 t574, .bool t575, .int .u64 t576, .int .i64 t577] 30 (0, 0)) (by refine kb_ ?_; refine bp_ #[.int .i64 t574, .bool t575, .int .u64 t576, .int .i64 0] 3 ?_; refine bp_ #[.int .i64 t574, .bool t575, .int .u64 0, .int .i64 0] 2 ?_; refine bp_ #[.int .i64 t574, .bool false, .int .u64 0, .int .i64 0] 1 ?_; refine bp_ #[.int .i64 0, .bool false, .int .u64 0, .int .i64 0] 0 ?_; exact BK578.out) hb); have n4_ := bq_ HB hb; clear BK567; clear BK568; clear BK573; clear BK578; clear HB; have BK567 := n0_; have BK568 := n1_; have BK573 := n2_; have BK578 := n3_; have HB := n4_; clear n0_ n1_ n2_ n3_ n4_; (try clear hb); (try clear hb2); (try clear hk); (try clear hi); obtain ⟨hcz101_0, hcz101_1, hcz101_2, hcz101_3, hfz101_0, hfz101_1, hfz101_2, hfz101_3⟩ := c4_ BK578) | ((with_reducible refine gate_callee (f := 29) rfl ?_); refine gl_ (some 17) Tryd.func29 #[.agg #[.int .i64 t574, .bool t575, .int .u64 t576, .int .i64 t577]] ?_; (with_reducible refine (pelorusref05_Sign.calls t574 t575 t576 t577 t580 _ A6.out).mono ?_); rintro e w102 ⟨rfl, hb⟩; refine ⟨_, rfl, ?_⟩; replace BK567 := kq_ BK567 hb; replace BK568 := kq_ BK568 hb; replace BK573 := kq_ BK573 hb; replace BK578 := kq_ BK578 hb; replace HB := bq_ HB hb; (try clear hb); (try clear hb2); (try clear hk); (try clear hi)))
   go_ret
   exact ⟨rf_, bw_ HB.out⟩
  ·rw [if_neg c82] at H
   have c82b0 : decide (t579 < t580) = false := decide_eq_false c82
   clear c82
   obtain rfl := Option.some.inj H
   go_enter Tryd.func32, Tryd.ntmps32
   go_wp2_with (first | ((with_reducible refine gate_dst (N := 2) rfl ?_); refine bx_ 2 #[.int .i64 a0_0, .bool a0_1, .int .u64 a0_2, .int .i64 a0_3] 30 ?_; intro gb567 hg w103 hbox hb; have BK567 := Aside0.mk (hbox); have GW567 := ge_ hg HB; have GE567 := ge_ hg HB; replace HB := bq_ HB hb; clear hb hbox hg) | ((with_reducible refine gate_dst (N := 3) rfl ?_); refine bx_ 3 #[.int .i64 a1_0, .bool a1_1, .int .u64 a1_2, .int .i64 a1_3] 30 ?_; intro gb568 hg w104 hbox hb; have BK568 := Aside0.mk (hbox); have GW568 := ge_ hg HB; have GE568 := ge_ hg HB; have NB567_568 := nb_ hg BK567; have NB568_567 := nc_ hg BK567; replace BK567 := kq_ BK567 hb; replace HB := bq_ HB hb; clear hb hbox hg; have hnb105 := NB567_568.out; have hnc105 := NB568_567.out; obtain ⟨hcz106_0, hcz106_1, hcz106_2, hcz106_3, hfz106_0, hfz106_1, hfz106_2, hfz106_3⟩ := c4_ BK567) | ((with_reducible refine gate_callee (f := 54) rfl ?_); refine gl_ (some 11) Tryd.func54 #[.agg #[.int .i64 a0_0, .bool a0_1, .int .u64 a0_2, .int .i64 a0_3]] ?_; (with_reducible refine (pelorusref05_fair.calls a0_0 a0_1 a0_2 a0_3 t569 t570 t571 t572 _ A3.out).mono ?_); rintro e w107 ⟨rfl, hb⟩; refine ⟨_, rfl, ?_⟩; replace BK567 := kq_ BK567 hb; replace BK568 := kq_ BK568 hb; replace HB := bq_ HB hb; (try clear hb); (try clear hb2); (try clear hk); (try clear hi)) | ((with_reducible refine gate_dst (N := 5) rfl ?_); refine bx_ 5 #[.int .i64 0, .bool false, .int .u64 0, .int .i64 0] 30 ?_; intro gb573 hg w108 hbox hb; have BK573 := Aside0.mk (hbox); have GW573 := ge_ hg HB; have GE573 := ge_ hg HB; have NB567_573 := nb_ hg BK567; have NB573_567 := nc_ hg BK567; have NB568_573 := nb_ hg BK568; have NB573_568 := nc_ hg BK568; replace BK567 := kq_ BK567 hb; replace BK568 := kq_ BK568 hb; replace HB := bq_ HB hb; clear hb hbox hg; have hnb109 := NB573_567.out; have hnc109 := NB567_573.out; have hnb110 := NB573_568.out; have hnc110 := NB568_573.out; obtain ⟨hcz111_0, hcz111_1, hcz111_2, hcz111_3, hfz111_0, hfz111_1, hfz111_2, hfz111_3⟩ := c4_ BK573; obtain ⟨hcz112_0, hcz112_1, hcz112_2, hcz112_3, hfz112_0, hfz112_1, hfz112_2, hfz112_3⟩ := c4_ BK568) | ((with_reducible refine gate_callee (f := 54) rfl ?_); refine gl_ (some 13) Tryd.func54 #[.agg #[.int .i64 a1_0, .bool a1_1, .int .u64 a1_2, .int .i64 a1_3]] ?_; (with_reducible refine (pelorusref05_fair.calls a1_0 a1_1 a1_2 a1_3 t574 t575 t576 t577 _ A4.out).mono ?_); rintro e w113 ⟨rfl, hb⟩; refine ⟨_, rfl, ?_⟩; have n0_ := Aside0.mk (blk_below (g := gb567) (o := .cells #[.int .i64 a0_0, .bool a0_1, .int .u64 a0_2, .int .i64 a0_3] 30 (0, 0)) (by refine kb_ ?_; refine bf_ NB567_573 ?_; refine bf_ NB567_573 ?_; refine bf_ NB567_573 ?_; refine bf_ NB567_573 ?_; exact BK567.out) hb); have n1_ := Aside0.mk (blk_below (g := gb568) (o := .cells #[.int .i64 a1_0, .bool a1_1, .int .u64 a1_2, .int .i64 a1_3] 30 (0, 0)) (by refine kb_ ?_; refine bf_ NB568_573 ?_; refine bf_ NB568_573 ?_; refine bf_ NB568_573 ?_; refine bf_ NB568_573 ?_; exact BK568.out) hb); have n2_ := Aside0.mk (blk_below (g := gb573) (o := .cells #[.int .i64 t569, .bool t570, .int .u64 t571, .int .i64 t572] 30 (0, 0)) (by refine kb_ ?_; refine bp_ #[.int .i64 t569, .bool t570, .int .u64 t571, .int .i64 0] 3 ?_; refine bp_ #[.int .i64 t569, .bool t570, .int .u64 0, .int .i64 0] 2 ?_; refine bp_ #[.int .i64 t569, .bool false, .int .u64 0, .int .i64 0] 1 ?_; refine bp_ #[.int .i64 0, .bool false, .int .u64 0, .int .i64 0] 0 ?_; exact BK573.out) hb); have n3_ := bq_ HB hb; clear BK567; clear BK568; clear BK573; clear HB; have BK567 := n0_; have BK568 := n1_; have BK573 := n2_; have HB := n3_; clear n0_ n1_ n2_ n3_; (try clear hb); (try clear hb2); (try clear hk); (try clear hi)) | ((with_reducible refine gate_dst (N := 6) rfl ?_); refine bx_ 6 #[.int .i64 0, .bool false, .int .u64 0, .int .i64 0] 30 ?_; intro gb578 hg w114 hbox hb; have BK578 := Aside0.mk (hbox); have GW578 := ge_ hg HB; have GE578 := ge_ hg HB; have NB567_578 := nb_ hg BK567; have NB578_567 := nc_ hg BK567; have NB568_578 := nb_ hg BK568; have NB578_568 := nc_ hg BK568; have NB573_578 := nb_ hg BK573; have NB578_573 := nc_ hg BK573; replace BK567 := kq_ BK567 hb; replace BK568 := kq_ BK568 hb; replace BK573 := kq_ BK573 hb; replace HB := bq_ HB hb; clear hb hbox hg; have hnb115 := NB578_567.out; have hnc115 := NB567_578.out; have hnb116 := NB578_568.out; have hnc116 := NB568_578.out; have hnb117 := NB578_573.out; have hnc117 := NB573_578.out; obtain ⟨hcz118_0, hcz118_1, hcz118_2, hcz118_3, hfz118_0, hfz118_1, hfz118_2, hfz118_3⟩ := c4_ BK578; obtain ⟨hcz119_0, hcz119_1, hcz119_2, hcz119_3, hfz119_0, hfz119_1, hfz119_2, hfz119_3⟩ := c4_ BK573) | ((with_reducible refine gate_callee (f := 29) rfl ?_); refine gl_ (some 15) Tryd.func29 #[.agg #[.int .i64 t569, .bool t570, .int .u64 t571, .int .i64 t572]] ?_; (with_reducible refine (pelorusref05_Sign.calls t569 t570 t571 t572 t579 _ A5.out).mono ?_); rintro e w120 ⟨rfl, hb⟩; refine ⟨_, rfl, ?_⟩; have n0_ := Aside0.mk (blk_below (g := gb567) (o := .cells #[.int .i64 a0_0, .bool a0_1, .int .u64 a0_2, .int .i64 a0_3] 30 (0, 0)) (by refine kb_ ?_; refine bf_ NB567_578 ?_; refine bf_ NB567_578 ?_; refine bf_ NB567_578 ?_; refine bf_ NB567_578 ?_; exact BK567.out) hb); have n1_ := Aside0.mk (blk_below (g := gb568) (o := .cells #[.int .i64 a1_0, .bool a1_1, .int .u64 a1_2, .int .i64 a1_3] 30 (0, 0)) (by refine kb_ ?_; refine bf_ NB568_578 ?_; refine bf_ NB568_578 ?_; refine bf_ NB568_578 ?_; refine bf_ NB568_578 ?_; exact BK568.out) hb); have n2_ := Aside0.mk (blk_below (g := gb573) (o := .cells #[.int .i64 t569, .bool t570, .int .u64 t571, .int .i64 t572] 30 (0, 0)) (by refine kb_ ?_; refine bf_ NB573_578 ?_; refine bf_ NB573_578 ?_; refine bf_ NB573_578 ?_; refine bf_ NB573_578 ?_; exact BK573.out) hb); have n3_ := Aside0.mk (blk_below (g := gb578) (o := .cells #[.int .i64 t574, .bool t575, .int .u64 t576, .int .i64 t577] 30 (0, 0)) (by refine kb_ ?_; refine bp_ #[.int .i64 t574, .bool t575, .int .u64 t576, .int .i64 0] 3 ?_; refine bp_ #[.int .i64 t574, .bool t575, .int .u64 0, .int .i64 0] 2 ?_; refine bp_ #[.int .i64 t574, .bool false, .int .u64 0, .int .i64 0] 1 ?_; refine bp_ #[.int .i64 0, .bool false, .int .u64 0, .int .i64 0] 0 ?_; exact BK578.out) hb); have n4_ := bq_ HB hb; clear BK567; clear BK568; clear BK573; clear BK578; clear HB; have BK567 := n0_; have BK568 := n1_; have BK573 := n2_; have BK578 := n3_; have HB := n4_; clear n0_ n1_ n2_ n3_ n4_; (try clear hb); (try clear hb2); (try clear hk); (try clear hi); obtain ⟨hcz121_0, hcz121_1, hcz121_2, hcz121_3, hfz121_0, hfz121_1, hfz121_2, hfz121_3⟩ := c4_ BK578) | ((with_reducible refine gate_callee (f := 29) rfl ?_); refine gl_ (some 17) Tryd.func29 #[.agg #[.int .i64 t574, .bool t575, .int .u64 t576, .int .i64 t577]] ?_; (with_reducible refine (pelorusref05_Sign.calls t574 t575 t576 t577 t580 _ A6.out).mono ?_); rintro e w122 ⟨rfl, hb⟩; refine ⟨_, rfl, ?_⟩; replace BK567 := kq_ BK567 hb; replace BK568 := kq_ BK568 hb; replace BK573 := kq_ BK573 hb; replace BK578 := kq_ BK578 hb; replace HB := bq_ HB hb; (try clear hb); (try clear hb2); (try clear hk); (try clear hi)))
   go_ret
   exact ⟨rf_, bw_ HB.out⟩

end Go.Proofs.YtkemnoejpbknhaaDoor.PA
