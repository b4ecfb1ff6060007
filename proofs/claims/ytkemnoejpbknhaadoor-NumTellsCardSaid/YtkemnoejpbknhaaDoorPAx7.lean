-- Laid by this work's own program; Lean checks it.
import Derived.Test.YtkemnoejpbknhaaDoorPAx0
import Derived.Test.YtkemnoejpbknhaaDoorPAx1
import Derived.Test.YtkemnoejpbknhaaDoorPAx2
namespace Go.Proofs.YtkemnoejpbknhaaDoor.PA
open Go.RowKit Go.Proofs.YtkemnoejpbknhaaDoorW.PrintWords Go.Proofs.YtkemnoejpbknhaaDoorW.PrintLast Go.Proofs.YtkemnoejpbknhaaDoorW.PrintMore
attribute [local go_sem] max2_int min2_int max_two min_two max_three min_three max_four min_four   -- for this text's walks alone
set_option linter.unusedVariables false
set_option linter.unusedSimpArgs false

attribute [local go_sem ↓ high] isSome_set_
attribute [local go_sem high] eqA30
/-! ### num_May: function 14 -/
set_option maxHeartbeats 8000000 in
set_option maxRecDepth 100000 in
theorem num_May.calls (a0_0 : Int) (a0_1 : Bool) (a0_2 : Int) (a0_3 : Int) (r : Bool) (w : World) (h : num_May.f a0_0 a0_1 a0_2 a0_3 = some r) :
  Calls Tryd.prog 14 #[.agg #[.int .i64 a0_0, .bool a0_1, .int .u64 a0_2, .int .i64 a0_3]] w fun e w' => e = .returned (.bool r) ∧ Below w.heap.size w w' := by
 have hu30 := Tryd.underlying30
 have HB := Aside0.mk (Below.refl w.heap.size w)
 have H : (if a0_0 = 0 then (some (a0_0 == 0 && (!a0_1 && (a0_2 == 0 && (a0_3 == 0))))) else (if a0_0 = 1 then (if a0_2 ≥ 9223372036854775808 then (if a0_3 ≥ (-1048576) then (some (decide (a0_3 ≤ 1048576))) else (some false)) else (some false)) else (if a0_0 = 2 then (if a0_2 = 0 then (some (a0_3 == 0)) else (some false)) else (some false)))) = some r := h
 clear h
 by_cases c2 : a0_0 = 0
 ·rw [if_pos c2] at H
  have c2b0 : (a0_0 == 0) = true := beq_iff_eq.mpr c2
  have c2b1 : (a0_0 != 0) = false := bne_eq_false_iff_eq.mpr c2
  clear c2
  obtain rfl := Option.some.inj H
  go_enter Tryd.func14, Tryd.ntmps14
  go_wp2_with (first | ((with_reducible refine gate_dst (N := 1) rfl ?_); refine bx_ 1 #[.int .i64 a0_0, .bool a0_1, .int .u64 a0_2, .int .i64 a0_3] 30 ?_; intro gb476 hg w3 hbox hb; have BK476 := Aside0.mk (hbox); have GW476 := ge_ hg HB; have GE476 := ge_ hg HB; replace HB := bq_ HB hb; clear hb hbox hg; obtain ⟨hcz4_0, hcz4_1, hcz4_2, hcz4_3, hfz4_0, hfz4_1, hfz4_2, hfz4_3⟩ := c4_ BK476))
  go_ret
  exact ⟨rf_, bw_ HB.out⟩
 ·rw [if_neg c2] at H
  have c2b0 : (a0_0 == 0) = false := beq_eq_false_iff_ne.mpr c2
  have c2b1 : (a0_0 != 0) = true := bne_iff_ne.mpr c2
  by_cases c5 : a0_0 = 1
  ·rw [if_pos c5] at H
   have c5b0 : (a0_0 == 1) = true := beq_iff_eq.mpr c5
   have c5b1 : (a0_0 != 1) = false := bne_eq_false_iff_eq.mpr c5
   clear c5
   by_cases c6 : a0_2 ≥ 9223372036854775808
   ·rw [if_pos c6] at H
    have c6b0 : decide (9223372036854775808 ≤ a0_2) = true := decide_eq_true c6
    clear c6
    by_cases c7 : a0_3 ≥ (-1048576)
    ·rw [if_pos c7] at H
     have c7b0 : decide ((-1048576) ≤ a0_3) = true := decide_eq_true c7
     clear c7
     obtain rfl := Option.some.inj H
     go_enter Tryd.func14, Tryd.ntmps14
     go_wp2_with (first | ((with_reducible refine gate_dst (N := 1) rfl ?_); refine bx_ 1 #[.int .i64 a0_0, .bool a0_1, .int .u64 a0_2, .int .i64 a0_3] 30 ?_; intro gb476 hg w8 hbox hb; have BK476 := Aside0.mk (hbox); have GW476 := ge_ hg HB; have GE476 := ge_ hg HB; replace HB := bq_ HB hb; clear hb hbox hg; obtain ⟨hcz9_0, hcz9_1, hcz9_2, hcz9_3, hfz9_0, hfz9_1, hfz9_2, hfz9_3⟩ := c4_ BK476))
     go_ret
     exact ⟨rf_, bw_ HB.out⟩
    ·rw [if_neg c7] at H
     have c7b0 : decide ((-1048576) ≤ a0_3) = false := decide_eq_false c7
     clear c7
     obtain rfl := Option.some.inj H
     go_enter Tryd.func14, Tryd.ntmps14
     go_wp2_with (first | ((with_reducible refine gate_dst (N := 1) rfl ?_); refine bx_ 1 #[.int .i64 a0_0, .bool a0_1, .int .u64 a0_2, .int .i64 a0_3] 30 ?_; intro gb476 hg w10 hbox hb; have BK476 := Aside0.mk (hbox); have GW476 := ge_ hg HB; have GE476 := ge_ hg HB; replace HB := bq_ HB hb; clear hb hbox hg; obtain ⟨hcz11_0, hcz11_1, hcz11_2, hcz11_3, hfz11_0, hfz11_1, hfz11_2, hfz11_3⟩ := c4_ BK476))
     go_ret
     exact ⟨rf_, bw_ HB.out⟩
   ·rw [if_neg c6] at H
    have c6b0 : decide (9223372036854775808 ≤ a0_2) = false := decide_eq_false c6
    clear c6
    obtain rfl := Option.some.inj H
    go_enter Tryd.func14, Tryd.ntmps14
    go_wp2_with (first | ((with_reducible refine gate_dst (N := 1) rfl ?_); refine bx_ 1 #[.int .i64 a0_0, .bool a0_1, .int .u64 a0_2, .int .i64 a0_3] 30 ?_; intro gb476 hg w12 hbox hb; have BK476 := Aside0.mk (hbox); have GW476 := ge_ hg HB; have GE476 := ge_ hg HB; replace HB := bq_ HB hb; clear hb hbox hg; obtain ⟨hcz13_0, hcz13_1, hcz13_2, hcz13_3, hfz13_0, hfz13_1, hfz13_2, hfz13_3⟩ := c4_ BK476))
    go_ret
    exact ⟨rf_, bw_ HB.out⟩
  ·rw [if_neg c5] at H
   have c5b0 : (a0_0 == 1) = false := beq_eq_false_iff_ne.mpr c5
   have c5b1 : (a0_0 != 1) = true := bne_iff_ne.mpr c5
   by_cases c14 : a0_0 = 2
   ·rw [if_pos c14] at H
    have c14b0 : (a0_0 == 2) = true := beq_iff_eq.mpr c14
    have c14b1 : (a0_0 != 2) = false := bne_eq_false_iff_eq.mpr c14
    clear c14
    by_cases c15 : a0_2 = 0
    ·rw [if_pos c15] at H
     have c15b0 : (a0_2 == 0) = true := beq_iff_eq.mpr c15
     have c15b1 : (a0_2 != 0) = false := bne_eq_false_iff_eq.mpr c15
     clear c15
     obtain rfl := Option.some.inj H
     go_enter Tryd.func14, Tryd.ntmps14
     go_wp2_with (first | ((with_reducible refine gate_dst (N := 1) rfl ?_); refine bx_ 1 #[.int .i64 a0_0, .bool a0_1, .int .u64 a0_2, .int .i64 a0_3] 30 ?_; intro gb476 hg w16 hbox hb; have BK476 := Aside0.mk (hbox); have GW476 := ge_ hg HB; have GE476 := ge_ hg HB; replace HB := bq_ HB hb; clear hb hbox hg; obtain ⟨hcz17_0, hcz17_1, hcz17_2, hcz17_3, hfz17_0, hfz17_1, hfz17_2, hfz17_3⟩ := c4_ BK476))
     go_ret
     exact ⟨rf_, bw_ HB.out⟩
    ·rw [if_neg c15] at H
     have c15b0 : (a0_2 == 0) = false := beq_eq_false_iff_ne.mpr c15
     have c15b1 : (a0_2 != 0) = true := bne_iff_ne.mpr c15
     obtain rfl := Option.some.inj H
     go_enter Tryd.func14, Tryd.ntmps14
     go_wp2_with (first | ((with_reducible refine gate_dst (N := 1) rfl ?_); refine bx_ 1 #[.int .i64 a0_0, .bool a0_1, .int .u64 a0_2, .int .i64 a0_3] 30 ?_; intro gb476 hg w18 hbox hb; have BK476 := Aside0.mk (hbox); have GW476 := ge_ hg HB; have GE476 := ge_ hg HB; replace HB := bq_ HB hb; clear hb hbox hg; obtain ⟨hcz19_0, hcz19_1, hcz19_2, hcz19_3, hfz19_0, hfz19_1, hfz19_2, hfz19_3⟩ := c4_ BK476))
     go_ret
     exact ⟨rf_, bw_ HB.out⟩
   ·rw [if_neg c14] at H
    have c14b0 : (a0_0 == 2) = false := beq_eq_false_iff_ne.mpr c14
    have c14b1 : (a0_0 != 2) = true := bne_iff_ne.mpr c14
    obtain rfl := Option.some.inj H
    go_enter Tryd.func14, Tryd.ntmps14
    go_wp2_with (first | ((with_reducible refine gate_dst (N := 1) rfl ?_); refine bx_ 1 #[.int .i64 a0_0, .bool a0_1, .int .u64 a0_2, .int .i64 a0_3] 30 ?_; intro gb476 hg w20 hbox hb; have BK476 := Aside0.mk (hbox); have GW476 := ge_ hg HB; have GE476 := ge_ hg HB; replace HB := bq_ HB hb; clear hb hbox hg; obtain ⟨hcz21_0, hcz21_1, hcz21_2, hcz21_3, hfz21_0, hfz21_1, hfz21_2, hfz21_3⟩ := c4_ BK476))
    go_ret
    exact ⟨rf_, bw_ HB.out⟩

end Go.Proofs.YtkemnoejpbknhaaDoor.PA
