-- Laid by this work's own program; Lean checks it.
import Derived.Test.YthlhogcnfaiphaaPAx0
import Derived.Test.YthlhogcnfaiphaaPAx2
import Derived.Test.YthlhogcnfaiphaaPAx4
namespace Go.Proofs.Ythlhogcnfaiphaa.PA
open Go.RowKit Go.Proofs.YthlhogcnfaiphaaW.PrintWords Go.Proofs.YthlhogcnfaiphaaW.PrintLast Go.Proofs.YthlhogcnfaiphaaW.PrintMore
attribute [local go_sem] max2_int min2_int max_two min_two max_three min_three max_four min_four   -- for this text's walks alone
set_option linter.unusedVariables false
set_option linter.unusedSimpArgs false

attribute [local go_sem ↓ high] isSome_set_
/-! ### num_Of: function 25 -/
set_option maxHeartbeats 8000000 in
set_option maxRecDepth 100000 in
theorem num_Of.calls (k : Nat) (a0 : Int) (r1 : Int) (r2 : Bool) (r3 : Int) (r4 : Int) (w : World) (h : num_Of.f k a0 = some (r1, r2, r3, r4)) :
  Calls Try.prog 25 #[.int .i64 a0] w fun e w' => e = .returned (.agg #[.int .i64 r1, .bool r2, .int .u64 r3, .int .i64 r4]) ∧ Below w.heap.size w w' := by
 have hu24 := Try.underlying24
 have HB := Aside0.mk (Below.refl w.heap.size w)
 have H : (if a0 < 0 then ((bits_LeadingZeros64.f k (IntKind.u64.wrap (-(IntKind.u64.wrap (a0))))).bind fun t275 => (if (IntKind.u64.wrap (-(IntKind.u64.wrap (a0)))) = 0 then (some (0, false, 0, 0)) else (if 0 ≤ t275 then (some (1, decide (a0 < 0), shl .u64 (IntKind.u64.wrap (-(IntKind.u64.wrap (a0)))) t275, wrap64 (-t275))) else (none)))) else ((bits_LeadingZeros64.f k (IntKind.u64.wrap (a0))).bind fun t276 => (if (IntKind.u64.wrap (a0)) = 0 then (some (0, false, 0, 0)) else (if 0 ≤ t276 then (some (1, decide (a0 < 0), shl .u64 (IntKind.u64.wrap (a0)) t276, wrap64 (-t276))) else (none))))) = some (r1, r2, r3, r4) := h
 clear h
 by_cases c2 : a0 < 0
 ·rw [if_pos c2] at H
  have c2b0 : decide (a0 < 0) = true := decide_eq_true c2
  clear c2
  replace H := Option.bind_eq_some_iff.mp H
  obtain ⟨t275, A30, H⟩ := H
  (try dsimp only at H)
  have A3 := Aside0.mk A30
  clear A30
  by_cases c4 : (IntKind.u64.wrap (-(IntKind.u64.wrap (a0)))) = 0
  ·rw [if_pos c4] at H
   have c4b0 : ((IntKind.u64.wrap (-(IntKind.u64.wrap (a0)))) == 0) = true := beq_iff_eq.mpr c4
   have c4b1 : ((IntKind.u64.wrap (-(IntKind.u64.wrap (a0)))) != 0) = false := bne_eq_false_iff_eq.mpr c4
   clear c4
   simp only [Option.some.injEq, Prod.mk.injEq] at H
   obtain ⟨rfl, rfl, rfl, rfl⟩ := H
   go_enter Try.func25, Try.ntmps25
   go_wp2_with (first | ((with_reducible refine gate_dst (N := 2) rfl ?_); refine bx_ 2 #[.int .i64 0, .bool false, .int .u64 0, .int .i64 0] 24 ?_; intro gb274 hg w5 hbox hb; have n0_ := bq_ HB hb; have n1_ := Aside0.mk (hbox); have n2_ := ge_ hg HB; have n3_ := ge_ hg HB; clear HB; have HB := n0_; have BK274 := n1_; have GW274 := n2_; have GE274 := n3_; clear n0_ n1_ n2_ n3_; clear hb hbox hg) | ((with_reducible refine gate_callee (f := 48) rfl ?_); refine gl_ (some 12) Try.func48 #[.int .u64 (IntKind.u64.wrap (-(IntKind.u64.wrap (a0))))] ?_; (with_reducible refine (bits_LeadingZeros64.calls k (IntKind.u64.wrap (-(IntKind.u64.wrap (a0)))) t275 _ A3.out).mono ?_); rintro e w' ⟨rfl, ⟨nd, rfl⟩⟩; refine ⟨_, rfl, ?_⟩; (try (rw [drewN_self w5]; generalize hq_ : World.drewN w5 _ = w5; have n0_ : Aside0 (w5.heap[gb274]? = some (.cells #[.int .i64 0, .bool false, .int .u64 0, .int .i64 0] 24 (0, 0))) := ⟨by rw [← hq_]; exact (kb_ BK274.out)⟩; have n1_ : Aside0 (Below w.heap.size w w5) := ⟨by rw [← hq_]; exact (bw_ HB.out)⟩; clear BK274 HB hq_; have BK274 := n0_; have HB := n1_; clear n0_ n1_)); have hcz6_0 := cz_ BK274 0 rfl; have hcz6_1 := cz_ BK274 1 rfl; have hcz6_2 := cz_ BK274 2 rfl; have hcz6_3 := cz_ BK274 3 rfl; have hfz6_0 := fz_ BK274 0; have hfz6_1 := fz_ BK274 1; have hfz6_2 := fz_ BK274 2; have hfz6_3 := fz_ BK274 3))
   refine bodyPost_ret (results_cell_row rfl _ _ gb274 24 #[.int .i64 0, .bool false, .int .u64 0, .int .i64 0] (0, 0) _ rfl (by refine kb_ ?_; refine bp_ #[.int .i64 0, .bool false, .int .u64 0, .int .i64 0] 3 ?_; refine bp_ #[.int .i64 0, .bool false, .int .u64 0, .int .i64 0] 2 ?_; refine bp_ #[.int .i64 0, .bool false, .int .u64 0, .int .i64 0] 1 ?_; refine bp_ #[.int .i64 0, .bool false, .int .u64 0, .int .i64 0] 0 ?_; exact BK274.out) Try.underlying24 rfl (by kernel_rfl)) rfl ?_
   exact ⟨by first | rfl | (simp [errW_none, errW_some] <;> rfl) | (simp [*, errW_none, errW_some] <;> rfl), bw_ HB.out⟩
  ·rw [if_neg c4] at H
   have c4b0 : ((IntKind.u64.wrap (-(IntKind.u64.wrap (a0)))) == 0) = false := beq_eq_false_iff_ne.mpr c4
   have c4b1 : ((IntKind.u64.wrap (-(IntKind.u64.wrap (a0)))) != 0) = true := bne_iff_ne.mpr c4
   by_cases c7 : 0 ≤ t275
   ·rw [if_pos c7] at H
    have c7b0 := eq_true c7
    have c7b1 : decide (0 ≤ t275) = true := decide_eq_true c7
    clear c7
    obtain ⟨ji8, hji8⟩ : ∃ j_ : Int, (shl .u64 (IntKind.u64.wrap (-(IntKind.u64.wrap (a0)))) t275) = j_ := ⟨_, rfl⟩
    (first | rw [hji8] at H | simp only [hji8] at H)
    (try rw [hji8] at A3)
    have hji8_ : (IntKind.u64.wrap ((IntKind.u64.wrap (-(IntKind.u64.wrap (a0)))) * 2 ^ min t275.toNat 64)) = ji8 := hji8
    have hji8z : t275 ≤ 64 → (IntKind.u64.wrap ((IntKind.u64.wrap (-(IntKind.u64.wrap (a0)))) * 2 ^ t275.toNat)) = ji8 := shl_small hji8
    simp only [Option.some.injEq, Prod.mk.injEq] at H
    obtain ⟨rfl, rfl, rfl, rfl⟩ := H
    go_enter Try.func25, Try.ntmps25
    go_wp2_with (first | ((with_reducible refine gate_dst (N := 2) rfl ?_); refine bx_ 2 #[.int .i64 0, .bool false, .int .u64 0, .int .i64 0] 24 ?_; intro gb274 hg w9 hbox hb; have n0_ := bq_ HB hb; have n1_ := Aside0.mk (hbox); have n2_ := ge_ hg HB; have n3_ := ge_ hg HB; clear HB; have HB := n0_; have BK274 := n1_; have GW274 := n2_; have GE274 := n3_; clear n0_ n1_ n2_ n3_; clear hb hbox hg) | ((with_reducible refine gate_callee (f := 48) rfl ?_); refine gl_ (some 12) Try.func48 #[.int .u64 (IntKind.u64.wrap (-(IntKind.u64.wrap (a0))))] ?_; (with_reducible refine (bits_LeadingZeros64.calls k (IntKind.u64.wrap (-(IntKind.u64.wrap (a0)))) t275 _ A3.out).mono ?_); rintro e w' ⟨rfl, ⟨nd, rfl⟩⟩; refine ⟨_, rfl, ?_⟩; (try (rw [drewN_self w9]; generalize hq_ : World.drewN w9 _ = w9; have n0_ : Aside0 (w9.heap[gb274]? = some (.cells #[.int .i64 0, .bool false, .int .u64 0, .int .i64 0] 24 (0, 0))) := ⟨by rw [← hq_]; exact (kb_ BK274.out)⟩; have n1_ : Aside0 (Below w.heap.size w w9) := ⟨by rw [← hq_]; exact (bw_ HB.out)⟩; clear BK274 HB hq_; have BK274 := n0_; have HB := n1_; clear n0_ n1_)); have hcz10_0 := cz_ BK274 0 rfl; have hcz10_1 := cz_ BK274 1 rfl; have hcz10_2 := cz_ BK274 2 rfl; have hcz10_3 := cz_ BK274 3 rfl; have hfz10_0 := fz_ BK274 0; have hfz10_1 := fz_ BK274 1; have hfz10_2 := fz_ BK274 2; have hfz10_3 := fz_ BK274 3))
    refine bodyPost_ret (results_cell_row rfl _ _ gb274 24 #[.int .i64 1, .bool (decide (a0 < 0)), .int .u64 ji8, .int .i64 (wrap64 (-t275))] (0, 0) _ rfl (by refine kb_ ?_; refine bp_ #[.int .i64 1, .bool (decide (a0 < 0)), .int .u64 ji8, .int .i64 0] 3 ?_; refine bp_ #[.int .i64 1, .bool (decide (a0 < 0)), .int .u64 0, .int .i64 0] 2 ?_; refine bp_ #[.int .i64 1, .bool false, .int .u64 0, .int .i64 0] 1 ?_; refine bp_ #[.int .i64 0, .bool false, .int .u64 0, .int .i64 0] 0 ?_; exact BK274.out) Try.underlying24 rfl (by kernel_rfl)) rfl ?_
    exact ⟨by first | rfl | (simp [errW_none, errW_some] <;> rfl) | (simp only [← hji8]; first | rfl | (simp [errW_none, errW_some] <;> rfl)) | (simp [*, errW_none, errW_some] <;> rfl), bw_ HB.out⟩
   ·rw [if_neg c7] at H
    exact absurd H (by simp)
 ·rw [if_neg c2] at H
  have c2b0 : decide (a0 < 0) = false := decide_eq_false c2
  clear c2
  replace H := Option.bind_eq_some_iff.mp H
  obtain ⟨t276, A110, H⟩ := H
  (try dsimp only at H)
  have A11 := Aside0.mk A110
  clear A110
  by_cases c12 : (IntKind.u64.wrap (a0)) = 0
  ·rw [if_pos c12] at H
   have c12b0 : ((IntKind.u64.wrap (a0)) == 0) = true := beq_iff_eq.mpr c12
   have c12b1 : ((IntKind.u64.wrap (a0)) != 0) = false := bne_eq_false_iff_eq.mpr c12
   clear c12
   simp only [Option.some.injEq, Prod.mk.injEq] at H
   obtain ⟨rfl, rfl, rfl, rfl⟩ := H
   go_enter Try.func25, Try.ntmps25
   go_wp2_with (first | ((with_reducible refine gate_dst (N := 2) rfl ?_); refine bx_ 2 #[.int .i64 0, .bool false, .int .u64 0, .int .i64 0] 24 ?_; intro gb274 hg w13 hbox hb; have n0_ := bq_ HB hb; have n1_ := Aside0.mk (hbox); have n2_ := ge_ hg HB; have n3_ := ge_ hg HB; clear HB; have HB := n0_; have BK274 := n1_; have GW274 := n2_; have GE274 := n3_; clear n0_ n1_ n2_ n3_; clear hb hbox hg) | ((with_reducible refine gate_callee (f := 48) rfl ?_); refine gl_ (some 12) Try.func48 #[.int .u64 (IntKind.u64.wrap (a0))] ?_; (with_reducible refine (bits_LeadingZeros64.calls k (IntKind.u64.wrap (a0)) t276 _ A11.out).mono ?_); rintro e w' ⟨rfl, ⟨nd, rfl⟩⟩; refine ⟨_, rfl, ?_⟩; (try (rw [drewN_self w13]; generalize hq_ : World.drewN w13 _ = w13; have n0_ : Aside0 (w13.heap[gb274]? = some (.cells #[.int .i64 0, .bool false, .int .u64 0, .int .i64 0] 24 (0, 0))) := ⟨by rw [← hq_]; exact (kb_ BK274.out)⟩; have n1_ : Aside0 (Below w.heap.size w w13) := ⟨by rw [← hq_]; exact (bw_ HB.out)⟩; clear BK274 HB hq_; have BK274 := n0_; have HB := n1_; clear n0_ n1_)); have hcz14_0 := cz_ BK274 0 rfl; have hcz14_1 := cz_ BK274 1 rfl; have hcz14_2 := cz_ BK274 2 rfl; have hcz14_3 := cz_ BK274 3 rfl; have hfz14_0 := fz_ BK274 0; have hfz14_1 := fz_ BK274 1; have hfz14_2 := fz_ BK274 2; have hfz14_3 := fz_ BK274 3))
   refine bodyPost_ret (results_cell_row rfl _ _ gb274 24 #[.int .i64 0, .bool false, .int .u64 0, .int .i64 0] (0, 0) _ rfl (by refine kb_ ?_; refine bp_ #[.int .i64 0, .bool false, .int .u64 0, .int .i64 0] 3 ?_; refine bp_ #[.int .i64 0, .bool false, .int .u64 0, .int .i64 0] 2 ?_; refine bp_ #[.int .i64 0, .bool false, .int .u64 0, .int .i64 0] 1 ?_; refine bp_ #[.int .i64 0, .bool false, .int .u64 0, .int .i64 0] 0 ?_; exact BK274.out) Try.underlying24 rfl (by kernel_rfl)) rfl ?_
   exact ⟨by first | rfl | (simp [errW_none, errW_some] <;> rfl) | (simp [*, errW_none, errW_some] <;> rfl), bw_ HB.out⟩
  ·rw [if_neg c12] at H
   have c12b0 : ((IntKind.u64.wrap (a0)) == 0) = false := beq_eq_false_iff_ne.mpr c12
   have c12b1 : ((IntKind.u64.wrap (a0)) != 0) = true := bne_iff_ne.mpr c12
   by_cases c15 : 0 ≤ t276
   ·rw [if_pos c15] at H
    have c15b0 := eq_true c15
    have c15b1 : decide (0 ≤ t276) = true := decide_eq_true c15
    clear c15
    obtain ⟨ji16, hji16⟩ : ∃ j_ : Int, (shl .u64 (IntKind.u64.wrap (a0)) t276) = j_ := ⟨_, rfl⟩
    (first | rw [hji16] at H | simp only [hji16] at H)
    (try rw [hji16] at A11)
    have hji16_ : (IntKind.u64.wrap ((IntKind.u64.wrap (a0)) * 2 ^ min t276.toNat 64)) = ji16 := hji16
    have hji16z : t276 ≤ 64 → (IntKind.u64.wrap ((IntKind.u64.wrap (a0)) * 2 ^ t276.toNat)) = ji16 := shl_small hji16
    simp only [Option.some.injEq, Prod.mk.injEq] at H
    obtain ⟨rfl, rfl, rfl, rfl⟩ := H
    go_enter Try.func25, Try.ntmps25
    go_wp2_with (first | ((with_reducible refine gate_dst (N := 2) rfl ?_); refine bx_ 2 #[.int .i64 0, .bool false, .int .u64 0, .int .i64 0] 24 ?_; intro gb274 hg w17 hbox hb; have n0_ := bq_ HB hb; have n1_ := Aside0.mk (hbox); have n2_ := ge_ hg HB; have n3_ := ge_ hg HB; clear HB; have HB := n0_; have BK274 := n1_; have GW274 := n2_; have GE274 := n3_; clear n0_ n1_ n2_ n3_; clear hb hbox hg) | ((with_reducible refine gate_callee (f := 48) rfl ?_); refine gl_ (some 12) Try.func48 #[.int .u64 (IntKind.u64.wrap (a0))] ?_; (with_reducible refine (bits_LeadingZeros64.calls k (IntKind.u64.wrap (a0)) t276 _ A11.out).mono ?_); rintro e w' ⟨rfl, ⟨nd, rfl⟩⟩; refine ⟨_, rfl, ?_⟩; (try (rw [drewN_self w17]; generalize hq_ : World.drewN w17 _ = w17; have n0_ : Aside0 (w17.heap[gb274]? = some (.cells #[.int .i64 0, .bool false, .int .u64 0, .int .i64 0] 24 (0, 0))) := ⟨by rw [← hq_]; exact (kb_ BK274.out)⟩; have n1_ : Aside0 (Below w.heap.size w w17) := ⟨by rw [← hq_]; exact (bw_ HB.out)⟩; clear BK274 HB hq_; have BK274 := n0_; have HB := n1_; clear n0_ n1_)); have hcz18_0 := cz_ BK274 0 rfl; have hcz18_1 := cz_ BK274 1 rfl; have hcz18_2 := cz_ BK274 2 rfl; have hcz18_3 := cz_ BK274 3 rfl; have hfz18_0 := fz_ BK274 0; have hfz18_1 := fz_ BK274 1; have hfz18_2 := fz_ BK274 2; have hfz18_3 := fz_ BK274 3))
    refine bodyPost_ret (results_cell_row rfl _ _ gb274 24 #[.int .i64 1, .bool (decide (a0 < 0)), .int .u64 ji16, .int .i64 (wrap64 (-t276))] (0, 0) _ rfl (by refine kb_ ?_; refine bp_ #[.int .i64 1, .bool (decide (a0 < 0)), .int .u64 ji16, .int .i64 0] 3 ?_; refine bp_ #[.int .i64 1, .bool (decide (a0 < 0)), .int .u64 0, .int .i64 0] 2 ?_; refine bp_ #[.int .i64 1, .bool false, .int .u64 0, .int .i64 0] 1 ?_; refine bp_ #[.int .i64 0, .bool false, .int .u64 0, .int .i64 0] 0 ?_; exact BK274.out) Try.underlying24 rfl (by kernel_rfl)) rfl ?_
    exact ⟨by first | rfl | (simp [errW_none, errW_some] <;> rfl) | (simp only [← hji16]; first | rfl | (simp [errW_none, errW_some] <;> rfl)) | (simp [*, errW_none, errW_some] <;> rfl), bw_ HB.out⟩
   ·rw [if_neg c15] at H
    exact absurd H (by simp)

end Go.Proofs.Ythlhogcnfaiphaa.PA
