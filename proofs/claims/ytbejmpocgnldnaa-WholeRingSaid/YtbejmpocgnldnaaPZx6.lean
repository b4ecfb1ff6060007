-- Laid by this work's own program; Lean checks it.
import Derived.Test.YtbejmpocgnldnaaPZx0
import Derived.Test.YtbejmpocgnldnaaPZx1
import Derived.Test.YtbejmpocgnldnaaPZx2
import Derived.Test.YtbejmpocgnldnaaPZx3
import Derived.Test.YtbejmpocgnldnaaPZx4
import Derived.Test.YtbejmpocgnldnaaPZx5
namespace Go.Proofs.Ytbejmpocgnldnaa.PZ
open Go.RowKit Go.Proofs.YtbejmpocgnldnaaW.PrintWords Go.Proofs.YtbejmpocgnldnaaW.PrintLast Go.Proofs.YtbejmpocgnldnaaW.PrintMore
attribute [local go_sem] max2_int min2_int max_two min_two max_three min_three max_four min_four   -- for this text's walks alone
set_option linter.unusedVariables false
set_option linter.unusedSimpArgs false

attribute [local go_sem ↓ high] isSome_set_
/-! ### nat_Div: function 35 -/
set_option maxHeartbeats 8000000 in
set_option maxRecDepth 100000 in
theorem nat_Div.calls (k : Nat) (A0 : Option Addr) (c0 : Nat) (l0 : List Int) (A1 : Option Addr) (c1 : Nat) (l1 : List Int) (r1 : List Int) (r2 : List Int) (r3 : Bool) (w : World) (hr0 : Kd.C (Kd.int .u32) w A0 l0.length l0) (hc0 : l0.length ≤ c0) (hr1 : Kd.C (Kd.int .u32) w A1 l1.length l1) (hc1 : l1.length ≤ c1) (h : nat_Div.f k l0 l1 = some (r1, r2, r3)) :
  Calls Try.prog 35 #[.slice A0 l0.length c0, .slice A1 l1.length c1] w fun e w' => ∃ v0_ v1_ : Value, e = .returned (.tuple #[v0_, v1_, .bool r3]) ∧ Kd.R (Kd.int .u32) 47 w' w.heap.size (fun k_ => some k_ ≠ (v1_ : Value).ownBlock) v0_ r1 ∧ Kd.R (Kd.int .u32) 47 w' w.heap.size (fun k_ => some k_ ≠ (v0_ : Value).ownBlock) v1_ r2 ∧ Below w.heap.size w w' := by
 have HR0 := Aside0.mk hr0
 have HC0 := Aside0.mk hc0
 clear hr0 hc0
 have HR1 := Aside0.mk hr1
 have HC1 := Aside0.mk hc1
 clear hr1 hc1
 have HB := Aside0.mk (Below.refl w.heap.size w)
 have H : ((nat_cut.f k l0).bind fun t299 => ((nat_cut.f k l1).bind fun t302 => (if (t302.length : Int) = 0 then (some (([] : List Int), ([] : List Int), false)) else ((nat_Cmp.f k t299 t302).bind fun t305 => (if t305 < 0 then ((slices_Clone_uint32_uint32.f t299).bind fun t306 => (some (([] : List Int), t306, true))) else (if (t302.length : Int) = 1 then (if 0 < (t302.length : Int) then ((nat_short.f k t299 (rd t302 0)).bind fun bt310 => (some (bt310.1, bt310.2, true))) else (none)) else (if 0 ≤ (wrap64 ((t302.length : Int) - 1)) then (if (wrap64 ((t302.length : Int) - 1)) < (t302.length : Int) then ((bits_LeadingZeros32.f (rd t302 (wrap64 ((t302.length : Int) - 1)))).bind fun t317 => ((nat_Shl.f k t302 t317).bind fun t318 => ((nat_Shl.f k t299 t317).bind fun t321 => ((some (([0, 0] : List Int) : List Int)).bind fun y324 => (if t321.length + y324.length < 35184372088832 then ((some (t321 ++ y324 : List Int)).bind fun y327 => (if 0 ≤ (wrap64 ((t299.length : Int) + 1)) then (if (wrap64 ((t299.length : Int) + 1)) ≤ (y327.length : Int) then (if 0 ≤ (wrap64 ((wrap64 ((t299.length : Int) - (t302.length : Int))) + 1)) then (if (wrap64 ((wrap64 ((t299.length : Int) - (t302.length : Int))) + 1) : Int).toNat ≤ 70368744177664 then ((some (List.replicate (wrap64 ((wrap64 ((t299.length : Int) - (t302.length : Int))) + 1) : Int).toNat 0 : List Int)).bind fun y333 => (nat_Div.l0 k t317 t318 (y327.take ((wrap64 ((t299.length : Int) + 1)) : Int).toNat) y333 (y333.length : Int) 0)) else (none)) else (none)) else (none)) else (none))) else (none)))))) else (none)) else (none)))))))) = some (r1, r2, r3) := h
 clear h
 replace H := Option.bind_eq_some_iff.mp H
 obtain ⟨t299, A30, H⟩ := H
 (try dsimp only at H)
 have A3 := Aside0.mk A30
 clear A30
 replace H := Option.bind_eq_some_iff.mp H
 obtain ⟨t302, A40, H⟩ := H
 (try dsimp only at H)
 have A4 := Aside0.mk A40
 clear A40
 by_cases c5 : (t302.length : Int) = 0
 ·rw [if_pos c5] at H
  have c5b0 : ((t302.length : Int) == 0) = true := beq_iff_eq.mpr c5
  have c5b1 : ((t302.length : Int) != 0) = false := bne_eq_false_iff_eq.mpr c5
  clear c5
  simp only [Option.some.injEq, Prod.mk.injEq] at H
  obtain ⟨rfl, rfl, rfl⟩ := H
  go_enter Try.func35, Try.ntmps35
  iterate 2 (try go_wp2_with (first | (go_at_call 48; (with_reducible refine (nat_cut.calls k (fun k_ => k_ < w.heap.size) _ _ l0 t299 _ ?side1 A3.out).mono ?_); (case side1 => exact Kd.V_mk HC0.out (Kd.F_below (Kd.C_F (Kd.heap_int .u32) HR0.out) (bw_ HB.out))); rintro e w6 ⟨v300, rfl, ho0, hb⟩; have HO301 := Aside0.mk (Kd.V_lower (Kd.V_mono (ok' := fun k_ => True) ho0 (fun k_ hk_ => trivial)) (below_size (bw_ HB.out))); replace HB := bq_ HB hb; (try clear hb); (try clear hb2); (try clear hk); (try clear hi); (try clear ho0)) | (go_at_call 48; (with_reducible refine (nat_cut.calls k (fun k_ => k_ < w.heap.size) _ _ l1 t302 _ ?side1 A4.out).mono ?_); (case side1 => exact Kd.V_mk HC1.out (Kd.F_below (Kd.C_F (Kd.heap_int .u32) HR1.out) (bw_ HB.out))); rintro e w7 ⟨v303, rfl, ho0, hb⟩; have n0_ := Aside0.mk (Kd.V_below (by (with_reducible repeat (first | apply Kd.V_alloc | apply Kd.V_drewN | apply Kd.V_drew)); exact HO301.out) hb); have n1_ := Aside0.mk (Kd.V_lower (Kd.V_mono (ok' := fun k_ => True) ho0 (fun k_ hk_ => trivial)) (below_size (bw_ HB.out))); have n2_ := bq_ HB hb; clear HO301; clear HB; have HO301 := n0_; have HO304 := n1_; have HB := n2_; clear n0_ n1_ n2_; (try clear hb); (try clear hb2); (try clear hk); (try clear hi); (try clear ho0); obtain ⟨Ao8, co8, eo8⟩ := Kd.V_slice HO304.out; subst eo8)); try (go_quiet (fail)))
  go_ret3
  exact ⟨_, _, rf_, by first | exact Kd.R_nil _ _ _ _ _ | exact Kd.N_nil _ _ _ _ _ | exact Kd.V_nil _ _ _ _ _ | exact Kd.Q_nil _ _ _ _ _ | exact Kd.S_nil _ _ _ _ _, by first | exact Kd.R_nil _ _ _ _ _ | exact Kd.N_nil _ _ _ _ _ | exact Kd.V_nil _ _ _ _ _ | exact Kd.Q_nil _ _ _ _ _ | exact Kd.S_nil _ _ _ _ _, bw_ HB.out⟩
 ·rw [if_neg c5] at H
  have c5b0 : ((t302.length : Int) == 0) = false := beq_eq_false_iff_ne.mpr c5
  have c5b1 : ((t302.length : Int) != 0) = true := bne_iff_ne.mpr c5
  have c5b2 : ¬ (t302 = []) := fun h_ => c5 (by rw [h_]; rfl)
  replace H := Option.bind_eq_some_iff.mp H
  obtain ⟨t305, A90, H⟩ := H
  (try dsimp only at H)
  have A9 := Aside0.mk A90
  clear A90
  by_cases c10 : t305 < 0
  ·rw [if_pos c10] at H
   have c10b0 : decide (t305 < 0) = true := decide_eq_true c10
   clear c10
   replace H := Option.bind_eq_some_iff.mp H
   obtain ⟨t306, A110, H⟩ := H
   (try dsimp only at H)
   have A11 := Aside0.mk A110
   clear A110
   simp only [Option.some.injEq, Prod.mk.injEq] at H
   obtain ⟨rfl, rfl, rfl⟩ := H
   go_enter Try.func35, Try.ntmps35
   iterate 2 (try go_wp2_with (first | (go_at_call 48; (with_reducible refine (nat_cut.calls k (fun k_ => k_ < w.heap.size) _ _ l0 t299 _ ?side1 A3.out).mono ?_); (case side1 => exact Kd.V_mk HC0.out (Kd.F_below (Kd.C_F (Kd.heap_int .u32) HR0.out) (bw_ HB.out))); rintro e w12 ⟨v300, rfl, ho0, hb⟩; have HO301 := Aside0.mk (Kd.V_lower (Kd.V_mono (ok' := fun k_ => True) ho0 (fun k_ hk_ => trivial)) (below_size (bw_ HB.out))); replace HB := bq_ HB hb; (try clear hb); (try clear hb2); (try clear hk); (try clear hi); (try clear ho0)) | (go_at_call 48; (with_reducible refine (nat_cut.calls k (fun k_ => k_ < w.heap.size) _ _ l1 t302 _ ?side1 A4.out).mono ?_); (case side1 => exact Kd.V_mk HC1.out (Kd.F_below (Kd.C_F (Kd.heap_int .u32) HR1.out) (bw_ HB.out))); rintro e w13 ⟨v303, rfl, ho0, hb⟩; have n0_ := Aside0.mk (Kd.V_below (by (with_reducible repeat (first | apply Kd.V_alloc | apply Kd.V_drewN | apply Kd.V_drew)); exact HO301.out) hb); have n1_ := Aside0.mk (Kd.V_lower (Kd.V_mono (ok' := fun k_ => True) ho0 (fun k_ hk_ => trivial)) (below_size (bw_ HB.out))); have n2_ := bq_ HB hb; clear HO301; clear HB; have HO301 := n0_; have HO304 := n1_; have HB := n2_; clear n0_ n1_ n2_; (try clear hb); (try clear hb2); (try clear hk); (try clear hi); (try clear ho0); obtain ⟨Ao14, co14, eo14⟩ := Kd.V_slice HO304.out; subst eo14; obtain ⟨Ao15, co15, eo15⟩ := Kd.V_slice HO301.out; subst eo15) | (go_at_call 43; (with_reducible refine (nat_Cmp.calls k _ _ t299 _ _ t302 t305 _ ?side1 ?side2 ?side3 ?side4 A9.out).mono ?_); (case side1 => exact kc_ (Kd.V_reads' HO301.out).2.2); (case side2 => exact (Kd.V_reads' HO301.out).2.1); (case side3 => exact kc_ (Kd.V_reads' HO304.out).2.2); (case side4 => exact (Kd.V_reads' HO304.out).2.1); rintro e w16 ⟨rfl, hb⟩; have n0_ := Aside0.mk (Kd.V_below (by (with_reducible repeat (first | apply Kd.V_alloc | apply Kd.V_drewN | apply Kd.V_drew)); exact HO301.out) hb); have n1_ := Aside0.mk (Kd.V_below (by (with_reducible repeat (first | apply Kd.V_alloc | apply Kd.V_drewN | apply Kd.V_drew)); exact HO304.out) hb); have n2_ := bq_ HB hb; clear HO301; clear HO304; clear HB; have HO301 := n0_; have HO304 := n1_; have HB := n2_; clear n0_ n1_ n2_; (try clear hb); (try clear hb2); (try clear hk); (try clear hi)) | (go_at_call 49; (with_reducible refine (slices_Clone_uint32_uint32.calls _ _ t299 t306 _ ?side1 ?side2 A11.out).mono ?_); (case side1 => exact kc_ (Kd.V_reads' HO301.out).2.2); (case side2 => exact (Kd.V_reads' HO301.out).2.1); rintro e w17 ⟨v307, rfl, ho0, hb⟩; have n0_ := Aside0.mk (Kd.V_elder' (by (with_reducible repeat (first | apply Kd.V_alloc | apply Kd.V_drewN | apply Kd.V_drew)); exact HO301.out) (Kd.R_base ho0) hb); have n1_ := Aside0.mk (Kd.V_elder' (by (with_reducible repeat (first | apply Kd.V_alloc | apply Kd.V_drewN | apply Kd.V_drew)); exact HO304.out) (Kd.R_base ho0) hb); have n2_ := Aside0.mk (Kd.R_lower ho0 (below_size (bw_ HB.out))); have n3_ := bq_ HB hb; clear HO301; clear HO304; clear HB; have HO301 := n0_; have HO304 := n1_; have HO308 := n2_; have HB := n3_; clear n0_ n1_ n2_ n3_; (try clear hb); (try clear hb2); (try clear hk); (try clear hi); (try clear ho0))); try (go_quiet (fail)))
   go_ret3
   exact ⟨_, _, rf_, by first | exact Kd.R_nil _ _ _ _ _ | exact Kd.N_nil _ _ _ _ _ | exact Kd.V_nil _ _ _ _ _ | exact Kd.Q_nil _ _ _ _ _ | exact Kd.S_nil _ _ _ _ _, by (with_reducible repeat (first | apply Kd.R_alloc | apply Kd.R_drewN | apply Kd.R_drew)); exact Kd.R_mono HO308.out (fun _ hk => (by simp [Value.ownBlock])), bw_ HB.out⟩
  ·rw [if_neg c10] at H
   have c10b0 : decide (t305 < 0) = false := decide_eq_false c10
   clear c10
   by_cases c18 : (t302.length : Int) = 1
   ·rw [if_pos c18] at H
    have c18b0 : ((t302.length : Int) == 1) = true := beq_iff_eq.mpr c18
    have c18b1 : ((t302.length : Int) != 1) = false := bne_eq_false_iff_eq.mpr c18
    clear c18
    by_cases c19 : 0 < (t302.length : Int)
    ·rw [if_pos c19] at H
     have c19b0 : decide (0 < (t302.length : Int)) = true := decide_eq_true c19
     have c19b1 : decide (0 < t302.length) = true := decide_eq_true (by omega)
     clear c19
     replace H := Option.bind_eq_some_iff.mp H
     obtain ⟨⟨t310, t311⟩, A200, H⟩ := H
     (try dsimp only at H)
     have A20 := Aside0.mk A200
     clear A200
     simp only [Option.some.injEq, Prod.mk.injEq] at H
     obtain ⟨rfl, rfl, rfl⟩ := H
     go_enter Try.func35, Try.ntmps35
     iterate 2 (try go_wp2_with (first | (go_at_call 48; (with_reducible refine (nat_cut.calls k (fun k_ => k_ < w.heap.size) _ _ l0 t299 _ ?side1 A3.out).mono ?_); (case side1 => exact Kd.V_mk HC0.out (Kd.F_below (Kd.C_F (Kd.heap_int .u32) HR0.out) (bw_ HB.out))); rintro e w21 ⟨v300, rfl, ho0, hb⟩; have HO301 := Aside0.mk (Kd.V_lower (Kd.V_mono (ok' := fun k_ => True) ho0 (fun k_ hk_ => trivial)) (below_size (bw_ HB.out))); replace HB := bq_ HB hb; (try clear hb); (try clear hb2); (try clear hk); (try clear hi); (try clear ho0)) | (go_at_call 48; (with_reducible refine (nat_cut.calls k (fun k_ => k_ < w.heap.size) _ _ l1 t302 _ ?side1 A4.out).mono ?_); (case side1 => exact Kd.V_mk HC1.out (Kd.F_below (Kd.C_F (Kd.heap_int .u32) HR1.out) (bw_ HB.out))); rintro e w22 ⟨v303, rfl, ho0, hb⟩; have n0_ := Aside0.mk (Kd.V_below (by (with_reducible repeat (first | apply Kd.V_alloc | apply Kd.V_drewN | apply Kd.V_drew)); exact HO301.out) hb); have n1_ := Aside0.mk (Kd.V_lower (Kd.V_mono (ok' := fun k_ => True) ho0 (fun k_ hk_ => trivial)) (below_size (bw_ HB.out))); have n2_ := bq_ HB hb; clear HO301; clear HB; have HO301 := n0_; have HO304 := n1_; have HB := n2_; clear n0_ n1_ n2_; (try clear hb); (try clear hb2); (try clear hk); (try clear hi); (try clear ho0); obtain ⟨Ao23, co23, eo23⟩ := Kd.V_slice HO304.out; subst eo23; obtain ⟨Ao24, co24, eo24⟩ := Kd.V_slice HO301.out; subst eo24) | (go_at_call 43; (with_reducible refine (nat_Cmp.calls k _ _ t299 _ _ t302 t305 _ ?side1 ?side2 ?side3 ?side4 A9.out).mono ?_); (case side1 => exact kc_ (Kd.V_reads' HO301.out).2.2); (case side2 => exact (Kd.V_reads' HO301.out).2.1); (case side3 => exact kc_ (Kd.V_reads' HO304.out).2.2); (case side4 => exact (Kd.V_reads' HO304.out).2.1); rintro e w25 ⟨rfl, hb⟩; have n0_ := Aside0.mk (Kd.V_below (by (with_reducible repeat (first | apply Kd.V_alloc | apply Kd.V_drewN | apply Kd.V_drew)); exact HO301.out) hb); have n1_ := Aside0.mk (Kd.V_below (by (with_reducible repeat (first | apply Kd.V_alloc | apply Kd.V_drewN | apply Kd.V_drew)); exact HO304.out) hb); have n2_ := bq_ HB hb; clear HO301; clear HO304; clear HB; have HO301 := n0_; have HO304 := n1_; have HB := n2_; clear n0_ n1_ n2_; (try clear hb); (try clear hb2); (try clear hk); (try clear hi); have p309 : 0 ≤ (0 : Int) := (by omega); have q309 : 0 < (t302.length : Int) := of_decide_eq_true (by first | (with_reducible assumption) | assumption); obtain ⟨ad309, e309, hx309_0⟩ := Kd.at_int (Kd.V_reads' HO304.out).2.2 0 p309 q309; cases e309; have qi309 : (0 < t302.length) = True := eq_true (by omega); (try rw [show ((0 : Int)).toNat = 0 from rfl] at hx309_0); (try rw [Addr.add_zero'] at hx309_0); replace p309 := eq_true p309; replace q309 := eq_true q309) | (go_at_call 50; (with_reducible refine (nat_short.calls k _ _ t299 (rd t302 0) t310 t311 _ ?side1 ?side2 A20.out).mono ?_); (case side1 => exact kc_ (Kd.V_reads' HO301.out).2.2); (case side2 => exact (Kd.V_reads' HO301.out).2.1); rintro e w26 ⟨v312, v314, rfl, ho0, ho1, hb⟩; have n0_ := Aside0.mk (Kd.V_mono (Kd.V_told (Kd.V_told (Kd.V_old (by (with_reducible repeat (first | apply Kd.V_alloc | apply Kd.V_drewN | apply Kd.V_drew)); exact HO301.out) hb) (Kd.R_base ho0)) (Kd.R_base ho1)) (fun _ h_ => h_.1)); have n1_ := Aside0.mk (Kd.V_mono (Kd.V_told (Kd.V_told (Kd.V_old (by (with_reducible repeat (first | apply Kd.V_alloc | apply Kd.V_drewN | apply Kd.V_drew)); exact HO304.out) hb) (Kd.R_base ho0)) (Kd.R_base ho1)) (fun _ h_ => h_.1)); have n2_ := Aside0.mk (Kd.R_lower ho0 (below_size (bw_ HB.out))); have n3_ := Aside0.mk (Kd.R_lower ho1 (below_size (bw_ HB.out))); have n4_ := bq_ HB hb; clear HO301; clear HO304; clear HB; have HO301 := n0_; have HO304 := n1_; have HO313 := n2_; have HO315 := n3_; have HB := n4_; clear n0_ n1_ n2_ n3_ n4_; (try clear hb); (try clear hb2); (try clear hk); (try clear hi); (try clear ho0); (try clear ho1))); try (go_quiet (fail)))
     go_ret3
     exact ⟨_, _, rf_, by (with_reducible repeat (first | apply Kd.R_alloc | apply Kd.R_drewN | apply Kd.R_drew)); exact HO313.out, by (with_reducible repeat (first | apply Kd.R_alloc | apply Kd.R_drewN | apply Kd.R_drew)); exact HO315.out, bw_ HB.out⟩
    ·rw [if_neg c19] at H
     exact absurd H (by simp)
   ·rw [if_neg c18] at H
    have c18b0 : ((t302.length : Int) == 1) = false := beq_eq_false_iff_ne.mpr c18
    have c18b1 : ((t302.length : Int) != 1) = true := bne_iff_ne.mpr c18
    obtain ⟨ji27, hji27⟩ : ∃ j_ : Int, (wrap64 ((t302.length : Int) - 1)) = j_ := ⟨_, rfl⟩
    (first | rw [hji27] at H | simp only [hji27] at H)
    (try rw [hji27] at A3)
    (try rw [hji27] at A4)
    (try rw [hji27] at A9)
    have hji27w : (IntKind.i64.wrap ((t302.length : Int) - 1)) = ji27 := (i64_w _).trans hji27
    by_cases c28 : 0 ≤ (ji27)
    ·rw [if_pos c28] at H
     have c28b0 : decide (0 ≤ (ji27)) = true := decide_eq_true c28
     clear c28
     by_cases c29 : (ji27) < (t302.length : Int)
     ·rw [if_pos c29] at H
      have c29b0 : decide ((ji27) < (t302.length : Int)) = true := decide_eq_true c29
      clear c29
      replace H := Option.bind_eq_some_iff.mp H
      obtain ⟨t317, A300, H⟩ := H
      (try dsimp only at H)
      have A30 := Aside0.mk A300
      clear A300
      replace H := Option.bind_eq_some_iff.mp H
      obtain ⟨t318, A310, H⟩ := H
      (try dsimp only at H)
      have A31 := Aside0.mk A310
      clear A310
      replace H := Option.bind_eq_some_iff.mp H
      obtain ⟨t321, A320, H⟩ := H
      (try dsimp only at H)
      have A32 := Aside0.mk A320
      clear A320
      obtain ⟨y324, hy324⟩ : ∃ y_ : List Int, y_ = (([0, 0] : List Int)) := ⟨_, rfl⟩
      replace H : (if t321.length + y324.length < 35184372088832 then ((some (t321 ++ y324 : List Int)).bind fun y327 => (if 0 ≤ (wrap64 ((t299.length : Int) + 1)) then (if (wrap64 ((t299.length : Int) + 1)) ≤ (y327.length : Int) then (if 0 ≤ (wrap64 ((wrap64 ((t299.length : Int) - (t302.length : Int))) + 1)) then (if (wrap64 ((wrap64 ((t299.length : Int) - (t302.length : Int))) + 1) : Int).toNat ≤ 70368744177664 then ((some (List.replicate (wrap64 ((wrap64 ((t299.length : Int) - (t302.length : Int))) + 1) : Int).toNat 0 : List Int)).bind fun y333 => (nat_Div.l0 k t317 t318 (y327.take ((wrap64 ((t299.length : Int) + 1)) : Int).toNat) y333 (y333.length : Int) 0)) else (none)) else (none)) else (none)) else (none))) else (none)) = some (r1, r2, r3) := by first | (rw [hy324]; with_reducible exact H) | (have H2_ := (Option.bind_some _ _).symm.trans H; rw [hy324]; with_reducible exact H2_) | (have H2_ := (Option.bind_some _ _).symm.trans H; with_reducible exact H2_) | with_reducible exact H | (rw [hy324]; exact H) | exact H
      have Ny324 := Aside0.mk hy324
      clear hy324
      by_cases c33 : t321.length + y324.length < 35184372088832
      ·rw [if_pos c33] at H
       have LMc33 := Aside0.mk c33
       clear c33
       obtain ⟨y327, hy327⟩ : ∃ y_ : List Int, y_ = (t321 ++ y324) := ⟨_, rfl⟩
       replace H : (if 0 ≤ (wrap64 ((t299.length : Int) + 1)) then (if (wrap64 ((t299.length : Int) + 1)) ≤ (y327.length : Int) then (if 0 ≤ (wrap64 ((wrap64 ((t299.length : Int) - (t302.length : Int))) + 1)) then (if (wrap64 ((wrap64 ((t299.length : Int) - (t302.length : Int))) + 1) : Int).toNat ≤ 70368744177664 then ((some (List.replicate (wrap64 ((wrap64 ((t299.length : Int) - (t302.length : Int))) + 1) : Int).toNat 0 : List Int)).bind fun y333 => (nat_Div.l0 k t317 t318 (y327.take ((wrap64 ((t299.length : Int) + 1)) : Int).toNat) y333 (y333.length : Int) 0)) else (none)) else (none)) else (none)) else (none)) = some (r1, r2, r3) := by first | (rw [hy327]; with_reducible exact H) | (have H2_ := (Option.bind_some _ _).symm.trans H; rw [hy327]; with_reducible exact H2_) | (have H2_ := (Option.bind_some _ _).symm.trans H; with_reducible exact H2_) | with_reducible exact H | (rw [hy327]; exact H) | exact H
       have Ny327 := Aside0.mk hy327
       clear hy327
       obtain ⟨ji34, hji34⟩ : ∃ j_ : Int, (wrap64 ((t299.length : Int) + 1)) = j_ := ⟨_, rfl⟩
       (first | rw [hji34] at H | simp only [hji34] at H)
       (try rw [hji34] at A3)
       (try rw [hji34] at A4)
       (try rw [hji34] at A9)
       (try rw [hji34] at A30)
       (try rw [hji34] at A31)
       (try rw [hji34] at A32)
       have hji34w : (IntKind.i64.wrap ((t299.length : Int) + 1)) = ji34 := (i64_w _).trans hji34
       by_cases c35 : 0 ≤ (ji34)
       ·rw [if_pos c35] at H
        have c35b0 := eq_true c35
        have c35b1 : decide (0 ≤ (ji34)) = true := decide_eq_true c35
        clear c35
        by_cases c36 : (ji34) ≤ (y327.length : Int)
        ·rw [if_pos c36] at H
         have c36b0 := eq_true c36
         have c36b1 : decide ((ji34) ≤ (y327.length : Int)) = true := decide_eq_true c36
         clear c36
         obtain ⟨y330, hy330⟩ : ∃ y_ : List Int, y_ = (y327.take ((ji34) : Int).toNat) := ⟨_, rfl⟩
         replace H : (if 0 ≤ (wrap64 ((wrap64 ((t299.length : Int) - (t302.length : Int))) + 1)) then (if (wrap64 ((wrap64 ((t299.length : Int) - (t302.length : Int))) + 1) : Int).toNat ≤ 70368744177664 then ((some (List.replicate (wrap64 ((wrap64 ((t299.length : Int) - (t302.length : Int))) + 1) : Int).toNat 0 : List Int)).bind fun y333 => (nat_Div.l0 k t317 t318 y330 y333 (y333.length : Int) 0)) else (none)) else (none)) = some (r1, r2, r3) := by first | (rw [hy330]; with_reducible exact H) | (have H2_ := (Option.bind_some _ _).symm.trans H; rw [hy330]; with_reducible exact H2_) | (have H2_ := (Option.bind_some _ _).symm.trans H; with_reducible exact H2_) | with_reducible exact H | (rw [hy330]; exact H) | exact H
         have Ny330 := Aside0.mk hy330
         clear hy330
         obtain ⟨ji37, hji37⟩ : ∃ j_ : Int, (wrap64 ((wrap64 ((t299.length : Int) - (t302.length : Int))) + 1)) = j_ := ⟨_, rfl⟩
         (first | rw [hji37] at H | simp only [hji37] at H)
         (try rw [hji37] at A3)
         (try rw [hji37] at A4)
         (try rw [hji37] at A9)
         (try rw [hji37] at A30)
         (try rw [hji37] at A31)
         (try rw [hji37] at A32)
         have hji37w : (IntKind.i64.wrap ((wrap64 ((t299.length : Int) - (t302.length : Int))) + 1)) = ji37 := (i64_w _).trans hji37
         by_cases c38 : 0 ≤ (ji37)
         ·rw [if_pos c38] at H
          have c38b0 := eq_true c38
          have c38b1 : decide (0 ≤ (ji37)) = true := decide_eq_true c38
          clear c38
          by_cases c39 : (ji37 : Int).toNat ≤ 70368744177664
          ·rw [if_pos c39] at H
           have c39b0 := eq_true c39
           have c39b1 : decide ((ji37 : Int).toNat ≤ 70368744177664) = true := decide_eq_true c39
           clear c39
           obtain ⟨y333, hy333⟩ : ∃ y_ : List Int, y_ = (List.replicate (ji37 : Int).toNat 0) := ⟨_, rfl⟩
           replace H : (nat_Div.l0 k t317 t318 y330 y333 (y333.length : Int) 0) = some (r1, r2, r3) := by first | (rw [hy333]; with_reducible exact H) | (have H2_ := (Option.bind_some _ _).symm.trans H; rw [hy333]; with_reducible exact H2_) | (have H2_ := (Option.bind_some _ _).symm.trans H; with_reducible exact H2_) | with_reducible exact H | (rw [hy333]; exact H) | exact H
           have Ny333 := Aside0.mk hy333
           clear hy333
           have H' := Aside0.mk H
           clear H
           go_enter Try.func35, Try.ntmps35
           iterate 2 (try go_wp2_with (first | (go_at_call 48; (with_reducible refine (nat_cut.calls k (fun k_ => k_ < w.heap.size) _ _ l0 t299 _ ?side1 A3.out).mono ?_); (case side1 => exact Kd.V_mk HC0.out (Kd.F_below (Kd.C_F (Kd.heap_int .u32) HR0.out) (bw_ HB.out))); rintro e w40 ⟨v300, rfl, ho0, hb⟩; have HO301 := Aside0.mk (Kd.V_lower (Kd.V_mono (ok' := fun k_ => True) ho0 (fun k_ hk_ => trivial)) (below_size (bw_ HB.out))); replace HB := bq_ HB hb; (try clear hb); (try clear hb2); (try clear hk); (try clear hi); (try clear ho0)) | (go_at_call 48; (with_reducible refine (nat_cut.calls k (fun k_ => k_ < w.heap.size) _ _ l1 t302 _ ?side1 A4.out).mono ?_); (case side1 => exact Kd.V_mk HC1.out (Kd.F_below (Kd.C_F (Kd.heap_int .u32) HR1.out) (bw_ HB.out))); rintro e w41 ⟨v303, rfl, ho0, hb⟩; have n0_ := Aside0.mk (Kd.V_below (by (with_reducible repeat (first | apply Kd.V_alloc | apply Kd.V_drewN | apply Kd.V_drew)); exact HO301.out) hb); have n1_ := Aside0.mk (Kd.V_lower (Kd.V_mono (ok' := fun k_ => True) ho0 (fun k_ hk_ => trivial)) (below_size (bw_ HB.out))); have n2_ := bq_ HB hb; clear HO301; clear HB; have HO301 := n0_; have HO304 := n1_; have HB := n2_; clear n0_ n1_ n2_; (try clear hb); (try clear hb2); (try clear hk); (try clear hi); (try clear ho0); obtain ⟨Ao42, co42, eo42⟩ := Kd.V_slice HO304.out; subst eo42; obtain ⟨Ao43, co43, eo43⟩ := Kd.V_slice HO301.out; subst eo43) | (go_at_call 43; (with_reducible refine (nat_Cmp.calls k _ _ t299 _ _ t302 t305 _ ?side1 ?side2 ?side3 ?side4 A9.out).mono ?_); (case side1 => exact kc_ (Kd.V_reads' HO301.out).2.2); (case side2 => exact (Kd.V_reads' HO301.out).2.1); (case side3 => exact kc_ (Kd.V_reads' HO304.out).2.2); (case side4 => exact (Kd.V_reads' HO304.out).2.1); rintro e w44 ⟨rfl, hb⟩; have n0_ := Aside0.mk (Kd.V_below (by (with_reducible repeat (first | apply Kd.V_alloc | apply Kd.V_drewN | apply Kd.V_drew)); exact HO301.out) hb); have n1_ := Aside0.mk (Kd.V_below (by (with_reducible repeat (first | apply Kd.V_alloc | apply Kd.V_drewN | apply Kd.V_drew)); exact HO304.out) hb); have n2_ := bq_ HB hb; clear HO301; clear HO304; clear HB; have HO301 := n0_; have HO304 := n1_; have HB := n2_; clear n0_ n1_ n2_; (try clear hb); (try clear hb2); (try clear hk); (try clear hi); have p316 : 0 ≤ ((ji27) : Int) := of_decide_eq_true (by first | (with_reducible assumption) | assumption); have q316 : (ji27) < (t302.length : Int) := of_decide_eq_true (by first | (with_reducible assumption) | assumption); obtain ⟨ad316, e316, hx316_0⟩ := Kd.at_int (Kd.V_reads' HO304.out).2.2 (ji27) p316 q316; cases e316; replace p316 := eq_true p316; replace q316 := eq_true q316) | (go_at_call 51; (with_reducible refine (bits_LeadingZeros32.calls (rd t302 (ji27)) t317 _ A30.out).mono ?_); rintro e w' ⟨rfl, ⟨nd, rfl⟩⟩; (try first | exact ⟨rfl, _, World.drewN_drewN _ _ _⟩ | exact ⟨rfl, _, Eq.trans (World.drewN_drewN _ _ _) (congrArg (World.drewN _) (Nat.add_assoc _ _ _))⟩)) | (go_at_call 52; (with_reducible refine (nat_Shl.calls k _ _ t302 t317 t318 _ ?side1 ?side2 A31.out).mono ?_); (case side1 => exact kc_ (Kd.V_reads' HO304.out).2.2); (case side2 => exact (Kd.V_reads' HO304.out).2.1); rintro e w45 ⟨v319, rfl, ho0, hb⟩; have n0_ := Aside0.mk (Kd.V_elder' (by (with_reducible repeat (first | apply Kd.V_alloc | apply Kd.V_drewN | apply Kd.V_drew)); exact HO301.out) (Kd.R_base ho0) hb); have n1_ := Aside0.mk (Kd.V_elder' (by (with_reducible repeat (first | apply Kd.V_alloc | apply Kd.V_drewN | apply Kd.V_drew)); exact HO304.out) (Kd.R_base ho0) hb); have n2_ := Aside0.mk (Kd.R_lower ho0 (below_size (bw_ HB.out))); have n3_ := bq_ HB hb; clear HO301; clear HO304; clear HB; have HO301 := n0_; have HO304 := n1_; have HO320 := n2_; have HB := n3_; clear n0_ n1_ n2_ n3_; (try clear hb); (try clear hb2); (try clear hk); (try clear hi); (try clear ho0)) | (go_at_call 52; (with_reducible refine (nat_Shl.calls k _ _ t299 t317 t321 _ ?side1 ?side2 A32.out).mono ?_); (case side1 => exact kc_ (Kd.V_reads' HO301.out).2.2); (case side2 => exact (Kd.V_reads' HO301.out).2.1); rintro e w46 ⟨v322, rfl, ho0, hb⟩; have n0_ := Aside0.mk (Kd.V_elder' (by (with_reducible repeat (first | apply Kd.V_alloc | apply Kd.V_drewN | apply Kd.V_drew)); exact HO301.out) (Kd.R_base ho0) hb); have n1_ := Aside0.mk (Kd.V_elder' (by (with_reducible repeat (first | apply Kd.V_alloc | apply Kd.V_drewN | apply Kd.V_drew)); exact HO304.out) (Kd.R_base ho0) hb); have n2_ := Aside0.mk (Kd.R_elder' (kr_ HO320.out) (Kd.R_base ho0) hb); have n3_ := Aside0.mk (Kd.R_lower (Kd.R_new' ho0 (Kd.R_lt (kr_ HO320.out))) (below_size (bw_ HB.out))); have n4_ := bq_ HB hb; clear HO301; clear HO304; clear HO320; clear HB; have HO301 := n0_; have HO304 := n1_; have HO320 := n2_; have HO323 := n3_; have HB := n4_; clear n0_ n1_ n2_ n3_ n4_; (try clear hb); (try clear hb2); (try clear hk); (try clear hi); (try clear ho0)) | ((with_reducible refine gate_dst (N := 59) rfl ?_); refine Kd.R_lit (Kd.int .u32) _ 47 ?hg (N := 59) ?hd (xs := ([0, 0] : List Int)) (inner := [.int .u32 0, .int .u32 0]) (ok := fun _ => True) (okp := fun _ => True) ?hr ?hp (fun _ hk => hk) trivial (Below.refl _ _) (Nat.le_refl _) (by simp) ?_; (case hd => rfl); (case hg => rfl); (case hr => first | (go_simp; done) | (go_simp; rfl)); (case hp => exact (Reps.one (show Kd.M (Kd.int .u32) _ _ _ 0 [.int .u32 0] from rfl) (Reps.one (show Kd.M (Kd.int .u32) _ _ _ 0 [.int .u32 0] from rfl) (Reps.none _ _)))); intro v325 w47 ho48 hb hg_ hnew_; clear hg_ hnew_; (first | rw [← Ny324.out] at ho48 | (simp only [Int.reduceToNat] at ho48; rw [← Ny324.out] at ho48)); have n0_ := Aside0.mk (Kd.V_elder' (by (with_reducible repeat (first | apply Kd.V_alloc | apply Kd.V_drewN | apply Kd.V_drew)); exact HO301.out) (Kd.R_base ho48) hb); have n1_ := Aside0.mk (Kd.V_elder' (by (with_reducible repeat (first | apply Kd.V_alloc | apply Kd.V_drewN | apply Kd.V_drew)); exact HO304.out) (Kd.R_base ho48) hb); have n2_ := Aside0.mk (Kd.R_elder' (kr_ HO320.out) (Kd.R_base ho48) hb); have n3_ := Aside0.mk (Kd.R_elder' (kr_ HO323.out) (Kd.R_base ho48) hb); have n4_ := Aside0.mk (Kd.R_lower (Kd.R_new' (Kd.R_new' ho48 (Kd.R_lt (kr_ HO320.out))) (Kd.R_lt (kr_ HO323.out))) (below_size (bw_ HB.out))); have n5_ := bq_ HB hb; clear HO301; clear HO304; clear HO320; clear HO323; clear HB; have HO301 := n0_; have HO304 := n1_; have HO320 := n2_; have HO323 := n3_; have HO326 := n4_; have HB := n5_; clear n0_ n1_ n2_ n3_ n4_ n5_; clear hb ho48; obtain ⟨Ao50, co50, eo50⟩ := Kd.R_slice HO326.out; subst eo50) | ((with_reducible refine gate_builtin (b := .append) (xs := #[.tmp 58, .tmp 59]) rfl ?_); at_builtin; refine Kd.R_append_rows (Kd.int .u32) (w0 := w) w.heap.size rfl (.tmp 58) (.tmp 59) 22 47 (.int .u32 0) 4 rfl Try.underlying22 info47 rfl (by decide) (by omega) v322 t321 y324 _ _ _ (fun k_ => some k_ ≠ (v319 : Value).ownBlock ∧ some k_ ≠ (.slice Ao50 y324.length co50 : Value).ownBlock) (fun _ => False) rfl rfl ?aO ?aR (fun _ _ h => h) (fun _ h => h.elim) ?aF ?aB ?aS ?aL ?_; (case aR => exact kc_ (Kd.R_reads' HO326.out).2.2); (case aB => exact (bw_ HB.out)); (case aF => exact (fun k_ hk => ⟨Kd.fresh' (Kd.R_lt (kr_ HO320.out)) k_ hk, Kd.fresh' (Kd.R_lt (kr_ HO326.out)) k_ hk⟩)); (case aO => exact (kr_ (Kd.R_mono HO323.out (fun _ hk => by first | exact ⟨hk.1.2, hk.2⟩ | (simp only [ob_map] at hk ⊢; exact ⟨hk.1.2, hk.2⟩))))); (case aS => exact (below_size (bw_ HB.out))); (case aL => have := LMc33.out; omega); intro v328 w49 ho hb hg hat; rw [← Ny327.out] at ho; have n0_ := Aside0.mk (Kd.V_afterv (ok := (fun k_ => some k_ ≠ (v319 : Value).ownBlock ∧ some k_ ≠ (.slice Ao50 y324.length co50 : Value).ownBlock)) (by (with_reducible repeat (first | apply Kd.V_alloc | apply Kd.V_drewN | apply Kd.V_drew)); exact Kd.V_mono HO301.out (fun _ hk => by first | exact ⟨⟨hk.1.1.2, hk.2⟩, hk.1.2⟩ | simp [hk])) hg hat); have n1_ := Aside0.mk (Kd.V_afterv (ok := (fun k_ => some k_ ≠ (v319 : Value).ownBlock ∧ some k_ ≠ (.slice Ao50 y324.length co50 : Value).ownBlock)) (by (with_reducible repeat (first | apply Kd.V_alloc | apply Kd.V_drewN | apply Kd.V_drew)); exact Kd.V_mono HO304.out (fun _ hk => by first | exact ⟨⟨hk.1.1.2, hk.2⟩, hk.1.2⟩ | simp [hk])) hg hat); have n2_ := Aside0.mk (Kd.R_after (ok := (fun k_ => some k_ ≠ (.slice Ao50 y324.length co50 : Value).ownBlock)) (kr_ (Kd.R_mono HO320.out (fun _ hk => by first | exact ⟨hk.2, hk.1.2⟩ | (simp only [ob_map] at hk ⊢; exact ⟨hk.2, hk.1.2⟩)))) hg hat); have n3_ := Aside0.mk (Kd.R_after (ok := (fun k_ => some k_ ≠ (v319 : Value).ownBlock)) (kr_ (Kd.R_mono HO326.out (fun _ hk => by first | exact ⟨hk.1.2, hk.2⟩ | (simp only [ob_map] at hk ⊢; exact ⟨hk.1.2, hk.2⟩)))) hg hat); have n4_ := Aside0.mk (hb); have n5_ := Aside0.mk (ho); clear HO301; clear HO304; clear HO320; clear HO326; clear HB; clear HO323; have HO301 := n0_; have HO304 := n1_; have HO320 := n2_; have HO326 := n3_; have HB := n4_; have HO329 := n5_; clear n0_ n1_ n2_ n3_ n4_ n5_; clear ho hb hg hat; obtain ⟨Ao51, co51, eo51⟩ := Kd.R_slice HO329.out; subst eo51; have q52 : ((ji34) : Int) ≤ ((y327.length : Int) : Int) := of_decide_eq_true (by first | (with_reducible assumption) | assumption); obtain ⟨i052, hi052, _, hsz52, _⟩ := info_parts info47; have hcut52 := cut_to (P := Try.prog) 22 47 .i64 Try.underlying22 hi052 Ao51 y327.length co51 (ji34) (of_decide_eq_true (by first | (with_reducible assumption) | assumption)) q52 (Kd.R_reads' HO329.out).2.1; have hr52 := Kd.R_take (m := ((ji34) : Int).toNat) HO329.out (by omega); have hy52 : y330.length = ((ji34) : Int).toNat := (by rw [Ny330.out, List.length_take]; omega); rw [← Ny330.out] at hr52; rw [← hy52] at hr52 hcut52; clear hy52 hi052 hsz52 HO329; have HO332 := Aside0.mk hr52; clear hr52; replace q52 := eq_true q52) | ((with_reducible refine gate_dst (N := 71) rfl ?_); refine Kd.R_make (Kd.int .u32) _ 47 rfl (N := 71) rfl 22 _ _ rfl ji37 rfl rfl Try.underlying22 (.int .u32 0) 4 info47 rfl (by decide) (by omega) 0 (ok := fun _ => True) (okp := fun _ => True) rfl (fun _ hk => hk) trivial (of_decide_eq_true (by first | (with_reducible assumption) | assumption)) (Nat.le_trans (Nat.mul_le_mul_right _ (of_decide_eq_true (by first | (with_reducible assumption) | assumption) : ji37.toNat ≤ 70368744177664)) (by omega)) (Below.refl _ _) (Nat.le_refl _) ?_; intro v334 w53 ho54 hb hg_ hnew_; clear hg_ hnew_; (first | rw [← Ny333.out] at ho54 | (simp only [Int.reduceToNat] at ho54; rw [← Ny333.out] at ho54)); have n0_ := Aside0.mk (Kd.V_elder' (by (with_reducible repeat (first | apply Kd.V_alloc | apply Kd.V_drewN | apply Kd.V_drew)); exact HO301.out) (Kd.R_base ho54) hb); have n1_ := Aside0.mk (Kd.V_elder' (by (with_reducible repeat (first | apply Kd.V_alloc | apply Kd.V_drewN | apply Kd.V_drew)); exact HO304.out) (Kd.R_base ho54) hb); have n2_ := Aside0.mk (Kd.R_elder' (kr_ HO320.out) (Kd.R_base ho54) hb); have n3_ := Aside0.mk (Kd.R_elder' (kr_ HO326.out) (Kd.R_base ho54) hb); have n4_ := Aside0.mk (Kd.R_elder' (kr_ HO332.out) (Kd.R_base ho54) hb); have n5_ := Aside0.mk (Kd.R_lower (Kd.R_new' (Kd.R_new' (Kd.R_new' ho54 (Kd.R_lt (kr_ HO320.out))) (Kd.R_lt (kr_ HO326.out))) (Kd.R_lt (kr_ HO332.out))) (below_size (bw_ HB.out))); have n6_ := bq_ HB hb; clear HO301; clear HO304; clear HO320; clear HO326; clear HO332; clear HB; have HO301 := n0_; have HO304 := n1_; have HO320 := n2_; have HO326 := n3_; have HO332 := n4_; have HO335 := n5_; have HB := n6_; clear n0_ n1_ n2_ n3_ n4_ n5_ n6_; clear hb ho54; obtain ⟨Ao55, co55, eo55⟩ := Kd.R_slice HO335.out; subst eo55)); try (go_quiet (first | (go_at_call 51; (with_reducible refine (bits_LeadingZeros32.calls (rd t302 (ji27)) t317 _ A30.out).mono ?_); rintro e w' ⟨rfl, ⟨nd, rfl⟩⟩; (try first | exact ⟨rfl, _, World.drewN_drewN _ _ _⟩ | exact ⟨rfl, _, Eq.trans (World.drewN_drewN _ _ _) (congrArg (World.drewN _) (Nat.add_assoc _ _ _))⟩)))))
           go_loopg [74] k (fun kq v74 w' => ∃ (x11_1 : List Int) (x12_1 : List Int) (x74_1 : Int), v74 = .int .i64 x74_1 ∧ Aside0 (nat_Div.l0 kq t317 t318 x11_1 x12_1 (y333.length : Int) x74_1 = some (r1, r2, r3)) ∧ Aside0 (kq ≤ k) ∧ Aside0 (Kd.R (Kd.int .u32) 47 w' w.heap.size (fun k_ => some k_ ≠ ((.slice Ao51 y330.length co51) : Value).ownBlock ∧ some k_ ≠ ((.slice Ao55 y333.length co55) : Value).ownBlock) v319 t318) ∧ Aside0 (Kd.R (Kd.int .u32) 47 w' w.heap.size (fun k_ => some k_ ≠ (v319 : Value).ownBlock ∧ some k_ ≠ ((.slice Ao55 y333.length co55) : Value).ownBlock) (.slice Ao51 y330.length co51) x11_1) ∧ Aside0 (Kd.R (Kd.int .u32) 47 w' w.heap.size (fun k_ => some k_ ≠ (v319 : Value).ownBlock ∧ some k_ ≠ ((.slice Ao51 y330.length co51) : Value).ownBlock) (.slice Ao55 y333.length co55) x12_1) ∧ Aside0 (Below w.heap.size w w'))
           case atStart => exact ⟨(y330), (y333), (0), (by first | rfl | (simp; done) | (simp [*]; done)), H', ⟨Nat.le_refl _⟩, ⟨by (with_reducible repeat (first | apply Kd.R_alloc | apply Kd.R_drewN | apply Kd.R_drew)); exact Kd.R_mono HO320.out (fun _ hk => by first | exact ⟨hk.1.2, hk.2⟩ | (simp only [ob_map] at hk ⊢; exact ⟨hk.1.2, hk.2⟩))⟩, ⟨by (with_reducible repeat (first | apply Kd.R_alloc | apply Kd.R_drewN | apply Kd.R_drew)); exact Kd.R_mono HO332.out (fun _ hk => by first | exact ⟨hk.1.1, hk.2⟩ | (simp only [ob_map] at hk ⊢; exact ⟨hk.1.1, hk.2⟩))⟩, ⟨by (with_reducible repeat (first | apply Kd.R_alloc | apply Kd.R_drewN | apply Kd.R_drew)); exact Kd.R_mono HO335.out (fun _ hk => by first | exact ⟨hk.1.1.2, hk.2⟩ | (simp only [ob_map] at hk ⊢; exact ⟨hk.1.1.2, hk.2⟩))⟩, ⟨bw_ HB.out⟩⟩
           case round =>
            clear H'
            try clear c1
            try clear c2
            try clear p2
            try clear c3
            try clear p3
            try clear q3
            try clear hx3
            try clear qi3
            try clear c5
            try clear c5b0
            try clear c5b1
            try clear c5b2
            try clear q5
            try clear p6
            try clear c10
            try clear c10b0
            try clear c18
            try clear c18b0
            try clear c18b1
            try clear c19
            try clear c19b0
            try clear c19b1
            try clear c28
            try clear c28b0
            try clear c29
            try clear c29b0
            try clear p30
            try clear q30
            try clear hx30
            try clear qi30
            try clear p31
            try clear q31
            try clear hx31
            try clear c33
            try clear c35
            try clear c35b0
            try clear c35b1
            try clear c36
            try clear c36b0
            try clear c36b1
            try clear c38
            try clear c38b0
            try clear c38b1
            try clear c39
            try clear c39b0
            try clear c39b1
            try clear q52
            try clear hx309_0
            try clear hx316_0
            try clear p309
            try clear p316
            try clear q309
            try clear q316
            try clear q52
            obtain ⟨x11_1, x12_1, x74_1, rfl, HA, HK1, HO_10, HO_11, HO_12, HB⟩ := hrel
            have hl11_1 := (Kd.R_reads' HO_11.out).1
            rw [hl11_1] at HO_11
            (try simp only [hl11_1])
            (try simp only [hl11_1] at HO_10)
            (try simp only [hl11_1] at HO_12)
            have hl12_1 := (Kd.R_reads' HO_12.out).1
            rw [hl12_1] at HO_12
            (try simp only [hl12_1])
            (try simp only [hl12_1] at HO_10)
            (try simp only [hl12_1] at HO_11)
            cases gk with
            | zero => exact absurd HA.out (by simp [nat_Div.l0])
            | succ k1 =>
             have H := HA.out
             clear HA
             simp only [nat_Div.l0] at H
             by_cases c56 : x74_1 < (y333.length : Int)
             ·rw [if_pos c56] at H
              have c56b0 : decide (x74_1 < (y333.length : Int)) = true := decide_eq_true c56
              (try (have c56b0r := c56b0; rw [hl11_1] at c56b0r))
              (try (have c56b0r := c56b0; rw [hl12_1] at c56b0r))
              clear c56
              obtain ⟨ji57, hji57⟩ : ∃ j_ : Int, (wrap64 ((wrap64 ((wrap64 ((x12_1.length : Int) - 1)) - x74_1)) + (t318.length : Int))) = j_ := ⟨_, rfl⟩
              (first | rw [hji57] at H | simp only [hji57] at H)
              have hji57w : (IntKind.i64.wrap ((wrap64 ((wrap64 ((x12_1.length : Int) - 1)) - x74_1)) + (t318.length : Int))) = ji57 := (i64_w _).trans hji57
              by_cases c58 : 0 ≤ (ji57)
              ·rw [if_pos c58] at H
               have c58b0 : decide (0 ≤ (ji57)) = true := decide_eq_true c58
               (try (have c58b0r := c58b0; rw [hl11_1] at c58b0r))
               (try (have c58b0r := c58b0; rw [hl12_1] at c58b0r))
               clear c58
               by_cases c59 : (ji57) < (x11_1.length : Int)
               ·rw [if_pos c59] at H
                have c59b0 : decide ((ji57) < (x11_1.length : Int)) = true := decide_eq_true c59
                (try (have c59b0r := c59b0; rw [hl11_1] at c59b0r))
                (try (have c59b0r := c59b0; rw [hl12_1] at c59b0r))
                clear c59
                obtain ⟨ji60, hji60⟩ : ∃ j_ : Int, (wrap64 ((ji57) - 1)) = j_ := ⟨_, rfl⟩
                (first | rw [hji60] at H | simp only [hji60] at H)
                have hji60w : (IntKind.i64.wrap ((ji57) - 1)) = ji60 := (i64_w _).trans hji60
                by_cases c61 : 0 ≤ (ji60)
                ·rw [if_pos c61] at H
                 have c61b0 : decide (0 ≤ (ji60)) = true := decide_eq_true c61
                 (try (have c61b0r := c61b0; rw [hl11_1] at c61b0r))
                 (try (have c61b0r := c61b0; rw [hl12_1] at c61b0r))
                 clear c61
                 by_cases c62 : (ji60) < (x11_1.length : Int)
                 ·rw [if_pos c62] at H
                  have c62b0 : decide ((ji60) < (x11_1.length : Int)) = true := decide_eq_true c62
                  (try (have c62b0r := c62b0; rw [hl11_1] at c62b0r))
                  (try (have c62b0r := c62b0; rw [hl12_1] at c62b0r))
                  clear c62
                  obtain ⟨ji63, hji63⟩ : ∃ j_ : Int, (wrap64 ((ji57) - 2)) = j_ := ⟨_, rfl⟩
                  (first | rw [hji63] at H | simp only [hji63] at H)
                  have hji63w : (IntKind.i64.wrap ((ji57) - 2)) = ji63 := (i64_w _).trans hji63
                  by_cases c64 : 0 ≤ (ji63)
                  ·rw [if_pos c64] at H
                   have c64b0 : decide (0 ≤ (ji63)) = true := decide_eq_true c64
                   (try (have c64b0r := c64b0; rw [hl11_1] at c64b0r))
                   (try (have c64b0r := c64b0; rw [hl12_1] at c64b0r))
                   clear c64
                   by_cases c65 : (ji63) < (x11_1.length : Int)
                   ·rw [if_pos c65] at H
                    have c65b0 : decide ((ji63) < (x11_1.length : Int)) = true := decide_eq_true c65
                    (try (have c65b0r := c65b0; rw [hl11_1] at c65b0r))
                    (try (have c65b0r := c65b0; rw [hl12_1] at c65b0r))
                    clear c65
                    obtain ⟨ji66, hji66⟩ : ∃ j_ : Int, (wrap64 ((t318.length : Int) - 1)) = j_ := ⟨_, rfl⟩
                    (first | rw [hji66] at H | simp only [hji66] at H)
                    have hji66w : (IntKind.i64.wrap ((t318.length : Int) - 1)) = ji66 := (i64_w _).trans hji66
                    by_cases c67 : 0 ≤ (ji66)
                    ·rw [if_pos c67] at H
                     have c67b0 : decide (0 ≤ (ji66)) = true := decide_eq_true c67
                     (try (have c67b0r := c67b0; rw [hl11_1] at c67b0r))
                     (try (have c67b0r := c67b0; rw [hl12_1] at c67b0r))
                     clear c67
                     by_cases c68 : (ji66) < (t318.length : Int)
                     ·rw [if_pos c68] at H
                      have c68b0 : decide ((ji66) < (t318.length : Int)) = true := decide_eq_true c68
                      (try (have c68b0r := c68b0; rw [hl11_1] at c68b0r))
                      (try (have c68b0r := c68b0; rw [hl12_1] at c68b0r))
                      clear c68
                      obtain ⟨ji69, hji69⟩ : ∃ j_ : Int, (wrap64 ((t318.length : Int) - 2)) = j_ := ⟨_, rfl⟩
                      (first | rw [hji69] at H | simp only [hji69] at H)
                      have hji69w : (IntKind.i64.wrap ((t318.length : Int) - 2)) = ji69 := (i64_w _).trans hji69
                      by_cases c70 : 0 ≤ (ji69)
                      ·rw [if_pos c70] at H
                       have c70b0 : decide (0 ≤ (ji69)) = true := decide_eq_true c70
                       (try (have c70b0r := c70b0; rw [hl11_1] at c70b0r))
                       (try (have c70b0r := c70b0; rw [hl12_1] at c70b0r))
                       clear c70
                       by_cases c71 : (ji69) < (t318.length : Int)
                       ·rw [if_pos c71] at H
                        have c71b0 : decide ((ji69) < (t318.length : Int)) = true := decide_eq_true c71
                        (try (have c71b0r := c71b0; rw [hl11_1] at c71b0r))
                        (try (have c71b0r := c71b0; rw [hl12_1] at c71b0r))
                        clear c71
                        replace H := Option.bind_eq_some_iff.mp H
                        obtain ⟨t347, A720, H⟩ := H
                        (try dsimp only at H)
                        have A72 := Aside0.mk A720
                        clear A720
                        replace H := Option.bind_eq_some_iff.mp H
                        obtain ⟨⟨t348, t349⟩, A730, H⟩ := H
                        (try dsimp only at H)
                        have A73 := Aside0.mk A730
                        clear A730
                        by_cases c74 : t348 = true
                        ·subst c74
                         have H1 : ((nat_more.f k1 t349 t318 (wrap64 ((wrap64 ((x12_1.length : Int) - 1)) - x74_1))).bind fun t350 => (if 0 ≤ (wrap64 ((wrap64 ((x12_1.length : Int) - 1)) - x74_1)) then (if (wrap64 ((wrap64 ((x12_1.length : Int) - 1)) - x74_1)) < (x12_1.length : Int) then (nat_Div.l0 k1 t317 t318 t350 (x12_1.set ((wrap64 ((wrap64 ((x12_1.length : Int) - 1)) - x74_1)) : Int).toNat ((t347 - 1) % 4294967296)) (y333.length : Int) (wrap64 (x74_1 + 1))) else (none)) else (none))) = some (r1, r2, r3) := by rw [if_pos rfl] at H; exact H
                         clear H
                         have H := H1
                         clear H1
                         replace H := Option.bind_eq_some_iff.mp H
                         obtain ⟨t350, A750, H⟩ := H
                         (try dsimp only at H)
                         have A75 := Aside0.mk A750
                         clear A750
                         obtain ⟨ji76, hji76⟩ : ∃ j_ : Int, (wrap64 ((wrap64 ((x12_1.length : Int) - 1)) - x74_1)) = j_ := ⟨_, rfl⟩
                         (first | rw [hji76] at H | simp only [hji76] at H)
                         (try rw [hji76] at A72)
                         (try rw [hji76] at A73)
                         (try rw [hji76] at A75)
                         have hji76w : (IntKind.i64.wrap ((wrap64 ((x12_1.length : Int) - 1)) - x74_1)) = ji76 := (i64_w _).trans hji76
                         (try rw [hji76] at hji57)
                         (try rw [hji76] at hji57w)
                         by_cases c77 : 0 ≤ (ji76)
                         ·rw [if_pos c77] at H
                          have c77b0 : decide (0 ≤ (ji76)) = true := decide_eq_true c77
                          (try (have c77b0r := c77b0; rw [hl11_1] at c77b0r))
                          (try (have c77b0r := c77b0; rw [hl12_1] at c77b0r))
                          clear c77
                          by_cases c78 : (ji76) < (x12_1.length : Int)
                          ·rw [if_pos c78] at H
                           have c78b0 : decide ((ji76) < (x12_1.length : Int)) = true := decide_eq_true c78
                           (try (have c78b0r := c78b0; rw [hl11_1] at c78b0r))
                           (try (have c78b0r := c78b0; rw [hl12_1] at c78b0r))
                           clear c78
                           obtain ⟨y351, hy351⟩ : ∃ y_ : List Int, y_ = (x12_1.set ((ji76) : Int).toNat ((t347 - 1) % 4294967296)) := ⟨_, rfl⟩
                           replace H : (nat_Div.l0 k1 t317 t318 t350 y351 (y333.length : Int) (wrap64 (x74_1 + 1))) = some (r1, r2, r3) := by first | (rw [hy351]; with_reducible exact H) | (have H2_ := (Option.bind_some _ _).symm.trans H; rw [hy351]; with_reducible exact H2_) | (have H2_ := (Option.bind_some _ _).symm.trans H; with_reducible exact H2_) | with_reducible exact H | (rw [hy351]; exact H) | exact H
                           have Ny351 := Aside0.mk hy351
                           clear hy351
                           have H' := Aside0.mk H
                           clear H
                           obtain ⟨Ao80, co80, eo80⟩ := Kd.R_slice HO_10.out
                           subst eo80
                           have p342 : 0 ≤ ((ji57) : Int) := of_decide_eq_true (by first | (with_reducible assumption) | assumption)
                           have q342 : (ji57) < (x11_1.length : Int) := of_decide_eq_true (by first | (with_reducible assumption) | assumption)
                           obtain ⟨ad342, e342, hx342_0⟩ := Kd.at_int (Kd.R_reads' HO_11.out).2.2 (ji57) p342 q342
                           cases e342
                           replace p342 := eq_true p342
                           replace q342 := eq_true q342
                           have p343 : 0 ≤ ((ji60) : Int) := of_decide_eq_true (by first | (with_reducible assumption) | assumption)
                           have q343 : (ji60) < (x11_1.length : Int) := of_decide_eq_true (by first | (with_reducible assumption) | assumption)
                           obtain ⟨ad343, e343, hx343_0⟩ := Kd.at_int (Kd.R_reads' HO_11.out).2.2 (ji60) p343 q343
                           obtain rfl : ad342 = ad343 := (by injection e343)
                           replace p343 := eq_true p343
                           replace q343 := eq_true q343
                           have p344 : 0 ≤ ((ji63) : Int) := of_decide_eq_true (by first | (with_reducible assumption) | assumption)
                           have q344 : (ji63) < (x11_1.length : Int) := of_decide_eq_true (by first | (with_reducible assumption) | assumption)
                           obtain ⟨ad344, e344, hx344_0⟩ := Kd.at_int (Kd.R_reads' HO_11.out).2.2 (ji63) p344 q344
                           obtain rfl : ad342 = ad344 := (by injection e344)
                           replace p344 := eq_true p344
                           replace q344 := eq_true q344
                           have p345 : 0 ≤ ((ji66) : Int) := of_decide_eq_true (by first | (with_reducible assumption) | assumption)
                           have q345 : (ji66) < (t318.length : Int) := of_decide_eq_true (by first | (with_reducible assumption) | assumption)
                           obtain ⟨ad345, e345, hx345_0⟩ := Kd.at_int (Kd.R_reads' HO_10.out).2.2 (ji66) p345 q345
                           cases e345
                           replace p345 := eq_true p345
                           replace q345 := eq_true q345
                           have p346 : 0 ≤ ((ji69) : Int) := of_decide_eq_true (by first | (with_reducible assumption) | assumption)
                           have q346 : (ji69) < (t318.length : Int) := of_decide_eq_true (by first | (with_reducible assumption) | assumption)
                           obtain ⟨ad346, e346, hx346_0⟩ := Kd.at_int (Kd.R_reads' HO_10.out).2.2 (ji69) p346 q346
                           obtain rfl : ad345 = ad346 := (by injection e346)
                           replace p346 := eq_true p346
                           replace q346 := eq_true q346
                           iterate 2 (try go_wp2_with (first | (go_at_call 53; (with_reducible refine (nat_guess.calls k1 (rd x11_1 (ji57)) (rd x11_1 (ji60)) (rd x11_1 (ji63)) (rd t318 (ji66)) (rd t318 (ji69)) t347 _ A72.out).mono ?_); rintro e w' ⟨rfl, ⟨nd, rfl⟩⟩; (try first | exact ⟨rfl, _, World.drewN_drewN _ _ _⟩ | exact ⟨rfl, _, Eq.trans (World.drewN_drewN _ _ _) (congrArg (World.drewN _) (Nat.add_assoc _ _ _))⟩)) | (go_at_call 54; (with_reducible refine (nat_less.calls k1 (fun k_ => some k_ = (.slice (some ad342) x11_1.length co51 : Value).ownBlock) (.slice (some ad342) x11_1.length co51) x11_1 _ _ t318 t347 ji76 true t349 w _ ?side1 ?side2 ?side3 ?side4 A73.out).mono ?_); (case side1 => repeat (first | (with_reducible first | exact HB.out | apply below_alloc | apply pw_below_drewN | apply below_drew1) | exact HB.out)); (case side2 => exact Kd.R_tight rfl HO_11.out); (case side3 => exact Kd.C_kept_own (HO_10.out) (fun k_ hk_ hs_ => (hk_.1) hs_)); (case side4 => exact (Kd.R_reads' HO_10.out).2.1); rintro e w81 ⟨rfl, hy0, hb, hkp⟩; replace HO_10 := Aside0.mk (Kd.R_mono (ok' := fun k_ => some k_ ≠ (.slice (some ad342) x11_1.length co51 : Value).ownBlock ∧ some k_ ≠ (.slice Ao55 x12_1.length co55 : Value).ownBlock) (Kd.R_keptB (HO_10.out) hkp (fun k_ hk_ hs_ => (hk_.1) hs_)) (fun k_ hk_ => ⟨hk_.1.1, hk_.1.2⟩)); replace HO_11 := Aside0.mk (Kd.R_reok rfl hy0 (fun k_ e_ => HO_11.out.1 k_ e_)); replace HO_12 := Aside0.mk (Kd.R_mono (ok' := fun k_ => some k_ ≠ (.slice (some ad345) t318.length co80 : Value).ownBlock ∧ some k_ ≠ (.slice (some ad342) x11_1.length co51 : Value).ownBlock) (Kd.R_keptB (HO_12.out) hkp (fun k_ hk_ hs_ => (hk_.2) hs_)) (fun k_ hk_ => ⟨hk_.1.1, hk_.1.2⟩)); replace HB := Aside0.mk (hb); (try clear hb); (try clear hkp); (try clear hy0)) | (go_at_call 55; (with_reducible refine (nat_more.calls k1 (fun k_ => some k_ = (.slice (some ad342) x11_1.length co51 : Value).ownBlock) (.slice (some ad342) x11_1.length co51) t349 _ _ t318 ji76 t350 w _ ?side1 ?side2 ?side3 ?side4 A75.out).mono ?_); (case side1 => repeat (first | (with_reducible first | exact HB.out | apply below_alloc | apply pw_below_drewN | apply below_drew1) | exact HB.out)); (case side2 => exact Kd.R_tight rfl HO_11.out); (case side3 => exact Kd.C_kept_own (HO_10.out) (fun k_ hk_ hs_ => (hk_.1) hs_)); (case side4 => exact (Kd.R_reads' HO_10.out).2.1); rintro e w82 ⟨rfl, hy0, hb, hkp⟩; replace HO_10 := Aside0.mk (Kd.R_mono (ok' := fun k_ => some k_ ≠ (.slice (some ad342) x11_1.length co51 : Value).ownBlock ∧ some k_ ≠ (.slice Ao55 x12_1.length co55 : Value).ownBlock) (Kd.R_keptB (HO_10.out) hkp (fun k_ hk_ hs_ => (hk_.1) hs_)) (fun k_ hk_ => ⟨hk_.1.1, hk_.1.2⟩)); replace HO_11 := Aside0.mk (Kd.R_reok rfl hy0 (fun k_ e_ => HO_11.out.1 k_ e_)); replace HO_12 := Aside0.mk (Kd.R_mono (ok' := fun k_ => some k_ ≠ (.slice (some ad345) t318.length co80 : Value).ownBlock ∧ some k_ ≠ (.slice (some ad342) x11_1.length co51 : Value).ownBlock) (Kd.R_keptB (HO_12.out) hkp (fun k_ hk_ hs_ => (hk_.2) hs_)) (fun k_ hk_ => ⟨hk_.1.1, hk_.1.2⟩)); replace HB := Aside0.mk (hb); (try clear hb); (try clear hkp); (try clear hy0); have p79 : 0 ≤ ((ji76) : Int) := of_decide_eq_true (by first | (with_reducible assumption) | assumption); have q79 : ((ji76) : Int) < ((x12_1.length : Int) : Int) := of_decide_eq_true (by first | (with_reducible assumption) | assumption); obtain ⟨go79, co79, eo79, gb79, gl79, cl79, HG79⟩ := Kd.R_form HO_12.out (by omega); (first | cases eo79 | (injection eo79 with ea_ en_ ec_; (first | subst ea_ | (injection ea_ with ea_; subst ea_)); subst ec_; clear en_)); have GB79 := Aside0.mk gb79; have GG79 := Aside0.mk HG79; clear gb79 gl79 HG79; obtain ⟨hx79_0, hf79_0⟩ := Kd.R_celln 0 HO_12.out ((ji76) : Int) p79 q79; replace p79 := eq_true p79; replace q79 := eq_true q79; obtain ⟨hy83_, hz83_⟩ := Kd.R_celln 0 HO_12.out ((ji76) : Int) (of_decide_eq_true (by first | (with_reducible assumption) | assumption)) (of_decide_eq_true (by first | (with_reducible assumption) | assumption)); have HP83 := Kd.R_putg HO_12.out ((ji76) : Int) ((t347 - 1) % 4294967296)) | ((with_reducible refine gate_store (t := 47) (p := 127) rfl ?_); (try (rw [drewN_self w82]; generalize hq_ : World.drewN w82 _ = w82; replace HO_10 := Aside0.mk (Kd.R_at hq_ HO_10.out); replace HO_11 := Aside0.mk (Kd.R_at hq_ HO_11.out); replace HO_12 := Aside0.mk (Kd.R_at hq_ HO_12.out); replace HB := Aside0.mk (below_at hq_ HB.out); clear hq_; (try (obtain ⟨hy83_, hz83_⟩ := Kd.R_celln 0 HO_12.out ((ji76) : Int) (of_decide_eq_true (by first | (with_reducible assumption) | assumption)) (of_decide_eq_true (by first | (with_reducible assumption) | assumption)))); (try (have HP83 := Kd.R_putg HO_12.out ((ji76) : Int) ((t347 - 1) % 4294967296))))); refine store_event (t := 47) (p := 127) (v := ?vo_w84) (w1 := (w82.setCell ⟨go79, ((ji76) : Int).toNat, none⟩ (.int .u32 ((t347 - 1) % 4294967296)))) ?hg ?ho ?hn ?hr ?_; (case ho => rfl); (case hg => rfl); (case hn => rfl); (case hr => first | (go_simp; done) | (go_simp; rfl)); intro w84 hw; have hg : w82.grownBy w84 (some go79) := (by rw [hw]; exact HP83.2); have hp_ : Kd.R (Kd.int .u32) 47 w84 w.heap.size (fun k_ => some k_ ≠ (.slice (some ad345) t318.length co80 : Value).ownBlock ∧ some k_ ≠ (.slice (some ad342) x11_1.length co51 : Value).ownBlock) (.slice (some ⟨go79, 0, none⟩) x12_1.length co55) y351 := (by rw [hw, Ny351.out]; exact HP83.1); clear HP83; have n0_ := Aside0.mk (Kd.R_after (v := (.slice (some ⟨go79, 0, none⟩) x12_1.length co55)) (v1 := (.slice (some ⟨go79, 0, none⟩) x12_1.length co55)) (ok := (fun k_ => some k_ ≠ (.slice (some ad342) x11_1.length co51 : Value).ownBlock)) (kr_ HO_10.out) hg (.inl rfl)); have n1_ := Aside0.mk (Kd.R_after (v := (.slice (some ⟨go79, 0, none⟩) x12_1.length co55)) (v1 := (.slice (some ⟨go79, 0, none⟩) x12_1.length co55)) (ok := (fun k_ => some k_ ≠ (.slice (some ad345) t318.length co80 : Value).ownBlock)) (kr_ HO_11.out) hg (.inl rfl)); have n2_ := Aside0.mk (hp_); have n3_ := Aside0.mk ((by rw [hw]; exact below_set (HB.out) GB79.out : Below w.heap.size w w84)); clear HO_10; clear HO_11; clear HO_12; clear HB; have HO_10 := n0_; have HO_11 := n1_; have HO_12 := n2_; have HB := n3_; clear n0_ n1_ n2_ n3_; clear hg hw hp_)); try (go_quiet (first | (go_at_call 53; (with_reducible refine (nat_guess.calls k1 (rd x11_1 (ji57)) (rd x11_1 (ji60)) (rd x11_1 (ji63)) (rd t318 (ji66)) (rd t318 (ji69)) t347 _ A72.out).mono ?_); rintro e w' ⟨rfl, ⟨nd, rfl⟩⟩; (try first | exact ⟨rfl, _, World.drewN_drewN _ _ _⟩ | exact ⟨rfl, _, Eq.trans (World.drewN_drewN _ _ _) (congrArg (World.drewN _) (Nat.add_assoc _ _ _))⟩)))))
                           (try simp only [← hl11_1, ← hl12_1])
                           go_roundg k1
                           case measure => have := HK1.out; omega
                           case rel => exact ⟨(t350), (y351), (wrap64 (x74_1 + 1)), (by first | rfl | (simp; done) | (simp [*]; done)), H', ⟨by have := HK1.out; omega⟩, ⟨by (try simp only [hl11_1]); (try simp only [hl12_1]); (with_reducible repeat (first | apply Kd.R_alloc | apply Kd.R_drewN | apply Kd.R_drew)); exact HO_10.out⟩, ⟨by (try simp only [hl11_1]); (try simp only [hl12_1]); (with_reducible repeat (first | apply Kd.R_alloc | apply Kd.R_drewN | apply Kd.R_drew)); exact HO_11.out⟩, ⟨by (try simp only [hl11_1]); (try simp only [hl12_1]); (with_reducible repeat (first | apply Kd.R_alloc | apply Kd.R_drewN | apply Kd.R_drew)); exact HO_12.out⟩, ⟨bw_ HB.out⟩⟩
                          ·rw [if_neg c78] at H
                           exact absurd H (by simp)
                         ·rw [if_neg c77] at H
                          exact absurd H (by simp)
                        ·replace c74 := Bool.eq_false_iff.mpr c74
                         subst c74
                         have H1 : (if 0 ≤ (wrap64 ((wrap64 ((x12_1.length : Int) - 1)) - x74_1)) then (if (wrap64 ((wrap64 ((x12_1.length : Int) - 1)) - x74_1)) < (x12_1.length : Int) then (nat_Div.l0 k1 t317 t318 t349 (x12_1.set ((wrap64 ((wrap64 ((x12_1.length : Int) - 1)) - x74_1)) : Int).toNat t347) (y333.length : Int) (wrap64 (x74_1 + 1))) else (none)) else (none)) = some (r1, r2, r3) := by rw [if_neg (show ¬ (false = true) by decide)] at H; exact H
                         clear H
                         have H := H1
                         clear H1
                         obtain ⟨ji85, hji85⟩ : ∃ j_ : Int, (wrap64 ((wrap64 ((x12_1.length : Int) - 1)) - x74_1)) = j_ := ⟨_, rfl⟩
                         (first | rw [hji85] at H | simp only [hji85] at H)
                         (try rw [hji85] at A72)
                         (try rw [hji85] at A73)
                         have hji85w : (IntKind.i64.wrap ((wrap64 ((x12_1.length : Int) - 1)) - x74_1)) = ji85 := (i64_w _).trans hji85
                         (try rw [hji85] at hji57)
                         (try rw [hji85] at hji57w)
                         by_cases c86 : 0 ≤ (ji85)
                         ·rw [if_pos c86] at H
                          have c86b0 : decide (0 ≤ (ji85)) = true := decide_eq_true c86
                          (try (have c86b0r := c86b0; rw [hl11_1] at c86b0r))
                          (try (have c86b0r := c86b0; rw [hl12_1] at c86b0r))
                          clear c86
                          by_cases c87 : (ji85) < (x12_1.length : Int)
                          ·rw [if_pos c87] at H
                           have c87b0 : decide ((ji85) < (x12_1.length : Int)) = true := decide_eq_true c87
                           (try (have c87b0r := c87b0; rw [hl11_1] at c87b0r))
                           (try (have c87b0r := c87b0; rw [hl12_1] at c87b0r))
                           clear c87
                           obtain ⟨y352, hy352⟩ : ∃ y_ : List Int, y_ = (x12_1.set ((ji85) : Int).toNat t347) := ⟨_, rfl⟩
                           replace H : (nat_Div.l0 k1 t317 t318 t349 y352 (y333.length : Int) (wrap64 (x74_1 + 1))) = some (r1, r2, r3) := by first | (rw [hy352]; with_reducible exact H) | (have H2_ := (Option.bind_some _ _).symm.trans H; rw [hy352]; with_reducible exact H2_) | (have H2_ := (Option.bind_some _ _).symm.trans H; with_reducible exact H2_) | with_reducible exact H | (rw [hy352]; exact H) | exact H
                           have Ny352 := Aside0.mk hy352
                           clear hy352
                           have H' := Aside0.mk H
                           clear H
                           obtain ⟨Ao89, co89, eo89⟩ := Kd.R_slice HO_10.out
                           subst eo89
                           have p342 : 0 ≤ ((ji57) : Int) := of_decide_eq_true (by first | (with_reducible assumption) | assumption)
                           have q342 : (ji57) < (x11_1.length : Int) := of_decide_eq_true (by first | (with_reducible assumption) | assumption)
                           obtain ⟨ad342, e342, hx342_0⟩ := Kd.at_int (Kd.R_reads' HO_11.out).2.2 (ji57) p342 q342
                           cases e342
                           replace p342 := eq_true p342
                           replace q342 := eq_true q342
                           have p343 : 0 ≤ ((ji60) : Int) := of_decide_eq_true (by first | (with_reducible assumption) | assumption)
                           have q343 : (ji60) < (x11_1.length : Int) := of_decide_eq_true (by first | (with_reducible assumption) | assumption)
                           obtain ⟨ad343, e343, hx343_0⟩ := Kd.at_int (Kd.R_reads' HO_11.out).2.2 (ji60) p343 q343
                           obtain rfl : ad342 = ad343 := (by injection e343)
                           replace p343 := eq_true p343
                           replace q343 := eq_true q343
                           have p344 : 0 ≤ ((ji63) : Int) := of_decide_eq_true (by first | (with_reducible assumption) | assumption)
                           have q344 : (ji63) < (x11_1.length : Int) := of_decide_eq_true (by first | (with_reducible assumption) | assumption)
                           obtain ⟨ad344, e344, hx344_0⟩ := Kd.at_int (Kd.R_reads' HO_11.out).2.2 (ji63) p344 q344
                           obtain rfl : ad342 = ad344 := (by injection e344)
                           replace p344 := eq_true p344
                           replace q344 := eq_true q344
                           have p345 : 0 ≤ ((ji66) : Int) := of_decide_eq_true (by first | (with_reducible assumption) | assumption)
                           have q345 : (ji66) < (t318.length : Int) := of_decide_eq_true (by first | (with_reducible assumption) | assumption)
                           obtain ⟨ad345, e345, hx345_0⟩ := Kd.at_int (Kd.R_reads' HO_10.out).2.2 (ji66) p345 q345
                           cases e345
                           replace p345 := eq_true p345
                           replace q345 := eq_true q345
                           have p346 : 0 ≤ ((ji69) : Int) := of_decide_eq_true (by first | (with_reducible assumption) | assumption)
                           have q346 : (ji69) < (t318.length : Int) := of_decide_eq_true (by first | (with_reducible assumption) | assumption)
                           obtain ⟨ad346, e346, hx346_0⟩ := Kd.at_int (Kd.R_reads' HO_10.out).2.2 (ji69) p346 q346
                           obtain rfl : ad345 = ad346 := (by injection e346)
                           replace p346 := eq_true p346
                           replace q346 := eq_true q346
                           iterate 2 (try go_wp2_with (first | (go_at_call 53; (with_reducible refine (nat_guess.calls k1 (rd x11_1 (ji57)) (rd x11_1 (ji60)) (rd x11_1 (ji63)) (rd t318 (ji66)) (rd t318 (ji69)) t347 _ A72.out).mono ?_); rintro e w' ⟨rfl, ⟨nd, rfl⟩⟩; (try first | exact ⟨rfl, _, World.drewN_drewN _ _ _⟩ | exact ⟨rfl, _, Eq.trans (World.drewN_drewN _ _ _) (congrArg (World.drewN _) (Nat.add_assoc _ _ _))⟩)) | (go_at_call 54; (with_reducible refine (nat_less.calls k1 (fun k_ => some k_ = (.slice (some ad342) x11_1.length co51 : Value).ownBlock) (.slice (some ad342) x11_1.length co51) x11_1 _ _ t318 t347 ji85 false t349 w _ ?side1 ?side2 ?side3 ?side4 A73.out).mono ?_); (case side1 => repeat (first | (with_reducible first | exact HB.out | apply below_alloc | apply pw_below_drewN | apply below_drew1) | exact HB.out)); (case side2 => exact Kd.R_tight rfl HO_11.out); (case side3 => exact Kd.C_kept_own (HO_10.out) (fun k_ hk_ hs_ => (hk_.1) hs_)); (case side4 => exact (Kd.R_reads' HO_10.out).2.1); rintro e w90 ⟨rfl, hy0, hb, hkp⟩; replace HO_10 := Aside0.mk (Kd.R_mono (ok' := fun k_ => some k_ ≠ (.slice (some ad342) x11_1.length co51 : Value).ownBlock ∧ some k_ ≠ (.slice Ao55 x12_1.length co55 : Value).ownBlock) (Kd.R_keptB (HO_10.out) hkp (fun k_ hk_ hs_ => (hk_.1) hs_)) (fun k_ hk_ => ⟨hk_.1.1, hk_.1.2⟩)); replace HO_11 := Aside0.mk (Kd.R_reok rfl hy0 (fun k_ e_ => HO_11.out.1 k_ e_)); replace HO_12 := Aside0.mk (Kd.R_mono (ok' := fun k_ => some k_ ≠ (.slice (some ad345) t318.length co89 : Value).ownBlock ∧ some k_ ≠ (.slice (some ad342) x11_1.length co51 : Value).ownBlock) (Kd.R_keptB (HO_12.out) hkp (fun k_ hk_ hs_ => (hk_.2) hs_)) (fun k_ hk_ => ⟨hk_.1.1, hk_.1.2⟩)); replace HB := Aside0.mk (hb); (try clear hb); (try clear hkp); (try clear hy0); have p88 : 0 ≤ ((ji85) : Int) := of_decide_eq_true (by first | (with_reducible assumption) | assumption); have q88 : ((ji85) : Int) < ((x12_1.length : Int) : Int) := of_decide_eq_true (by first | (with_reducible assumption) | assumption); obtain ⟨go88, co88, eo88, gb88, gl88, cl88, HG88⟩ := Kd.R_form HO_12.out (by omega); (first | cases eo88 | (injection eo88 with ea_ en_ ec_; (first | subst ea_ | (injection ea_ with ea_; subst ea_)); subst ec_; clear en_)); have GB88 := Aside0.mk gb88; have GG88 := Aside0.mk HG88; clear gb88 gl88 HG88; obtain ⟨hx88_0, hf88_0⟩ := Kd.R_celln 0 HO_12.out ((ji85) : Int) p88 q88; replace p88 := eq_true p88; replace q88 := eq_true q88; obtain ⟨hy91_, hz91_⟩ := Kd.R_celln 0 HO_12.out ((ji85) : Int) (of_decide_eq_true (by first | (with_reducible assumption) | assumption)) (of_decide_eq_true (by first | (with_reducible assumption) | assumption)); have HP91 := Kd.R_putg HO_12.out ((ji85) : Int) t347) | ((with_reducible refine gate_store (t := 47) (p := 127) rfl ?_); (try (rw [drewN_self w90]; generalize hq_ : World.drewN w90 _ = w90; replace HO_10 := Aside0.mk (Kd.R_at hq_ HO_10.out); replace HO_11 := Aside0.mk (Kd.R_at hq_ HO_11.out); replace HO_12 := Aside0.mk (Kd.R_at hq_ HO_12.out); replace HB := Aside0.mk (below_at hq_ HB.out); clear hq_; (try (obtain ⟨hy91_, hz91_⟩ := Kd.R_celln 0 HO_12.out ((ji85) : Int) (of_decide_eq_true (by first | (with_reducible assumption) | assumption)) (of_decide_eq_true (by first | (with_reducible assumption) | assumption)))); (try (have HP91 := Kd.R_putg HO_12.out ((ji85) : Int) t347)))); refine store_event (t := 47) (p := 127) (v := ?vo_w92) (w1 := (w90.setCell ⟨go88, ((ji85) : Int).toNat, none⟩ (.int .u32 t347))) ?hg ?ho ?hn ?hr ?_; (case ho => rfl); (case hg => rfl); (case hn => rfl); (case hr => first | (go_simp; done) | (go_simp; rfl)); intro w92 hw; have hg : w90.grownBy w92 (some go88) := (by rw [hw]; exact HP91.2); have hp_ : Kd.R (Kd.int .u32) 47 w92 w.heap.size (fun k_ => some k_ ≠ (.slice (some ad345) t318.length co89 : Value).ownBlock ∧ some k_ ≠ (.slice (some ad342) x11_1.length co51 : Value).ownBlock) (.slice (some ⟨go88, 0, none⟩) x12_1.length co55) y352 := (by rw [hw, Ny352.out]; exact HP91.1); clear HP91; have n0_ := Aside0.mk (Kd.R_after (v := (.slice (some ⟨go88, 0, none⟩) x12_1.length co55)) (v1 := (.slice (some ⟨go88, 0, none⟩) x12_1.length co55)) (ok := (fun k_ => some k_ ≠ (.slice (some ad342) x11_1.length co51 : Value).ownBlock)) (kr_ HO_10.out) hg (.inl rfl)); have n1_ := Aside0.mk (Kd.R_after (v := (.slice (some ⟨go88, 0, none⟩) x12_1.length co55)) (v1 := (.slice (some ⟨go88, 0, none⟩) x12_1.length co55)) (ok := (fun k_ => some k_ ≠ (.slice (some ad345) t318.length co89 : Value).ownBlock)) (kr_ HO_11.out) hg (.inl rfl)); have n2_ := Aside0.mk (hp_); have n3_ := Aside0.mk ((by rw [hw]; exact below_set (HB.out) GB88.out : Below w.heap.size w w92)); clear HO_10; clear HO_11; clear HO_12; clear HB; have HO_10 := n0_; have HO_11 := n1_; have HO_12 := n2_; have HB := n3_; clear n0_ n1_ n2_ n3_; clear hg hw hp_)); try (go_quiet (first | (go_at_call 53; (with_reducible refine (nat_guess.calls k1 (rd x11_1 (ji57)) (rd x11_1 (ji60)) (rd x11_1 (ji63)) (rd t318 (ji66)) (rd t318 (ji69)) t347 _ A72.out).mono ?_); rintro e w' ⟨rfl, ⟨nd, rfl⟩⟩; (try first | exact ⟨rfl, _, World.drewN_drewN _ _ _⟩ | exact ⟨rfl, _, Eq.trans (World.drewN_drewN _ _ _) (congrArg (World.drewN _) (Nat.add_assoc _ _ _))⟩)))))
                           (try simp only [← hl11_1, ← hl12_1])
                           go_roundg k1
                           case measure => have := HK1.out; omega
                           case rel => exact ⟨(t349), (y352), (wrap64 (x74_1 + 1)), (by first | rfl | (simp; done) | (simp [*]; done)), H', ⟨by have := HK1.out; omega⟩, ⟨by (try simp only [hl11_1]); (try simp only [hl12_1]); (with_reducible repeat (first | apply Kd.R_alloc | apply Kd.R_drewN | apply Kd.R_drew)); exact HO_10.out⟩, ⟨by (try simp only [hl11_1]); (try simp only [hl12_1]); (with_reducible repeat (first | apply Kd.R_alloc | apply Kd.R_drewN | apply Kd.R_drew)); exact HO_11.out⟩, ⟨by (try simp only [hl11_1]); (try simp only [hl12_1]); (with_reducible repeat (first | apply Kd.R_alloc | apply Kd.R_drewN | apply Kd.R_drew)); exact HO_12.out⟩, ⟨bw_ HB.out⟩⟩
                          ·rw [if_neg c87] at H
                           exact absurd H (by simp)
                         ·rw [if_neg c86] at H
                          exact absurd H (by simp)
                       ·rw [if_neg c71] at H
                        exact absurd H (by simp)
                      ·rw [if_neg c70] at H
                       exact absurd H (by simp)
                     ·rw [if_neg c68] at H
                      exact absurd H (by simp)
                    ·rw [if_neg c67] at H
                     exact absurd H (by simp)
                   ·rw [if_neg c65] at H
                    exact absurd H (by simp)
                  ·rw [if_neg c64] at H
                   exact absurd H (by simp)
                 ·rw [if_neg c62] at H
                  exact absurd H (by simp)
                ·rw [if_neg c61] at H
                 exact absurd H (by simp)
               ·rw [if_neg c59] at H
                exact absurd H (by simp)
              ·rw [if_neg c58] at H
               exact absurd H (by simp)
             ·rw [if_neg c56] at H
              have c56b0 : decide (x74_1 < (y333.length : Int)) = false := decide_eq_false c56
              (try (have c56b0r := c56b0; rw [hl11_1] at c56b0r))
              (try (have c56b0r := c56b0; rw [hl12_1] at c56b0r))
              clear c56
              replace H := Option.bind_eq_some_iff.mp H
              obtain ⟨t336, A930, H⟩ := H
              (try dsimp only at H)
              have A93 := Aside0.mk A930
              clear A930
              replace H := Option.bind_eq_some_iff.mp H
              obtain ⟨t339, A940, H⟩ := H
              (try dsimp only at H)
              have A94 := Aside0.mk A940
              clear A940
              simp only [Option.some.injEq, Prod.mk.injEq] at H
              obtain ⟨rfl, rfl, rfl⟩ := H
              iterate 2 (try go_wp2_with (first | (go_at_call 48; (with_reducible refine (nat_cut_own.calls k1 (fun k_ => some k_ = (.slice Ao55 x12_1.length co55 : Value).ownBlock) (.slice Ao55 x12_1.length co55) x12_1 t336 w _ ?side1 ?side2 A93.out).mono ?_); (case side1 => repeat (first | (with_reducible first | exact HB.out | apply below_alloc | apply pw_below_drewN | apply below_drew1) | exact HB.out)); (case side2 => exact Kd.R_tight rfl HO_12.out); rintro e w95 ⟨v337, rfl, ho0, hb, hkp⟩; have HO338 := Aside0.mk (Kd.R_mono (ok' := fun k_ => some k_ ≠ (v319 : Value).ownBlock ∧ some k_ ≠ (.slice Ao51 x11_1.length co51 : Value).ownBlock) ho0 (fun k_ hk_ => ⟨Or.elim hk_ (fun hs_ => fun e_ => (((HO_10.out).1 k_ e_.symm).2) hs_) (fun hn_ => (Kd.fresh' (Kd.R_lt (kr_ HO_10.out)) k_ hn_)), Or.elim hk_ (fun hs_ => fun e_ => (((HO_11.out).1 k_ e_.symm).2) hs_) (fun hn_ => (Kd.fresh' (Kd.R_lt (kr_ HO_11.out)) k_ hn_))⟩)); replace HO_10 := Aside0.mk (Kd.R_mono (ok' := fun k_ => some k_ ≠ (.slice Ao51 x11_1.length co51 : Value).ownBlock ∧ some k_ ≠ (v337 : Value).ownBlock) (Kd.R_keptB (HO_10.out) hkp (fun k_ hk_ hs_ => (hk_.2) hs_)) (fun k_ hk_ => ⟨hk_.1.1, fun e_ => Or.elim (ho0.1 k_ e_.symm) (fun hs_ => hk_.2.1 hs_) (fun hn_ => Nat.not_le.2 hk_.2.2 hn_)⟩)); replace HO_11 := Aside0.mk (Kd.R_mono (ok' := fun k_ => some k_ ≠ (v319 : Value).ownBlock ∧ some k_ ≠ (v337 : Value).ownBlock) (Kd.R_keptB (HO_11.out) hkp (fun k_ hk_ hs_ => (hk_.2) hs_)) (fun k_ hk_ => ⟨hk_.1.1, fun e_ => Or.elim (ho0.1 k_ e_.symm) (fun hs_ => hk_.2.1 hs_) (fun hn_ => Nat.not_le.2 hk_.2.2 hn_)⟩)); replace HB := Aside0.mk (hb); clear HO_12; (try clear hb); (try clear hkp); (try clear ho0)) | (go_at_call 56; (with_reducible refine (nat_Shr.calls k1 _ _ x11_1 t317 t339 _ ?side1 ?side2 A94.out).mono ?_); (case side1 => exact kc_ (Kd.R_reads' HO_11.out).2.2); (case side2 => exact (Kd.R_reads' HO_11.out).2.1); rintro e w96 ⟨v340, rfl, ho0, hb⟩; have HO341 := Aside0.mk (Kd.R_lower (Kd.R_new' (Kd.R_new' (Kd.R_new' ho0 (Kd.R_lt (kr_ HO_10.out))) (Kd.R_lt (kr_ HO_11.out))) (Kd.R_lt (kr_ HO338.out))) (below_size (bw_ HB.out))); replace HO_10 := Aside0.mk (Kd.R_elder' (kr_ HO_10.out) (Kd.R_base ho0) hb); replace HO_11 := Aside0.mk (Kd.R_elder' (kr_ HO_11.out) (Kd.R_base ho0) hb); replace HO338 := Aside0.mk (Kd.R_elder' (kr_ HO338.out) (Kd.R_base ho0) hb); replace HB := bq_ HB hb; (try clear hb); (try clear hb2); (try clear hk); (try clear hi); (try clear ho0))); try (go_quiet (fail)))
              go_ret3
              exact ⟨_, _, by first | rfl | (simp [errW_none, errW_some] <;> rfl) | (simp only [← hji27, ← hji34, ← hji37]; first | rfl | (simp [errW_none, errW_some] <;> rfl)) | (simp [*, errW_none, errW_some] <;> rfl), by (with_reducible repeat (first | apply Kd.R_alloc | apply Kd.R_drewN | apply Kd.R_drew)); exact Kd.R_mono HO338.out (fun _ hk => hk.2), by (with_reducible repeat (first | apply Kd.R_alloc | apply Kd.R_drewN | apply Kd.R_drew)); exact Kd.R_mono HO341.out (fun _ hk => hk.2), bw_ HB.out⟩
          ·rw [if_neg c39] at H
           exact absurd H (by simp)
         ·rw [if_neg c38] at H
          exact absurd H (by simp)
        ·rw [if_neg c36] at H
         exact absurd H (by simp)
       ·rw [if_neg c35] at H
        exact absurd H (by simp)
      ·rw [if_neg c33] at H
       exact absurd H (by simp)
     ·rw [if_neg c29] at H
      exact absurd H (by simp)
    ·rw [if_neg c28] at H
     exact absurd H (by simp)

end Go.Proofs.Ytbejmpocgnldnaa.PZ
