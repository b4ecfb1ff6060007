-- Laid by this work's own program; Lean checks it.
import Derived.Test.YthlhogcnfaiphaaDoorPAx0
import Derived.Test.YthlhogcnfaiphaaDoorPAx2
import Derived.Test.YthlhogcnfaiphaaDoorPAx7
import Derived.Test.YthlhogcnfaiphaaDoorPAx8
import Derived.Test.YthlhogcnfaiphaaDoorPAx11
namespace Go.Proofs.YthlhogcnfaiphaaDoor.PA
open Go.RowKit Go.Proofs.YthlhogcnfaiphaaDoorW.PrintWords Go.Proofs.YthlhogcnfaiphaaDoorW.PrintLast Go.Proofs.YthlhogcnfaiphaaDoorW.PrintMore
attribute [local go_sem] max2_int min2_int max_two min_two max_three min_three max_four min_four   -- for this text's walks alone
set_option linter.unusedVariables false
set_option linter.unusedSimpArgs false

attribute [local go_sem ↓ high] isSome_set_
/-! ### whole_May: function 54 -/
set_option maxHeartbeats 8000000 in
set_option maxRecDepth 100000 in
theorem whole_May.calls (a0_0 : Bool) (A0_1 : Option Addr) (c0_1 : Nat) (l0_1 : List Int) (r : Bool) (w : World) (hr0_1 : Kd.C (Kd.int .u32) w A0_1 l0_1.length l0_1) (hc0_1 : l0_1.length ≤ c0_1) (h : whole_May.f a0_0 l0_1 = some r) :
  Calls Tryd.prog 54 #[.agg #[.bool a0_0, .slice A0_1 l0_1.length c0_1]] w fun e w' => e = .returned (.bool r) ∧ Below w.heap.size w w' := by
 have hu29 := Tryd.underlying29
 have HR0_1 := Aside0.mk hr0_1
 have HC0_1 := Aside0.mk hc0_1
 clear hr0_1 hc0_1
 have HB := Aside0.mk (Below.refl w.heap.size w)
 have H : (if (l0_1.length : Int) = 0 then (some (!a0_0)) else (if 0 ≤ (wrap64 ((l0_1.length : Int) - 1)) then (if (wrap64 ((l0_1.length : Int) - 1)) < (l0_1.length : Int) then (some ((rd l0_1 (wrap64 ((l0_1.length : Int) - 1))) != 0)) else (none)) else (none))) = some r := h
 clear h
 by_cases c2 : (l0_1.length : Int) = 0
 ·rw [if_pos c2] at H
  have c2b0 : ((l0_1.length : Int) == 0) = true := beq_iff_eq.mpr c2
  have c2b1 : ((l0_1.length : Int) != 0) = false := bne_eq_false_iff_eq.mpr c2
  clear c2
  obtain rfl := Option.some.inj H
  go_enter Tryd.func54, Tryd.ntmps54
  go_wp2_with (first | ((with_reducible refine gate_dst (N := 1) rfl ?_); refine bx_ 1 #[.bool a0_0, .slice A0_1 l0_1.length c0_1] 29 ?_; intro gb521 hg w3 hbox hb; have BK521 := Aside0.mk (hbox); have GW521 := ge_ hg HB; have GE521 := ge_ hg HB; replace HB := bq_ HB hb; clear hb hbox hg; obtain ⟨hcz4_0, hcz4_1, hfz4_0, hfz4_1⟩ := c2_ BK521))
  go_ret
  exact ⟨rf_, bw_ HB.out⟩
 ·rw [if_neg c2] at H
  have c2b0 : ((l0_1.length : Int) == 0) = false := beq_eq_false_iff_ne.mpr c2
  have c2b1 : ((l0_1.length : Int) != 0) = true := bne_iff_ne.mpr c2
  have c2b2 : ¬ (l0_1 = []) := fun h_ => c2 (by rw [h_]; rfl)
  obtain ⟨ji5, hji5⟩ : ∃ j_ : Int, (wrap64 ((l0_1.length : Int) - 1)) = j_ := ⟨_, rfl⟩
  (first | rw [hji5] at H | simp only [hji5] at H)
  have hji5w : (IntKind.i64.wrap ((l0_1.length : Int) - 1)) = ji5 := (i64_w _).trans hji5
  by_cases c6 : 0 ≤ (ji5)
  ·rw [if_pos c6] at H
   have c6b0 : decide (0 ≤ (ji5)) = true := decide_eq_true c6
   clear c6
   by_cases c7 : (ji5) < (l0_1.length : Int)
   ·rw [if_pos c7] at H
    have c7b0 : decide ((ji5) < (l0_1.length : Int)) = true := decide_eq_true c7
    clear c7
    obtain rfl := Option.some.inj H
    go_enter Tryd.func54, Tryd.ntmps54
    go_wp2_with (first | ((with_reducible refine gate_dst (N := 1) rfl ?_); refine bx_ 1 #[.bool a0_0, .slice A0_1 l0_1.length c0_1] 29 ?_; intro gb521 hg w8 hbox hb; have BK521 := Aside0.mk (hbox); have GW521 := ge_ hg HB; have GE521 := ge_ hg HB; replace HB := bq_ HB hb; clear hb hbox hg; obtain ⟨hcz9_0, hcz9_1, hfz9_0, hfz9_1⟩ := c2_ BK521; have p522 : 0 ≤ ((ji5) : Int) := of_decide_eq_true (by first | (with_reducible assumption) | assumption); have q522 : (ji5) < (l0_1.length : Int) := of_decide_eq_true (by first | (with_reducible assumption) | assumption); obtain ⟨ad522, e522, hx522_0⟩ := Kd.at_int HR0_1.out (ji5) p522 q522; cases e522; replace hx522_0 := (HB.out.cell (World.block_lt_of_cell? w _ hx522_0)).trans hx522_0; replace p522 := eq_true p522; replace q522 := eq_true q522))
    go_ret
    exact ⟨by first | rfl | (simp [errW_none, errW_some] <;> rfl) | (simp only [← hji5]; first | rfl | (simp [errW_none, errW_some] <;> rfl)) | (simp [*, errW_none, errW_some] <;> rfl), bw_ HB.out⟩
   ·rw [if_neg c7] at H
    exact absurd H (by simp)
  ·rw [if_neg c6] at H
   exact absurd H (by simp)

/-! ### dy_May: function 40 -/
set_option maxHeartbeats 8000000 in
set_option maxRecDepth 100000 in
theorem dy_May.calls (a0_0 : Bool) (A0_1 : Option Addr) (c0_1 : Nat) (l0_1 : List Int) (a0_2 : Int) (r : Bool) (w : World) (hr0_1 : Kd.C (Kd.int .u32) w A0_1 l0_1.length l0_1) (hc0_1 : l0_1.length ≤ c0_1) (h : dy_May.f a0_0 l0_1 a0_2 = some r) :
  Calls Tryd.prog 40 #[.agg #[.bool a0_0, .slice A0_1 l0_1.length c0_1, .int .i64 a0_2]] w fun e w' => e = .returned (.bool r) ∧ Below w.heap.size w w' := by
 have hu31 := Tryd.underlying31
 have hu29 := Tryd.underlying29
 have HR0_1 := Aside0.mk hr0_1
 have HC0_1 := Aside0.mk hc0_1
 clear hr0_1 hc0_1
 have HB := Aside0.mk (Below.refl w.heap.size w)
 have H : (if (l0_1.length : Int) = 0 then (if a0_0 = true then (some false) else (some (a0_2 == 0))) else ((whole_May.f a0_0 l0_1).bind fun t524 => (if t524 = true then (if 0 < (l0_1.length : Int) then (if (Go.bits .and .u32 (rd l0_1 0) 1) = 1 then ((dy_within.f a0_2).bind fun t526 => (some t526)) else (some false)) else (none)) else (some false)))) = some r := h
 clear h
 by_cases c2 : (l0_1.length : Int) = 0
 ·rw [if_pos c2] at H
  have c2b0 : ((l0_1.length : Int) == 0) = true := beq_iff_eq.mpr c2
  have c2b1 : ((l0_1.length : Int) != 0) = false := bne_eq_false_iff_eq.mpr c2
  clear c2
  by_cases c3 : a0_0 = true
  ·subst c3
   have H1 : (some false) = some r := by rw [if_pos rfl] at H; exact H
   clear H
   have H := H1
   clear H1
   obtain rfl := Option.some.inj H
   go_enter Tryd.func40, Tryd.ntmps40
   go_wp2_with (first | ((with_reducible refine gate_dst (N := 1) rfl ?_); refine bx_ 1 #[.bool true, .slice A0_1 l0_1.length c0_1, .int .i64 a0_2] 31 ?_; intro gb523 hg w4 hbox hb; have BK523 := Aside0.mk (hbox); have GW523 := ge_ hg HB; have GE523 := ge_ hg HB; replace HB := bq_ HB hb; clear hb hbox hg; obtain ⟨hcz5_0, hcz5_1, hcz5_2, hfz5_0, hfz5_1, hfz5_2⟩ := c3_ BK523))
   go_ret
   exact ⟨rf_, bw_ HB.out⟩
  ·replace c3 := Bool.eq_false_iff.mpr c3
   subst c3
   have H1 : (some (a0_2 == 0)) = some r := by rw [if_neg (show ¬ (false = true) by decide)] at H; exact H
   clear H
   have H := H1
   clear H1
   obtain rfl := Option.some.inj H
   go_enter Tryd.func40, Tryd.ntmps40
   go_wp2_with (first | ((with_reducible refine gate_dst (N := 1) rfl ?_); refine bx_ 1 #[.bool false, .slice A0_1 l0_1.length c0_1, .int .i64 a0_2] 31 ?_; intro gb523 hg w6 hbox hb; have BK523 := Aside0.mk (hbox); have GW523 := ge_ hg HB; have GE523 := ge_ hg HB; replace HB := bq_ HB hb; clear hb hbox hg; obtain ⟨hcz7_0, hcz7_1, hcz7_2, hfz7_0, hfz7_1, hfz7_2⟩ := c3_ BK523))
   go_ret
   exact ⟨rf_, bw_ HB.out⟩
 ·rw [if_neg c2] at H
  have c2b0 : ((l0_1.length : Int) == 0) = false := beq_eq_false_iff_ne.mpr c2
  have c2b1 : ((l0_1.length : Int) != 0) = true := bne_iff_ne.mpr c2
  have c2b2 : ¬ (l0_1 = []) := fun h_ => c2 (by rw [h_]; rfl)
  replace H := Option.bind_eq_some_iff.mp H
  obtain ⟨t524, A80, H⟩ := H
  (try dsimp only at H)
  have A8 := Aside0.mk A80
  clear A80
  by_cases c9 : t524 = true
  ·subst c9
   have H1 : (if 0 < (l0_1.length : Int) then (if (Go.bits .and .u32 (rd l0_1 0) 1) = 1 then ((dy_within.f a0_2).bind fun t526 => (some t526)) else (some false)) else (none)) = some r := by rw [if_pos rfl] at H; exact H
   clear H
   have H := H1
   clear H1
   by_cases c10 : 0 < (l0_1.length : Int)
   ·rw [if_pos c10] at H
    have c10b0 : decide (0 < (l0_1.length : Int)) = true := decide_eq_true c10
    have c10b1 : decide (0 < l0_1.length) = true := decide_eq_true (by omega)
    clear c10
    by_cases c11 : (Go.bits .and .u32 (rd l0_1 0) 1) = 1
    ·rw [if_pos c11] at H
     have c11b0 : ((Go.bits .and .u32 (rd l0_1 0) 1) == 1) = true := beq_iff_eq.mpr c11
     have c11b1 : ((Go.bits .and .u32 (rd l0_1 0) 1) != 1) = false := bne_eq_false_iff_eq.mpr c11
     clear c11
     replace H := Option.bind_eq_some_iff.mp H
     obtain ⟨t526, A120, H⟩ := H
     (try dsimp only at H)
     have A12 := Aside0.mk A120
     clear A120
     obtain rfl := Option.some.inj H
     go_enter Tryd.func40, Tryd.ntmps40
     go_wp2_with (first | ((with_reducible refine gate_dst (N := 1) rfl ?_); refine bx_ 1 #[.bool a0_0, .slice A0_1 l0_1.length c0_1, .int .i64 a0_2] 31 ?_; intro gb523 hg w13 hbox hb; have BK523 := Aside0.mk (hbox); have GW523 := ge_ hg HB; have GE523 := ge_ hg HB; replace HB := bq_ HB hb; clear hb hbox hg; obtain ⟨hcz14_0, hcz14_1, hcz14_2, hfz14_0, hfz14_1, hfz14_2⟩ := c3_ BK523) | ((with_reducible refine gate_callee (f := 54) rfl ?_); refine gl_ (some 19) Tryd.func54 #[.agg #[.bool a0_0, .slice A0_1 l0_1.length c0_1]] ?_; (with_reducible refine (whole_May.calls a0_0 _ _ l0_1 true _ ?side1 ?side2 A8.out).mono ?_); (case side1 => exact kc_ (Kd.C_below HR0_1.out HB.out)); (case side2 => exact HC0_1.out); rintro e w15 ⟨rfl, hb⟩; refine ⟨_, rfl, ?_⟩; replace BK523 := kq_ BK523 hb; replace HB := bq_ HB hb; (try clear hb); (try clear hb2); (try clear hk); (try clear hi); obtain ⟨hcz16_0, hcz16_1, hcz16_2, hfz16_0, hfz16_1, hfz16_2⟩ := c3_ BK523; have p525 : 0 ≤ (0 : Int) := (by omega); have q525 : 0 < (l0_1.length : Int) := of_decide_eq_true (by first | (with_reducible assumption) | assumption); obtain ⟨ad525, e525, hx525_0⟩ := Kd.at_int HR0_1.out 0 p525 q525; cases e525; have qi525 : (0 < l0_1.length) = True := eq_true (by omega); (try rw [show ((0 : Int)).toNat = 0 from rfl] at hx525_0); (try rw [Addr.add_zero'] at hx525_0); replace hx525_0 := (HB.out.cell (World.block_lt_of_cell? w _ hx525_0)).trans hx525_0; replace p525 := eq_true p525; replace q525 := eq_true q525) | (go_at_call 34; (with_reducible refine (dy_within.calls a0_2 t526 _ A12.out).mono ?_); rintro e w' ⟨rfl, ⟨nd, rfl⟩⟩))
     go_ret
     exact ⟨rf_, bw_ HB.out⟩
    ·rw [if_neg c11] at H
     have c11b0 : ((Go.bits .and .u32 (rd l0_1 0) 1) == 1) = false := beq_eq_false_iff_ne.mpr c11
     have c11b1 : ((Go.bits .and .u32 (rd l0_1 0) 1) != 1) = true := bne_iff_ne.mpr c11
     obtain rfl := Option.some.inj H
     go_enter Tryd.func40, Tryd.ntmps40
     go_wp2_with (first | ((with_reducible refine gate_dst (N := 1) rfl ?_); refine bx_ 1 #[.bool a0_0, .slice A0_1 l0_1.length c0_1, .int .i64 a0_2] 31 ?_; intro gb523 hg w17 hbox hb; have BK523 := Aside0.mk (hbox); have GW523 := ge_ hg HB; have GE523 := ge_ hg HB; replace HB := bq_ HB hb; clear hb hbox hg; obtain ⟨hcz18_0, hcz18_1, hcz18_2, hfz18_0, hfz18_1, hfz18_2⟩ := c3_ BK523) | ((with_reducible refine gate_callee (f := 54) rfl ?_); refine gl_ (some 19) Tryd.func54 #[.agg #[.bool a0_0, .slice A0_1 l0_1.length c0_1]] ?_; (with_reducible refine (whole_May.calls a0_0 _ _ l0_1 true _ ?side1 ?side2 A8.out).mono ?_); (case side1 => exact kc_ (Kd.C_below HR0_1.out HB.out)); (case side2 => exact HC0_1.out); rintro e w19 ⟨rfl, hb⟩; refine ⟨_, rfl, ?_⟩; replace BK523 := kq_ BK523 hb; replace HB := bq_ HB hb; (try clear hb); (try clear hb2); (try clear hk); (try clear hi); obtain ⟨hcz20_0, hcz20_1, hcz20_2, hfz20_0, hfz20_1, hfz20_2⟩ := c3_ BK523; have p525 : 0 ≤ (0 : Int) := (by omega); have q525 : 0 < (l0_1.length : Int) := of_decide_eq_true (by first | (with_reducible assumption) | assumption); obtain ⟨ad525, e525, hx525_0⟩ := Kd.at_int HR0_1.out 0 p525 q525; cases e525; have qi525 : (0 < l0_1.length) = True := eq_true (by omega); (try rw [show ((0 : Int)).toNat = 0 from rfl] at hx525_0); (try rw [Addr.add_zero'] at hx525_0); replace hx525_0 := (HB.out.cell (World.block_lt_of_cell? w _ hx525_0)).trans hx525_0; replace p525 := eq_true p525; replace q525 := eq_true q525))
     go_ret
     exact ⟨rf_, bw_ HB.out⟩
   ·rw [if_neg c10] at H
    exact absurd H (by simp)
  ·replace c9 := Bool.eq_false_iff.mpr c9
   subst c9
   have H1 : (some false) = some r := by rw [if_neg (show ¬ (false = true) by decide)] at H; exact H
   clear H
   have H := H1
   clear H1
   obtain rfl := Option.some.inj H
   go_enter Tryd.func40, Tryd.ntmps40
   go_wp2_with (first | ((with_reducible refine gate_dst (N := 1) rfl ?_); refine bx_ 1 #[.bool a0_0, .slice A0_1 l0_1.length c0_1, .int .i64 a0_2] 31 ?_; intro gb523 hg w21 hbox hb; have BK523 := Aside0.mk (hbox); have GW523 := ge_ hg HB; have GE523 := ge_ hg HB; replace HB := bq_ HB hb; clear hb hbox hg; obtain ⟨hcz22_0, hcz22_1, hcz22_2, hfz22_0, hfz22_1, hfz22_2⟩ := c3_ BK523) | ((with_reducible refine gate_callee (f := 54) rfl ?_); refine gl_ (some 19) Tryd.func54 #[.agg #[.bool a0_0, .slice A0_1 l0_1.length c0_1]] ?_; (with_reducible refine (whole_May.calls a0_0 _ _ l0_1 false _ ?side1 ?side2 A8.out).mono ?_); (case side1 => exact kc_ (Kd.C_below HR0_1.out HB.out)); (case side2 => exact HC0_1.out); rintro e w23 ⟨rfl, hb⟩; refine ⟨_, rfl, ?_⟩; replace BK523 := kq_ BK523 hb; replace HB := bq_ HB hb; (try clear hb); (try clear hb2); (try clear hk); (try clear hi)))
   go_ret
   exact ⟨rf_, bw_ HB.out⟩

/-! ### dy_fair: function 19 -/
set_option maxHeartbeats 8000000 in
set_option maxRecDepth 100000 in
theorem dy_fair.calls (k : Nat) (a0_0 : Bool) (P0_1_ : Nat → Prop) (A0_1 : Option Addr) (c0_1 : Nat) (l0_1 : List Int) (a0_2 : Int) (r1 : Bool) (r2 : List Int) (r3 : Int) (w : World) (hs0_1 : Kd.V (Kd.int .u32) 44 w w.heap.size (fun k_ => P0_1_ k_) (.slice A0_1 l0_1.length c0_1) l0_1) (h : dy_fair.f k a0_0 l0_1 a0_2 = some (r1, r2, r3)) (htab_ : Kd.C (Kd.int .u8) w (some ⟨0, 0, none⟩) 32 tz32tab) :
  Calls Tryd.prog 19 #[.agg #[.bool a0_0, .slice A0_1 l0_1.length c0_1, .int .i64 a0_2]] w fun e w' => ∃ v1_ : Value, e = .returned (.agg #[.bool r1, v1_, .int .i64 r3]) ∧ Kd.V (Kd.int .u32) 44 w' w.heap.size (fun k_ => (P0_1_ k_ ∨ w.heap.size ≤ k_)) v1_ r2 ∧ Below w.heap.size w w' := by
 have HTAB := Aside0.mk htab_
 clear htab_
 have hu31 := Tryd.underlying31
 have hu29 := Tryd.underlying29
 have HO0_1 := Aside0.mk (show Kd.V (Kd.int .u32) 44 w w.heap.size (fun k_ => (P0_1_ k_ ∨ w.heap.size ≤ k_)) (.slice A0_1 l0_1.length c0_1) l0_1 from Kd.V_mono hs0_1 (fun k_ hk => .inl hk))
 have HB := Aside0.mk (Below.refl w.heap.size w)
 have H : ((dy_May.f a0_0 l0_1 a0_2).bind fun t529 => (if t529 = true then (some (a0_0, l0_1, a0_2)) else ((dy_Make.f k a0_0 l0_1 a0_2).bind fun bt530 => (some (bt530.1, bt530.2.1, bt530.2.2))))) = some (r1, r2, r3) := h
 clear h
 replace H := Option.bind_eq_some_iff.mp H
 obtain ⟨t529, A20, H⟩ := H
 (try dsimp only at H)
 have A2 := Aside0.mk A20
 clear A20
 by_cases c3 : t529 = true
 ·subst c3
  have H1 : (some (a0_0, l0_1, a0_2)) = some (r1, r2, r3) := by rw [if_pos rfl] at H; exact H
  clear H
  have H := H1
  clear H1
  simp only [Option.some.injEq, Prod.mk.injEq] at H
  obtain ⟨rfl, rfl, rfl⟩ := H
  go_enter Tryd.func19, Tryd.ntmps19
  go_wp2_with (first | ((with_reducible refine gate_dst (N := 1) rfl ?_); refine bx_ 1 #[.bool a0_0, .slice A0_1 l0_1.length c0_1, .int .i64 a0_2] 31 ?_; intro gb527 hg w4 hbox hb; have n0_ := Aside0.mk (Kd.V_below (Kd.V_elderB (by (with_reducible repeat (first | apply Kd.V_alloc | apply Kd.V_drewN | apply Kd.V_drew)); exact HO0_1.out) gb527 (Nat.le_of_eq hg.symm)) hb); have n1_ := bq_ HB hb; have n2_ := Aside0.mk (hbox); have n3_ := ge_ hg HB; have n4_ := ge_ hg HB; clear HO0_1; clear HB; have HO0_1 := n0_; have HB := n1_; have BK527 := n2_; have GW527 := n3_; have GE527 := n4_; clear n0_ n1_ n2_ n3_ n4_; clear hb hbox hg) | ((with_reducible refine gate_dst (N := 2) rfl ?_); refine bx_ 2 #[.bool false, .slice none 0 0, .int .i64 0] 31 ?_; intro gb528 hg w5 hbox hb; have n0_ := Aside0.mk (Kd.V_below (Kd.V_elderB (by (with_reducible repeat (first | apply Kd.V_alloc | apply Kd.V_drewN | apply Kd.V_drew)); exact HO0_1.out) gb528 (Nat.le_of_eq hg.symm)) hb); have n1_ := kq_ BK527 hb; have n2_ := bq_ HB hb; have n3_ := Aside0.mk (hbox); have n4_ := ge_ hg HB; have n5_ := ge_ hg HB; have n6_ := nb_ hg BK527; have n7_ := nc_ hg BK527; clear HO0_1; clear BK527; clear HB; have HO0_1 := n0_; have BK527 := n1_; have HB := n2_; have BK528 := n3_; have GW528 := n4_; have GE528 := n5_; have NB527_528 := n6_; have NB528_527 := n7_; clear n0_ n1_ n2_ n3_ n4_ n5_ n6_ n7_; clear hb hbox hg; have hnb6 := NB527_528.out; have hnc6 := NB528_527.out; obtain ⟨hcz7_0, hcz7_1, hcz7_2, hfz7_0, hfz7_1, hfz7_2⟩ := c3_ BK527) | ((with_reducible refine gate_callee (f := 40) rfl ?_); refine gl_ (some 4) Tryd.func40 #[.agg #[.bool a0_0, .slice A0_1 l0_1.length c0_1, .int .i64 a0_2]] ?_; (with_reducible refine (dy_May.calls a0_0 _ _ l0_1 a0_2 true _ ?side1 ?side2 A2.out).mono ?_); (case side1 => exact kc_ (Kd.V_reads' HO0_1.out).2.2); (case side2 => exact (Kd.V_reads' HO0_1.out).2.1); rintro e w8 ⟨rfl, hb⟩; refine ⟨_, rfl, ?_⟩; have n0_ := Aside0.mk (Kd.V_below (by (with_reducible repeat (first | apply Kd.V_alloc | apply Kd.V_drewN | apply Kd.V_drew)); exact HO0_1.out) hb); have n1_ := kq_ BK527 hb; have n2_ := kq_ BK528 hb; have n3_ := bq_ HB hb; clear HO0_1; clear BK527; clear BK528; clear HB; have HO0_1 := n0_; have BK527 := n1_; have BK528 := n2_; have HB := n3_; clear n0_ n1_ n2_ n3_; (try clear hb); (try clear hb2); (try clear hk); (try clear hi); obtain ⟨hcz9_0, hcz9_1, hcz9_2, hfz9_0, hfz9_1, hfz9_2⟩ := c3_ BK527; obtain ⟨hcz10_0, hcz10_1, hcz10_2, hfz10_0, hfz10_1, hfz10_2⟩ := c3_ BK528))
  refine bodyPost_ret (results_cell_row rfl _ _ gb528 31 #[.bool a0_0, .slice A0_1 l0_1.length c0_1, .int .i64 a0_2] (0, 0) _ rfl (by refine kb_ ?_; refine bp_ #[.bool a0_0, .slice A0_1 l0_1.length c0_1, .int .i64 0] 2 ?_; refine bp_ #[.bool a0_0, .slice none 0 0, .int .i64 0] 1 ?_; refine bp_ #[.bool false, .slice none 0 0, .int .i64 0] 0 ?_; exact BK528.out) Tryd.underlying31 rfl (by kernel_rfl)) rfl ?_
  exact ⟨_, rf_, by (with_reducible repeat (first | apply Kd.V_alloc | apply Kd.V_drewN | apply Kd.V_drew)); exact Kd.V_mono (Kd.V_far (p := ⟨gb528, 2, none⟩) (Kd.V_far (p := ⟨gb528, 1, none⟩) (Kd.V_far (p := ⟨gb528, 0, none⟩) (Kd.V_mono HO0_1.out (fun k_ hk => (⟨hk, hk.2⟩ : _ ∧ k_ ≠ gb528))) (fun _ hk => hk.2) (.bool a0_0)) (fun _ hk => hk.2) (.slice A0_1 l0_1.length c0_1)) (fun _ hk => hk.2) (.int .i64 a0_2)) (fun _ hk => hk.1.1.1), bw_ HB.out⟩
 ·replace c3 := Bool.eq_false_iff.mpr c3
  subst c3
  have H1 : ((dy_Make.f k a0_0 l0_1 a0_2).bind fun bt530 => (some (bt530.1, bt530.2.1, bt530.2.2))) = some (r1, r2, r3) := by rw [if_neg (show ¬ (false = true) by decide)] at H; exact H
  clear H
  have H := H1
  clear H1
  replace H := Option.bind_eq_some_iff.mp H
  obtain ⟨⟨t530, t531, t534⟩, A110, H⟩ := H
  (try dsimp only at H)
  have A11 := Aside0.mk A110
  clear A110
  simp only [Option.some.injEq, Prod.mk.injEq] at H
  obtain ⟨rfl, rfl, rfl⟩ := H
  go_enter Tryd.func19, Tryd.ntmps19
  go_wp2_with (first | ((with_reducible refine gate_dst (N := 1) rfl ?_); refine bx_ 1 #[.bool a0_0, .slice A0_1 l0_1.length c0_1, .int .i64 a0_2] 31 ?_; intro gb527 hg w12 hbox hb; have n0_ := Aside0.mk (Kd.V_below (Kd.V_elderB (by (with_reducible repeat (first | apply Kd.V_alloc | apply Kd.V_drewN | apply Kd.V_drew)); exact HO0_1.out) gb527 (Nat.le_of_eq hg.symm)) hb); have n1_ := bq_ HB hb; have n2_ := Aside0.mk (hbox); have n3_ := ge_ hg HB; have n4_ := ge_ hg HB; clear HO0_1; clear HB; have HO0_1 := n0_; have HB := n1_; have BK527 := n2_; have GW527 := n3_; have GE527 := n4_; clear n0_ n1_ n2_ n3_ n4_; clear hb hbox hg) | ((with_reducible refine gate_dst (N := 2) rfl ?_); refine bx_ 2 #[.bool false, .slice none 0 0, .int .i64 0] 31 ?_; intro gb528 hg w13 hbox hb; have n0_ := Aside0.mk (Kd.V_below (Kd.V_elderB (by (with_reducible repeat (first | apply Kd.V_alloc | apply Kd.V_drewN | apply Kd.V_drew)); exact HO0_1.out) gb528 (Nat.le_of_eq hg.symm)) hb); have n1_ := kq_ BK527 hb; have n2_ := bq_ HB hb; have n3_ := Aside0.mk (hbox); have n4_ := ge_ hg HB; have n5_ := ge_ hg HB; have n6_ := nb_ hg BK527; have n7_ := nc_ hg BK527; clear HO0_1; clear BK527; clear HB; have HO0_1 := n0_; have BK527 := n1_; have HB := n2_; have BK528 := n3_; have GW528 := n4_; have GE528 := n5_; have NB527_528 := n6_; have NB528_527 := n7_; clear n0_ n1_ n2_ n3_ n4_ n5_ n6_ n7_; clear hb hbox hg; have hnb14 := NB527_528.out; have hnc14 := NB528_527.out; obtain ⟨hcz15_0, hcz15_1, hcz15_2, hfz15_0, hfz15_1, hfz15_2⟩ := c3_ BK527) | ((with_reducible refine gate_callee (f := 40) rfl ?_); refine gl_ (some 4) Tryd.func40 #[.agg #[.bool a0_0, .slice A0_1 l0_1.length c0_1, .int .i64 a0_2]] ?_; (with_reducible refine (dy_May.calls a0_0 _ _ l0_1 a0_2 false _ ?side1 ?side2 A2.out).mono ?_); (case side1 => exact kc_ (Kd.V_reads' HO0_1.out).2.2); (case side2 => exact (Kd.V_reads' HO0_1.out).2.1); rintro e w16 ⟨rfl, hb⟩; refine ⟨_, rfl, ?_⟩; have n0_ := Aside0.mk (Kd.V_below (by (with_reducible repeat (first | apply Kd.V_alloc | apply Kd.V_drewN | apply Kd.V_drew)); exact HO0_1.out) hb); have n1_ := kq_ BK527 hb; have n2_ := kq_ BK528 hb; have n3_ := bq_ HB hb; clear HO0_1; clear BK527; clear BK528; clear HB; have HO0_1 := n0_; have BK527 := n1_; have BK528 := n2_; have HB := n3_; clear n0_ n1_ n2_ n3_; (try clear hb); (try clear hb2); (try clear hk); (try clear hi); obtain ⟨hcz17_0, hcz17_1, hcz17_2, hfz17_0, hfz17_1, hfz17_2⟩ := c3_ BK527) | ((with_reducible refine gate_callee (f := 16) rfl ?_); refine gl_ (some 10) Tryd.func16 #[.agg #[.bool a0_0, .slice A0_1 l0_1.length c0_1], .int .i64 a0_2] ?_; (with_reducible refine (dy_Make.calls k a0_0 _ _ l0_1 a0_2 t530 t531 t534 _ ?side1 ?side2 A11.out ?sidet).mono ?_); (case sidet => exact Kd.C_below HTAB.out (bw_ HB.out)); (case side1 => exact kc_ (Kd.V_reads' HO0_1.out).2.2); (case side2 => exact (Kd.V_reads' HO0_1.out).2.1); rintro e w18 ⟨v532, rfl, ho0, hb⟩; refine ⟨_, rfl, ?_⟩; have n0_ := Aside0.mk (Kd.V_elder' (by (with_reducible repeat (first | apply Kd.V_alloc | apply Kd.V_drewN | apply Kd.V_drew)); exact HO0_1.out) (Kd.R_base ho0) hb); have n1_ := Aside0.mk (Kd.R_lower (Kd.R_newM (M := fun k_ => (w.heap.size ≤ k_)) ho0 (below_size (bw_ HB.out)) (fun k_ h_ => h_)) (below_size (bw_ HB.out))); have n2_ := kq_ BK527 hb; have n3_ := kq_ BK528 hb; have n4_ := bq_ HB hb; clear HO0_1; clear BK527; clear BK528; clear HB; have HO0_1 := n0_; have HO533 := n1_; have BK527 := n2_; have BK528 := n3_; have HB := n4_; clear n0_ n1_ n2_ n3_ n4_; (try clear hb); (try clear hb2); (try clear hk); (try clear hi); (try clear ho0); obtain ⟨hcz19_0, hcz19_1, hcz19_2, hfz19_0, hfz19_1, hfz19_2⟩ := c3_ BK528; obtain ⟨Ao20, co20, eo20⟩ := Kd.R_slice HO533.out; subst eo20))
  refine bodyPost_ret (results_cell_row rfl _ _ gb528 31 #[.bool t530, .slice Ao20 t531.length co20, .int .i64 t534] (0, 0) _ rfl (by refine kb_ ?_; refine bp_ #[.bool t530, .slice Ao20 t531.length co20, .int .i64 0] 2 ?_; refine bp_ #[.bool t530, .slice none 0 0, .int .i64 0] 1 ?_; refine bp_ #[.bool false, .slice none 0 0, .int .i64 0] 0 ?_; exact BK528.out) Tryd.underlying31 rfl (by kernel_rfl)) rfl ?_
  exact ⟨_, rf_, Kd.V_mono (Kd.R_V (kr_ (Kd.R_mono (Kd.R_far (p := ⟨gb528, 2, none⟩) (Kd.R_far (p := ⟨gb528, 1, none⟩) (Kd.R_far (p := ⟨gb528, 0, none⟩) (Kd.R_types HO533.out BK528.out (by decide)) (fun _ hk => hk.2) (.bool t530)) (fun _ hk => hk.2) (.slice Ao20 t531.length co20)) (fun _ hk => hk.2) (.int .i64 t534)) (fun _ hk => hk.1.1)))) (fun k_ hk => by first | exact ⟨(.inr (hk.1)), hk.2⟩ | exact (.inr (hk))), bw_ HB.out⟩

/-! ### dy_own: function 20 -/
set_option maxHeartbeats 8000000 in
set_option maxRecDepth 100000 in
theorem dy_own.calls (k : Nat) (a0_0 : Bool) (A0_1 : Option Addr) (c0_1 : Nat) (l0_1 : List Int) (a0_2 : Int) (r1 : Bool) (r2 : List Int) (r3 : Int) (w : World) (hr0_1 : Kd.C (Kd.int .u32) w A0_1 l0_1.length l0_1) (hc0_1 : l0_1.length ≤ c0_1) (h : dy_own.f k a0_0 l0_1 a0_2 = some (r1, r2, r3)) (htab_ : Kd.C (Kd.int .u8) w (some ⟨0, 0, none⟩) 32 tz32tab) :
  Calls Tryd.prog 20 #[.agg #[.bool a0_0, .slice A0_1 l0_1.length c0_1, .int .i64 a0_2]] w fun e w' => ∃ v1_ : Value, e = .returned (.agg #[.bool r1, v1_, .int .i64 r3]) ∧ Kd.R (Kd.int .u32) 44 w' w.heap.size (fun _ => True) v1_ r2 ∧ Below w.heap.size w w' := by
 have HTAB := Aside0.mk htab_
 clear htab_
 have hu31 := Tryd.underlying31
 have hu29 := Tryd.underlying29
 have HR0_1 := Aside0.mk hr0_1
 have HC0_1 := Aside0.mk hc0_1
 clear hr0_1 hc0_1
 have HB := Aside0.mk (Below.refl w.heap.size w)
 have H : ((dy_Make.f k a0_0 l0_1 a0_2).bind fun bt537 => (some (bt537.1, bt537.2.1, bt537.2.2))) = some (r1, r2, r3) := h
 clear h
 replace H := Option.bind_eq_some_iff.mp H
 obtain ⟨⟨t537, t538, t541⟩, A20, H⟩ := H
 (try dsimp only at H)
 have A2 := Aside0.mk A20
 clear A20
 simp only [Option.some.injEq, Prod.mk.injEq] at H
 obtain ⟨rfl, rfl, rfl⟩ := H
 go_enter Tryd.func20, Tryd.ntmps20
 go_wp2_with (first | ((with_reducible refine gate_dst (N := 1) rfl ?_); refine bx_ 1 #[.bool a0_0, .slice A0_1 l0_1.length c0_1, .int .i64 a0_2] 31 ?_; intro gb535 hg w3 hbox hb; have BK535 := Aside0.mk (hbox); have GW535 := ge_ hg HB; have GE535 := ge_ hg HB; replace HB := bq_ HB hb; clear hb hbox hg) | ((with_reducible refine gate_dst (N := 2) rfl ?_); refine bx_ 2 #[.bool false, .slice none 0 0, .int .i64 0] 31 ?_; intro gb536 hg w4 hbox hb; have BK536 := Aside0.mk (hbox); have GW536 := ge_ hg HB; have GE536 := ge_ hg HB; have NB535_536 := nb_ hg BK535; have NB536_535 := nc_ hg BK535; replace BK535 := kq_ BK535 hb; replace HB := bq_ HB hb; clear hb hbox hg; have hnb5 := NB535_536.out; have hnc5 := NB536_535.out; obtain ⟨hcz6_0, hcz6_1, hcz6_2, hfz6_0, hfz6_1, hfz6_2⟩ := c3_ BK535) | ((with_reducible refine gate_callee (f := 16) rfl ?_); refine gl_ (some 7) Tryd.func16 #[.agg #[.bool a0_0, .slice A0_1 l0_1.length c0_1], .int .i64 a0_2] ?_; (with_reducible refine (dy_Make.calls k a0_0 _ _ l0_1 a0_2 t537 t538 t541 _ ?side1 ?side2 A2.out ?sidet).mono ?_); (case sidet => exact Kd.C_below HTAB.out (bw_ HB.out)); (case side1 => exact kc_ (Kd.C_below HR0_1.out HB.out)); (case side2 => exact HC0_1.out); rintro e w7 ⟨v539, rfl, ho0, hb⟩; refine ⟨_, rfl, ?_⟩; have HO540 := Aside0.mk (Kd.R_lower ho0 (below_size (bw_ HB.out))); replace BK535 := kq_ BK535 hb; replace BK536 := kq_ BK536 hb; replace HB := bq_ HB hb; (try clear hb); (try clear hb2); (try clear hk); (try clear hi); (try clear ho0); obtain ⟨hcz8_0, hcz8_1, hcz8_2, hfz8_0, hfz8_1, hfz8_2⟩ := c3_ BK536; obtain ⟨Ao9, co9, eo9⟩ := Kd.R_slice HO540.out; subst eo9))
 refine bodyPost_ret (results_cell_row rfl _ _ gb536 31 #[.bool t537, .slice Ao9 t538.length co9, .int .i64 t541] (0, 0) _ rfl (by refine kb_ ?_; refine bp_ #[.bool t537, .slice Ao9 t538.length co9, .int .i64 0] 2 ?_; refine bp_ #[.bool t537, .slice none 0 0, .int .i64 0] 1 ?_; refine bp_ #[.bool false, .slice none 0 0, .int .i64 0] 0 ?_; exact BK536.out) Tryd.underlying31 rfl (by kernel_rfl)) rfl ?_
 exact ⟨_, rf_, by (with_reducible repeat (first | apply Kd.R_alloc | apply Kd.R_drewN | apply Kd.R_drew)); exact Kd.R_mono (Kd.R_far (p := ⟨gb536, 2, none⟩) (Kd.R_far (p := ⟨gb536, 1, none⟩) (Kd.R_far (p := ⟨gb536, 0, none⟩) (Kd.R_types HO540.out BK536.out (by decide)) (fun _ hk => hk.2) (.bool t537)) (fun _ hk => hk.2) (.slice Ao9 t538.length co9)) (fun _ hk => hk.2) (.int .i64 t541)) (fun _ hk => trivial), bw_ HB.out⟩

/-! ### dy_Add: function 7 -/
set_option maxHeartbeats 8000000 in
set_option maxRecDepth 100000 in
theorem dy_Add.calls (k : Nat) (A0 : Option Addr) (c0 : Nat) (l0 : List (S31)) (r1 : Bool) (r2 : List Int) (r3 : Int) (w : World) (hr0 : Kd.C k31 w A0 l0.length l0) (hc0 : l0.length ≤ c0) (h : dy_Add.f k l0 = some (r1, r2, r3)) (htab_ : Kd.C (Kd.int .u8) w (some ⟨0, 0, none⟩) 32 tz32tab) :
  Calls Tryd.prog 7 #[.slice A0 l0.length c0] w fun e w' => ∃ v1_ : Value, e = .returned (.agg #[.bool r1, v1_, .int .i64 r3]) ∧ Kd.R (Kd.int .u32) 44 w' w.heap.size (fun _ => True) v1_ r2 ∧ Below w.heap.size w w' := by
 have HTAB := Aside0.mk htab_
 clear htab_
 have hu31 := Tryd.underlying31
 have HR0 := Aside0.mk hr0
 have HC0 := Aside0.mk hc0
 clear hr0 hc0
 have HB := Aside0.mk (Below.refl w.heap.size w)
 have H : (dy_Add.l0 k l0 (l0.length : Int) 0 false ([] : List Int) 0) = some (r1, r2, r3) := h
 clear h
 have H' := Aside0.mk H
 clear H
 go_enter Tryd.func7, Tryd.ntmps7
 go_wp2_with (first | ((with_reducible refine gate_dst (N := 2) rfl ?_); refine bx_ 2 #[.bool false, .slice none 0 0, .int .i64 0] 31 ?_; intro gb542 hg w2 hbox hb; have BK542 := Aside0.mk (hbox); have GW542 := ge_ hg HB; have GE542 := ge_ hg HB; replace HB := bq_ HB hb; clear hb hbox hg) | ((with_reducible refine gate_dst (N := 3) rfl ?_); refine bx_ 3 #[.bool false, .slice none 0 0, .int .i64 0] 31 ?_; intro gb543 hg w3 hbox hb; have BK543 := Aside0.mk (hbox); have GW543 := ge_ hg HB; have GE543 := ge_ hg HB; have NB542_543 := nb_ hg BK542; have NB543_542 := nc_ hg BK542; replace BK542 := kq_ BK542 hb; replace HB := bq_ HB hb; clear hb hbox hg))
 go_loopg [8] k (fun kq v8 w' => ∃ (x8_1 : Int) (x544000_1 : Bool) (x544001_1 : List Int) (x544002_1 : Int) (u544001 : Value), v8 = .int .i64 x8_1 ∧ Aside0 (dy_Add.l0 kq l0 (l0.length : Int) x8_1 x544000_1 x544001_1 x544002_1 = some (r1, r2, r3)) ∧ Aside0 (kq ≤ k) ∧ Aside0 (Kd.V (Kd.int .u32) 44 w' w.heap.size (fun k_ => k_ ≠ gb542 ∧ k_ ≠ gb543) u544001 x544001_1) ∧ Aside0 (w'.heap[gb542]? = some (.cells #[.bool false, (.slice none 0 0), .int .i64 0] 31 (0, 0))) ∧ Aside0 (w'.heap[gb543]? = some (.cells #[.bool x544000_1, u544001, .int .i64 x544002_1] 31 (0, 0))) ∧ Aside0 (Below w.heap.size w w'))
 case atStart => exact ⟨(0), (false), (([] : List Int)), (0), (.slice none 0 0), (by first | rfl | (simp; done) | (simp [*]; done)), H', ⟨Nat.le_refl _⟩, ⟨Kd.V_nil _ _ _ _ _⟩, ⟨kb_ BK542.out⟩, ⟨kb_ BK543.out⟩, ⟨bw_ HB.out⟩⟩
 case round =>
  clear H'
  try clear p2
  obtain ⟨x8_1, x544000_1, x544001_1, x544002_1, u544001, rfl, HA, HK1, HO_544001, BK542, BK543, HB⟩ := hrel
  cases gk with
  | zero => exact absurd HA.out (by simp [dy_Add.l0])
  | succ k1 =>
   have H := HA.out
   clear HA
   simp only [dy_Add.l0] at H
   by_cases c4 : x8_1 < (l0.length : Int)
   ·rw [if_pos c4] at H
    have c4b0 : decide (x8_1 < (l0.length : Int)) = true := decide_eq_true c4
    clear c4
    by_cases c5 : 0 ≤ x8_1
    ·rw [if_pos c5] at H
     have c5b0 : decide (0 ≤ x8_1) = true := decide_eq_true c5
     clear c5
     by_cases c6 : x8_1 < (l0.length : Int)
     ·rw [if_pos c6] at H
      have c6b0 : decide (x8_1 < (l0.length : Int)) = true := decide_eq_true c6
      clear c6
      replace H := Option.bind_eq_some_iff.mp H
      obtain ⟨⟨t546, t547, t550⟩, A70, H⟩ := H
      (try dsimp only at H)
      have A7 := Aside0.mk A70
      clear A70
      replace H := Option.bind_eq_some_iff.mp H
      obtain ⟨⟨t551, t552, t555⟩, A80, H⟩ := H
      (try dsimp only at H)
      have A8 := Aside0.mk A80
      clear A80
      have H' := Aside0.mk H
      clear H
      have p544 : 0 ≤ (x8_1 : Int) := of_decide_eq_true (by first | (with_reducible assumption) | assumption)
      have q544 : x8_1 < (l0.length : Int) := of_decide_eq_true (by first | (with_reducible assumption) | assumption)
      obtain ⟨ad544, A544_1, c544_1, e544, hx544_0, hx544_1, hx544_2, hl544_1, hi544_1⟩ := at_T31 HR0.out x8_1 p544 q544
      cases e544
      replace hx544_0 := (HB.out.cell (World.block_lt_of_cell? w _ hx544_0)).trans hx544_0
      replace hx544_1 := (HB.out.cell (World.block_lt_of_cell? w _ hx544_1)).trans hx544_1
      replace hx544_2 := (HB.out.cell (World.block_lt_of_cell? w _ hx544_2)).trans hx544_2
      have HR544_1 := Aside0.mk hi544_1
      have HC544_1 := Aside0.mk hl544_1
      clear hi544_1 hl544_1
      replace p544 := eq_true p544
      replace q544 := eq_true q544
      try go_wp2_with (first | ((with_reducible refine gate_dst (N := 5) rfl ?_); refine bx_ 5 #[.bool false, .slice none 0 0, .int .i64 0] 31 ?_; intro gb545 hg w9 hbox hb; have n0_ := Aside0.mk (Kd.V_below (Kd.V_elderB (by (with_reducible repeat (first | apply Kd.V_alloc | apply Kd.V_drewN | apply Kd.V_drew)); exact HO_544001.out) gb545 (Nat.le_of_eq hg.symm)) hb); have n1_ := kq_ BK542 hb; have n2_ := kq_ BK543 hb; have n3_ := bq_ HB hb; have n4_ := Aside0.mk (hbox); have n5_ := ge_ hg HB; have n6_ := ge_ hg HB; have n7_ := nb_ hg BK542; have n8_ := nc_ hg BK542; have n9_ := nb_ hg BK543; have n10_ := nc_ hg BK543; clear HO_544001; clear BK542; clear BK543; clear HB; have HO_544001 := n0_; have BK542 := n1_; have BK543 := n2_; have HB := n3_; have BK545 := n4_; have GW545 := n5_; have GE545 := n6_; have NB542_545 := n7_; have NB545_542 := n8_; have NB543_545 := n9_; have NB545_543 := n10_; clear n0_ n1_ n2_ n3_ n4_ n5_ n6_ n7_ n8_ n9_ n10_; clear hb hbox hg; have hnb10 := NB545_542.out; have hnc10 := NB542_545.out; have hnb11 := NB545_543.out; have hnc11 := NB543_545.out; obtain ⟨hcz12_0, hcz12_1, hcz12_2, hfz12_0, hfz12_1, hfz12_2⟩ := c3_ BK545))
      have n0_ : Aside0 (Kd.V (Kd.int .u32) 44 (((w9.setCell ⟨gb545, 0, none⟩ (.bool ((rd_T31 l0 x8_1).f0.f0))).setCell ⟨gb545, 1, none⟩ (.slice A544_1 ((rd_T31 l0 x8_1).f0.f1).length c544_1)).setCell ⟨gb545, 2, none⟩ (.int .i64 ((rd_T31 l0 x8_1).f1))) w.heap.size (fun k_ => k_ ≠ gb542 ∧ k_ ≠ gb543 ∧ k_ ≠ gb545) u544001 x544001_1) := ⟨by (with_reducible repeat (first | apply Kd.V_alloc | apply Kd.V_drewN | apply Kd.V_drew)); exact Kd.V_mono (Kd.V_far (p := ⟨gb545, 2, none⟩) (Kd.V_far (p := ⟨gb545, 1, none⟩) (Kd.V_far (p := ⟨gb545, 0, none⟩) (Kd.V_mono HO_544001.out (fun k_ hk => (⟨hk, hk.2⟩ : _ ∧ k_ ≠ gb545))) (fun _ hk => hk.2) (.bool ((rd_T31 l0 x8_1).f0.f0))) (fun _ hk => hk.2) (.slice A544_1 ((rd_T31 l0 x8_1).f0.f1).length c544_1)) (fun _ hk => hk.2) (.int .i64 ((rd_T31 l0 x8_1).f1))) (fun _ hk => by first | exact ⟨hk.1.1.1, ⟨hk.1.1.2, hk.1.2⟩⟩ | simp [hk])⟩
      have n1_ : Aside0 ((((w9.setCell ⟨gb545, 0, none⟩ (.bool ((rd_T31 l0 x8_1).f0.f0))).setCell ⟨gb545, 1, none⟩ (.slice A544_1 ((rd_T31 l0 x8_1).f0.f1).length c544_1)).setCell ⟨gb545, 2, none⟩ (.int .i64 ((rd_T31 l0 x8_1).f1))).heap[gb542]? = some (.cells #[.bool false, .slice none 0 0, .int .i64 0] 31 (0, 0))) := ⟨by refine kb_ ?_; refine bf_ NB542_545 ?_; refine bf_ NB542_545 ?_; refine bf_ NB542_545 ?_; exact BK542.out⟩
      have n2_ : Aside0 ((((w9.setCell ⟨gb545, 0, none⟩ (.bool ((rd_T31 l0 x8_1).f0.f0))).setCell ⟨gb545, 1, none⟩ (.slice A544_1 ((rd_T31 l0 x8_1).f0.f1).length c544_1)).setCell ⟨gb545, 2, none⟩ (.int .i64 ((rd_T31 l0 x8_1).f1))).heap[gb543]? = some (.cells #[.bool x544000_1, u544001, .int .i64 x544002_1] 31 (0, 0))) := ⟨by refine kb_ ?_; refine bf_ NB543_545 ?_; refine bf_ NB543_545 ?_; refine bf_ NB543_545 ?_; exact BK543.out⟩
      have n3_ : Aside0 ((((w9.setCell ⟨gb545, 0, none⟩ (.bool ((rd_T31 l0 x8_1).f0.f0))).setCell ⟨gb545, 1, none⟩ (.slice A544_1 ((rd_T31 l0 x8_1).f0.f1).length c544_1)).setCell ⟨gb545, 2, none⟩ (.int .i64 ((rd_T31 l0 x8_1).f1))).heap[gb545]? = some (.cells #[.bool ((rd_T31 l0 x8_1).f0.f0), .slice A544_1 ((rd_T31 l0 x8_1).f0.f1).length c544_1, .int .i64 ((rd_T31 l0 x8_1).f1)] 31 (0, 0))) := ⟨by refine kb_ ?_; refine bp_ #[.bool ((rd_T31 l0 x8_1).f0.f0), .slice A544_1 ((rd_T31 l0 x8_1).f0.f1).length c544_1, .int .i64 0] 2 ?_; refine bp_ #[.bool ((rd_T31 l0 x8_1).f0.f0), .slice none 0 0, .int .i64 0] 1 ?_; refine bp_ #[.bool false, .slice none 0 0, .int .i64 0] 0 ?_; exact BK545.out⟩
      have n4_ : Aside0 (Below w.heap.size w (((w9.setCell ⟨gb545, 0, none⟩ (.bool ((rd_T31 l0 x8_1).f0.f0))).setCell ⟨gb545, 1, none⟩ (.slice A544_1 ((rd_T31 l0 x8_1).f0.f1).length c544_1)).setCell ⟨gb545, 2, none⟩ (.int .i64 ((rd_T31 l0 x8_1).f1)))) := ⟨bw_ HB.out⟩
      (try clear HO_544001)
      (try clear BK542)
      (try clear BK543)
      (try clear BK545)
      (try clear HB)
      generalize (((w9.setCell ⟨gb545, 0, none⟩ (.bool ((rd_T31 l0 x8_1).f0.f0))).setCell ⟨gb545, 1, none⟩ (.slice A544_1 ((rd_T31 l0 x8_1).f0.f1).length c544_1)).setCell ⟨gb545, 2, none⟩ (.int .i64 ((rd_T31 l0 x8_1).f1))) = w13 at n0_ n1_ n2_ n3_ n4_ ⊢
      have HO_544001 := n0_
      have BK542 := n1_
      have BK543 := n2_
      have BK545 := n3_
      have HB := n4_
      clear n0_ n1_ n2_ n3_ n4_
      replace HO_544001 := Aside0.mk (Kd.V_drew HO_544001.out)
      replace BK542 := Aside0.mk (blk_drew BK542.out)
      replace BK543 := Aside0.mk (blk_drew BK543.out)
      replace BK545 := Aside0.mk (blk_drew BK545.out)
      replace HB := Aside0.mk (below_drew1 HB.out)
      refine start_ (n := 5) (S := fun w' => w'.cell? ⟨gb543, 0, none⟩ = some (.bool x544000_1) ∧ w'.cell? ⟨gb543, 1, none⟩ = some (u544001) ∧ w'.cell? ⟨gb543, 2, none⟩ = some (.int .i64 x544002_1) ∧ w'.cell? ⟨gb545, 0, none⟩ = some (.bool ((rd_T31 l0 x8_1).f0.f0)) ∧ w'.cell? ⟨gb545, 1, none⟩ = some (.slice A544_1 ((rd_T31 l0 x8_1).f0.f1).length c544_1) ∧ w'.cell? ⟨gb545, 2, none⟩ = some (.int .i64 ((rd_T31 l0 x8_1).f1))) (ds := [4]) #[false, false, false, false, false] (by kernel_rfl) rfl rfl ⟨(blk_cell BK543.out 0).trans rfl, (blk_cell BK543.out 1).trans rfl, (blk_cell BK543.out 2).trans rfl, (blk_cell BK545.out 0).trans rfl, (blk_cell BK545.out 1).trans rfl, (blk_cell BK545.out 2).trans rfl⟩ (fun hHeld => ?_)
      generalize w13.drew = w14 at HO_544001 BK542 BK543 BK545 HB hHeld ⊢
      refine take_ (i := 0) (N := some 12) (v := ?_) (a' := ?_) #[true, false, false, false, false] rfl rfl (by kernel_rfl) (fun _ _ _ h => h) (Or.inl ⟨by rfl, ?_⟩) hHeld ?_ ?_
      rotate_left
      ·rintro w' ⟨s0, s1, s2, s3, s4, s5⟩
       go_simp
       with_reducible rfl
      rotate_left
      ·exact pt_
      refine take_ (i := 1) (N := some 13) (v := ?_) (a' := ?_) #[true, true, false, false, false] rfl rfl (by kernel_rfl) (fun _ _ _ h => h) (Or.inl ⟨by rfl, ?_⟩) hHeld ?_ ?_
      rotate_left
      ·rintro w' ⟨s0, s1, s2, s3, s4, s5⟩
       go_simp
       with_reducible rfl
      rotate_left
      ·exact pt_
      refine one_ (i := 2) (N := some 14) #[true, true, true, false, false] rfl rfl (by kernel_rfl) (by decide) (fun K hK => ?_)
      refine gs_ Tryd.func19 #[.agg #[.bool ((rd_T31 l0 x8_1).f0.f0), .slice A544_1 ((rd_T31 l0 x8_1).f0.f1).length c544_1, .int .i64 ((rd_T31 l0 x8_1).f1)]] ?_
      with_reducible refine (dy_fair.calls k1 ((rd_T31 l0 x8_1).f0.f0) (fun k_ => k_ < w.heap.size) _ _ ((rd_T31 l0 x8_1).f0.f1) ((rd_T31 l0 x8_1).f1) t546 t547 t550 _ ?side1 A7.out ?sidet).mono ?_
      (case sidet => exact Kd.C_below HTAB.out (bw_ HB.out))
      (case side1 => exact Kd.V_mk HC544_1.out (Kd.F_below (Kd.C_F (Kd.heap_int .u32) HR544_1.out) (bw_ HB.out)))
      rintro e w15 ⟨v548, rfl, ho0, hb⟩
      refine ⟨_, rfl, ?_⟩
      have n0_ := Aside0.mk (Kd.V_below (by (with_reducible repeat (first | apply Kd.V_alloc | apply Kd.V_drewN | apply Kd.V_drew)); exact HO_544001.out) hb)
      have n1_ := Aside0.mk (Kd.V_lower (Kd.V_mono (ok' := fun k_ => k_ ≠ gb542 ∧ k_ ≠ gb543 ∧ k_ ≠ gb545) ho0 (fun k_ hk_ => ⟨Or.elim hk_ (fun hs_ => fun e_ => Nat.not_le.2 hs_ (by rw [e_]; exact GW542.out)) (fun hn_ => (Kd.freshB (g := gb542) (o := .cells #[.bool false, .slice none 0 0, .int .i64 0] 31 (0, 0)) (kb_ BK542.out) k_ hn_)), Or.elim hk_ (fun hs_ => fun e_ => Nat.not_le.2 hs_ (by rw [e_]; exact GW543.out)) (fun hn_ => (Kd.freshB (g := gb543) (o := .cells #[.bool x544000_1, u544001, .int .i64 x544002_1] 31 (0, 0)) (kb_ BK543.out) k_ hn_)), Or.elim hk_ (fun hs_ => fun e_ => Nat.not_le.2 hs_ (by rw [e_]; exact GW545.out)) (fun hn_ => (Kd.freshB (g := gb545) (o := .cells #[.bool ((rd_T31 l0 x8_1).f0.f0), .slice A544_1 ((rd_T31 l0 x8_1).f0.f1).length c544_1, .int .i64 ((rd_T31 l0 x8_1).f1)] 31 (0, 0)) (kb_ BK545.out) k_ hn_))⟩)) (below_size (bw_ HB.out)))
      have n2_ := kq_ BK542 hb
      have n3_ := kq_ BK543 hb
      have n4_ := Aside0.mk (blk_below (g := gb545) (o := .cells #[.bool ((rd_T31 l0 x8_1).f0.f0), .slice A544_1 ((rd_T31 l0 x8_1).f0.f1).length c544_1, .int .i64 ((rd_T31 l0 x8_1).f1)] 31 (0, 0)) (kb_ BK545.out) hb)
      have n5_ := bq_ HB hb
      clear HO_544001
      clear BK542
      clear BK543
      clear BK545
      clear HB
      have HO_544001 := n0_
      have HO549 := n1_
      have BK542 := n2_
      have BK543 := n3_
      have BK545 := n4_
      have HB := n5_
      clear n0_ n1_ n2_ n3_ n4_ n5_
      (try clear hb)
      (try clear hb2)
      (try clear hk)
      (try clear hi)
      (try clear ho0)
      obtain ⟨Ao16, co16, eo16⟩ := Kd.V_slice HO_544001.out
      (first | subst eo16 | (injection eo16 with f1_ f2_ f3_; have f4_ := f1_.symm; have f5_ := f3_.symm; clear f1_ f2_ f3_; subst f4_; subst f5_))
      obtain ⟨Ao17, co17, eo17⟩ := Kd.V_slice HO549.out
      (first | subst eo17 | (injection eo17 with f1_ f2_ f3_; have f4_ := f1_.symm; have f5_ := f3_.symm; clear f1_ f2_ f3_; subst f4_; subst f5_))
      refine hK.out _ _ ⟨(blk_cell BK543.out 0).trans rfl, (blk_cell BK543.out 1).trans rfl, (blk_cell BK543.out 2).trans rfl, (blk_cell BK545.out 0).trans rfl, (blk_cell BK545.out 1).trans rfl, (blk_cell BK545.out 2).trans rfl⟩ (fun hHeld => ?_)
      clear hK K
      refine norm_ (a' := ?_) ?_ ?_
      rotate_left
      ·show Act.put _ (some 14) _ = _
       exact pt_
      refine one_ (i := 3) (N := some 15) #[true, true, true, true, false] rfl rfl (by kernel_rfl) (by decide) (fun K hK => ?_)
      refine gs_ Tryd.func18 #[.agg #[.bool x544000_1, .slice Ao16 x544001_1.length co16, .int .i64 x544002_1], .agg #[.bool t546, .slice Ao17 t547.length co17, .int .i64 t550]] ?_
      with_reducible refine (dy_add.calls k1 x544000_1 (fun k_ => (k_ ≠ gb542 ∧ (k_ ≠ gb543 ∧ k_ ≠ gb545))) _ _ x544001_1 x544002_1 t546 (fun k_ => (k_ ≠ gb542 ∧ (k_ ≠ gb543 ∧ k_ ≠ gb545))) _ _ t547 t550 t551 t552 t555 _ ?side1 ?side2 A8.out ?sidet).mono ?_
      (case sidet => exact Kd.C_below HTAB.out (bw_ HB.out))
      (case side1 => exact HO_544001.out)
      (case side2 => exact HO549.out)
      rintro e w18 ⟨v553, rfl, ho0, hb⟩
      refine ⟨_, rfl, ?_⟩
      have n0_ := Aside0.mk (Kd.V_below (by (with_reducible repeat (first | apply Kd.V_alloc | apply Kd.V_drewN | apply Kd.V_drew)); exact HO_544001.out) hb)
      have n1_ := Aside0.mk (Kd.V_below (by (with_reducible repeat (first | apply Kd.V_alloc | apply Kd.V_drewN | apply Kd.V_drew)); exact HO549.out) hb)
      have n2_ := Aside0.mk (Kd.V_lower (Kd.V_mono (ok' := fun k_ => k_ ≠ gb542 ∧ k_ ≠ gb543 ∧ k_ ≠ gb545) ho0 (fun k_ hk_ => ⟨Or.elim hk_ (fun hs_ => Or.elim hs_ (fun hs_ => hs_.1) (fun hs_ => hs_.1)) (fun hn_ => (Kd.freshB (g := gb542) (o := .cells #[.bool false, .slice none 0 0, .int .i64 0] 31 (0, 0)) (kb_ BK542.out) k_ hn_)), Or.elim hk_ (fun hs_ => Or.elim hs_ (fun hs_ => hs_.2.1) (fun hs_ => hs_.2.1)) (fun hn_ => (Kd.freshB (g := gb543) (o := .cells #[.bool x544000_1, .slice Ao16 x544001_1.length co16, .int .i64 x544002_1] 31 (0, 0)) (kb_ BK543.out) k_ hn_)), Or.elim hk_ (fun hs_ => Or.elim hs_ (fun hs_ => hs_.2.2) (fun hs_ => hs_.2.2)) (fun hn_ => (Kd.freshB (g := gb545) (o := .cells #[.bool ((rd_T31 l0 x8_1).f0.f0), .slice A544_1 ((rd_T31 l0 x8_1).f0.f1).length c544_1, .int .i64 ((rd_T31 l0 x8_1).f1)] 31 (0, 0)) (kb_ BK545.out) k_ hn_))⟩)) (below_size (bw_ HB.out)))
      have n3_ := kq_ BK542 hb
      have n4_ := kq_ BK543 hb
      have n5_ := Aside0.mk (blk_below (g := gb545) (o := .cells #[.bool ((rd_T31 l0 x8_1).f0.f0), .slice A544_1 ((rd_T31 l0 x8_1).f0.f1).length c544_1, .int .i64 ((rd_T31 l0 x8_1).f1)] 31 (0, 0)) (kb_ BK545.out) hb)
      have n6_ := bq_ HB hb
      clear HO_544001
      clear HO549
      clear BK542
      clear BK543
      clear BK545
      clear HB
      have HO_544001 := n0_
      have HO549 := n1_
      have HO554 := n2_
      have BK542 := n3_
      have BK543 := n4_
      have BK545 := n5_
      have HB := n6_
      clear n0_ n1_ n2_ n3_ n4_ n5_ n6_
      (try clear hb)
      (try clear hb2)
      (try clear hk)
      (try clear hi)
      (try clear ho0)
      obtain ⟨Ao20, co20, eo20⟩ := Kd.V_slice HO554.out
      (first | subst eo20 | (injection eo20 with f1_ f2_ f3_; have f4_ := f1_.symm; have f5_ := f3_.symm; clear f1_ f2_ f3_; subst f4_; subst f5_))
      refine hK.out _ _ ⟨(blk_cell BK543.out 0).trans rfl, (blk_cell BK543.out 1).trans rfl, (blk_cell BK543.out 2).trans rfl, (blk_cell BK545.out 0).trans rfl, (blk_cell BK545.out 1).trans rfl, (blk_cell BK545.out 2).trans rfl⟩ (fun hHeld => ?_)
      clear hK K
      refine norm_ (a' := ?_) ?_ ?_
      rotate_left
      ·show Act.put _ (some 15) _ = _
       exact pt_
      refine last_ (i := 4) (N := none) #[true, true, true, true, true] rfl rfl (by kernel_rfl) (by decide) (fun K hK => ?_)
      have hs19 : w18.cell? ⟨gb543, 0, none⟩ = some (.bool x544000_1) := (blk_cell BK543.out 0).trans rfl
      have hfs19 := fz_ BK543 0
      have hns19_0 := NB542_543.out
      have hns19_2 := NB545_543.out
      have hms19_0 := NB543_542.out
      have hms19_2 := NB543_545.out
      have hs21 : w18.cell? ⟨gb543, 1, none⟩ = some (.slice Ao16 x544001_1.length co16) := (blk_cell BK543.out 1).trans rfl
      have hfs21 := fz_ BK543 1
      have hns21_0 := NB542_543.out
      have hns21_2 := NB545_543.out
      have hms21_0 := NB543_542.out
      have hms21_2 := NB543_545.out
      have hs22 : w18.cell? ⟨gb543, 2, none⟩ = some (.int .i64 x544002_1) := (blk_cell BK543.out 2).trans rfl
      have hfs22 := fz_ BK543 2
      have hns22_0 := NB542_543.out
      have hns22_2 := NB545_543.out
      have hms22_0 := NB543_542.out
      have hms22_2 := NB543_545.out
      refine skip_ (w1 := ?_) (by rfl) rfl ?_ ?_
      rotate_left
      ·go_simp
       rfl
      refine hK.out _ _ ?_
      clear hK K
      refine done_ (by kernel_rfl) ?_
      try go_wp2
      go_roundg k1
      case measure => have := HK1.out; omega
      case rel => exact ⟨(wrap64 (x8_1 + 1)), (t551), (t552), (t555), (.slice Ao20 t552.length co20), (by first | rfl | (simp; done) | (simp [*]; done)), H', ⟨by have := HK1.out; omega⟩, ⟨by (with_reducible repeat (first | apply Kd.V_alloc | apply Kd.V_drewN | apply Kd.V_drew)); exact Kd.V_mono (Kd.V_far (p := ⟨gb543, 2, none⟩) (Kd.V_far (p := ⟨gb543, 1, none⟩) (Kd.V_far (p := ⟨gb543, 0, none⟩) (Kd.V_mono HO554.out (fun k_ hk => (⟨hk, hk.2.1⟩ : _ ∧ k_ ≠ gb543))) (fun _ hk => hk.2) (.bool t551)) (fun _ hk => hk.2) (.slice Ao20 t552.length co20)) (fun _ hk => hk.2) (.int .i64 t555)) (fun _ hk => by first | exact ⟨hk.1.1, hk.1.2.1⟩ | (simp only [ob_map] at hk ⊢; exact ⟨hk.1.1, hk.1.2.1⟩))⟩, ⟨by refine kb_ ?_; refine bf_ NB542_543 ?_; refine bf_ NB542_543 ?_; refine bf_ NB542_543 ?_; exact BK542.out⟩, ⟨by refine kb_ ?_; refine bp_ #[.bool t551, .slice Ao20 t552.length co20, .int .i64 x544002_1] 2 ?_; refine bp_ #[.bool t551, .slice Ao16 x544001_1.length co16, .int .i64 x544002_1] 1 ?_; refine bp_ #[.bool x544000_1, .slice Ao16 x544001_1.length co16, .int .i64 x544002_1] 0 ?_; exact BK543.out⟩, ⟨bw_ HB.out⟩⟩
     ·rw [if_neg c6] at H
      exact absurd H (by simp)
    ·rw [if_neg c5] at H
     exact absurd H (by simp)
   ·rw [if_neg c4] at H
    have c4b0 : decide (x8_1 < (l0.length : Int)) = false := decide_eq_false c4
    clear c4
    replace H := Option.bind_eq_some_iff.mp H
    obtain ⟨⟨t556, t557, t560⟩, A230, H⟩ := H
    (try dsimp only at H)
    have A23 := Aside0.mk A230
    clear A230
    simp only [Option.some.injEq, Prod.mk.injEq] at H
    obtain ⟨rfl, rfl, rfl⟩ := H
    have hnb24 := NB543_542.out
    have hnc24 := NB542_543.out
    obtain ⟨hcz25_0, hcz25_1, hcz25_2, hfz25_0, hfz25_1, hfz25_2⟩ := c3_ BK543
    obtain ⟨Ao26, co26, eo26⟩ := Kd.V_slice HO_544001.out
    subst eo26
    go_wp2_with (first | ((with_reducible refine gate_callee (f := 20) rfl ?_); refine gl_ (some 18) Tryd.func20 #[.agg #[.bool x544000_1, .slice Ao26 x544001_1.length co26, .int .i64 x544002_1]] ?_; (with_reducible refine (dy_own.calls k1 x544000_1 _ _ x544001_1 x544002_1 t556 t557 t560 _ ?side1 ?side2 A23.out ?sidet).mono ?_); (case sidet => exact Kd.C_below HTAB.out (bw_ HB.out)); (case side1 => exact kc_ (Kd.V_reads' HO_544001.out).2.2); (case side2 => exact (Kd.V_reads' HO_544001.out).2.1); rintro e w27 ⟨v558, rfl, ho0, hb⟩; refine ⟨_, rfl, ?_⟩; have n0_ := Aside0.mk (Kd.V_elder' (by (with_reducible repeat (first | apply Kd.V_alloc | apply Kd.V_drewN | apply Kd.V_drew)); exact HO_544001.out) (Kd.R_base ho0) hb); have n1_ := Aside0.mk (Kd.R_lower ho0 (below_size (bw_ HB.out))); have n2_ := kq_ BK542 hb; have n3_ := kq_ BK543 hb; have n4_ := bq_ HB hb; clear HO_544001; clear BK542; clear BK543; clear HB; have HO_544001 := n0_; have HO559 := n1_; have BK542 := n2_; have BK543 := n3_; have HB := n4_; clear n0_ n1_ n2_ n3_ n4_; (try clear hb); (try clear hb2); (try clear hk); (try clear hi); (try clear ho0); obtain ⟨hcz28_0, hcz28_1, hcz28_2, hfz28_0, hfz28_1, hfz28_2⟩ := c3_ BK542; obtain ⟨Ao29, co29, eo29⟩ := Kd.R_slice HO559.out; subst eo29))
    refine bodyPost_ret (results_cell_row rfl _ _ gb542 31 #[.bool t556, .slice Ao29 t557.length co29, .int .i64 t560] (0, 0) _ rfl (by refine kb_ ?_; refine bp_ #[.bool t556, .slice Ao29 t557.length co29, .int .i64 0] 2 ?_; refine bp_ #[.bool t556, .slice none 0 0, .int .i64 0] 1 ?_; refine bp_ #[.bool false, .slice none 0 0, .int .i64 0] 0 ?_; exact BK542.out) Tryd.underlying31 rfl (by kernel_rfl)) rfl ?_
    exact ⟨_, rf_, by (with_reducible repeat (first | apply Kd.R_alloc | apply Kd.R_drewN | apply Kd.R_drew)); exact Kd.R_mono (Kd.R_far (p := ⟨gb542, 2, none⟩) (Kd.R_far (p := ⟨gb542, 1, none⟩) (Kd.R_far (p := ⟨gb542, 0, none⟩) (Kd.R_types HO559.out BK542.out (by decide)) (fun _ hk => hk.2) (.bool t556)) (fun _ hk => hk.2) (.slice Ao29 t557.length co29)) (fun _ hk => hk.2) (.int .i64 t560)) (fun _ hk => trivial), bw_ HB.out⟩

/-! ### nat_Mul: function 41 -/
set_option maxHeartbeats 8000000 in
set_option maxRecDepth 100000 in
theorem nat_Mul.calls (k : Nat) (A0 : Option Addr) (c0 : Nat) (l0 : List Int) (A1 : Option Addr) (c1 : Nat) (l1 : List Int) (r : List Int) (w : World) (hr0 : Kd.C (Kd.int .u32) w A0 l0.length l0) (hc0 : l0.length ≤ c0) (hr1 : Kd.C (Kd.int .u32) w A1 l1.length l1) (hc1 : l1.length ≤ c1) (h : nat_Mul.f k l0 l1 = some r) :
  Calls Tryd.prog 41 #[.slice A0 l0.length c0, .slice A1 l1.length c1] w fun e w' => ∃ v0_ : Value, e = .returned (v0_) ∧ Kd.R (Kd.int .u32) 44 w' w.heap.size (fun _ => True) v0_ r ∧ Below w.heap.size w w' := by
 have HR0 := Aside0.mk hr0
 have HC0 := Aside0.mk hc0
 clear hr0 hc0
 have HR1 := Aside0.mk hr1
 have HC1 := Aside0.mk hc1
 clear hr1 hc1
 have HB := Aside0.mk (Below.refl w.heap.size w)
 have H : (if 0 ≤ (wrap64 ((l0.length : Int) + (l1.length : Int))) then (if (wrap64 ((l0.length : Int) + (l1.length : Int)) : Int).toNat ≤ 70368744177664 then (nat_Mul.l0 k l1 (List.replicate (wrap64 ((l0.length : Int) + (l1.length : Int)) : Int).toNat 0) l0 (l0.length : Int) 0) else (none)) else (none)) = some r := h
 clear h
 obtain ⟨ji3, hji3⟩ : ∃ j_ : Int, (wrap64 ((l0.length : Int) + (l1.length : Int))) = j_ := ⟨_, rfl⟩
 (first | rw [hji3] at H | simp only [hji3] at H)
 have hji3w : (IntKind.i64.wrap ((l0.length : Int) + (l1.length : Int))) = ji3 := (i64_w _).trans hji3
 by_cases c4 : 0 ≤ (ji3)
 ·rw [if_pos c4] at H
  have c4b0 := eq_true c4
  have c4b1 : decide (0 ≤ (ji3)) = true := decide_eq_true c4
  clear c4
  by_cases c5 : (ji3 : Int).toNat ≤ 70368744177664
  ·rw [if_pos c5] at H
   have c5b0 := eq_true c5
   have c5b1 : decide ((ji3 : Int).toNat ≤ 70368744177664) = true := decide_eq_true c5
   clear c5
   obtain ⟨y561, hy561⟩ : ∃ y_ : List Int, y_ = (List.replicate (ji3 : Int).toNat 0) := ⟨_, rfl⟩
   replace H : (nat_Mul.l0 k l1 y561 l0 (l0.length : Int) 0) = some r := by first | (rw [hy561]; with_reducible exact H) | (have H2_ := (Option.bind_some _ _).symm.trans H; rw [hy561]; with_reducible exact H2_) | (have H2_ := (Option.bind_some _ _).symm.trans H; with_reducible exact H2_) | with_reducible exact H | (rw [hy561]; exact H) | exact H
   have Ny561 := Aside0.mk hy561
   clear hy561
   have H' := Aside0.mk H
   clear H
   go_enter Tryd.func41, Tryd.ntmps41
   go_wp2_with (first | ((with_reducible refine gate_dst (N := 17) rfl ?_); refine Kd.R_make (Kd.int .u32) _ 44 rfl (N := 17) rfl 27 _ _ rfl ji3 rfl rfl Tryd.underlying27 (.int .u32 0) 4 info44 rfl (by decide) (by omega) 0 (ok := fun _ => True) (okp := fun _ => True) rfl (fun _ hk => hk) trivial (of_decide_eq_true (by first | (with_reducible assumption) | assumption)) (Nat.le_trans (Nat.mul_le_mul_right _ (of_decide_eq_true (by first | (with_reducible assumption) | assumption) : ji3.toNat ≤ 70368744177664)) (by omega)) (Below.refl _ _) (Nat.le_refl _) ?_; intro v562 w6 ho7 hb hg_ hnew_; clear hg_ hnew_; (first | rw [← Ny561.out] at ho7 | (simp only [Int.reduceToNat] at ho7; rw [← Ny561.out] at ho7)); have HO563 := Aside0.mk (Kd.R_lower ho7 (below_size (bw_ HB.out))); replace HB := bq_ HB hb; clear hb ho7))
   go_loopg [20] k (fun kq v20 w' => ∃ (x5_1 : List Int) (x20_1 : Int), v20 = .int .i64 x20_1 ∧ Aside0 (nat_Mul.l0 kq l1 x5_1 l0 (l0.length : Int) x20_1 = some r) ∧ Aside0 (kq ≤ k) ∧ Aside0 (Kd.R (Kd.int .u32) 44 w' w.heap.size (fun _ => True) v562 x5_1) ∧ Aside0 (Below w.heap.size w w'))
   case atStart => exact ⟨(y561), (0), (by first | rfl | (simp; done) | (simp [*]; done)), H', ⟨Nat.le_refl _⟩, ⟨by (with_reducible repeat (first | apply Kd.R_alloc | apply Kd.R_drewN | apply Kd.R_drew)); exact HO563.out⟩, ⟨bw_ HB.out⟩⟩
   case round =>
    clear H'
    try clear c1
    try clear p2
    try clear c4
    try clear c4b0
    try clear c4b1
    try clear c5
    try clear c5b0
    try clear c5b1
    try clear p6
    obtain ⟨x5_1, x20_1, rfl, HA, HK1, HO_5, HB⟩ := hrel
    cases gk with
    | zero => exact absurd HA.out (by simp [nat_Mul.l0])
    | succ k1 =>
     have H := HA.out
     clear HA
     simp only [nat_Mul.l0] at H
     by_cases c8 : x20_1 < (l0.length : Int)
     ·rw [if_pos c8] at H
      have c8b0 : decide (x20_1 < (l0.length : Int)) = true := decide_eq_true c8
      clear c8
      by_cases c9 : 0 ≤ x20_1
      ·rw [if_pos c9] at H
       have c9b0 : decide (0 ≤ x20_1) = true := decide_eq_true c9
       clear c9
       by_cases c10 : x20_1 < (l0.length : Int)
       ·rw [if_pos c10] at H
        have c10b0 : decide (x20_1 < (l0.length : Int)) = true := decide_eq_true c10
        clear c10
        have H' := Aside0.mk H
        clear H
        have p567 : 0 ≤ (x20_1 : Int) := of_decide_eq_true (by first | (with_reducible assumption) | assumption)
        have q567 : x20_1 < (l0.length : Int) := of_decide_eq_true (by first | (with_reducible assumption) | assumption)
        obtain ⟨ad567, e567, hx567_0⟩ := Kd.at_int HR0.out x20_1 p567 q567
        cases e567
        replace hx567_0 := (HB.out.cell (World.block_lt_of_cell? w _ hx567_0)).trans hx567_0
        replace p567 := eq_true p567
        replace q567 := eq_true q567
        go_wp2
        go_loopg [8, 27] k1 (fun kq v8 v27 w' => ∃ (x5_2 : List Int) (x8_2 : Int) (x27_2 : Int), v8 = .int .u64 x8_2 ∧ v27 = .int .i64 x27_2 ∧ Aside0 (nat_Mul.l1 kq l1 x5_2 x20_1 (rd l0 x20_1) x8_2 l0 (l0.length : Int) x20_1 l1 (l1.length : Int) x27_2 = some r) ∧ Aside0 (kq ≤ k1) ∧ Aside0 (Kd.R (Kd.int .u32) 44 w' w.heap.size (fun _ => True) v562 x5_2) ∧ Aside0 (Below w.heap.size w w'))
        case atStart => exact ⟨(x5_1), (0), (0), (by first | rfl | (simp; done) | (simp [*]; done)), (by first | rfl | (simp; done) | (simp [*]; done)), H', ⟨Nat.le_refl _⟩, ⟨by (with_reducible repeat (first | apply Kd.R_alloc | apply Kd.R_drewN | apply Kd.R_drew)); exact HO_5.out⟩, ⟨bw_ HB.out⟩⟩
        case round =>
         clear H'
         try clear c1
         try clear p2
         try clear c4
         try clear c4b0
         try clear c4b1
         try clear c5
         try clear c5b0
         try clear c5b1
         try clear p5
         try clear q5
         try clear hx5
         try clear p6
         try clear c8
         try clear c8b0
         try clear c9
         try clear c9b0
         try clear c10
         try clear c10b0
         try clear hx567_0
         try clear p2
         try clear p567
         try clear p6
         try clear q567
         obtain ⟨x5_2, x8_2, x27_2, rfl, rfl, HA, HK2, HO_5, HB⟩ := hrel
         cases gk with
         | zero => exact absurd HA.out (by simp [nat_Mul.l1])
         | succ k2 =>
          have H := HA.out
          clear HA
          simp only [nat_Mul.l1] at H
          by_cases c11 : x27_2 < (l1.length : Int)
          ·rw [if_pos c11] at H
           have c11b0 : decide (x27_2 < (l1.length : Int)) = true := decide_eq_true c11
           clear c11
           by_cases c12 : 0 ≤ x27_2
           ·rw [if_pos c12] at H
            have c12b0 : decide (0 ≤ x27_2) = true := decide_eq_true c12
            clear c12
            by_cases c13 : x27_2 < (l1.length : Int)
            ·rw [if_pos c13] at H
             have c13b0 : decide (x27_2 < (l1.length : Int)) = true := decide_eq_true c13
             clear c13
             obtain ⟨ji14, hji14⟩ : ∃ j_ : Int, (wrap64 (x20_1 + x27_2)) = j_ := ⟨_, rfl⟩
             (first | rw [hji14] at H | simp only [hji14] at H)
             have hji14w : (IntKind.i64.wrap (x20_1 + x27_2)) = ji14 := (i64_w _).trans hji14
             by_cases c15 : 0 ≤ (ji14)
             ·rw [if_pos c15] at H
              have c15b0 : decide (0 ≤ (ji14)) = true := decide_eq_true c15
              clear c15
              by_cases c16 : (ji14) < (x5_2.length : Int)
              ·rw [if_pos c16] at H
               have c16b0 : decide ((ji14) < (x5_2.length : Int)) = true := decide_eq_true c16
               clear c16
               obtain ⟨y570, hy570⟩ : ∃ y_ : List Int, y_ = (x5_2.set ((ji14) : Int).toNat ((IntKind.u64.wrap ((IntKind.u64.wrap ((IntKind.u64.wrap ((IntKind.u64.wrap ((rd l0 x20_1))) * (IntKind.u64.wrap (rd l1 x27_2)))) + (IntKind.u64.wrap (rd x5_2 (ji14))))) + x8_2)) % 4294967296)) := ⟨_, rfl⟩
               replace H : (nat_Mul.l1 k2 l1 y570 x20_1 (rd l0 x20_1) ((IntKind.u64.wrap ((IntKind.u64.wrap ((IntKind.u64.wrap ((IntKind.u64.wrap ((rd l0 x20_1))) * (IntKind.u64.wrap (rd l1 x27_2)))) + (IntKind.u64.wrap (rd x5_2 (ji14))))) + x8_2)) / 4294967296) l0 (l0.length : Int) x20_1 l1 (l1.length : Int) (wrap64 (x27_2 + 1))) = some r := by first | (rw [hy570]; with_reducible exact H) | (have H2_ := (Option.bind_some _ _).symm.trans H; rw [hy570]; with_reducible exact H2_) | (have H2_ := (Option.bind_some _ _).symm.trans H; with_reducible exact H2_) | with_reducible exact H | (rw [hy570]; exact H) | exact H
               have Ny570 := Aside0.mk hy570
               clear hy570
               have H' := Aside0.mk H
               clear H
               have p568 : 0 ≤ (x27_2 : Int) := of_decide_eq_true (by first | (with_reducible assumption) | assumption)
               have q568 : x27_2 < (l1.length : Int) := of_decide_eq_true (by first | (with_reducible assumption) | assumption)
               obtain ⟨ad568, e568, hx568_0⟩ := Kd.at_int HR1.out x27_2 p568 q568
               cases e568
               replace hx568_0 := (HB.out.cell (World.block_lt_of_cell? w _ hx568_0)).trans hx568_0
               replace p568 := eq_true p568
               replace q568 := eq_true q568
               obtain ⟨Ao18, co18, eo18⟩ := Kd.R_slice HO_5.out
               subst eo18
               have p569 : 0 ≤ ((ji14) : Int) := of_decide_eq_true (by first | (with_reducible assumption) | assumption)
               have q569 : (ji14) < (x5_2.length : Int) := of_decide_eq_true (by first | (with_reducible assumption) | assumption)
               obtain ⟨ad569, e569, hx569_0⟩ := Kd.at_int (Kd.R_reads' HO_5.out).2.2 (ji14) p569 q569
               cases e569
               replace p569 := eq_true p569
               replace q569 := eq_true q569
               have p17 : 0 ≤ ((ji14) : Int) := of_decide_eq_true (by first | (with_reducible assumption) | assumption)
               have q17 : ((ji14) : Int) < ((x5_2.length : Int) : Int) := of_decide_eq_true (by first | (with_reducible assumption) | assumption)
               obtain ⟨go17, co17, eo17, gb17, gl17, cl17, HG17⟩ := Kd.R_form HO_5.out (by omega)
               (first | cases eo17 | (injection eo17 with ea_ en_ ec_; (first | subst ea_ | (injection ea_ with ea_; subst ea_)); subst ec_; clear en_))
               have GB17 := Aside0.mk gb17
               have GG17 := Aside0.mk HG17
               clear gb17 gl17 HG17
               (first | simp only [add_plain] at hx569_0 | skip)
               obtain ⟨hx17_0, hf17_0⟩ := Kd.R_celln 0 HO_5.out ((ji14) : Int) p17 q17
               replace p17 := eq_true p17
               replace q17 := eq_true q17
               have HP19 := Kd.R_putg HO_5.out ((ji14) : Int) ((IntKind.u64.wrap ((IntKind.u64.wrap ((IntKind.u64.wrap ((IntKind.u64.wrap ((rd l0 x20_1))) * (IntKind.u64.wrap (rd l1 x27_2)))) + (IntKind.u64.wrap (rd x5_2 (ji14))))) + x8_2)) % 4294967296)
               go_wp2_with (first | ((with_reducible refine gate_store (t := 44) (p := 55) rfl ?_); refine store_event (t := 44) (p := 55) (v := ?vo_w20) (w1 := (wr.setCell ⟨go17, ((ji14) : Int).toNat, none⟩ (.int .u32 ((IntKind.u64.wrap ((IntKind.u64.wrap ((IntKind.u64.wrap ((IntKind.u64.wrap ((rd l0 x20_1))) * (IntKind.u64.wrap (rd l1 x27_2)))) + (IntKind.u64.wrap (rd x5_2 (ji14))))) + x8_2)) % 4294967296)))) ?hg ?ho ?hn ?hr ?_; (case ho => rfl); (case hg => rfl); (case hn => rfl); (case hr => first | (go_simp; done) | (go_simp; rfl)); intro w20 hw; have hg : wr.grownBy w20 (some go17) := (by rw [hw]; exact HP19.2); have hp_ : Kd.R (Kd.int .u32) 44 w20 w.heap.size (fun _ => True) (.slice (some ⟨go17, 0, none⟩) x5_2.length co18) y570 := (by rw [hw, Ny570.out]; exact HP19.1); clear HP19; have n0_ := Aside0.mk (hp_); have n1_ := Aside0.mk ((by rw [hw]; exact below_set (HB.out) GB17.out : Below w.heap.size w w20)); clear HO_5; clear HB; have HO_5 := n0_; have HB := n1_; clear n0_ n1_; clear hg hw hp_))
               go_roundg k2
               case measure => have := HK1.out; have := HK2.out; omega
               case rel => exact ⟨(y570), ((IntKind.u64.wrap ((IntKind.u64.wrap ((IntKind.u64.wrap ((IntKind.u64.wrap ((rd l0 x20_1))) * (IntKind.u64.wrap (rd l1 x27_2)))) + (IntKind.u64.wrap (rd x5_2 (ji14))))) + x8_2)) / 4294967296), (wrap64 (x27_2 + 1)), (by first | rfl | (simp; done) | (simp only [← hji14] <;> (first | rfl | simp)) | (simp [*]; done)), (by first | rfl | (simp; done) | (simp [*]; done)), H', ⟨by have := HK1.out; have := HK2.out; omega⟩, ⟨by (with_reducible repeat (first | apply Kd.R_alloc | apply Kd.R_drewN | apply Kd.R_drew)); exact HO_5.out⟩, ⟨bw_ HB.out⟩⟩
              ·rw [if_neg c16] at H
               exact absurd H (by simp)
             ·rw [if_neg c15] at H
              exact absurd H (by simp)
            ·rw [if_neg c13] at H
             exact absurd H (by simp)
           ·rw [if_neg c12] at H
            exact absurd H (by simp)
          ·rw [if_neg c11] at H
           have c11b0 : decide (x27_2 < (l1.length : Int)) = false := decide_eq_false c11
           clear c11
           obtain ⟨ji21, hji21⟩ : ∃ j_ : Int, (wrap64 (x20_1 + (l1.length : Int))) = j_ := ⟨_, rfl⟩
           (first | rw [hji21] at H | simp only [hji21] at H)
           have hji21w : (IntKind.i64.wrap (x20_1 + (l1.length : Int))) = ji21 := (i64_w _).trans hji21
           by_cases c22 : 0 ≤ (ji21)
           ·rw [if_pos c22] at H
            have c22b0 : decide (0 ≤ (ji21)) = true := decide_eq_true c22
            clear c22
            by_cases c23 : (ji21) < (x5_2.length : Int)
            ·rw [if_pos c23] at H
             have c23b0 : decide ((ji21) < (x5_2.length : Int)) = true := decide_eq_true c23
             clear c23
             obtain ⟨y571, hy571⟩ : ∃ y_ : List Int, y_ = (x5_2.set ((ji21) : Int).toNat ((x8_2) % 4294967296)) := ⟨_, rfl⟩
             replace H : (nat_Mul.l0 k2 l1 y571 l0 (l0.length : Int) (wrap64 (x20_1 + 1))) = some r := by first | (rw [hy571]; with_reducible exact H) | (have H2_ := (Option.bind_some _ _).symm.trans H; rw [hy571]; with_reducible exact H2_) | (have H2_ := (Option.bind_some _ _).symm.trans H; with_reducible exact H2_) | with_reducible exact H | (rw [hy571]; exact H) | exact H
             have Ny571 := Aside0.mk hy571
             clear hy571
             have H' := Aside0.mk H
             clear H
             have p24 : 0 ≤ ((ji21) : Int) := of_decide_eq_true (by first | (with_reducible assumption) | assumption)
             have q24 : ((ji21) : Int) < ((x5_2.length : Int) : Int) := of_decide_eq_true (by first | (with_reducible assumption) | assumption)
             obtain ⟨go24, co24, eo24, gb24, gl24, cl24, HG24⟩ := Kd.R_form HO_5.out (by omega)
             (first | cases eo24 | (injection eo24 with ea_ en_ ec_; (first | subst ea_ | (injection ea_ with ea_; subst ea_)); subst ec_; clear en_))
             have GB24 := Aside0.mk gb24
             have GG24 := Aside0.mk HG24
             clear gb24 gl24 HG24
             obtain ⟨hx24_0, hf24_0⟩ := Kd.R_celln 0 HO_5.out ((ji21) : Int) p24 q24
             replace p24 := eq_true p24
             replace q24 := eq_true q24
             have HP25 := Kd.R_putg HO_5.out ((ji21) : Int) ((x8_2) % 4294967296)
             go_wp2_with (first | ((with_reducible refine gate_store (t := 44) (p := 64) rfl ?_); refine store_event (t := 44) (p := 64) (v := ?vo_w26) (w1 := (wr.setCell ⟨go24, ((ji21) : Int).toNat, none⟩ (.int .u32 ((x8_2) % 4294967296)))) ?hg ?ho ?hn ?hr ?_; (case ho => rfl); (case hg => rfl); (case hn => rfl); (case hr => first | (go_simp; done) | (go_simp; rfl)); intro w26 hw; have hg : wr.grownBy w26 (some go24) := (by rw [hw]; exact HP25.2); have hp_ : Kd.R (Kd.int .u32) 44 w26 w.heap.size (fun _ => True) (.slice (some ⟨go24, 0, none⟩) x5_2.length co24) y571 := (by rw [hw, Ny571.out]; exact HP25.1); clear HP25; have n0_ := Aside0.mk (hp_); have n1_ := Aside0.mk ((by rw [hw]; exact below_set (HB.out) GB24.out : Below w.heap.size w w26)); clear HO_5; clear HB; have HO_5 := n0_; have HB := n1_; clear n0_ n1_; clear hg hw hp_))
             go_roundg k2
             case measure => have := HK1.out; have := HK2.out; omega
             case rel => exact ⟨(y571), (wrap64 (x20_1 + 1)), (by first | rfl | (simp; done) | (simp [*]; done)), H', ⟨by have := HK1.out; have := HK2.out; omega⟩, ⟨by (with_reducible repeat (first | apply Kd.R_alloc | apply Kd.R_drewN | apply Kd.R_drew)); exact HO_5.out⟩, ⟨bw_ HB.out⟩⟩
            ·rw [if_neg c23] at H
             exact absurd H (by simp)
           ·rw [if_neg c22] at H
            exact absurd H (by simp)
       ·rw [if_neg c10] at H
        exact absurd H (by simp)
      ·rw [if_neg c9] at H
       exact absurd H (by simp)
     ·rw [if_neg c8] at H
      have c8b0 : decide (x20_1 < (l0.length : Int)) = false := decide_eq_false c8
      clear c8
      replace H := Option.bind_eq_some_iff.mp H
      obtain ⟨t564, A270, H⟩ := H
      (try dsimp only at H)
      have A27 := Aside0.mk A270
      clear A270
      obtain rfl := Option.some.inj H
      obtain ⟨Ao28, co28, eo28⟩ := Kd.R_slice HO_5.out
      subst eo28
      go_wp2_with (first | ((with_reducible refine gate_callee (f := 50) rfl ?_); refine gl_ (some 67) Tryd.func50 #[.slice Ao28 x5_1.length co28] ?_; (with_reducible refine (nat_cut_own.calls k1 (fun k_ => some k_ = (.slice Ao28 x5_1.length co28 : Value).ownBlock) (.slice Ao28 x5_1.length co28) x5_1 t564 w _ ?side1 ?side2 A27.out).mono ?_); (case side1 => repeat (first | (with_reducible first | exact HB.out | apply below_alloc | apply pw_below_drewN | apply below_drew1) | exact HB.out)); (case side2 => exact Kd.R_tight rfl HO_5.out); rintro e w29 ⟨v565, rfl, ho0, hb, hkp⟩; refine ⟨_, rfl, ?_⟩; have HO566 := Aside0.mk (Kd.R_mono (ok' := fun k_ => True) ho0 (fun k_ hk_ => trivial)); replace HB := Aside0.mk (hb); clear HO_5; (try clear hb); (try clear hkp); (try clear ho0)))
      go_ret
      exact ⟨_, by first | rfl | (simp [errW_none, errW_some] <;> rfl) | (simp only [← hji3]; first | rfl | (simp [errW_none, errW_some] <;> rfl)) | (simp [*, errW_none, errW_some] <;> rfl), by (with_reducible repeat (first | apply Kd.R_alloc | apply Kd.R_drewN | apply Kd.R_drew)); exact HO566.out, bw_ HB.out⟩
  ·rw [if_neg c5] at H
   exact absurd H (by simp)
 ·rw [if_neg c4] at H
  exact absurd H (by simp)

/-! ### whole_Mul: function 21 -/
theorem whole_Mul.tab5 : rtab .any (opsOf Tryd.f21 5) = whole_Mul.T5 := by kernel_rfl
theorem whole_Mul.bits5 : waitsOk whole_Mul.T5.2 whole_Mul.B5 = true := by kernel_rfl
set_option maxHeartbeats 8000000 in
set_option maxRecDepth 100000 in
theorem whole_Mul.calls (k : Nat) (A0 : Option Addr) (c0 : Nat) (l0 : List (S29)) (r1 : Bool) (r2 : List Int) (w : World) (hr0 : Kd.C k29 w A0 l0.length l0) (hc0 : l0.length ≤ c0) (h : whole_Mul.f k l0 = some (r1, r2)) :
  Calls Tryd.prog 21 #[.slice A0 l0.length c0] w fun e w' => ∃ v1_ : Value, e = .returned (.agg #[.bool r1, v1_]) ∧ Kd.R (Kd.int .u32) 44 w' w.heap.size (fun _ => True) v1_ r2 ∧ Below w.heap.size w w' := by
 have hu29 := Tryd.underlying29
 have HR0 := Aside0.mk hr0
 have HC0 := Aside0.mk hc0
 clear hr0 hc0
 have HB := Aside0.mk (Below.refl w.heap.size w)
 have H : (whole_Mul.l0 k false (([1] : List Int)) l0 (l0.length : Int) 0) = some (r1, r2) := h
 clear h
 obtain ⟨y573, hy573⟩ : ∃ y_ : List Int, y_ = (([1] : List Int)) := ⟨_, rfl⟩
 replace H : (whole_Mul.l0 k false y573 l0 (l0.length : Int) 0) = some (r1, r2) := by first | (rw [hy573]; with_reducible exact H) | (have H2_ := (Option.bind_some _ _).symm.trans H; rw [hy573]; with_reducible exact H2_) | (have H2_ := (Option.bind_some _ _).symm.trans H; with_reducible exact H2_) | with_reducible exact H | (rw [hy573]; exact H) | exact H
 have Ny573 := Aside0.mk hy573
 clear hy573
 have H' := Aside0.mk H
 clear H
 go_enter Tryd.func21, Tryd.ntmps21
 go_wp2_with (first | ((with_reducible refine gate_dst (N := 2) rfl ?_); refine bx_ 2 #[.bool false, .slice none 0 0] 29 ?_; intro gb572 hg w2 hbox hb; have BK572 := Aside0.mk (hbox); have GW572 := ge_ hg HB; have GE572 := ge_ hg HB; replace HB := bq_ HB hb; clear hb hbox hg) | ((with_reducible refine gate_dst (N := 7) rfl ?_); refine Kd.R_lit (Kd.int .u32) _ 44 ?hg (N := 7) ?hd (xs := ([1] : List Int)) (inner := [.int .u32 1]) (ok := fun _ => True) (okp := fun _ => True) ?hr ?hp (fun _ hk => hk) trivial (Below.refl _ _) (Nat.le_refl _) (by simp) ?_; (case hd => rfl); (case hg => rfl); (case hr => first | (go_simp; done) | (go_simp; rfl)); (case hp => exact (Reps.one (show Kd.M (Kd.int .u32) _ _ _ 1 [.int .u32 1] from rfl) (Reps.none _ _))); intro v574 w3 ho4 hb hg_ hnew_; clear hg_ hnew_; (first | rw [← Ny573.out] at ho4 | (simp only [Int.reduceToNat] at ho4; rw [← Ny573.out] at ho4)); have HO575 := Aside0.mk (Kd.R_lower ho4 (below_size (bw_ HB.out))); replace BK572 := kq_ BK572 hb; replace HB := bq_ HB hb; clear hb ho4))
 go_loopg [3, 4, 10] k (fun kq v3 v4 v10 w' => ∃ (x3_1 : Bool) (x4_1 : List Int) (x10_1 : Int), v3 = .bool x3_1 ∧ v10 = .int .i64 x10_1 ∧ Aside0 (whole_Mul.l0 kq x3_1 x4_1 l0 (l0.length : Int) x10_1 = some (r1, r2)) ∧ Aside0 (kq ≤ k) ∧ Aside0 (Kd.R (Kd.int .u32) 44 w' w.heap.size (fun _ => True) v4 x4_1) ∧ Aside0 (w'.heap[gb572]? = some (.cells #[.bool false, (.slice none 0 0)] 29 (0, 0))) ∧ Aside0 (Below w.heap.size w w'))
 case atStart => exact ⟨(false), (y573), (0), (by first | rfl | (simp; done) | (simp [*]; done)), (by first | rfl | (simp; done) | (simp [*]; done)), H', ⟨Nat.le_refl _⟩, ⟨by (with_reducible repeat (first | apply Kd.R_alloc | apply Kd.R_drewN | apply Kd.R_drew)); exact HO575.out⟩, ⟨kb_ BK572.out⟩, ⟨bw_ HB.out⟩⟩
 case round =>
  clear H'
  try clear c2
  try clear p2
  obtain ⟨x3_1, x4_1, x10_1, rfl, rfl, HA, HK1, HO_4, BK572, HB⟩ := hrel
  cases gk with
  | zero => exact absurd HA.out (by simp [whole_Mul.l0])
  | succ k1 =>
   have H := HA.out
   clear HA
   simp only [whole_Mul.l0] at H
   by_cases c5 : x10_1 < (l0.length : Int)
   ·rw [if_pos c5] at H
    have c5b0 : decide (x10_1 < (l0.length : Int)) = true := decide_eq_true c5
    clear c5
    by_cases c6 : 0 ≤ x10_1
    ·rw [if_pos c6] at H
     have c6b0 : decide (0 ≤ x10_1) = true := decide_eq_true c6
     clear c6
     by_cases c7 : x10_1 < (l0.length : Int)
     ·rw [if_pos c7] at H
      have c7b0 : decide (x10_1 < (l0.length : Int)) = true := decide_eq_true c7
      clear c7
      replace H := Option.bind_eq_some_iff.mp H
      obtain ⟨t578, A80, H⟩ := H
      (try dsimp only at H)
      have A8 := Aside0.mk A80
      clear A80
      have H' := Aside0.mk H
      clear H
      have p576 : 0 ≤ (x10_1 : Int) := of_decide_eq_true (by first | (with_reducible assumption) | assumption)
      have q576 : x10_1 < (l0.length : Int) := of_decide_eq_true (by first | (with_reducible assumption) | assumption)
      obtain ⟨ad576, A576_1, c576_1, e576, hx576_0, hx576_1, hl576_1, hi576_1⟩ := at_T29 HR0.out x10_1 p576 q576
      cases e576
      replace hx576_0 := (HB.out.cell (World.block_lt_of_cell? w _ hx576_0)).trans hx576_0
      replace hx576_1 := (HB.out.cell (World.block_lt_of_cell? w _ hx576_1)).trans hx576_1
      have HR576_1 := Aside0.mk hi576_1
      have HC576_1 := Aside0.mk hl576_1
      clear hi576_1 hl576_1
      replace p576 := eq_true p576
      replace q576 := eq_true q576
      try go_wp2_with (first | ((with_reducible refine gate_dst (N := 6) rfl ?_); refine bx_ 6 #[.bool false, .slice none 0 0] 29 ?_; intro gb577 hg w9 hbox hb; have BK577 := Aside0.mk (hbox); have GW577 := ge_ hg HB; have GE577 := ge_ hg HB; have NB572_577 := nb_ hg BK572; have NB577_572 := nc_ hg BK572; replace HO_4 := Aside0.mk (Kd.R_below (kr_ HO_4.out) hb); replace BK572 := kq_ BK572 hb; replace HB := bq_ HB hb; clear hb hbox hg; have hnb10 := NB577_572.out; have hnc10 := NB572_577.out; obtain ⟨hcz11_0, hcz11_1, hfz11_0, hfz11_1⟩ := c2_ BK577))
      have n0_ : Aside0 (Kd.R (Kd.int .u32) 44 ((w9.setCell ⟨gb577, 0, none⟩ (.bool ((rd_T29 l0 x10_1).f0))).setCell ⟨gb577, 1, none⟩ (.slice A576_1 ((rd_T29 l0 x10_1).f1).length c576_1)) w.heap.size (fun _ => True) u4 x4_1) := ⟨by (with_reducible repeat (first | apply Kd.R_alloc | apply Kd.R_drewN | apply Kd.R_drew)); exact Kd.R_mono (Kd.R_far (p := ⟨gb577, 1, none⟩) (Kd.R_far (p := ⟨gb577, 0, none⟩) (Kd.R_types HO_4.out BK577.out (by decide)) (fun _ hk => hk.2) (.bool ((rd_T29 l0 x10_1).f0))) (fun _ hk => hk.2) (.slice A576_1 ((rd_T29 l0 x10_1).f1).length c576_1)) (fun _ hk => trivial)⟩
      have n1_ : Aside0 (((w9.setCell ⟨gb577, 0, none⟩ (.bool ((rd_T29 l0 x10_1).f0))).setCell ⟨gb577, 1, none⟩ (.slice A576_1 ((rd_T29 l0 x10_1).f1).length c576_1)).heap[gb572]? = some (.cells #[.bool false, .slice none 0 0] 29 (0, 0))) := ⟨by refine kb_ ?_; refine bf_ NB572_577 ?_; refine bf_ NB572_577 ?_; exact BK572.out⟩
      have n2_ : Aside0 (((w9.setCell ⟨gb577, 0, none⟩ (.bool ((rd_T29 l0 x10_1).f0))).setCell ⟨gb577, 1, none⟩ (.slice A576_1 ((rd_T29 l0 x10_1).f1).length c576_1)).heap[gb577]? = some (.cells #[.bool ((rd_T29 l0 x10_1).f0), .slice A576_1 ((rd_T29 l0 x10_1).f1).length c576_1] 29 (0, 0))) := ⟨by refine kb_ ?_; refine bp_ #[.bool ((rd_T29 l0 x10_1).f0), .slice none 0 0] 1 ?_; refine bp_ #[.bool false, .slice none 0 0] 0 ?_; exact BK577.out⟩
      have n3_ : Aside0 (Below w.heap.size w ((w9.setCell ⟨gb577, 0, none⟩ (.bool ((rd_T29 l0 x10_1).f0))).setCell ⟨gb577, 1, none⟩ (.slice A576_1 ((rd_T29 l0 x10_1).f1).length c576_1))) := ⟨bw_ HB.out⟩
      (try clear HO_4)
      (try clear BK572)
      (try clear BK577)
      (try clear HB)
      generalize ((w9.setCell ⟨gb577, 0, none⟩ (.bool ((rd_T29 l0 x10_1).f0))).setCell ⟨gb577, 1, none⟩ (.slice A576_1 ((rd_T29 l0 x10_1).f1).length c576_1)) = w12 at n0_ n1_ n2_ n3_ ⊢
      have HO_4 := n0_
      have BK572 := n1_
      have BK577 := n2_
      have HB := n3_
      clear n0_ n1_ n2_ n3_
      replace HO_4 := Aside0.mk (Kd.R_drew HO_4.out)
      replace BK572 := Aside0.mk (blk_drew BK572.out)
      replace BK577 := Aside0.mk (blk_drew BK577.out)
      replace HB := Aside0.mk (below_drew1 HB.out)
      obtain ⟨Ao14, co14, eo14⟩ := Kd.R_slice HO_4.out
      (first | subst eo14 | (injection eo14 with f1_ f2_ f3_; have f4_ := f1_.symm; have f5_ := f3_.symm; clear f1_ f2_ f3_; subst f4_; subst f5_))
      refine start_ (n := 10) (S := fun w' => w'.cell? ⟨gb577, 0, none⟩ = some (.bool ((rd_T29 l0 x10_1).f0)) ∧ w'.cell? ⟨gb577, 1, none⟩ = some (.slice A576_1 ((rd_T29 l0 x10_1).f1).length c576_1)) (ds := []) #[false, false, false, false, false, false, false, false, false, false] (by kernel_rfl) rfl rfl ⟨(blk_cell BK577.out 0).trans rfl, (blk_cell BK577.out 1).trans rfl⟩ (fun hHeld => ?_); refine with_tabW whole_Mul.tab5 whole_Mul.bits5 (fun HT_ HW_ => ?_)
      generalize w12.drew = w13 at HO_4 BK572 BK577 HB hHeld ⊢
      refine pure_ (i := 0) (N := some 14) (v := ?_) (a' := ?_) #[true, false, false, false, false, false, false, false, false, false] rfl rfl (any_of HT_.out (by kernel_rfl)) (fun _ _ _ h => h) (Or.inl ⟨by rfl, ?_⟩) ?_ ?_
      rotate_left
      ·intro w'
       go_simp
       with_reducible rfl
      rotate_left
      ·exact pt_
      refine pure_ (i := 1) (N := some 15) (v := ?_) (a' := ?_) #[true, true, false, false, false, false, false, false, false, false] rfl rfl (any_of HT_.out (by kernel_rfl)) (fun _ _ _ h => h) (Or.inl ⟨by rfl, ?_⟩) ?_ ?_
      rotate_left
      ·intro w'
       go_simp
       with_reducible rfl
      rotate_left
      ·exact pt_
      refine pure_ (i := 4) (N := some 18) (v := ?_) (a' := ?_) #[true, true, false, false, true, false, false, false, false, false] rfl rfl (any_of HT_.out (by kernel_rfl)) (fun _ _ _ h => h) (Or.inl ⟨by rfl, ?_⟩) ?_ ?_
      rotate_left
      ·intro w'
       go_simp
       with_reducible rfl
      rotate_left
      ·exact pt_
      refine pure_ (i := 5) (N := some 19) (v := ?_) (a' := ?_) #[true, true, false, false, true, true, false, false, false, false] rfl rfl (any_of HT_.out (by kernel_rfl)) (fun _ _ _ h => h) (Or.inl ⟨by rfl, ?_⟩) ?_ ?_
      rotate_left
      ·intro w'
       go_simp
       with_reducible rfl
      rotate_left
      ·exact pt_
      refine take_ (i := 2) (N := some 16) (v := ?_) (a' := ?_) #[true, true, true, false, true, true, false, false, false, false] rfl rfl (take_ofW HT_.out HW_.out (by kernel_rfl)) (fun _ _ _ h => h) (Or.inl ⟨by rfl, ?_⟩) hHeld ?_ ?_
      rotate_left
      ·rintro w' ⟨s0, s1⟩
       go_simp
       with_reducible rfl
      rotate_left
      ·exact pt_
      refine pure_ (i := 3) (N := some 17) (v := ?_) (a' := ?_) #[true, true, true, true, true, true, false, false, false, false] rfl rfl (any_of HT_.out (by kernel_rfl)) (fun _ _ _ h => h) (Or.inl ⟨by rfl, ?_⟩) ?_ ?_
      rotate_left
      ·intro w'
       go_simp
       with_reducible rfl
      rotate_left
      ·exact pt_
      refine take_ (i := 6) (N := some 20) (v := ?_) (a' := ?_) #[true, true, true, true, true, true, true, false, false, false] rfl rfl (take_ofW HT_.out HW_.out (by kernel_rfl)) (fun _ _ _ h => h) (Or.inl ⟨by rfl, ?_⟩) hHeld ?_ ?_
      rotate_left
      ·rintro w' ⟨s0, s1⟩
       go_simp
       with_reducible rfl
      rotate_left
      ·exact pt_
      refine one_ (i := 7) (N := some 21) #[true, true, true, true, true, true, true, true, false, false] rfl rfl (one_of HT_.out (by kernel_rfl)) (by decide) (fun K hK => ?_)
      refine gs_ Tryd.func41 #[.slice Ao14 x4_1.length co14, .slice A576_1 ((rd_T29 l0 x10_1).f1).length c576_1] ?_
      with_reducible refine (nat_Mul.calls k1 _ _ x4_1 _ _ ((rd_T29 l0 x10_1).f1) t578 _ ?side1 ?side2 ?side3 ?side4 A8.out).mono ?_
      (case side1 => exact kc_ (Kd.R_reads' HO_4.out).2.2)
      (case side2 => exact (Kd.R_reads' HO_4.out).2.1)
      (case side3 => exact kc_ (Kd.C_below HR576_1.out HB.out))
      (case side4 => exact HC576_1.out)
      rintro e w15 ⟨v579, rfl, ho0, hb⟩
      refine ⟨_, rfl, ?_⟩
      have HO580 := Aside0.mk (Kd.R_lower (Kd.R_new' ho0 (Kd.R_lt (kr_ HO_4.out))) (below_size (bw_ HB.out)))
      replace HO_4 := Aside0.mk (Kd.R_elder' (kr_ HO_4.out) (Kd.R_base ho0) hb)
      replace BK572 := kq_ BK572 hb
      replace BK577 := Aside0.mk (blk_below (g := gb577) (o := .cells #[.bool ((rd_T29 l0 x10_1).f0), .slice A576_1 ((rd_T29 l0 x10_1).f1).length c576_1] 29 (0, 0)) (kb_ BK577.out) hb)
      replace HB := bq_ HB hb
      (try clear hb)
      (try clear hb2)
      (try clear hk)
      (try clear hi)
      (try clear ho0)
      refine hK.out _ _ ⟨(blk_cell BK577.out 0).trans rfl, (blk_cell BK577.out 1).trans rfl⟩ (fun hHeld => ?_)
      clear hK K
      refine norm_ (a' := ?_) ?_ ?_
      rotate_left
      ·show Act.put _ (some 21) _ = _
       exact pt_
      refine pure_ (i := 8) (N := some 3) (v := ?_) (a' := ?_) #[true, true, true, true, true, true, true, true, true, false] rfl rfl (any_of HT_.out (by kernel_rfl)) (fun _ _ _ h => h) (Or.inl ⟨by rfl, ?_⟩) ?_ ?_
      rotate_left
      ·intro w'
       go_simp
       with_reducible rfl
      rotate_left
      ·exact pt_
      refine pure_ (i := 9) (N := some 4) (v := ?_) (a' := ?_) #[true, true, true, true, true, true, true, true, true, true] rfl rfl (any_of HT_.out (by kernel_rfl)) (fun _ _ _ h => h) (Or.inl ⟨by rfl, ?_⟩) ?_ ?_
      rotate_left
      ·intro w'
       go_simp
       with_reducible rfl
      rotate_left
      ·exact pt_
      refine done_ (done_of HT_.out (by kernel_rfl)) ?_
      try go_wp2
      go_roundg k1
      case measure => have := HK1.out; omega
      case rel => exact ⟨((x3_1 != ((rd_T29 l0 x10_1).f0))), (t578), (wrap64 (x10_1 + 1)), (by first | rfl | (simp; done) | (simp [*]; done)), (by first | rfl | (simp; done) | (simp [*]; done)), H', ⟨by have := HK1.out; omega⟩, ⟨by (with_reducible repeat (first | apply Kd.R_alloc | apply Kd.R_drewN | apply Kd.R_drew)); exact Kd.R_mono HO580.out (fun _ hk => trivial)⟩, ⟨kb_ BK572.out⟩, ⟨bw_ HB.out⟩⟩
     ·rw [if_neg c7] at H
      exact absurd H (by simp)
    ·rw [if_neg c6] at H
     exact absurd H (by simp)
   ·rw [if_neg c5] at H
    have c5b0 : decide (x10_1 < (l0.length : Int)) = false := decide_eq_false c5
    clear c5
    replace H := Option.bind_eq_some_iff.mp H
    obtain ⟨⟨t581, t582⟩, A160, H⟩ := H
    (try dsimp only at H)
    have A16 := Aside0.mk A160
    clear A160
    simp only [Option.some.injEq, Prod.mk.injEq] at H
    obtain ⟨rfl, rfl⟩ := H
    obtain ⟨Ao17, co17, eo17⟩ := Kd.R_slice HO_4.out
    subst eo17
    go_wp2_with (first | ((with_reducible refine gate_callee (f := 17) rfl ?_); refine gl_ (some 25) Tryd.func17 #[.bool x3_1, .slice Ao17 x4_1.length co17] ?_; (with_reducible refine (whole_Make.calls k1 x3_1 _ _ x4_1 t581 t582 _ ?side1 ?side2 A16.out).mono ?_); (case side1 => exact kc_ (Kd.R_reads' HO_4.out).2.2); (case side2 => exact (Kd.R_reads' HO_4.out).2.1); rintro e w18 ⟨v583, rfl, ho0, hb⟩; refine ⟨_, rfl, ?_⟩; have HO584 := Aside0.mk (Kd.R_lower (Kd.R_new' ho0 (Kd.R_lt (kr_ HO_4.out))) (below_size (bw_ HB.out))); replace HO_4 := Aside0.mk (Kd.R_elder' (kr_ HO_4.out) (Kd.R_base ho0) hb); replace BK572 := kq_ BK572 hb; replace HB := bq_ HB hb; (try clear hb); (try clear hb2); (try clear hk); (try clear hi); (try clear ho0); obtain ⟨hcz19_0, hcz19_1, hfz19_0, hfz19_1⟩ := c2_ BK572; obtain ⟨Ao20, co20, eo20⟩ := Kd.R_slice HO584.out; subst eo20))
    refine bodyPost_ret (results_cell_row rfl _ _ gb572 29 #[.bool t581, .slice Ao20 t582.length co20] (0, 0) _ rfl (by refine kb_ ?_; refine bp_ #[.bool t581, .slice none 0 0] 1 ?_; refine bp_ #[.bool false, .slice none 0 0] 0 ?_; exact BK572.out) Tryd.underlying29 rfl (by kernel_rfl)) rfl ?_
    exact ⟨_, rf_, by (with_reducible repeat (first | apply Kd.R_alloc | apply Kd.R_drewN | apply Kd.R_drew)); exact Kd.R_mono (Kd.R_far (p := ⟨gb572, 1, none⟩) (Kd.R_far (p := ⟨gb572, 0, none⟩) (Kd.R_types HO584.out BK572.out (by decide)) (fun _ hk => hk.2) (.bool t581)) (fun _ hk => hk.2) (.slice Ao20 t582.length co20)) (fun _ hk => trivial), bw_ HB.out⟩

end Go.Proofs.YthlhogcnfaiphaaDoor.PA
