-- Laid by this work's own program; Lean checks it.
import Derived.Test.YthlhogcnfaiphaaPAx0
import Derived.Test.YthlhogcnfaiphaaPAx2
import Derived.Test.YthlhogcnfaiphaaPAx8
import Derived.Test.YthlhogcnfaiphaaPAx10
import Derived.Test.YthlhogcnfaiphaaPAx11
import Derived.Test.YthlhogcnfaiphaaPAx14
namespace Go.Proofs.Ythlhogcnfaiphaa.PA
open Go.RowKit Go.Proofs.YthlhogcnfaiphaaW.PrintWords Go.Proofs.YthlhogcnfaiphaaW.PrintLast Go.Proofs.YthlhogcnfaiphaaW.PrintMore
attribute [local go_sem] max2_int min2_int max_two min_two max_three min_three max_four min_four   -- for this text's walks alone
set_option linter.unusedVariables false
set_option linter.unusedSimpArgs false

attribute [local go_sem ↓ high] isSome_set_
/-! ### pelorusref03_Two: function 41 -/
theorem pelorusref03_Two.tab11 : rtab .any (opsOf Try.f41 11) = pelorusref03_Two.T11 := by kernel_rfl
theorem pelorusref03_Two.bits11 : waitsOk pelorusref03_Two.T11.2 pelorusref03_Two.B11 = true := by kernel_rfl
def pelorusref03_Two.T12 : Bool × List (List Nat × List Nat) := (true, [([], []), ([0], [0]), ([], []), ([1, 2], [1, 2]), ([], []), ([4], [4]), ([3, 5, 3], [3, 5]), ([6, 6, 0, 1, 2, 3, 4, 5, 6], [6])])
def pelorusref03_Two.B12 : List Nat := [0, 1, 0, 7, 0, 16, 63, 127]
theorem pelorusref03_Two.tab12 : rtab .any (opsOf Try.f41 12) = pelorusref03_Two.T12 := by kernel_rfl
theorem pelorusref03_Two.bits12 : waitsOk pelorusref03_Two.T12.2 pelorusref03_Two.B12 = true := by kernel_rfl
set_option maxHeartbeats 8000000 in
set_option maxRecDepth 100000 in
theorem pelorusref03_Two.calls (k : Nat) (a0_0 : Bool) (A0_1 : Option Addr) (c0_1 : Nat) (l0_1 : List Int) (a0_2 : Int) (a1_0 : Bool) (A1_1 : Option Addr) (c1_1 : Nat) (l1_1 : List Int) (a1_2 : Int) (r1 : Bool) (r2 : List Int) (r3 : Int) (w : World) (hr0_1 : Kd.C (Kd.int .u32) w A0_1 l0_1.length l0_1) (hc0_1 : l0_1.length ≤ c0_1) (hr1_1 : Kd.C (Kd.int .u32) w A1_1 l1_1.length l1_1) (hc1_1 : l1_1.length ≤ c1_1) (h : pelorusref03_Two.f k a0_0 l0_1 a0_2 a1_0 l1_1 a1_2 = some (r1, r2, r3)) :
  Calls Try.prog 41 #[.agg #[.bool a0_0, .slice A0_1 l0_1.length c0_1, .int .i64 a0_2], .agg #[.bool a1_0, .slice A1_1 l1_1.length c1_1, .int .i64 a1_2]] w fun e w' => ∃ v1_ : Value, e = .returned (.agg #[.bool r1, v1_, .int .i64 r3]) ∧ Kd.R (Kd.int .u32) 68 w' w.heap.size (fun _ => True) v1_ r2 ∧ Below w.heap.size w w' := by
 have hu50 := Try.underlying50
 have hu48 := Try.underlying48
 have HR0_1 := Aside0.mk hr0_1
 have HC0_1 := Aside0.mk hc0_1
 clear hr0_1 hc0_1
 have HR1_1 := Aside0.mk hr1_1
 have HC1_1 := Aside0.mk hc1_1
 clear hr1_1 hc1_1
 have HB := Aside0.mk (Below.refl w.heap.size w)
 have H : ((pelorusref03_Make.f k a0_0 l0_1 a0_2).bind fun bt623 => ((pelorusref03_Make.f k a1_0 l1_1 a1_2).bind fun bt629 => (if (bt623.2.1.length : Int) = 0 then (some (bt629.1, bt629.2.1, bt629.2.2)) else (if (bt629.2.1.length : Int) = 0 then (some (bt623.1, bt623.2.1, bt623.2.2)) else (if bt623.2.2 > bt629.2.2 then (pelorusref03_Two.j0 k bt629.1 bt629.2.1 bt629.2.2 bt623.1 bt623.2.1 bt623.2.2) else (pelorusref03_Two.j0 k bt623.1 bt623.2.1 bt623.2.2 bt629.1 bt629.2.1 bt629.2.2)))))) = some (r1, r2, r3) := h
 clear h
 replace H := Option.bind_eq_some_iff.mp H
 obtain ⟨⟨t623, t624, t627⟩, A30, H⟩ := H
 (try dsimp only at H)
 have A3 := Aside0.mk A30
 clear A30
 replace H := Option.bind_eq_some_iff.mp H
 obtain ⟨⟨t629, t630, t633⟩, A40, H⟩ := H
 (try dsimp only at H)
 have A4 := Aside0.mk A40
 clear A40
 by_cases c5 : (t624.length : Int) = 0
 ·rw [if_pos c5] at H
  have c5b0 : ((t624.length : Int) == 0) = true := beq_iff_eq.mpr c5
  have c5b1 : ((t624.length : Int) != 0) = false := bne_eq_false_iff_eq.mpr c5
  clear c5
  simp only [Option.some.injEq, Prod.mk.injEq] at H
  obtain ⟨rfl, rfl, rfl⟩ := H
  go_enter Try.func41, Try.ntmps41
  go_wp2_with (first | ((with_reducible refine gate_dst (N := 2) rfl ?_); refine bx_ 2 #[.bool a0_0, .slice A0_1 l0_1.length c0_1, .int .i64 a0_2] 50 ?_; intro gb620 hg w6 hbox hb; have n0_ := bq_ HB hb; have n1_ := Aside0.mk (hbox); have n2_ := ge_ hg HB; have n3_ := ge_ hg HB; clear HB; have HB := n0_; have BK620 := n1_; have GW620 := n2_; have GE620 := n3_; clear n0_ n1_ n2_ n3_; clear hb hbox hg) | ((with_reducible refine gate_dst (N := 3) rfl ?_); refine bx_ 3 #[.bool a1_0, .slice A1_1 l1_1.length c1_1, .int .i64 a1_2] 50 ?_; intro gb621 hg w7 hbox hb; have n0_ := kq_ BK620 hb; have n1_ := bq_ HB hb; have n2_ := Aside0.mk (hbox); have n3_ := ge_ hg HB; have n4_ := ge_ hg HB; have n5_ := nb_ hg BK620; have n6_ := nc_ hg BK620; clear BK620; clear HB; have BK620 := n0_; have HB := n1_; have BK621 := n2_; have GW621 := n3_; have GE621 := n4_; have NB620_621 := n5_; have NB621_620 := n6_; clear n0_ n1_ n2_ n3_ n4_ n5_ n6_; clear hb hbox hg) | ((with_reducible refine gate_dst (N := 4) rfl ?_); refine bx_ 4 #[.bool false, .slice none 0 0, .int .i64 0] 50 ?_; intro gb622 hg w8 hbox hb; have n0_ := kq_ BK620 hb; have n1_ := kq_ BK621 hb; have n2_ := bq_ HB hb; have n3_ := Aside0.mk (hbox); have n4_ := ge_ hg HB; have n5_ := ge_ hg HB; have n6_ := nb_ hg BK620; have n7_ := nc_ hg BK620; have n8_ := nb_ hg BK621; have n9_ := nc_ hg BK621; clear BK620; clear BK621; clear HB; have BK620 := n0_; have BK621 := n1_; have HB := n2_; have BK622 := n3_; have GW622 := n4_; have GE622 := n5_; have NB620_622 := n6_; have NB622_620 := n7_; have NB621_622 := n8_; have NB622_621 := n9_; clear n0_ n1_ n2_ n3_ n4_ n5_ n6_ n7_ n8_ n9_; clear hb hbox hg; have hnb9 := NB620_621.out; have hnc9 := NB621_620.out; have hnb10 := NB620_622.out; have hnc10 := NB622_620.out; obtain ⟨hcz11_0, hcz11_1, hcz11_2, hfz11_0, hfz11_1, hfz11_2⟩ := c3_ BK620) | ((with_reducible refine gate_callee (f := 54) rfl ?_); refine gl_ (some 13) Try.func54 #[.agg #[.bool a0_0, .slice A0_1 l0_1.length c0_1], .int .i64 a0_2] ?_; (with_reducible refine (pelorusref03_Make.calls k a0_0 _ _ l0_1 a0_2 t623 t624 t627 _ ?side1 ?side2 A3.out).mono ?_); (case side1 => repeat (first | exact (Kd.C_below HR0_1.out HB.out) | (with_reducible refine Kd.C_alloc ?_ _) | (with_reducible refine Kd.C_drewN ?_ _) | (with_reducible refine Kd.C_drew ?_))); (case side2 => exact HC0_1.out); rintro e w12 ⟨v625, rfl, ho0, hb⟩; refine ⟨_, rfl, ?_⟩; have n0_ := Aside0.mk (Kd.R_lower ho0 (below_size (bw_ HB.out))); have n1_ := kq_ BK620 hb; have n2_ := kq_ BK621 hb; have n3_ := kq_ BK622 hb; have n4_ := bq_ HB hb; clear BK620; clear BK621; clear BK622; clear HB; have HO626 := n0_; have BK620 := n1_; have BK621 := n2_; have BK622 := n3_; have HB := n4_; clear n0_ n1_ n2_ n3_ n4_; (try clear hb); (try clear hb2); (try clear hk); (try clear hi); (try clear ho0)) | ((with_reducible refine gate_dst (N := 5) rfl ?_); refine bx_ 5 #[.bool false, .slice none 0 0, .int .i64 0] 50 ?_; intro gb628 hg w13 hbox hb; have n0_ := Aside0.mk (Kd.R_below (by (with_reducible repeat (first | apply Kd.R_alloc | apply Kd.R_drewN | apply Kd.R_drew)); exact HO626.out) hb); have n1_ := kq_ BK620 hb; have n2_ := kq_ BK621 hb; have n3_ := kq_ BK622 hb; have n4_ := bq_ HB hb; have n5_ := Aside0.mk (hbox); have n6_ := ge_ hg HB; have n7_ := ge_ hg HB; have n8_ := nb_ hg BK620; have n9_ := nc_ hg BK620; have n10_ := nb_ hg BK621; have n11_ := nc_ hg BK621; have n12_ := nb_ hg BK622; have n13_ := nc_ hg BK622; clear HO626; clear BK620; clear BK621; clear BK622; clear HB; have HO626 := n0_; have BK620 := n1_; have BK621 := n2_; have BK622 := n3_; have HB := n4_; have BK628 := n5_; have GW628 := n6_; have GE628 := n7_; have NB620_628 := n8_; have NB628_620 := n9_; have NB621_628 := n10_; have NB628_621 := n11_; have NB622_628 := n12_; have NB628_622 := n13_; clear n0_ n1_ n2_ n3_ n4_ n5_ n6_ n7_ n8_ n9_ n10_ n11_ n12_ n13_; clear hb hbox hg; have hnb14 := NB628_620.out; have hnc14 := NB620_628.out; have hnb15 := NB628_621.out; have hnc15 := NB621_628.out; have hnb16 := NB628_622.out; have hnc16 := NB622_628.out; obtain ⟨hcz17_0, hcz17_1, hcz17_2, hfz17_0, hfz17_1, hfz17_2⟩ := c3_ BK628; obtain ⟨Ao18, co18, eo18⟩ := Kd.R_slice HO626.out; subst eo18; have hnb19 := NB621_622.out; have hnc19 := NB622_621.out; obtain ⟨hcz20_0, hcz20_1, hcz20_2, hfz20_0, hfz20_1, hfz20_2⟩ := c3_ BK621) | ((with_reducible refine gate_callee (f := 54) rfl ?_); refine gl_ (some 18) Try.func54 #[.agg #[.bool a1_0, .slice A1_1 l1_1.length c1_1], .int .i64 a1_2] ?_; (with_reducible refine (pelorusref03_Make.calls k a1_0 _ _ l1_1 a1_2 t629 t630 t633 _ ?side1 ?side2 A4.out).mono ?_); (case side1 => exact Kd.C_below HR1_1.out (bw_ HB.out)); (case side2 => exact HC1_1.out); rintro e w21 ⟨v631, rfl, ho0, hb⟩; refine ⟨_, rfl, ?_⟩; have n0_ := Aside0.mk (Kd.R_elder' (by (with_reducible repeat (first | apply Kd.R_alloc | apply Kd.R_drewN | apply Kd.R_drew)); exact (Kd.R_mono (Kd.R_far (p := ⟨gb628, 2, none⟩) (Kd.R_far (p := ⟨gb628, 1, none⟩) (Kd.R_far (p := ⟨gb628, 0, none⟩) (Kd.R_types HO626.out BK628.out (by decide)) (fun _ hk => hk.2) (.bool t623)) (fun _ hk => hk.2) (.slice Ao18 t624.length co18)) (fun _ hk => hk.2) (.int .i64 t627)) (fun _ h_ => h_.1))) (Kd.R_base ho0) hb); have n1_ := Aside0.mk (Kd.R_lower (Kd.R_new' ho0 (Kd.R_lt (by (with_reducible repeat (first | apply Kd.R_alloc | apply Kd.R_drewN | apply Kd.R_drew)); exact (Kd.R_mono (Kd.R_far (p := ⟨gb628, 2, none⟩) (Kd.R_far (p := ⟨gb628, 1, none⟩) (Kd.R_far (p := ⟨gb628, 0, none⟩) (Kd.R_types HO626.out BK628.out (by decide)) (fun _ hk => hk.2) (.bool t623)) (fun _ hk => hk.2) (.slice Ao18 t624.length co18)) (fun _ hk => hk.2) (.int .i64 t627)) (fun _ h_ => h_.1))))) (below_size (bw_ HB.out))); have n2_ := Aside0.mk (blk_below (g := gb620) (o := .cells #[.bool a0_0, .slice A0_1 l0_1.length c0_1, .int .i64 a0_2] 50 (0, 0)) (by refine kb_ ?_; refine bf_ NB620_628 ?_; refine bf_ NB620_628 ?_; refine bf_ NB620_628 ?_; exact BK620.out) hb); have n3_ := Aside0.mk (blk_below (g := gb621) (o := .cells #[.bool a1_0, .slice A1_1 l1_1.length c1_1, .int .i64 a1_2] 50 (0, 0)) (by refine kb_ ?_; refine bf_ NB621_628 ?_; refine bf_ NB621_628 ?_; refine bf_ NB621_628 ?_; exact BK621.out) hb); have n4_ := Aside0.mk (blk_below (g := gb622) (o := .cells #[.bool false, .slice none 0 0, .int .i64 0] 50 (0, 0)) (by refine kb_ ?_; refine bf_ NB622_628 ?_; refine bf_ NB622_628 ?_; refine bf_ NB622_628 ?_; exact BK622.out) hb); have n5_ := Aside0.mk (blk_below (g := gb628) (o := .cells #[.bool t623, .slice Ao18 t624.length co18, .int .i64 t627] 50 (0, 0)) (by refine kb_ ?_; refine bp_ #[.bool t623, .slice Ao18 t624.length co18, .int .i64 0] 2 ?_; refine bp_ #[.bool t623, .slice none 0 0, .int .i64 0] 1 ?_; refine bp_ #[.bool false, .slice none 0 0, .int .i64 0] 0 ?_; exact BK628.out) hb); have n6_ := bq_ HB hb; clear HO626; clear BK620; clear BK621; clear BK622; clear BK628; clear HB; have HO626 := n0_; have HO632 := n1_; have BK620 := n2_; have BK621 := n3_; have BK622 := n4_; have BK628 := n5_; have HB := n6_; clear n0_ n1_ n2_ n3_ n4_ n5_ n6_; (try clear hb); (try clear hb2); (try clear hk); (try clear hi); (try clear ho0)) | ((with_reducible refine gate_dst (N := 6) rfl ?_); refine bx_ 6 #[.bool false, .slice none 0 0, .int .i64 0] 50 ?_; intro gb634 hg w22 hbox hb; have n0_ := Aside0.mk (Kd.R_below (by (with_reducible repeat (first | apply Kd.R_alloc | apply Kd.R_drewN | apply Kd.R_drew)); exact HO626.out) hb); have n1_ := Aside0.mk (Kd.R_below (by (with_reducible repeat (first | apply Kd.R_alloc | apply Kd.R_drewN | apply Kd.R_drew)); exact HO632.out) hb); have n2_ := kq_ BK620 hb; have n3_ := kq_ BK621 hb; have n4_ := kq_ BK622 hb; have n5_ := kq_ BK628 hb; have n6_ := bq_ HB hb; have n7_ := Aside0.mk (hbox); have n8_ := ge_ hg HB; have n9_ := ge_ hg HB; have n10_ := nb_ hg BK620; have n11_ := nc_ hg BK620; have n12_ := nb_ hg BK621; have n13_ := nc_ hg BK621; have n14_ := nb_ hg BK622; have n15_ := nc_ hg BK622; have n16_ := nb_ hg BK628; have n17_ := nc_ hg BK628; clear HO626; clear HO632; clear BK620; clear BK621; clear BK622; clear BK628; clear HB; have HO626 := n0_; have HO632 := n1_; have BK620 := n2_; have BK621 := n3_; have BK622 := n4_; have BK628 := n5_; have HB := n6_; have BK634 := n7_; have GW634 := n8_; have GE634 := n9_; have NB620_634 := n10_; have NB634_620 := n11_; have NB621_634 := n12_; have NB634_621 := n13_; have NB622_634 := n14_; have NB634_622 := n15_; have NB628_634 := n16_; have NB634_628 := n17_; clear n0_ n1_ n2_ n3_ n4_ n5_ n6_ n7_ n8_ n9_ n10_ n11_ n12_ n13_ n14_ n15_ n16_ n17_; clear hb hbox hg; have hnb23 := NB634_620.out; have hnc23 := NB620_634.out; have hnb24 := NB634_621.out; have hnc24 := NB621_634.out; have hnb25 := NB634_622.out; have hnc25 := NB622_634.out; have hnb26 := NB634_628.out; have hnc26 := NB628_634.out; obtain ⟨hcz27_0, hcz27_1, hcz27_2, hfz27_0, hfz27_1, hfz27_2⟩ := c3_ BK634; obtain ⟨Ao28, co28, eo28⟩ := Kd.R_slice HO632.out; subst eo28; obtain ⟨hcz29_0, hcz29_1, hcz29_2, hfz29_0, hfz29_1, hfz29_2⟩ := c3_ BK628; obtain ⟨hcz30_0, hcz30_1, hcz30_2, hfz30_0, hfz30_1, hfz30_2⟩ := c3_ BK622))
  refine bodyPost_ret (results_cell_row rfl _ _ gb622 50 #[.bool t629, .slice Ao28 t630.length co28, .int .i64 t633] (0, 0) _ rfl (by refine kb_ ?_; refine bp_ #[.bool t629, .slice Ao28 t630.length co28, .int .i64 0] 2 ?_; refine bp_ #[.bool t629, .slice none 0 0, .int .i64 0] 1 ?_; refine bp_ #[.bool false, .slice none 0 0, .int .i64 0] 0 ?_; refine bf_ NB622_634 ?_; refine bf_ NB622_634 ?_; refine bf_ NB622_634 ?_; exact BK622.out) Try.underlying50 rfl (by kernel_rfl)) rfl ?_
  exact ⟨_, rf_, by (with_reducible repeat (first | apply Kd.R_alloc | apply Kd.R_drewN | apply Kd.R_drew)); exact Kd.R_mono (Kd.R_far (p := ⟨gb622, 2, none⟩) (Kd.R_far (p := ⟨gb622, 1, none⟩) (Kd.R_far (p := ⟨gb622, 0, none⟩) (Kd.R_far (p := ⟨gb634, 2, none⟩) (Kd.R_far (p := ⟨gb634, 1, none⟩) (Kd.R_far (p := ⟨gb634, 0, none⟩) (Kd.R_types (Kd.R_types HO632.out BK634.out (by decide)) BK622.out (by decide)) (fun _ hk => hk.1.2) (.bool t629)) (fun _ hk => hk.1.2) (.slice Ao28 t630.length co28)) (fun _ hk => hk.1.2) (.int .i64 t633)) (fun _ hk => hk.2) (.bool t629)) (fun _ hk => hk.2) (.slice Ao28 t630.length co28)) (fun _ hk => hk.2) (.int .i64 t633)) (fun _ hk => trivial), bw_ HB.out⟩
 ·rw [if_neg c5] at H
  have c5b0 : ((t624.length : Int) == 0) = false := beq_eq_false_iff_ne.mpr c5
  have c5b1 : ((t624.length : Int) != 0) = true := bne_iff_ne.mpr c5
  have c5b2 : ¬ (t624 = []) := fun h_ => c5 (by rw [h_]; rfl)
  by_cases c31 : (t630.length : Int) = 0
  ·rw [if_pos c31] at H
   have c31b0 : ((t630.length : Int) == 0) = true := beq_iff_eq.mpr c31
   have c31b1 : ((t630.length : Int) != 0) = false := bne_eq_false_iff_eq.mpr c31
   clear c31
   simp only [Option.some.injEq, Prod.mk.injEq] at H
   obtain ⟨rfl, rfl, rfl⟩ := H
   go_enter Try.func41, Try.ntmps41
   go_wp2_with (first | ((with_reducible refine gate_dst (N := 2) rfl ?_); refine bx_ 2 #[.bool a0_0, .slice A0_1 l0_1.length c0_1, .int .i64 a0_2] 50 ?_; intro gb620 hg w32 hbox hb; have n0_ := bq_ HB hb; have n1_ := Aside0.mk (hbox); have n2_ := ge_ hg HB; have n3_ := ge_ hg HB; clear HB; have HB := n0_; have BK620 := n1_; have GW620 := n2_; have GE620 := n3_; clear n0_ n1_ n2_ n3_; clear hb hbox hg) | ((with_reducible refine gate_dst (N := 3) rfl ?_); refine bx_ 3 #[.bool a1_0, .slice A1_1 l1_1.length c1_1, .int .i64 a1_2] 50 ?_; intro gb621 hg w33 hbox hb; have n0_ := kq_ BK620 hb; have n1_ := bq_ HB hb; have n2_ := Aside0.mk (hbox); have n3_ := ge_ hg HB; have n4_ := ge_ hg HB; have n5_ := nb_ hg BK620; have n6_ := nc_ hg BK620; clear BK620; clear HB; have BK620 := n0_; have HB := n1_; have BK621 := n2_; have GW621 := n3_; have GE621 := n4_; have NB620_621 := n5_; have NB621_620 := n6_; clear n0_ n1_ n2_ n3_ n4_ n5_ n6_; clear hb hbox hg) | ((with_reducible refine gate_dst (N := 4) rfl ?_); refine bx_ 4 #[.bool false, .slice none 0 0, .int .i64 0] 50 ?_; intro gb622 hg w34 hbox hb; have n0_ := kq_ BK620 hb; have n1_ := kq_ BK621 hb; have n2_ := bq_ HB hb; have n3_ := Aside0.mk (hbox); have n4_ := ge_ hg HB; have n5_ := ge_ hg HB; have n6_ := nb_ hg BK620; have n7_ := nc_ hg BK620; have n8_ := nb_ hg BK621; have n9_ := nc_ hg BK621; clear BK620; clear BK621; clear HB; have BK620 := n0_; have BK621 := n1_; have HB := n2_; have BK622 := n3_; have GW622 := n4_; have GE622 := n5_; have NB620_622 := n6_; have NB622_620 := n7_; have NB621_622 := n8_; have NB622_621 := n9_; clear n0_ n1_ n2_ n3_ n4_ n5_ n6_ n7_ n8_ n9_; clear hb hbox hg; have hnb35 := NB620_621.out; have hnc35 := NB621_620.out; have hnb36 := NB620_622.out; have hnc36 := NB622_620.out; obtain ⟨hcz37_0, hcz37_1, hcz37_2, hfz37_0, hfz37_1, hfz37_2⟩ := c3_ BK620) | ((with_reducible refine gate_callee (f := 54) rfl ?_); refine gl_ (some 13) Try.func54 #[.agg #[.bool a0_0, .slice A0_1 l0_1.length c0_1], .int .i64 a0_2] ?_; (with_reducible refine (pelorusref03_Make.calls k a0_0 _ _ l0_1 a0_2 t623 t624 t627 _ ?side1 ?side2 A3.out).mono ?_); (case side1 => repeat (first | exact (Kd.C_below HR0_1.out HB.out) | (with_reducible refine Kd.C_alloc ?_ _) | (with_reducible refine Kd.C_drewN ?_ _) | (with_reducible refine Kd.C_drew ?_))); (case side2 => exact HC0_1.out); rintro e w38 ⟨v625, rfl, ho0, hb⟩; refine ⟨_, rfl, ?_⟩; have n0_ := Aside0.mk (Kd.R_lower ho0 (below_size (bw_ HB.out))); have n1_ := kq_ BK620 hb; have n2_ := kq_ BK621 hb; have n3_ := kq_ BK622 hb; have n4_ := bq_ HB hb; clear BK620; clear BK621; clear BK622; clear HB; have HO626 := n0_; have BK620 := n1_; have BK621 := n2_; have BK622 := n3_; have HB := n4_; clear n0_ n1_ n2_ n3_ n4_; (try clear hb); (try clear hb2); (try clear hk); (try clear hi); (try clear ho0)) | ((with_reducible refine gate_dst (N := 5) rfl ?_); refine bx_ 5 #[.bool false, .slice none 0 0, .int .i64 0] 50 ?_; intro gb628 hg w39 hbox hb; have n0_ := Aside0.mk (Kd.R_below (by (with_reducible repeat (first | apply Kd.R_alloc | apply Kd.R_drewN | apply Kd.R_drew)); exact HO626.out) hb); have n1_ := kq_ BK620 hb; have n2_ := kq_ BK621 hb; have n3_ := kq_ BK622 hb; have n4_ := bq_ HB hb; have n5_ := Aside0.mk (hbox); have n6_ := ge_ hg HB; have n7_ := ge_ hg HB; have n8_ := nb_ hg BK620; have n9_ := nc_ hg BK620; have n10_ := nb_ hg BK621; have n11_ := nc_ hg BK621; have n12_ := nb_ hg BK622; have n13_ := nc_ hg BK622; clear HO626; clear BK620; clear BK621; clear BK622; clear HB; have HO626 := n0_; have BK620 := n1_; have BK621 := n2_; have BK622 := n3_; have HB := n4_; have BK628 := n5_; have GW628 := n6_; have GE628 := n7_; have NB620_628 := n8_; have NB628_620 := n9_; have NB621_628 := n10_; have NB628_621 := n11_; have NB622_628 := n12_; have NB628_622 := n13_; clear n0_ n1_ n2_ n3_ n4_ n5_ n6_ n7_ n8_ n9_ n10_ n11_ n12_ n13_; clear hb hbox hg; have hnb40 := NB628_620.out; have hnc40 := NB620_628.out; have hnb41 := NB628_621.out; have hnc41 := NB621_628.out; have hnb42 := NB628_622.out; have hnc42 := NB622_628.out; obtain ⟨hcz43_0, hcz43_1, hcz43_2, hfz43_0, hfz43_1, hfz43_2⟩ := c3_ BK628; obtain ⟨Ao44, co44, eo44⟩ := Kd.R_slice HO626.out; subst eo44; have hnb45 := NB621_622.out; have hnc45 := NB622_621.out; obtain ⟨hcz46_0, hcz46_1, hcz46_2, hfz46_0, hfz46_1, hfz46_2⟩ := c3_ BK621) | ((with_reducible refine gate_callee (f := 54) rfl ?_); refine gl_ (some 18) Try.func54 #[.agg #[.bool a1_0, .slice A1_1 l1_1.length c1_1], .int .i64 a1_2] ?_; (with_reducible refine (pelorusref03_Make.calls k a1_0 _ _ l1_1 a1_2 t629 t630 t633 _ ?side1 ?side2 A4.out).mono ?_); (case side1 => exact Kd.C_below HR1_1.out (bw_ HB.out)); (case side2 => exact HC1_1.out); rintro e w47 ⟨v631, rfl, ho0, hb⟩; refine ⟨_, rfl, ?_⟩; have n0_ := Aside0.mk (Kd.R_elder' (by (with_reducible repeat (first | apply Kd.R_alloc | apply Kd.R_drewN | apply Kd.R_drew)); exact (Kd.R_mono (Kd.R_far (p := ⟨gb628, 2, none⟩) (Kd.R_far (p := ⟨gb628, 1, none⟩) (Kd.R_far (p := ⟨gb628, 0, none⟩) (Kd.R_types HO626.out BK628.out (by decide)) (fun _ hk => hk.2) (.bool t623)) (fun _ hk => hk.2) (.slice Ao44 t624.length co44)) (fun _ hk => hk.2) (.int .i64 t627)) (fun _ h_ => h_.1))) (Kd.R_base ho0) hb); have n1_ := Aside0.mk (Kd.R_lower (Kd.R_new' ho0 (Kd.R_lt (by (with_reducible repeat (first | apply Kd.R_alloc | apply Kd.R_drewN | apply Kd.R_drew)); exact (Kd.R_mono (Kd.R_far (p := ⟨gb628, 2, none⟩) (Kd.R_far (p := ⟨gb628, 1, none⟩) (Kd.R_far (p := ⟨gb628, 0, none⟩) (Kd.R_types HO626.out BK628.out (by decide)) (fun _ hk => hk.2) (.bool t623)) (fun _ hk => hk.2) (.slice Ao44 t624.length co44)) (fun _ hk => hk.2) (.int .i64 t627)) (fun _ h_ => h_.1))))) (below_size (bw_ HB.out))); have n2_ := Aside0.mk (blk_below (g := gb620) (o := .cells #[.bool a0_0, .slice A0_1 l0_1.length c0_1, .int .i64 a0_2] 50 (0, 0)) (by refine kb_ ?_; refine bf_ NB620_628 ?_; refine bf_ NB620_628 ?_; refine bf_ NB620_628 ?_; exact BK620.out) hb); have n3_ := Aside0.mk (blk_below (g := gb621) (o := .cells #[.bool a1_0, .slice A1_1 l1_1.length c1_1, .int .i64 a1_2] 50 (0, 0)) (by refine kb_ ?_; refine bf_ NB621_628 ?_; refine bf_ NB621_628 ?_; refine bf_ NB621_628 ?_; exact BK621.out) hb); have n4_ := Aside0.mk (blk_below (g := gb622) (o := .cells #[.bool false, .slice none 0 0, .int .i64 0] 50 (0, 0)) (by refine kb_ ?_; refine bf_ NB622_628 ?_; refine bf_ NB622_628 ?_; refine bf_ NB622_628 ?_; exact BK622.out) hb); have n5_ := Aside0.mk (blk_below (g := gb628) (o := .cells #[.bool t623, .slice Ao44 t624.length co44, .int .i64 t627] 50 (0, 0)) (by refine kb_ ?_; refine bp_ #[.bool t623, .slice Ao44 t624.length co44, .int .i64 0] 2 ?_; refine bp_ #[.bool t623, .slice none 0 0, .int .i64 0] 1 ?_; refine bp_ #[.bool false, .slice none 0 0, .int .i64 0] 0 ?_; exact BK628.out) hb); have n6_ := bq_ HB hb; clear HO626; clear BK620; clear BK621; clear BK622; clear BK628; clear HB; have HO626 := n0_; have HO632 := n1_; have BK620 := n2_; have BK621 := n3_; have BK622 := n4_; have BK628 := n5_; have HB := n6_; clear n0_ n1_ n2_ n3_ n4_ n5_ n6_; (try clear hb); (try clear hb2); (try clear hk); (try clear hi); (try clear ho0)) | ((with_reducible refine gate_dst (N := 6) rfl ?_); refine bx_ 6 #[.bool false, .slice none 0 0, .int .i64 0] 50 ?_; intro gb634 hg w48 hbox hb; have n0_ := Aside0.mk (Kd.R_below (by (with_reducible repeat (first | apply Kd.R_alloc | apply Kd.R_drewN | apply Kd.R_drew)); exact HO626.out) hb); have n1_ := Aside0.mk (Kd.R_below (by (with_reducible repeat (first | apply Kd.R_alloc | apply Kd.R_drewN | apply Kd.R_drew)); exact HO632.out) hb); have n2_ := kq_ BK620 hb; have n3_ := kq_ BK621 hb; have n4_ := kq_ BK622 hb; have n5_ := kq_ BK628 hb; have n6_ := bq_ HB hb; have n7_ := Aside0.mk (hbox); have n8_ := ge_ hg HB; have n9_ := ge_ hg HB; have n10_ := nb_ hg BK620; have n11_ := nc_ hg BK620; have n12_ := nb_ hg BK621; have n13_ := nc_ hg BK621; have n14_ := nb_ hg BK622; have n15_ := nc_ hg BK622; have n16_ := nb_ hg BK628; have n17_ := nc_ hg BK628; clear HO626; clear HO632; clear BK620; clear BK621; clear BK622; clear BK628; clear HB; have HO626 := n0_; have HO632 := n1_; have BK620 := n2_; have BK621 := n3_; have BK622 := n4_; have BK628 := n5_; have HB := n6_; have BK634 := n7_; have GW634 := n8_; have GE634 := n9_; have NB620_634 := n10_; have NB634_620 := n11_; have NB621_634 := n12_; have NB634_621 := n13_; have NB622_634 := n14_; have NB634_622 := n15_; have NB628_634 := n16_; have NB634_628 := n17_; clear n0_ n1_ n2_ n3_ n4_ n5_ n6_ n7_ n8_ n9_ n10_ n11_ n12_ n13_ n14_ n15_ n16_ n17_; clear hb hbox hg; have hnb49 := NB634_620.out; have hnc49 := NB620_634.out; have hnb50 := NB634_621.out; have hnc50 := NB621_634.out; have hnb51 := NB634_622.out; have hnc51 := NB622_634.out; have hnb52 := NB634_628.out; have hnc52 := NB628_634.out; obtain ⟨hcz53_0, hcz53_1, hcz53_2, hfz53_0, hfz53_1, hfz53_2⟩ := c3_ BK634; obtain ⟨Ao54, co54, eo54⟩ := Kd.R_slice HO632.out; subst eo54; obtain ⟨hcz55_0, hcz55_1, hcz55_2, hfz55_0, hfz55_1, hfz55_2⟩ := c3_ BK628; obtain ⟨hcz56_0, hcz56_1, hcz56_2, hfz56_0, hfz56_1, hfz56_2⟩ := c3_ BK622))
   refine bodyPost_ret (results_cell_row rfl _ _ gb622 50 #[.bool t623, .slice Ao44 t624.length co44, .int .i64 t627] (0, 0) _ rfl (by refine kb_ ?_; refine bp_ #[.bool t623, .slice Ao44 t624.length co44, .int .i64 0] 2 ?_; refine bp_ #[.bool t623, .slice none 0 0, .int .i64 0] 1 ?_; refine bp_ #[.bool false, .slice none 0 0, .int .i64 0] 0 ?_; refine bf_ NB622_634 ?_; refine bf_ NB622_634 ?_; refine bf_ NB622_634 ?_; exact BK622.out) Try.underlying50 rfl (by kernel_rfl)) rfl ?_
   exact ⟨_, rf_, by (with_reducible repeat (first | apply Kd.R_alloc | apply Kd.R_drewN | apply Kd.R_drew)); exact Kd.R_mono (Kd.R_far (p := ⟨gb622, 2, none⟩) (Kd.R_far (p := ⟨gb622, 1, none⟩) (Kd.R_far (p := ⟨gb622, 0, none⟩) (Kd.R_far (p := ⟨gb634, 2, none⟩) (Kd.R_far (p := ⟨gb634, 1, none⟩) (Kd.R_far (p := ⟨gb634, 0, none⟩) (Kd.R_types (Kd.R_types HO626.out BK634.out (by decide)) BK622.out (by decide)) (fun _ hk => hk.1.2) (.bool t629)) (fun _ hk => hk.1.2) (.slice Ao54 t630.length co54)) (fun _ hk => hk.1.2) (.int .i64 t633)) (fun _ hk => hk.2) (.bool t623)) (fun _ hk => hk.2) (.slice Ao44 t624.length co44)) (fun _ hk => hk.2) (.int .i64 t627)) (fun _ hk => trivial), bw_ HB.out⟩
  ·rw [if_neg c31] at H
   have c31b0 : ((t630.length : Int) == 0) = false := beq_eq_false_iff_ne.mpr c31
   have c31b1 : ((t630.length : Int) != 0) = true := bne_iff_ne.mpr c31
   have c31b2 : ¬ (t630 = []) := fun h_ => c31 (by rw [h_]; rfl)
   have HC57 := Aside0.mk H
   clear H
   go_enter Try.func41, Try.ntmps41
   go_upto_if 35 with (first | ((with_reducible refine gate_dst (N := 2) rfl ?_); refine bx_ 2 #[.bool a0_0, .slice A0_1 l0_1.length c0_1, .int .i64 a0_2] 50 ?_; intro gb620 hg w58 hbox hb; have n0_ := bq_ HB hb; have n1_ := Aside0.mk (hbox); have n2_ := ge_ hg HB; have n3_ := ge_ hg HB; clear HB; have HB := n0_; have BK620 := n1_; have GW620 := n2_; have GE620 := n3_; clear n0_ n1_ n2_ n3_; clear hb hbox hg) | ((with_reducible refine gate_dst (N := 3) rfl ?_); refine bx_ 3 #[.bool a1_0, .slice A1_1 l1_1.length c1_1, .int .i64 a1_2] 50 ?_; intro gb621 hg w59 hbox hb; have n0_ := kq_ BK620 hb; have n1_ := bq_ HB hb; have n2_ := Aside0.mk (hbox); have n3_ := ge_ hg HB; have n4_ := ge_ hg HB; have n5_ := nb_ hg BK620; have n6_ := nc_ hg BK620; clear BK620; clear HB; have BK620 := n0_; have HB := n1_; have BK621 := n2_; have GW621 := n3_; have GE621 := n4_; have NB620_621 := n5_; have NB621_620 := n6_; clear n0_ n1_ n2_ n3_ n4_ n5_ n6_; clear hb hbox hg) | ((with_reducible refine gate_dst (N := 4) rfl ?_); refine bx_ 4 #[.bool false, .slice none 0 0, .int .i64 0] 50 ?_; intro gb622 hg w60 hbox hb; have n0_ := kq_ BK620 hb; have n1_ := kq_ BK621 hb; have n2_ := bq_ HB hb; have n3_ := Aside0.mk (hbox); have n4_ := ge_ hg HB; have n5_ := ge_ hg HB; have n6_ := nb_ hg BK620; have n7_ := nc_ hg BK620; have n8_ := nb_ hg BK621; have n9_ := nc_ hg BK621; clear BK620; clear BK621; clear HB; have BK620 := n0_; have BK621 := n1_; have HB := n2_; have BK622 := n3_; have GW622 := n4_; have GE622 := n5_; have NB620_622 := n6_; have NB622_620 := n7_; have NB621_622 := n8_; have NB622_621 := n9_; clear n0_ n1_ n2_ n3_ n4_ n5_ n6_ n7_ n8_ n9_; clear hb hbox hg; have hnb61 := NB620_621.out; have hnc61 := NB621_620.out; have hnb62 := NB620_622.out; have hnc62 := NB622_620.out; obtain ⟨hcz63_0, hcz63_1, hcz63_2, hfz63_0, hfz63_1, hfz63_2⟩ := c3_ BK620) | ((with_reducible refine gate_callee (f := 54) rfl ?_); refine gl_ (some 13) Try.func54 #[.agg #[.bool a0_0, .slice A0_1 l0_1.length c0_1], .int .i64 a0_2] ?_; (with_reducible refine (pelorusref03_Make.calls k a0_0 _ _ l0_1 a0_2 t623 t624 t627 _ ?side1 ?side2 A3.out).mono ?_); (case side1 => repeat (first | exact (Kd.C_below HR0_1.out HB.out) | (with_reducible refine Kd.C_alloc ?_ _) | (with_reducible refine Kd.C_drewN ?_ _) | (with_reducible refine Kd.C_drew ?_))); (case side2 => exact HC0_1.out); rintro e w64 ⟨v625, rfl, ho0, hb⟩; refine ⟨_, rfl, ?_⟩; have n0_ := Aside0.mk (Kd.R_lower ho0 (below_size (bw_ HB.out))); have n1_ := kq_ BK620 hb; have n2_ := kq_ BK621 hb; have n3_ := kq_ BK622 hb; have n4_ := bq_ HB hb; clear BK620; clear BK621; clear BK622; clear HB; have HO626 := n0_; have BK620 := n1_; have BK621 := n2_; have BK622 := n3_; have HB := n4_; clear n0_ n1_ n2_ n3_ n4_; (try clear hb); (try clear hb2); (try clear hk); (try clear hi); (try clear ho0)) | ((with_reducible refine gate_dst (N := 5) rfl ?_); refine bx_ 5 #[.bool false, .slice none 0 0, .int .i64 0] 50 ?_; intro gb628 hg w65 hbox hb; have n0_ := Aside0.mk (Kd.R_below (by (with_reducible repeat (first | apply Kd.R_alloc | apply Kd.R_drewN | apply Kd.R_drew)); exact HO626.out) hb); have n1_ := kq_ BK620 hb; have n2_ := kq_ BK621 hb; have n3_ := kq_ BK622 hb; have n4_ := bq_ HB hb; have n5_ := Aside0.mk (hbox); have n6_ := ge_ hg HB; have n7_ := ge_ hg HB; have n8_ := nb_ hg BK620; have n9_ := nc_ hg BK620; have n10_ := nb_ hg BK621; have n11_ := nc_ hg BK621; have n12_ := nb_ hg BK622; have n13_ := nc_ hg BK622; clear HO626; clear BK620; clear BK621; clear BK622; clear HB; have HO626 := n0_; have BK620 := n1_; have BK621 := n2_; have BK622 := n3_; have HB := n4_; have BK628 := n5_; have GW628 := n6_; have GE628 := n7_; have NB620_628 := n8_; have NB628_620 := n9_; have NB621_628 := n10_; have NB628_621 := n11_; have NB622_628 := n12_; have NB628_622 := n13_; clear n0_ n1_ n2_ n3_ n4_ n5_ n6_ n7_ n8_ n9_ n10_ n11_ n12_ n13_; clear hb hbox hg; have hnb66 := NB628_620.out; have hnc66 := NB620_628.out; have hnb67 := NB628_621.out; have hnc67 := NB621_628.out; have hnb68 := NB628_622.out; have hnc68 := NB622_628.out; obtain ⟨hcz69_0, hcz69_1, hcz69_2, hfz69_0, hfz69_1, hfz69_2⟩ := c3_ BK628; obtain ⟨Ao70, co70, eo70⟩ := Kd.R_slice HO626.out; subst eo70; have hnb71 := NB621_622.out; have hnc71 := NB622_621.out; obtain ⟨hcz72_0, hcz72_1, hcz72_2, hfz72_0, hfz72_1, hfz72_2⟩ := c3_ BK621) | ((with_reducible refine gate_callee (f := 54) rfl ?_); refine gl_ (some 18) Try.func54 #[.agg #[.bool a1_0, .slice A1_1 l1_1.length c1_1], .int .i64 a1_2] ?_; (with_reducible refine (pelorusref03_Make.calls k a1_0 _ _ l1_1 a1_2 t629 t630 t633 _ ?side1 ?side2 A4.out).mono ?_); (case side1 => exact Kd.C_below HR1_1.out (bw_ HB.out)); (case side2 => exact HC1_1.out); rintro e w73 ⟨v631, rfl, ho0, hb⟩; refine ⟨_, rfl, ?_⟩; have n0_ := Aside0.mk (Kd.R_elder' (by (with_reducible repeat (first | apply Kd.R_alloc | apply Kd.R_drewN | apply Kd.R_drew)); exact (Kd.R_mono (Kd.R_far (p := ⟨gb628, 2, none⟩) (Kd.R_far (p := ⟨gb628, 1, none⟩) (Kd.R_far (p := ⟨gb628, 0, none⟩) (Kd.R_types HO626.out BK628.out (by decide)) (fun _ hk => hk.2) (.bool t623)) (fun _ hk => hk.2) (.slice Ao70 t624.length co70)) (fun _ hk => hk.2) (.int .i64 t627)) (fun _ h_ => h_.1))) (Kd.R_base ho0) hb); have n1_ := Aside0.mk (Kd.R_lower (Kd.R_new' ho0 (Kd.R_lt (by (with_reducible repeat (first | apply Kd.R_alloc | apply Kd.R_drewN | apply Kd.R_drew)); exact (Kd.R_mono (Kd.R_far (p := ⟨gb628, 2, none⟩) (Kd.R_far (p := ⟨gb628, 1, none⟩) (Kd.R_far (p := ⟨gb628, 0, none⟩) (Kd.R_types HO626.out BK628.out (by decide)) (fun _ hk => hk.2) (.bool t623)) (fun _ hk => hk.2) (.slice Ao70 t624.length co70)) (fun _ hk => hk.2) (.int .i64 t627)) (fun _ h_ => h_.1))))) (below_size (bw_ HB.out))); have n2_ := Aside0.mk (blk_below (g := gb620) (o := .cells #[.bool a0_0, .slice A0_1 l0_1.length c0_1, .int .i64 a0_2] 50 (0, 0)) (by refine kb_ ?_; refine bf_ NB620_628 ?_; refine bf_ NB620_628 ?_; refine bf_ NB620_628 ?_; exact BK620.out) hb); have n3_ := Aside0.mk (blk_below (g := gb621) (o := .cells #[.bool a1_0, .slice A1_1 l1_1.length c1_1, .int .i64 a1_2] 50 (0, 0)) (by refine kb_ ?_; refine bf_ NB621_628 ?_; refine bf_ NB621_628 ?_; refine bf_ NB621_628 ?_; exact BK621.out) hb); have n4_ := Aside0.mk (blk_below (g := gb622) (o := .cells #[.bool false, .slice none 0 0, .int .i64 0] 50 (0, 0)) (by refine kb_ ?_; refine bf_ NB622_628 ?_; refine bf_ NB622_628 ?_; refine bf_ NB622_628 ?_; exact BK622.out) hb); have n5_ := Aside0.mk (blk_below (g := gb628) (o := .cells #[.bool t623, .slice Ao70 t624.length co70, .int .i64 t627] 50 (0, 0)) (by refine kb_ ?_; refine bp_ #[.bool t623, .slice Ao70 t624.length co70, .int .i64 0] 2 ?_; refine bp_ #[.bool t623, .slice none 0 0, .int .i64 0] 1 ?_; refine bp_ #[.bool false, .slice none 0 0, .int .i64 0] 0 ?_; exact BK628.out) hb); have n6_ := bq_ HB hb; clear HO626; clear BK620; clear BK621; clear BK622; clear BK628; clear HB; have HO626 := n0_; have HO632 := n1_; have BK620 := n2_; have BK621 := n3_; have BK622 := n4_; have BK628 := n5_; have HB := n6_; clear n0_ n1_ n2_ n3_ n4_ n5_ n6_; (try clear hb); (try clear hb2); (try clear hk); (try clear hi); (try clear ho0)) | ((with_reducible refine gate_dst (N := 6) rfl ?_); refine bx_ 6 #[.bool false, .slice none 0 0, .int .i64 0] 50 ?_; intro gb634 hg w74 hbox hb; have n0_ := Aside0.mk (Kd.R_below (by (with_reducible repeat (first | apply Kd.R_alloc | apply Kd.R_drewN | apply Kd.R_drew)); exact HO626.out) hb); have n1_ := Aside0.mk (Kd.R_below (by (with_reducible repeat (first | apply Kd.R_alloc | apply Kd.R_drewN | apply Kd.R_drew)); exact HO632.out) hb); have n2_ := kq_ BK620 hb; have n3_ := kq_ BK621 hb; have n4_ := kq_ BK622 hb; have n5_ := kq_ BK628 hb; have n6_ := bq_ HB hb; have n7_ := Aside0.mk (hbox); have n8_ := ge_ hg HB; have n9_ := ge_ hg HB; have n10_ := nb_ hg BK620; have n11_ := nc_ hg BK620; have n12_ := nb_ hg BK621; have n13_ := nc_ hg BK621; have n14_ := nb_ hg BK622; have n15_ := nc_ hg BK622; have n16_ := nb_ hg BK628; have n17_ := nc_ hg BK628; clear HO626; clear HO632; clear BK620; clear BK621; clear BK622; clear BK628; clear HB; have HO626 := n0_; have HO632 := n1_; have BK620 := n2_; have BK621 := n3_; have BK622 := n4_; have BK628 := n5_; have HB := n6_; have BK634 := n7_; have GW634 := n8_; have GE634 := n9_; have NB620_634 := n10_; have NB634_620 := n11_; have NB621_634 := n12_; have NB634_621 := n13_; have NB622_634 := n14_; have NB634_622 := n15_; have NB628_634 := n16_; have NB634_628 := n17_; clear n0_ n1_ n2_ n3_ n4_ n5_ n6_ n7_ n8_ n9_ n10_ n11_ n12_ n13_ n14_ n15_ n16_ n17_; clear hb hbox hg; have hnb75 := NB634_620.out; have hnc75 := NB620_634.out; have hnb76 := NB634_621.out; have hnc76 := NB621_634.out; have hnb77 := NB634_622.out; have hnc77 := NB622_634.out; have hnb78 := NB634_628.out; have hnc78 := NB628_634.out; obtain ⟨hcz79_0, hcz79_1, hcz79_2, hfz79_0, hfz79_1, hfz79_2⟩ := c3_ BK634; obtain ⟨Ao80, co80, eo80⟩ := Kd.R_slice HO632.out; subst eo80; obtain ⟨hcz81_0, hcz81_1, hcz81_2, hfz81_0, hfz81_1, hfz81_2⟩ := c3_ BK628))
   (try simp only [Act.put, List.setIfInBounds_toArray, List.set_cons_zero, List.set_cons_succ])
   go_cut [] (fun wc => ∃ (kq : Nat) (x629000_56 : Bool) (x629001_56 : List Int) (x629002_56 : Int) (x635000_56 : Bool) (x635001_56 : List Int) (x635002_56 : Int) (u629001 : Value) (u635001 : Value), Aside0 (pelorusref03_Two.j0 kq x629000_56 x629001_56 x629002_56 x635000_56 x635001_56 x635002_56 = some (r1, r2, r3)) ∧ Aside0 (kq ≤ k) ∧ Aside0 (Kd.R (Kd.int .u32) 68 wc w.heap.size (fun k_ => some k_ ≠ (u635001 : Value).ownBlock) u629001 x629001_56) ∧ Aside0 (Kd.R (Kd.int .u32) 68 wc w.heap.size (fun k_ => some k_ ≠ (u629001 : Value).ownBlock) u635001 x635001_56) ∧ Aside0 (wc.heap[gb620]? = some (.cells #[.bool a0_0, (.slice A0_1 l0_1.length c0_1), .int .i64 a0_2] 50 (0, 0))) ∧ Aside0 (wc.heap[gb621]? = some (.cells #[.bool a1_0, (.slice A1_1 l1_1.length c1_1), .int .i64 a1_2] 50 (0, 0))) ∧ Aside0 (wc.heap[gb622]? = some (.cells #[.bool false, (.slice none 0 0), .int .i64 0] 50 (0, 0))) ∧ Aside0 (wc.heap[gb628]? = some (.cells #[.bool x629000_56, u629001, .int .i64 x629002_56] 50 (0, 0))) ∧ Aside0 (wc.heap[gb634]? = some (.cells #[.bool x635000_56, u635001, .int .i64 x635002_56] 50 (0, 0))) ∧ Aside0 (Below w.heap.size w wc))
   case first =>
    have H := HC57.out
    clear HC57
    by_cases c82 : t627 > t633
    ·rw [if_pos c82] at H
     have c82b0 : decide (t633 < t627) = true := decide_eq_true c82
     clear c82
     (first | rw [c82b0] | (simp only [i64_w, i32_w]; rw [c82b0]) | skip)
     have H' := Aside0.mk H
     clear H
     have hnb83 := NB628_620.out
     have hnc83 := NB620_628.out
     have hnb84 := NB628_621.out
     have hnc84 := NB621_628.out
     have hnb85 := NB628_622.out
     have hnc85 := NB622_628.out
     have hnb86 := NB628_634.out
     have hnc86 := NB634_628.out
     obtain ⟨hcz87_0, hcz87_1, hcz87_2, hfz87_0, hfz87_1, hfz87_2⟩ := c3_ BK628
     go_wp2_with (first | ((with_reducible refine gate_dst (N := 7) rfl ?_); refine bx_ 7 #[.bool false, .slice none 0 0, .int .i64 0] 50 ?_; intro gb635 hg w88 hbox hb; have n0_ := Aside0.mk (Kd.R_below (by (with_reducible repeat (first | apply Kd.R_alloc | apply Kd.R_drewN | apply Kd.R_drew)); exact (Kd.R_mono (Kd.R_far (p := ⟨gb634, 2, none⟩) (Kd.R_far (p := ⟨gb634, 1, none⟩) (Kd.R_far (p := ⟨gb634, 0, none⟩) (Kd.R_types HO626.out BK634.out (by decide)) (fun _ hk => hk.2) (.bool t629)) (fun _ hk => hk.2) (.slice Ao80 t630.length co80)) (fun _ hk => hk.2) (.int .i64 t633)) (fun _ h_ => h_.1))) hb); have n1_ := Aside0.mk (Kd.R_below (by (with_reducible repeat (first | apply Kd.R_alloc | apply Kd.R_drewN | apply Kd.R_drew)); exact (Kd.R_mono (Kd.R_far (p := ⟨gb634, 2, none⟩) (Kd.R_far (p := ⟨gb634, 1, none⟩) (Kd.R_far (p := ⟨gb634, 0, none⟩) (Kd.R_types HO632.out BK634.out (by decide)) (fun _ hk => hk.2) (.bool t629)) (fun _ hk => hk.2) (.slice Ao80 t630.length co80)) (fun _ hk => hk.2) (.int .i64 t633)) (fun _ h_ => h_.1))) hb); have n2_ := Aside0.mk (blk_below (g := gb620) (o := .cells #[.bool a0_0, .slice A0_1 l0_1.length c0_1, .int .i64 a0_2] 50 (0, 0)) (by refine kb_ ?_; refine bf_ NB620_634 ?_; refine bf_ NB620_634 ?_; refine bf_ NB620_634 ?_; exact BK620.out) hb); have n3_ := Aside0.mk (blk_below (g := gb621) (o := .cells #[.bool a1_0, .slice A1_1 l1_1.length c1_1, .int .i64 a1_2] 50 (0, 0)) (by refine kb_ ?_; refine bf_ NB621_634 ?_; refine bf_ NB621_634 ?_; refine bf_ NB621_634 ?_; exact BK621.out) hb); have n4_ := Aside0.mk (blk_below (g := gb622) (o := .cells #[.bool false, .slice none 0 0, .int .i64 0] 50 (0, 0)) (by refine kb_ ?_; refine bf_ NB622_634 ?_; refine bf_ NB622_634 ?_; refine bf_ NB622_634 ?_; exact BK622.out) hb); have n5_ := Aside0.mk (blk_below (g := gb628) (o := .cells #[.bool t623, .slice Ao70 t624.length co70, .int .i64 t627] 50 (0, 0)) (by refine kb_ ?_; refine bf_ NB628_634 ?_; refine bf_ NB628_634 ?_; refine bf_ NB628_634 ?_; exact BK628.out) hb); have n6_ := Aside0.mk (blk_below (g := gb634) (o := .cells #[.bool t629, .slice Ao80 t630.length co80, .int .i64 t633] 50 (0, 0)) (by refine kb_ ?_; refine bp_ #[.bool t629, .slice Ao80 t630.length co80, .int .i64 0] 2 ?_; refine bp_ #[.bool t629, .slice none 0 0, .int .i64 0] 1 ?_; refine bp_ #[.bool false, .slice none 0 0, .int .i64 0] 0 ?_; exact BK634.out) hb); have n7_ := bq_ HB hb; have n8_ := Aside0.mk (hbox); have n9_ := ge_ hg HB; have n10_ := ge_ hg HB; have n11_ := Aside0.mk ((by rw [hg]; exact Nat.ne_of_lt (blk_lt (g := gb620) (o := .cells #[.bool a0_0, .slice A0_1 l0_1.length c0_1, .int .i64 a0_2] 50 (0, 0)) (by refine kb_ ?_; refine bf_ NB620_634 ?_; refine bf_ NB620_634 ?_; refine bf_ NB620_634 ?_; exact BK620.out)) : gb620 ≠ gb635)); have n12_ := Aside0.mk ((by rw [hg]; exact Nat.ne_of_gt (blk_lt (g := gb620) (o := .cells #[.bool a0_0, .slice A0_1 l0_1.length c0_1, .int .i64 a0_2] 50 (0, 0)) (by refine kb_ ?_; refine bf_ NB620_634 ?_; refine bf_ NB620_634 ?_; refine bf_ NB620_634 ?_; exact BK620.out)) : gb635 ≠ gb620)); have n13_ := Aside0.mk ((by rw [hg]; exact Nat.ne_of_lt (blk_lt (g := gb621) (o := .cells #[.bool a1_0, .slice A1_1 l1_1.length c1_1, .int .i64 a1_2] 50 (0, 0)) (by refine kb_ ?_; refine bf_ NB621_634 ?_; refine bf_ NB621_634 ?_; refine bf_ NB621_634 ?_; exact BK621.out)) : gb621 ≠ gb635)); have n14_ := Aside0.mk ((by rw [hg]; exact Nat.ne_of_gt (blk_lt (g := gb621) (o := .cells #[.bool a1_0, .slice A1_1 l1_1.length c1_1, .int .i64 a1_2] 50 (0, 0)) (by refine kb_ ?_; refine bf_ NB621_634 ?_; refine bf_ NB621_634 ?_; refine bf_ NB621_634 ?_; exact BK621.out)) : gb635 ≠ gb621)); have n15_ := Aside0.mk ((by rw [hg]; exact Nat.ne_of_lt (blk_lt (g := gb622) (o := .cells #[.bool false, .slice none 0 0, .int .i64 0] 50 (0, 0)) (by refine kb_ ?_; refine bf_ NB622_634 ?_; refine bf_ NB622_634 ?_; refine bf_ NB622_634 ?_; exact BK622.out)) : gb622 ≠ gb635)); have n16_ := Aside0.mk ((by rw [hg]; exact Nat.ne_of_gt (blk_lt (g := gb622) (o := .cells #[.bool false, .slice none 0 0, .int .i64 0] 50 (0, 0)) (by refine kb_ ?_; refine bf_ NB622_634 ?_; refine bf_ NB622_634 ?_; refine bf_ NB622_634 ?_; exact BK622.out)) : gb635 ≠ gb622)); have n17_ := Aside0.mk ((by rw [hg]; exact Nat.ne_of_lt (blk_lt (g := gb628) (o := .cells #[.bool t623, .slice Ao70 t624.length co70, .int .i64 t627] 50 (0, 0)) (by refine kb_ ?_; refine bf_ NB628_634 ?_; refine bf_ NB628_634 ?_; refine bf_ NB628_634 ?_; exact BK628.out)) : gb628 ≠ gb635)); have n18_ := Aside0.mk ((by rw [hg]; exact Nat.ne_of_gt (blk_lt (g := gb628) (o := .cells #[.bool t623, .slice Ao70 t624.length co70, .int .i64 t627] 50 (0, 0)) (by refine kb_ ?_; refine bf_ NB628_634 ?_; refine bf_ NB628_634 ?_; refine bf_ NB628_634 ?_; exact BK628.out)) : gb635 ≠ gb628)); have n19_ := Aside0.mk ((by rw [hg]; exact Nat.ne_of_lt (blk_lt (g := gb634) (o := .cells #[.bool t629, .slice Ao80 t630.length co80, .int .i64 t633] 50 (0, 0)) (by refine kb_ ?_; refine bp_ #[.bool t629, .slice Ao80 t630.length co80, .int .i64 0] 2 ?_; refine bp_ #[.bool t629, .slice none 0 0, .int .i64 0] 1 ?_; refine bp_ #[.bool false, .slice none 0 0, .int .i64 0] 0 ?_; exact BK634.out)) : gb634 ≠ gb635)); have n20_ := Aside0.mk ((by rw [hg]; exact Nat.ne_of_gt (blk_lt (g := gb634) (o := .cells #[.bool t629, .slice Ao80 t630.length co80, .int .i64 t633] 50 (0, 0)) (by refine kb_ ?_; refine bp_ #[.bool t629, .slice Ao80 t630.length co80, .int .i64 0] 2 ?_; refine bp_ #[.bool t629, .slice none 0 0, .int .i64 0] 1 ?_; refine bp_ #[.bool false, .slice none 0 0, .int .i64 0] 0 ?_; exact BK634.out)) : gb635 ≠ gb634)); clear HO626; clear HO632; clear BK620; clear BK621; clear BK622; clear BK628; clear BK634; clear HB; have HO626 := n0_; have HO632 := n1_; have BK620 := n2_; have BK621 := n3_; have BK622 := n4_; have BK628 := n5_; have BK634 := n6_; have HB := n7_; have BK635 := n8_; have GW635 := n9_; have GE635 := n10_; have NB620_635 := n11_; have NB635_620 := n12_; have NB621_635 := n13_; have NB635_621 := n14_; have NB622_635 := n15_; have NB635_622 := n16_; have NB628_635 := n17_; have NB635_628 := n18_; have NB634_635 := n19_; have NB635_634 := n20_; clear n0_ n1_ n2_ n3_ n4_ n5_ n6_ n7_ n8_ n9_ n10_ n11_ n12_ n13_ n14_ n15_ n16_ n17_ n18_ n19_ n20_; clear hb hbox hg; have hnb89 := NB635_620.out; have hnc89 := NB620_635.out; have hnb90 := NB635_621.out; have hnc90 := NB621_635.out; have hnb91 := NB635_622.out; have hnc91 := NB622_635.out; have hnb92 := NB635_628.out; have hnc92 := NB628_635.out; have hnb93 := NB635_634.out; have hnc93 := NB634_635.out; obtain ⟨hcz94_0, hcz94_1, hcz94_2, hfz94_0, hfz94_1, hfz94_2⟩ := c3_ BK635; have hnb95 := NB634_620.out; have hnc95 := NB620_634.out; have hnb96 := NB634_621.out; have hnc96 := NB621_634.out; have hnb97 := NB634_622.out; have hnc97 := NB622_634.out; obtain ⟨hcz98_0, hcz98_1, hcz98_2, hfz98_0, hfz98_1, hfz98_2⟩ := c3_ BK634; obtain ⟨hcz99_0, hcz99_1, hcz99_2, hfz99_0, hfz99_1, hfz99_2⟩ := c3_ BK628))
     go_meet
     case rel => exact ⟨_, (t629), (t630), (t633), (t623), (t624), (t627), (.slice Ao80 t630.length co80), (.slice Ao70 t624.length co70), H', ⟨by first | omega | exact Nat.le_refl _⟩, ⟨by (with_reducible repeat (first | apply Kd.R_alloc | apply Kd.R_drewN | apply Kd.R_drew)); exact Kd.R_mono (Kd.R_far (p := ⟨gb634, 2, none⟩) (Kd.R_far (p := ⟨gb634, 1, none⟩) (Kd.R_far (p := ⟨gb634, 0, none⟩) (Kd.R_far (p := ⟨gb628, 2, none⟩) (Kd.R_far (p := ⟨gb628, 1, none⟩) (Kd.R_far (p := ⟨gb628, 0, none⟩) (Kd.R_far (p := ⟨gb635, 2, none⟩) (Kd.R_far (p := ⟨gb635, 1, none⟩) (Kd.R_far (p := ⟨gb635, 0, none⟩) (Kd.R_types (Kd.R_types (Kd.R_types HO632.out BK635.out (by decide)) BK628.out (by decide)) BK634.out (by decide)) (fun _ hk => hk.1.1.2) (.bool t623)) (fun _ hk => hk.1.1.2) (.slice Ao70 t624.length co70)) (fun _ hk => hk.1.1.2) (.int .i64 t627)) (fun _ hk => hk.1.2) (.bool t629)) (fun _ hk => hk.1.2) (.slice Ao80 t630.length co80)) (fun _ hk => hk.1.2) (.int .i64 t633)) (fun _ hk => hk.2) (.bool t623)) (fun _ hk => hk.2) (.slice Ao70 t624.length co70)) (fun _ hk => hk.2) (.int .i64 t627)) (fun _ hk => hk.1.1.1.2)⟩, ⟨by (with_reducible repeat (first | apply Kd.R_alloc | apply Kd.R_drewN | apply Kd.R_drew)); exact Kd.R_mono (Kd.R_far (p := ⟨gb634, 2, none⟩) (Kd.R_far (p := ⟨gb634, 1, none⟩) (Kd.R_far (p := ⟨gb634, 0, none⟩) (Kd.R_far (p := ⟨gb628, 2, none⟩) (Kd.R_far (p := ⟨gb628, 1, none⟩) (Kd.R_far (p := ⟨gb628, 0, none⟩) (Kd.R_far (p := ⟨gb635, 2, none⟩) (Kd.R_far (p := ⟨gb635, 1, none⟩) (Kd.R_far (p := ⟨gb635, 0, none⟩) (Kd.R_types (Kd.R_types (Kd.R_types HO626.out BK635.out (by decide)) BK628.out (by decide)) BK634.out (by decide)) (fun _ hk => hk.1.1.2) (.bool t623)) (fun _ hk => hk.1.1.2) (.slice Ao70 t624.length co70)) (fun _ hk => hk.1.1.2) (.int .i64 t627)) (fun _ hk => hk.1.2) (.bool t629)) (fun _ hk => hk.1.2) (.slice Ao80 t630.length co80)) (fun _ hk => hk.1.2) (.int .i64 t633)) (fun _ hk => hk.2) (.bool t623)) (fun _ hk => hk.2) (.slice Ao70 t624.length co70)) (fun _ hk => hk.2) (.int .i64 t627)) (fun _ hk => hk.1.1.1.2)⟩, ⟨by refine kb_ ?_; refine bf_ NB620_634 ?_; refine bf_ NB620_634 ?_; refine bf_ NB620_634 ?_; refine bf_ NB620_628 ?_; refine bf_ NB620_628 ?_; refine bf_ NB620_628 ?_; refine bf_ NB620_635 ?_; refine bf_ NB620_635 ?_; refine bf_ NB620_635 ?_; exact BK620.out⟩, ⟨by refine kb_ ?_; refine bf_ NB621_634 ?_; refine bf_ NB621_634 ?_; refine bf_ NB621_634 ?_; refine bf_ NB621_628 ?_; refine bf_ NB621_628 ?_; refine bf_ NB621_628 ?_; refine bf_ NB621_635 ?_; refine bf_ NB621_635 ?_; refine bf_ NB621_635 ?_; exact BK621.out⟩, ⟨by refine kb_ ?_; refine bf_ NB622_634 ?_; refine bf_ NB622_634 ?_; refine bf_ NB622_634 ?_; refine bf_ NB622_628 ?_; refine bf_ NB622_628 ?_; refine bf_ NB622_628 ?_; refine bf_ NB622_635 ?_; refine bf_ NB622_635 ?_; refine bf_ NB622_635 ?_; exact BK622.out⟩, ⟨by refine kb_ ?_; refine bf_ NB628_634 ?_; refine bf_ NB628_634 ?_; refine bf_ NB628_634 ?_; refine bp_ #[.bool t629, .slice Ao80 t630.length co80, .int .i64 t627] 2 ?_; refine bp_ #[.bool t629, .slice Ao70 t624.length co70, .int .i64 t627] 1 ?_; refine bp_ #[.bool t623, .slice Ao70 t624.length co70, .int .i64 t627] 0 ?_; refine bf_ NB628_635 ?_; refine bf_ NB628_635 ?_; refine bf_ NB628_635 ?_; exact BK628.out⟩, ⟨by refine kb_ ?_; refine bp_ #[.bool t623, .slice Ao70 t624.length co70, .int .i64 t633] 2 ?_; refine bp_ #[.bool t623, .slice Ao80 t630.length co80, .int .i64 t633] 1 ?_; refine bp_ #[.bool t629, .slice Ao80 t630.length co80, .int .i64 t633] 0 ?_; refine bf_ NB634_628 ?_; refine bf_ NB634_628 ?_; refine bf_ NB634_628 ?_; refine bf_ NB634_635 ?_; refine bf_ NB634_635 ?_; refine bf_ NB634_635 ?_; exact BK634.out⟩, ⟨bw_ HB.out⟩⟩
    ·rw [if_neg c82] at H
     have c82b0 : decide (t633 < t627) = false := decide_eq_false c82
     clear c82
     (first | rw [c82b0] | (simp only [i64_w, i32_w]; rw [c82b0]) | skip)
     have H' := Aside0.mk H
     clear H
     go_wp2
     go_meet
     case rel => exact ⟨_, (t623), (t624), (t627), (t629), (t630), (t633), (.slice Ao70 t624.length co70), (.slice Ao80 t630.length co80), H', ⟨by first | omega | exact Nat.le_refl _⟩, ⟨by (with_reducible repeat (first | apply Kd.R_alloc | apply Kd.R_drewN | apply Kd.R_drew)); exact Kd.R_mono (Kd.R_far (p := ⟨gb634, 2, none⟩) (Kd.R_far (p := ⟨gb634, 1, none⟩) (Kd.R_far (p := ⟨gb634, 0, none⟩) (Kd.R_types HO626.out BK634.out (by decide)) (fun _ hk => hk.2) (.bool t629)) (fun _ hk => hk.2) (.slice Ao80 t630.length co80)) (fun _ hk => hk.2) (.int .i64 t633)) (fun _ hk => hk.1.2)⟩, ⟨by (with_reducible repeat (first | apply Kd.R_alloc | apply Kd.R_drewN | apply Kd.R_drew)); exact Kd.R_mono (Kd.R_far (p := ⟨gb634, 2, none⟩) (Kd.R_far (p := ⟨gb634, 1, none⟩) (Kd.R_far (p := ⟨gb634, 0, none⟩) (Kd.R_types HO632.out BK634.out (by decide)) (fun _ hk => hk.2) (.bool t629)) (fun _ hk => hk.2) (.slice Ao80 t630.length co80)) (fun _ hk => hk.2) (.int .i64 t633)) (fun _ hk => hk.1.2)⟩, ⟨by refine kb_ ?_; refine bf_ NB620_634 ?_; refine bf_ NB620_634 ?_; refine bf_ NB620_634 ?_; exact BK620.out⟩, ⟨by refine kb_ ?_; refine bf_ NB621_634 ?_; refine bf_ NB621_634 ?_; refine bf_ NB621_634 ?_; exact BK621.out⟩, ⟨by refine kb_ ?_; refine bf_ NB622_634 ?_; refine bf_ NB622_634 ?_; refine bf_ NB622_634 ?_; exact BK622.out⟩, ⟨by refine kb_ ?_; refine bf_ NB628_634 ?_; refine bf_ NB628_634 ?_; refine bf_ NB628_634 ?_; exact BK628.out⟩, ⟨by refine kb_ ?_; refine bp_ #[.bool t629, .slice Ao80 t630.length co80, .int .i64 0] 2 ?_; refine bp_ #[.bool t629, .slice none 0 0, .int .i64 0] 1 ?_; refine bp_ #[.bool false, .slice none 0 0, .int .i64 0] 0 ?_; exact BK634.out⟩, ⟨bw_ HB.out⟩⟩
   case rest =>
    clear HC57
    try clear c1
    try clear c2
    try clear p2
    try clear c3
    try clear c4
    try clear c5
    try clear c5b0
    try clear c5b1
    try clear c5b2
    try clear c6
    try clear c7
    try clear c8
    try clear c9
    try clear c10
    try clear c14
    try clear c15
    try clear c16
    try clear c19
    try clear c23
    try clear c24
    try clear c25
    try clear c26
    try clear c31
    try clear c31b0
    try clear c31b1
    try clear c31b2
    try clear c35
    try clear c36
    try clear c40
    try clear c41
    try clear c42
    try clear c45
    try clear c49
    try clear c50
    try clear c51
    try clear c52
    try clear c54
    try clear c61
    try clear c62
    try clear c66
    try clear c67
    try clear c68
    try clear c71
    try clear c75
    try clear c76
    try clear c77
    try clear c78
    try clear c82
    try clear c82b0
    try clear c83
    try clear c84
    try clear c85
    try clear c86
    try clear c89
    try clear c90
    try clear c91
    try clear c92
    try clear c93
    try clear c95
    try clear c96
    try clear c97
    try clear hcz11_0 hcz11_1 hcz11_2
    try clear hcz17_0 hcz17_1 hcz17_2
    try clear hcz20_0 hcz20_1 hcz20_2
    try clear hcz27_0 hcz27_1 hcz27_2
    try clear hcz29_0 hcz29_1 hcz29_2
    try clear hcz30_0 hcz30_1 hcz30_2
    try clear hcz37_0 hcz37_1 hcz37_2
    try clear hcz43_0 hcz43_1 hcz43_2
    try clear hcz46_0 hcz46_1 hcz46_2
    try clear hcz53_0 hcz53_1 hcz53_2
    try clear hcz55_0 hcz55_1 hcz55_2
    try clear hcz56_0 hcz56_1 hcz56_2
    try clear hcz63_0 hcz63_1 hcz63_2
    try clear hcz69_0 hcz69_1 hcz69_2
    try clear hcz72_0 hcz72_1 hcz72_2
    try clear hcz79_0 hcz79_1 hcz79_2
    try clear hcz81_0 hcz81_1 hcz81_2
    try clear hcz87_0 hcz87_1 hcz87_2
    try clear hcz94_0 hcz94_1 hcz94_2
    try clear hcz98_0 hcz98_1 hcz98_2
    try clear hcz99_0 hcz99_1 hcz99_2
    try clear hfz11_0 hfz11_1 hfz11_2
    try clear hfz17_0 hfz17_1 hfz17_2
    try clear hfz20_0 hfz20_1 hfz20_2
    try clear hfz27_0 hfz27_1 hfz27_2
    try clear hfz29_0 hfz29_1 hfz29_2
    try clear hfz30_0 hfz30_1 hfz30_2
    try clear hfz37_0 hfz37_1 hfz37_2
    try clear hfz43_0 hfz43_1 hfz43_2
    try clear hfz46_0 hfz46_1 hfz46_2
    try clear hfz53_0 hfz53_1 hfz53_2
    try clear hfz55_0 hfz55_1 hfz55_2
    try clear hfz56_0 hfz56_1 hfz56_2
    try clear hfz63_0 hfz63_1 hfz63_2
    try clear hfz69_0 hfz69_1 hfz69_2
    try clear hfz72_0 hfz72_1 hfz72_2
    try clear hfz79_0 hfz79_1 hfz79_2
    try clear hfz81_0 hfz81_1 hfz81_2
    try clear hfz87_0 hfz87_1 hfz87_2
    try clear hfz94_0 hfz94_1 hfz94_2
    try clear hfz98_0 hfz98_1 hfz98_2
    try clear hfz99_0 hfz99_1 hfz99_2
    obtain ⟨kq, x629000_56, x629001_56, x629002_56, x635000_56, x635001_56, x635002_56, u629001, u635001, HA, HJ56, HO_629001, HO_635001, BK620, BK621, BK622, BK628, BK634, HB⟩ := hcut
    cases kq with
    | zero => exact absurd HA.out (by simp [pelorusref03_Two.j0])
    | succ kj56 =>
     have H := HA.out
     clear HA
     simp only [pelorusref03_Two.j0] at H
     replace H := Option.bind_eq_some_iff.mp H
     obtain ⟨t636, A1000, H⟩ := H
     (try dsimp only at H)
     have A100 := Aside0.mk A1000
     clear A1000
     replace H := Option.bind_eq_some_iff.mp H
     obtain ⟨⟨t639, t640⟩, A1010, H⟩ := H
     (try dsimp only at H)
     have A101 := Aside0.mk A1010
     clear A1010
     replace H := Option.bind_eq_some_iff.mp H
     obtain ⟨⟨t644, t645⟩, A1020, H⟩ := H
     (try dsimp only at H)
     have A102 := Aside0.mk A1020
     clear A1020
     replace H := Option.bind_eq_some_iff.mp H
     obtain ⟨⟨t648, t649, t652⟩, A1030, H⟩ := H
     (try dsimp only at H)
     have A103 := Aside0.mk A1030
     clear A1030
     simp only [Option.some.injEq, Prod.mk.injEq] at H
     obtain ⟨rfl, rfl, rfl⟩ := H
     obtain ⟨Ao104, co104, eo104⟩ := Kd.R_slice HO_635001.out
     subst eo104
     try go_wp2
     have n0_ := Aside0.mk (Kd.R_drew HO_629001.out)
     have n1_ := Aside0.mk (Kd.R_drew HO_635001.out)
     have n2_ := Aside0.mk (blk_drew BK620.out)
     have n3_ := Aside0.mk (blk_drew BK621.out)
     have n4_ := Aside0.mk (blk_drew BK622.out)
     have n5_ := Aside0.mk (blk_drew BK628.out)
     have n6_ := Aside0.mk (blk_drew BK634.out)
     have n7_ := Aside0.mk (below_drew1 HB.out)
     clear HO_629001
     clear HO_635001
     clear BK620
     clear BK621
     clear BK622
     clear BK628
     clear BK634
     clear HB
     have HO_629001 := n0_
     have HO_635001 := n1_
     have BK620 := n2_
     have BK621 := n3_
     have BK622 := n4_
     have BK628 := n5_
     have BK634 := n6_
     have HB := n7_
     clear n0_ n1_ n2_ n3_ n4_ n5_ n6_ n7_
     refine start_ (n := 15) (S := fun w' => w'.cell? ⟨gb634, 0, none⟩ = some (.bool x635000_56) ∧ w'.cell? ⟨gb634, 1, none⟩ = some (.slice Ao104 x635001_56.length co104) ∧ w'.cell? ⟨gb634, 2, none⟩ = some (.int .i64 x635002_56) ∧ w'.cell? ⟨gb628, 0, none⟩ = some (.bool x629000_56) ∧ w'.cell? ⟨gb628, 1, none⟩ = some (u629001) ∧ w'.cell? ⟨gb628, 2, none⟩ = some (.int .i64 x629002_56)) (ds := []) #[false, false, false, false, false, false, false, false, false, false, false, false, false, false, false] (by kernel_rfl) rfl rfl ⟨(blk_cell BK634.out 0).trans rfl, (blk_cell BK634.out 1).trans rfl, (blk_cell BK634.out 2).trans rfl, (blk_cell BK628.out 0).trans rfl, (blk_cell BK628.out 1).trans rfl, (blk_cell BK628.out 2).trans rfl⟩ (fun hHeld => ?_); refine with_tabW pelorusref03_Two.tab11 pelorusref03_Two.bits11 (fun HT_ HW_ => ?_)
     generalize wc.drew = w105 at HO_629001 HO_635001 BK620 BK621 BK622 BK628 BK634 HB hHeld ⊢
     refine pure_ (i := 0) (N := some 39) (v := ?_) (a' := ?_) #[true, false, false, false, false, false, false, false, false, false, false, false, false, false, false] rfl rfl (any_of HT_.out (by kernel_rfl)) (fun _ _ _ h => h) (Or.inl ⟨by rfl, ?_⟩) ?_ ?_
     rotate_left
     ·intro w'
      go_simp
      with_reducible rfl
     rotate_left
     ·exact pt_
     refine pure_ (i := 1) (N := some 40) (v := ?_) (a' := ?_) #[true, true, false, false, false, false, false, false, false, false, false, false, false, false, false] rfl rfl (any_of HT_.out (by kernel_rfl)) (fun _ _ _ h => h) (Or.inl ⟨by rfl, ?_⟩) ?_ ?_
     rotate_left
     ·intro w'
      go_simp
      with_reducible rfl
     rotate_left
     ·exact pt_
     refine pure_ (i := 3) (N := some 42) (v := ?_) (a' := ?_) #[true, true, false, true, false, false, false, false, false, false, false, false, false, false, false] rfl rfl (any_of HT_.out (by kernel_rfl)) (fun _ _ _ h => h) (Or.inl ⟨by rfl, ?_⟩) ?_ ?_
     rotate_left
     ·intro w'
      go_simp
      with_reducible rfl
     rotate_left
     ·exact pt_
     refine pure_ (i := 4) (N := some 43) (v := ?_) (a' := ?_) #[true, true, false, true, true, false, false, false, false, false, false, false, false, false, false] rfl rfl (any_of HT_.out (by kernel_rfl)) (fun _ _ _ h => h) (Or.inl ⟨by rfl, ?_⟩) ?_ ?_
     rotate_left
     ·intro w'
      go_simp
      with_reducible rfl
     rotate_left
     ·exact pt_
     refine pure_ (i := 6) (N := some 45) (v := ?_) (a' := ?_) #[true, true, false, true, true, false, true, false, false, false, false, false, false, false, false] rfl rfl (any_of HT_.out (by kernel_rfl)) (fun _ _ _ h => h) (Or.inl ⟨by rfl, ?_⟩) ?_ ?_
     rotate_left
     ·intro w'
      go_simp
      with_reducible rfl
     rotate_left
     ·exact pt_
     refine pure_ (i := 8) (N := some 47) (v := ?_) (a' := ?_) #[true, true, false, true, true, false, true, false, true, false, false, false, false, false, false] rfl rfl (any_of HT_.out (by kernel_rfl)) (fun _ _ _ h => h) (Or.inl ⟨by rfl, ?_⟩) ?_ ?_
     rotate_left
     ·intro w'
      go_simp
      with_reducible rfl
     rotate_left
     ·exact pt_
     refine take_ (i := 2) (N := some 41) (v := ?_) (a' := ?_) #[true, true, true, true, true, false, true, false, true, false, false, false, false, false, false] rfl rfl (take_ofW HT_.out HW_.out (by kernel_rfl)) (fun _ _ _ h => h) (Or.inl ⟨by rfl, ?_⟩) hHeld ?_ ?_
     rotate_left
     ·rintro w' ⟨s0, s1, s2, s3, s4, s5⟩
      go_simp
      with_reducible rfl
     rotate_left
     ·exact pt_
     refine take_ (i := 5) (N := some 44) (v := ?_) (a' := ?_) #[true, true, true, true, true, true, true, false, true, false, false, false, false, false, false] rfl rfl (take_ofW HT_.out HW_.out (by kernel_rfl)) (fun _ _ _ h => h) (Or.inl ⟨by rfl, ?_⟩) hHeld ?_ ?_
     rotate_left
     ·rintro w' ⟨s0, s1, s2, s3, s4, s5⟩
      go_simp
      with_reducible rfl
     rotate_left
     ·exact pt_
     refine take_ (i := 7) (N := some 46) (v := ?_) (a' := ?_) #[true, true, true, true, true, true, true, true, true, false, false, false, false, false, false] rfl rfl (take_ofW HT_.out HW_.out (by kernel_rfl)) (fun _ _ _ h => h) (Or.inl ⟨by rfl, ?_⟩) hHeld ?_ ?_
     rotate_left
     ·rintro w' ⟨s0, s1, s2, s3, s4, s5⟩
      go_simp
      with_reducible rfl
     rotate_left
     ·exact pt_
     refine take_ (i := 9) (N := some 48) (v := ?_) (a' := ?_) #[true, true, true, true, true, true, true, true, true, true, false, false, false, false, false] rfl rfl (take_ofW HT_.out HW_.out (by kernel_rfl)) (fun _ _ _ h => h) (Or.inl ⟨by rfl, ?_⟩) hHeld ?_ ?_
     rotate_left
     ·rintro w' ⟨s0, s1, s2, s3, s4, s5⟩
      go_simp
      with_reducible rfl
     rotate_left
     ·exact pt_
     refine pure_ (i := 10) (N := some 49) (v := ?_) (a' := ?_) #[true, true, true, true, true, true, true, true, true, true, true, false, false, false, false] rfl rfl (any_of HT_.out (by kernel_rfl)) (fun _ _ _ h => h) (Or.inl ⟨by rfl, ?_⟩) ?_ ?_
     rotate_left
     ·intro w'
      go_simp
      with_reducible rfl
     rotate_left
     ·exact pt_
     refine join_ (σ := Value × Value × Nat) 1 #[true, true, true, true, true, true, true, true, true, true, true, true, true, true, false] (fun s_ => [(50, s_.1), (51, .agg #[.bool t639, s_.2.1]), (8, .pointer (some ⟨s_.2.2, 0, none⟩))]) (fun s_ w' => (w'.cell? ⟨gb634, 0, none⟩ = some (.bool x635000_56) ∧ w'.cell? ⟨gb634, 1, none⟩ = some (.slice Ao104 x635001_56.length co104) ∧ w'.cell? ⟨gb634, 2, none⟩ = some (.int .i64 x635002_56) ∧ w'.cell? ⟨gb628, 0, none⟩ = some (.bool x629000_56) ∧ w'.cell? ⟨gb628, 1, none⟩ = some (u629001) ∧ w'.cell? ⟨gb628, 2, none⟩ = some (.int .i64 x629002_56)) ∧ (Kd.R (Kd.int .u32) 68 w' w.heap.size (fun k_ => some k_ ≠ (s_.2.1 : Value).ownBlock ∧ some k_ ≠ (u629001 : Value).ownBlock ∧ some k_ ≠ (.slice Ao104 x635001_56.length co104 : Value).ownBlock) s_.1 t636) ∧ (Kd.R (Kd.int .u32) 68 w' w.heap.size (fun k_ => some k_ ≠ (s_.1 : Value).ownBlock ∧ some k_ ≠ (u629001 : Value).ownBlock ∧ some k_ ≠ (.slice Ao104 x635001_56.length co104 : Value).ownBlock) s_.2.1 t640) ∧ (Kd.R (Kd.int .u32) 68 w' w.heap.size (fun k_ => some k_ ≠ (s_.1 : Value).ownBlock ∧ some k_ ≠ (s_.2.1 : Value).ownBlock ∧ some k_ ≠ (.slice Ao104 x635001_56.length co104 : Value).ownBlock) u629001 x629001_56) ∧ (Kd.R (Kd.int .u32) 68 w' w.heap.size (fun k_ => some k_ ≠ (s_.1 : Value).ownBlock ∧ some k_ ≠ (s_.2.1 : Value).ownBlock ∧ some k_ ≠ (u629001 : Value).ownBlock) (.slice Ao104 x635001_56.length co104) x635001_56) ∧ (w'.heap[gb620]? = some (.cells #[.bool a0_0, .slice A0_1 l0_1.length c0_1, .int .i64 a0_2] 50 (0, 0))) ∧ (w'.heap[gb621]? = some (.cells #[.bool a1_0, .slice A1_1 l1_1.length c1_1, .int .i64 a1_2] 50 (0, 0))) ∧ (w'.heap[gb622]? = some (.cells #[.bool false, .slice none 0 0, .int .i64 0] 50 (0, 0))) ∧ (w'.heap[gb628]? = some (.cells #[.bool x629000_56, u629001, .int .i64 x629002_56] 50 (0, 0))) ∧ (w'.heap[gb634]? = some (.cells #[.bool x635000_56, .slice Ao104 x635001_56.length co104, .int .i64 x635002_56] 50 (0, 0))) ∧ (w'.heap[s_.2.2]? = some (.cells #[.bool false, .slice none 0 0] 48 (0, 0))) ∧ (w.heap.size ≤ s_.2.2) ∧ (w.heap.size ≤ s_.2.2) ∧ (gb620 ≠ s_.2.2) ∧ (s_.2.2 ≠ gb620) ∧ (gb621 ≠ s_.2.2) ∧ (s_.2.2 ≠ gb621) ∧ (gb622 ≠ s_.2.2) ∧ (s_.2.2 ≠ gb622) ∧ (gb628 ≠ s_.2.2) ∧ (s_.2.2 ≠ gb628) ∧ (gb634 ≠ s_.2.2) ∧ (s_.2.2 ≠ gb634) ∧ (Below w.heap.size w w')) ?_ ?_
     rotate_left
     ·intro hCont
      refine two_ (i := 11) (j := 13) (Ni := some 50) (Nj := some 8) #[true, true, true, true, true, true, true, true, true, true, true, true, false, false, false] #[true, true, true, true, true, true, true, true, true, true, true, false, false, true, false] rfl rfl rfl rfl (two_of HT_.out (by kernel_rfl)) (by decide) (by decide) (fun K hK => ?_) (fun K hK => ?_)
      ·skip
       refine gs_ Try.func60 #[.slice Ao104 x635001_56.length co104, .int .i64 (wrap64 (x635002_56 - x629002_56))] ?_
       with_reducible refine (pelorusref01_Shl.calls kj56 _ _ x635001_56 (wrap64 (x635002_56 - x629002_56)) t636 _ ?side1 ?side2 A100.out).mono ?_
       (case side1 => repeat (first | exact (Kd.R_reads' HO_635001.out).2.2 | (with_reducible refine Kd.C_alloc ?_ _) | (with_reducible refine Kd.C_drewN ?_ _) | (with_reducible refine Kd.C_drew ?_)))
       (case side2 => exact (Kd.R_reads' HO_635001.out).2.1)
       rintro e w106 ⟨v637, rfl, ho0, hb⟩
       refine ⟨_, rfl, ?_⟩
       have n0_ := Aside0.mk (Kd.R_elder' (by (with_reducible repeat (first | apply Kd.R_alloc | apply Kd.R_drewN | apply Kd.R_drew)); exact HO_629001.out) (Kd.R_base ho0) hb)
       have n1_ := Aside0.mk (Kd.R_elder' (by (with_reducible repeat (first | apply Kd.R_alloc | apply Kd.R_drewN | apply Kd.R_drew)); exact HO_635001.out) (Kd.R_base ho0) hb)
       have n2_ := Aside0.mk (Kd.R_lower (Kd.R_new' (Kd.R_new' ho0 (Kd.R_lt (by (with_reducible repeat (first | apply Kd.R_alloc | apply Kd.R_drewN | apply Kd.R_drew)); exact HO_629001.out))) (Kd.R_lt (by (with_reducible repeat (first | apply Kd.R_alloc | apply Kd.R_drewN | apply Kd.R_drew)); exact HO_635001.out))) (below_size (bw_ HB.out)))
       have n3_ := kq_ BK620 hb
       have n4_ := kq_ BK621 hb
       have n5_ := kq_ BK622 hb
       have n6_ := kq_ BK628 hb
       have n7_ := kq_ BK634 hb
       have n8_ := bq_ HB hb
       clear HO_629001
       clear HO_635001
       clear BK620
       clear BK621
       clear BK622
       clear BK628
       clear BK634
       clear HB
       have HO_629001 := n0_
       have HO_635001 := n1_
       have HO638 := n2_
       have BK620 := n3_
       have BK621 := n4_
       have BK622 := n5_
       have BK628 := n6_
       have BK634 := n7_
       have HB := n8_
       clear n0_ n1_ n2_ n3_ n4_ n5_ n6_ n7_ n8_
       (try clear hb)
       (try clear hb2)
       (try clear hk)
       (try clear hi)
       (try clear ho0)
       obtain ⟨Ao107, co107, eo107⟩ := Kd.R_slice HO638.out
       (first | subst eo107 | (injection eo107 with f1_ f2_ f3_; have f4_ := f1_.symm; have f5_ := f3_.symm; clear f1_ f2_ f3_; subst f4_; subst f5_))
       refine hK.out _ _ ⟨(blk_cell BK634.out 0).trans rfl, (blk_cell BK634.out 1).trans rfl, (blk_cell BK634.out 2).trans rfl, (blk_cell BK628.out 0).trans rfl, (blk_cell BK628.out 1).trans rfl, (blk_cell BK628.out 2).trans rfl⟩ (fun hHeld => ?_)
       clear hK K
       refine norm_ (a' := ?_) ?_ ?_
       rotate_left
       ·show Act.put _ (some 50) _ = _
        exact pt_
       refine two_ (i := 12) (j := 13) (Ni := some 51) (Nj := some 8) #[true, true, true, true, true, true, true, true, true, true, true, true, true, false, false] #[true, true, true, true, true, true, true, true, true, true, true, true, false, true, false] rfl rfl rfl rfl (two_of HT_.out (by kernel_rfl)) (by decide) (by decide) (fun K hK => ?_) (fun K hK => ?_)
       ·skip
        refine gs_ Try.func55 #[.bool x635000_56, .slice Ao107 t636.length co107] ?_
        with_reducible refine (pelorusref02_Make.calls kj56 x635000_56 _ _ t636 t639 t640 _ ?side1 ?side2 A101.out).mono ?_
        (case side1 => repeat (first | exact (Kd.R_reads' HO638.out).2.2 | (with_reducible refine Kd.C_alloc ?_ _) | (with_reducible refine Kd.C_drewN ?_ _) | (with_reducible refine Kd.C_drew ?_)))
        (case side2 => exact (Kd.R_reads' HO638.out).2.1)
        rintro e w108 ⟨v641, rfl, ho0, hb⟩
        refine ⟨_, rfl, ?_⟩
        have n0_ := Aside0.mk (Kd.R_elder' (by (with_reducible repeat (first | apply Kd.R_alloc | apply Kd.R_drewN | apply Kd.R_drew)); exact HO_629001.out) (Kd.R_base ho0) hb)
        have n1_ := Aside0.mk (Kd.R_elder' (by (with_reducible repeat (first | apply Kd.R_alloc | apply Kd.R_drewN | apply Kd.R_drew)); exact HO_635001.out) (Kd.R_base ho0) hb)
        have n2_ := Aside0.mk (Kd.R_elder' (by (with_reducible repeat (first | apply Kd.R_alloc | apply Kd.R_drewN | apply Kd.R_drew)); exact HO638.out) (Kd.R_base ho0) hb)
        have n3_ := Aside0.mk (Kd.R_lower (Kd.R_new' (Kd.R_new' (Kd.R_new' ho0 (Kd.R_lt (by (with_reducible repeat (first | apply Kd.R_alloc | apply Kd.R_drewN | apply Kd.R_drew)); exact HO_629001.out))) (Kd.R_lt (by (with_reducible repeat (first | apply Kd.R_alloc | apply Kd.R_drewN | apply Kd.R_drew)); exact HO_635001.out))) (Kd.R_lt (by (with_reducible repeat (first | apply Kd.R_alloc | apply Kd.R_drewN | apply Kd.R_drew)); exact HO638.out))) (below_size (bw_ HB.out)))
        have n4_ := kq_ BK620 hb
        have n5_ := kq_ BK621 hb
        have n6_ := kq_ BK622 hb
        have n7_ := kq_ BK628 hb
        have n8_ := kq_ BK634 hb
        have n9_ := bq_ HB hb
        clear HO_629001
        clear HO_635001
        clear HO638
        clear BK620
        clear BK621
        clear BK622
        clear BK628
        clear BK634
        clear HB
        have HO_629001 := n0_
        have HO_635001 := n1_
        have HO638 := n2_
        have HO642 := n3_
        have BK620 := n4_
        have BK621 := n5_
        have BK622 := n6_
        have BK628 := n7_
        have BK634 := n8_
        have HB := n9_
        clear n0_ n1_ n2_ n3_ n4_ n5_ n6_ n7_ n8_ n9_
        (try clear hb)
        (try clear hb2)
        (try clear hk)
        (try clear hi)
        (try clear ho0)
        refine hK.out _ _ ⟨(blk_cell BK634.out 0).trans rfl, (blk_cell BK634.out 1).trans rfl, (blk_cell BK634.out 2).trans rfl, (blk_cell BK628.out 0).trans rfl, (blk_cell BK628.out 1).trans rfl, (blk_cell BK628.out 2).trans rfl⟩ (fun hHeld => ?_)
        clear hK K
        refine norm_ (a' := ?_) ?_ ?_
        rotate_left
        ·show Act.put _ (some 51) _ = _
         exact pt_
        refine one_ (i := 13) (N := some 8) #[true, true, true, true, true, true, true, true, true, true, true, true, true, true, false] rfl rfl (one_of HT_.out (by kernel_rfl)) (by decide) (fun K hK => ?_)
        refine box_step ?hg (N := 8) ?hd (cs := #[.bool false, .slice none 0 0]) (t := 48) ?hr ?_; (case hd => rfl); (case hg => rfl); (case hr => first | (go_simp; done) | (go_simp; rfl))
        intro gb643 hg w109 hbox hb
        have n0_ := Aside0.mk (Kd.R_below (by (with_reducible repeat (first | apply Kd.R_alloc | apply Kd.R_drewN | apply Kd.R_drew)); exact HO_629001.out) hb)
        have n1_ := Aside0.mk (Kd.R_below (by (with_reducible repeat (first | apply Kd.R_alloc | apply Kd.R_drewN | apply Kd.R_drew)); exact HO_635001.out) hb)
        have n2_ := Aside0.mk (Kd.R_below (by (with_reducible repeat (first | apply Kd.R_alloc | apply Kd.R_drewN | apply Kd.R_drew)); exact HO638.out) hb)
        have n3_ := Aside0.mk (Kd.R_below (by (with_reducible repeat (first | apply Kd.R_alloc | apply Kd.R_drewN | apply Kd.R_drew)); exact HO642.out) hb)
        have n4_ := kq_ BK620 hb
        have n5_ := kq_ BK621 hb
        have n6_ := kq_ BK622 hb
        have n7_ := kq_ BK628 hb
        have n8_ := kq_ BK634 hb
        have n9_ := bq_ HB hb
        have n10_ := Aside0.mk (hbox)
        have n11_ := ge_ hg HB
        have n12_ := ge_ hg HB
        have n13_ := nb_ hg BK620
        have n14_ := nc_ hg BK620
        have n15_ := nb_ hg BK621
        have n16_ := nc_ hg BK621
        have n17_ := nb_ hg BK622
        have n18_ := nc_ hg BK622
        have n19_ := nb_ hg BK628
        have n20_ := nc_ hg BK628
        have n21_ := nb_ hg BK634
        have n22_ := nc_ hg BK634
        clear HO_629001
        clear HO_635001
        clear HO638
        clear HO642
        clear BK620
        clear BK621
        clear BK622
        clear BK628
        clear BK634
        clear HB
        have HO_629001 := n0_
        have HO_635001 := n1_
        have HO638 := n2_
        have HO642 := n3_
        have BK620 := n4_
        have BK621 := n5_
        have BK622 := n6_
        have BK628 := n7_
        have BK634 := n8_
        have HB := n9_
        have BK643 := n10_
        have GW643 := n11_
        have GE643 := n12_
        have NB620_643 := n13_
        have NB643_620 := n14_
        have NB621_643 := n15_
        have NB643_621 := n16_
        have NB622_643 := n17_
        have NB643_622 := n18_
        have NB628_643 := n19_
        have NB643_628 := n20_
        have NB634_643 := n21_
        have NB643_634 := n22_
        clear n0_ n1_ n2_ n3_ n4_ n5_ n6_ n7_ n8_ n9_ n10_ n11_ n12_ n13_ n14_ n15_ n16_ n17_ n18_ n19_ n20_ n21_ n22_
        clear hb hbox hg
        refine hK.out _ _ ⟨(blk_cell BK634.out 0).trans rfl, (blk_cell BK634.out 1).trans rfl, (blk_cell BK634.out 2).trans rfl, (blk_cell BK628.out 0).trans rfl, (blk_cell BK628.out 1).trans rfl, (blk_cell BK628.out 2).trans rfl⟩ (fun hHeld => ?_)
        clear hK K
        refine norm_ (a' := ?_) ?_ ?_
        rotate_left
        ·show Act.put _ (some 8) _ = _
         exact pt_
        exact norm_ (by simp only [putAll, Act.put, List.setIfInBounds_toArray, List.set_cons_zero, List.set_cons_succ]) (hCont (.slice Ao107 t636.length co107, v641, gb643) _ ⟨hHeld, (by (with_reducible repeat (first | apply Kd.R_alloc | apply Kd.R_drewN | apply Kd.R_drew)); exact Kd.R_mono HO638.out (fun _ hk => ⟨hk.2, ⟨hk.1.1.2, hk.1.2⟩⟩)), (by (with_reducible repeat (first | apply Kd.R_alloc | apply Kd.R_drewN | apply Kd.R_drew)); exact Kd.R_mono HO642.out (fun _ hk => ⟨hk.2, ⟨hk.1.1.2, hk.1.2⟩⟩)), (by (with_reducible repeat (first | apply Kd.R_alloc | apply Kd.R_drewN | apply Kd.R_drew)); exact Kd.R_mono HO_629001.out (fun _ hk => ⟨hk.1.2, ⟨hk.2, hk.1.1⟩⟩)), (by (with_reducible repeat (first | apply Kd.R_alloc | apply Kd.R_drewN | apply Kd.R_drew)); exact Kd.R_mono HO_635001.out (fun _ hk => ⟨hk.1.2, ⟨hk.2, hk.1.1⟩⟩)), (kb_ BK620.out), (kb_ BK621.out), (kb_ BK622.out), (kb_ BK628.out), (kb_ BK634.out), (kb_ BK643.out), GW643.out, GE643.out, NB620_643.out, NB643_620.out, NB621_643.out, NB643_621.out, NB622_643.out, NB643_622.out, NB628_643.out, NB643_628.out, NB634_643.out, NB643_634.out, (bw_ HB.out)⟩)
       ·skip
        refine box_step ?hg (N := 8) ?hd (cs := #[.bool false, .slice none 0 0]) (t := 48) ?hr ?_; (case hd => rfl); (case hg => rfl); (case hr => first | (go_simp; done) | (go_simp; rfl))
        intro gb643 hg w107 hbox hb
        have n0_ := Aside0.mk (Kd.R_below (by (with_reducible repeat (first | apply Kd.R_alloc | apply Kd.R_drewN | apply Kd.R_drew)); exact HO_629001.out) hb)
        have n1_ := Aside0.mk (Kd.R_below (by (with_reducible repeat (first | apply Kd.R_alloc | apply Kd.R_drewN | apply Kd.R_drew)); exact HO_635001.out) hb)
        have n2_ := Aside0.mk (Kd.R_below (by (with_reducible repeat (first | apply Kd.R_alloc | apply Kd.R_drewN | apply Kd.R_drew)); exact HO638.out) hb)
        have n3_ := kq_ BK620 hb
        have n4_ := kq_ BK621 hb
        have n5_ := kq_ BK622 hb
        have n6_ := kq_ BK628 hb
        have n7_ := kq_ BK634 hb
        have n8_ := bq_ HB hb
        have n9_ := Aside0.mk (hbox)
        have n10_ := ge_ hg HB
        have n11_ := ge_ hg HB
        have n12_ := nb_ hg BK620
        have n13_ := nc_ hg BK620
        have n14_ := nb_ hg BK621
        have n15_ := nc_ hg BK621
        have n16_ := nb_ hg BK622
        have n17_ := nc_ hg BK622
        have n18_ := nb_ hg BK628
        have n19_ := nc_ hg BK628
        have n20_ := nb_ hg BK634
        have n21_ := nc_ hg BK634
        clear HO_629001
        clear HO_635001
        clear HO638
        clear BK620
        clear BK621
        clear BK622
        clear BK628
        clear BK634
        clear HB
        have HO_629001 := n0_
        have HO_635001 := n1_
        have HO638 := n2_
        have BK620 := n3_
        have BK621 := n4_
        have BK622 := n5_
        have BK628 := n6_
        have BK634 := n7_
        have HB := n8_
        have BK643 := n9_
        have GW643 := n10_
        have GE643 := n11_
        have NB620_643 := n12_
        have NB643_620 := n13_
        have NB621_643 := n14_
        have NB643_621 := n15_
        have NB622_643 := n16_
        have NB643_622 := n17_
        have NB628_643 := n18_
        have NB643_628 := n19_
        have NB634_643 := n20_
        have NB643_634 := n21_
        clear n0_ n1_ n2_ n3_ n4_ n5_ n6_ n7_ n8_ n9_ n10_ n11_ n12_ n13_ n14_ n15_ n16_ n17_ n18_ n19_ n20_ n21_
        clear hb hbox hg
        obtain ⟨Ao108, co108, eo108⟩ := Kd.R_slice HO638.out
        (first | subst eo108 | (injection eo108 with f1_ f2_ f3_; have f4_ := f1_.symm; have f5_ := f3_.symm; clear f1_ f2_ f3_; subst f4_; subst f5_))
        refine hK.out _ _ ⟨(blk_cell BK634.out 0).trans rfl, (blk_cell BK634.out 1).trans rfl, (blk_cell BK634.out 2).trans rfl, (blk_cell BK628.out 0).trans rfl, (blk_cell BK628.out 1).trans rfl, (blk_cell BK628.out 2).trans rfl⟩ (fun hHeld => ?_)
        clear hK K
        refine norm_ (a' := ?_) ?_ ?_
        rotate_left
        ·show Act.put _ (some 8) _ = _
         exact pt_
        refine one_ (i := 12) (N := some 51) #[true, true, true, true, true, true, true, true, true, true, true, true, true, true, false] rfl rfl (one_of HT_.out (by kernel_rfl)) (by decide) (fun K hK => ?_)
        refine gs_ Try.func55 #[.bool x635000_56, .slice Ao108 t636.length co108] ?_
        with_reducible refine (pelorusref02_Make.calls kj56 x635000_56 _ _ t636 t639 t640 _ ?side1 ?side2 A101.out).mono ?_
        (case side1 => repeat (first | exact (Kd.R_reads' HO638.out).2.2 | (with_reducible refine Kd.C_alloc ?_ _) | (with_reducible refine Kd.C_drewN ?_ _) | (with_reducible refine Kd.C_drew ?_)))
        (case side2 => exact (Kd.R_reads' HO638.out).2.1)
        rintro e w109 ⟨v641, rfl, ho0, hb⟩
        refine ⟨_, rfl, ?_⟩
        have n0_ := Aside0.mk (Kd.R_elder' (by (with_reducible repeat (first | apply Kd.R_alloc | apply Kd.R_drewN | apply Kd.R_drew)); exact HO_629001.out) (Kd.R_base ho0) hb)
        have n1_ := Aside0.mk (Kd.R_elder' (by (with_reducible repeat (first | apply Kd.R_alloc | apply Kd.R_drewN | apply Kd.R_drew)); exact HO_635001.out) (Kd.R_base ho0) hb)
        have n2_ := Aside0.mk (Kd.R_elder' (by (with_reducible repeat (first | apply Kd.R_alloc | apply Kd.R_drewN | apply Kd.R_drew)); exact HO638.out) (Kd.R_base ho0) hb)
        have n3_ := Aside0.mk (Kd.R_lower (Kd.R_new' (Kd.R_new' (Kd.R_new' ho0 (Kd.R_lt (by (with_reducible repeat (first | apply Kd.R_alloc | apply Kd.R_drewN | apply Kd.R_drew)); exact HO_629001.out))) (Kd.R_lt (by (with_reducible repeat (first | apply Kd.R_alloc | apply Kd.R_drewN | apply Kd.R_drew)); exact HO_635001.out))) (Kd.R_lt (by (with_reducible repeat (first | apply Kd.R_alloc | apply Kd.R_drewN | apply Kd.R_drew)); exact HO638.out))) (below_size (bw_ HB.out)))
        have n4_ := kq_ BK620 hb
        have n5_ := kq_ BK621 hb
        have n6_ := kq_ BK622 hb
        have n7_ := kq_ BK628 hb
        have n8_ := kq_ BK634 hb
        have n9_ := kq_ BK643 hb
        have n10_ := bq_ HB hb
        clear HO_629001
        clear HO_635001
        clear HO638
        clear BK620
        clear BK621
        clear BK622
        clear BK628
        clear BK634
        clear BK643
        clear HB
        have HO_629001 := n0_
        have HO_635001 := n1_
        have HO638 := n2_
        have HO642 := n3_
        have BK620 := n4_
        have BK621 := n5_
        have BK622 := n6_
        have BK628 := n7_
        have BK634 := n8_
        have BK643 := n9_
        have HB := n10_
        clear n0_ n1_ n2_ n3_ n4_ n5_ n6_ n7_ n8_ n9_ n10_
        (try clear hb)
        (try clear hb2)
        (try clear hk)
        (try clear hi)
        (try clear ho0)
        refine hK.out _ _ ⟨(blk_cell BK634.out 0).trans rfl, (blk_cell BK634.out 1).trans rfl, (blk_cell BK634.out 2).trans rfl, (blk_cell BK628.out 0).trans rfl, (blk_cell BK628.out 1).trans rfl, (blk_cell BK628.out 2).trans rfl⟩ (fun hHeld => ?_)
        clear hK K
        refine norm_ (a' := ?_) ?_ ?_
        rotate_left
        ·show Act.put _ (some 51) _ = _
         exact pt_
        exact norm_ (by simp only [putAll, Act.put, List.setIfInBounds_toArray, List.set_cons_zero, List.set_cons_succ]) (hCont (.slice Ao108 t636.length co108, v641, gb643) _ ⟨hHeld, (by (with_reducible repeat (first | apply Kd.R_alloc | apply Kd.R_drewN | apply Kd.R_drew)); exact Kd.R_mono HO638.out (fun _ hk => ⟨hk.2, ⟨hk.1.1.2, hk.1.2⟩⟩)), (by (with_reducible repeat (first | apply Kd.R_alloc | apply Kd.R_drewN | apply Kd.R_drew)); exact Kd.R_mono HO642.out (fun _ hk => ⟨hk.2, ⟨hk.1.1.2, hk.1.2⟩⟩)), (by (with_reducible repeat (first | apply Kd.R_alloc | apply Kd.R_drewN | apply Kd.R_drew)); exact Kd.R_mono HO_629001.out (fun _ hk => ⟨hk.1.2, ⟨hk.2, hk.1.1⟩⟩)), (by (with_reducible repeat (first | apply Kd.R_alloc | apply Kd.R_drewN | apply Kd.R_drew)); exact Kd.R_mono HO_635001.out (fun _ hk => ⟨hk.1.2, ⟨hk.2, hk.1.1⟩⟩)), (kb_ BK620.out), (kb_ BK621.out), (kb_ BK622.out), (kb_ BK628.out), (kb_ BK634.out), (kb_ BK643.out), GW643.out, GE643.out, NB620_643.out, NB643_620.out, NB621_643.out, NB643_621.out, NB622_643.out, NB643_622.out, NB628_643.out, NB643_628.out, NB634_643.out, NB643_634.out, (bw_ HB.out)⟩)
      ·skip
       refine box_step ?hg (N := 8) ?hd (cs := #[.bool false, .slice none 0 0]) (t := 48) ?hr ?_; (case hd => rfl); (case hg => rfl); (case hr => first | (go_simp; done) | (go_simp; rfl))
       intro gb643 hg w106 hbox hb
       have n0_ := Aside0.mk (Kd.R_below (by (with_reducible repeat (first | apply Kd.R_alloc | apply Kd.R_drewN | apply Kd.R_drew)); exact HO_629001.out) hb)
       have n1_ := Aside0.mk (Kd.R_below (by (with_reducible repeat (first | apply Kd.R_alloc | apply Kd.R_drewN | apply Kd.R_drew)); exact HO_635001.out) hb)
       have n2_ := kq_ BK620 hb
       have n3_ := kq_ BK621 hb
       have n4_ := kq_ BK622 hb
       have n5_ := kq_ BK628 hb
       have n6_ := kq_ BK634 hb
       have n7_ := bq_ HB hb
       have n8_ := Aside0.mk (hbox)
       have n9_ := ge_ hg HB
       have n10_ := ge_ hg HB
       have n11_ := nb_ hg BK620
       have n12_ := nc_ hg BK620
       have n13_ := nb_ hg BK621
       have n14_ := nc_ hg BK621
       have n15_ := nb_ hg BK622
       have n16_ := nc_ hg BK622
       have n17_ := nb_ hg BK628
       have n18_ := nc_ hg BK628
       have n19_ := nb_ hg BK634
       have n20_ := nc_ hg BK634
       clear HO_629001
       clear HO_635001
       clear BK620
       clear BK621
       clear BK622
       clear BK628
       clear BK634
       clear HB
       have HO_629001 := n0_
       have HO_635001 := n1_
       have BK620 := n2_
       have BK621 := n3_
       have BK622 := n4_
       have BK628 := n5_
       have BK634 := n6_
       have HB := n7_
       have BK643 := n8_
       have GW643 := n9_
       have GE643 := n10_
       have NB620_643 := n11_
       have NB643_620 := n12_
       have NB621_643 := n13_
       have NB643_621 := n14_
       have NB622_643 := n15_
       have NB643_622 := n16_
       have NB628_643 := n17_
       have NB643_628 := n18_
       have NB634_643 := n19_
       have NB643_634 := n20_
       clear n0_ n1_ n2_ n3_ n4_ n5_ n6_ n7_ n8_ n9_ n10_ n11_ n12_ n13_ n14_ n15_ n16_ n17_ n18_ n19_ n20_
       clear hb hbox hg
       refine hK.out _ _ ⟨(blk_cell BK634.out 0).trans rfl, (blk_cell BK634.out 1).trans rfl, (blk_cell BK634.out 2).trans rfl, (blk_cell BK628.out 0).trans rfl, (blk_cell BK628.out 1).trans rfl, (blk_cell BK628.out 2).trans rfl⟩ (fun hHeld => ?_)
       clear hK K
       refine norm_ (a' := ?_) ?_ ?_
       rotate_left
       ·show Act.put _ (some 8) _ = _
        exact pt_
       refine one_ (i := 11) (N := some 50) #[true, true, true, true, true, true, true, true, true, true, true, true, false, true, false] rfl rfl (one_of HT_.out (by kernel_rfl)) (by decide) (fun K hK => ?_)
       refine gs_ Try.func60 #[.slice Ao104 x635001_56.length co104, .int .i64 (wrap64 (x635002_56 - x629002_56))] ?_
       with_reducible refine (pelorusref01_Shl.calls kj56 _ _ x635001_56 (wrap64 (x635002_56 - x629002_56)) t636 _ ?side1 ?side2 A100.out).mono ?_
       (case side1 => repeat (first | exact (Kd.R_reads' HO_635001.out).2.2 | (with_reducible refine Kd.C_alloc ?_ _) | (with_reducible refine Kd.C_drewN ?_ _) | (with_reducible refine Kd.C_drew ?_)))
       (case side2 => exact (Kd.R_reads' HO_635001.out).2.1)
       rintro e w107 ⟨v637, rfl, ho0, hb⟩
       refine ⟨_, rfl, ?_⟩
       have n0_ := Aside0.mk (Kd.R_elder' (by (with_reducible repeat (first | apply Kd.R_alloc | apply Kd.R_drewN | apply Kd.R_drew)); exact HO_629001.out) (Kd.R_base ho0) hb)
       have n1_ := Aside0.mk (Kd.R_elder' (by (with_reducible repeat (first | apply Kd.R_alloc | apply Kd.R_drewN | apply Kd.R_drew)); exact HO_635001.out) (Kd.R_base ho0) hb)
       have n2_ := Aside0.mk (Kd.R_lower (Kd.R_new' (Kd.R_new' ho0 (Kd.R_lt (by (with_reducible repeat (first | apply Kd.R_alloc | apply Kd.R_drewN | apply Kd.R_drew)); exact HO_629001.out))) (Kd.R_lt (by (with_reducible repeat (first | apply Kd.R_alloc | apply Kd.R_drewN | apply Kd.R_drew)); exact HO_635001.out))) (below_size (bw_ HB.out)))
       have n3_ := kq_ BK620 hb
       have n4_ := kq_ BK621 hb
       have n5_ := kq_ BK622 hb
       have n6_ := kq_ BK628 hb
       have n7_ := kq_ BK634 hb
       have n8_ := kq_ BK643 hb
       have n9_ := bq_ HB hb
       clear HO_629001
       clear HO_635001
       clear BK620
       clear BK621
       clear BK622
       clear BK628
       clear BK634
       clear BK643
       clear HB
       have HO_629001 := n0_
       have HO_635001 := n1_
       have HO638 := n2_
       have BK620 := n3_
       have BK621 := n4_
       have BK622 := n5_
       have BK628 := n6_
       have BK634 := n7_
       have BK643 := n8_
       have HB := n9_
       clear n0_ n1_ n2_ n3_ n4_ n5_ n6_ n7_ n8_ n9_
       (try clear hb)
       (try clear hb2)
       (try clear hk)
       (try clear hi)
       (try clear ho0)
       obtain ⟨Ao108, co108, eo108⟩ := Kd.R_slice HO638.out
       (first | subst eo108 | (injection eo108 with f1_ f2_ f3_; have f4_ := f1_.symm; have f5_ := f3_.symm; clear f1_ f2_ f3_; subst f4_; subst f5_))
       refine hK.out _ _ ⟨(blk_cell BK634.out 0).trans rfl, (blk_cell BK634.out 1).trans rfl, (blk_cell BK634.out 2).trans rfl, (blk_cell BK628.out 0).trans rfl, (blk_cell BK628.out 1).trans rfl, (blk_cell BK628.out 2).trans rfl⟩ (fun hHeld => ?_)
       clear hK K
       refine norm_ (a' := ?_) ?_ ?_
       rotate_left
       ·show Act.put _ (some 50) _ = _
        exact pt_
       refine one_ (i := 12) (N := some 51) #[true, true, true, true, true, true, true, true, true, true, true, true, true, true, false] rfl rfl (one_of HT_.out (by kernel_rfl)) (by decide) (fun K hK => ?_)
       refine gs_ Try.func55 #[.bool x635000_56, .slice Ao108 t636.length co108] ?_
       with_reducible refine (pelorusref02_Make.calls kj56 x635000_56 _ _ t636 t639 t640 _ ?side1 ?side2 A101.out).mono ?_
       (case side1 => repeat (first | exact (Kd.R_reads' HO638.out).2.2 | (with_reducible refine Kd.C_alloc ?_ _) | (with_reducible refine Kd.C_drewN ?_ _) | (with_reducible refine Kd.C_drew ?_)))
       (case side2 => exact (Kd.R_reads' HO638.out).2.1)
       rintro e w109 ⟨v641, rfl, ho0, hb⟩
       refine ⟨_, rfl, ?_⟩
       have n0_ := Aside0.mk (Kd.R_elder' (by (with_reducible repeat (first | apply Kd.R_alloc | apply Kd.R_drewN | apply Kd.R_drew)); exact HO_629001.out) (Kd.R_base ho0) hb)
       have n1_ := Aside0.mk (Kd.R_elder' (by (with_reducible repeat (first | apply Kd.R_alloc | apply Kd.R_drewN | apply Kd.R_drew)); exact HO_635001.out) (Kd.R_base ho0) hb)
       have n2_ := Aside0.mk (Kd.R_elder' (by (with_reducible repeat (first | apply Kd.R_alloc | apply Kd.R_drewN | apply Kd.R_drew)); exact HO638.out) (Kd.R_base ho0) hb)
       have n3_ := Aside0.mk (Kd.R_lower (Kd.R_new' (Kd.R_new' (Kd.R_new' ho0 (Kd.R_lt (by (with_reducible repeat (first | apply Kd.R_alloc | apply Kd.R_drewN | apply Kd.R_drew)); exact HO_629001.out))) (Kd.R_lt (by (with_reducible repeat (first | apply Kd.R_alloc | apply Kd.R_drewN | apply Kd.R_drew)); exact HO_635001.out))) (Kd.R_lt (by (with_reducible repeat (first | apply Kd.R_alloc | apply Kd.R_drewN | apply Kd.R_drew)); exact HO638.out))) (below_size (bw_ HB.out)))
       have n4_ := kq_ BK620 hb
       have n5_ := kq_ BK621 hb
       have n6_ := kq_ BK622 hb
       have n7_ := kq_ BK628 hb
       have n8_ := kq_ BK634 hb
       have n9_ := kq_ BK643 hb
       have n10_ := bq_ HB hb
       clear HO_629001
       clear HO_635001
       clear HO638
       clear BK620
       clear BK621
       clear BK622
       clear BK628
       clear BK634
       clear BK643
       clear HB
       have HO_629001 := n0_
       have HO_635001 := n1_
       have HO638 := n2_
       have HO642 := n3_
       have BK620 := n4_
       have BK621 := n5_
       have BK622 := n6_
       have BK628 := n7_
       have BK634 := n8_
       have BK643 := n9_
       have HB := n10_
       clear n0_ n1_ n2_ n3_ n4_ n5_ n6_ n7_ n8_ n9_ n10_
       (try clear hb)
       (try clear hb2)
       (try clear hk)
       (try clear hi)
       (try clear ho0)
       refine hK.out _ _ ⟨(blk_cell BK634.out 0).trans rfl, (blk_cell BK634.out 1).trans rfl, (blk_cell BK634.out 2).trans rfl, (blk_cell BK628.out 0).trans rfl, (blk_cell BK628.out 1).trans rfl, (blk_cell BK628.out 2).trans rfl⟩ (fun hHeld => ?_)
       clear hK K
       refine norm_ (a' := ?_) ?_ ?_
       rotate_left
       ·show Act.put _ (some 51) _ = _
        exact pt_
       exact norm_ (by simp only [putAll, Act.put, List.setIfInBounds_toArray, List.set_cons_zero, List.set_cons_succ]) (hCont (.slice Ao108 t636.length co108, v641, gb643) _ ⟨hHeld, (by (with_reducible repeat (first | apply Kd.R_alloc | apply Kd.R_drewN | apply Kd.R_drew)); exact Kd.R_mono HO638.out (fun _ hk => ⟨hk.2, ⟨hk.1.1.2, hk.1.2⟩⟩)), (by (with_reducible repeat (first | apply Kd.R_alloc | apply Kd.R_drewN | apply Kd.R_drew)); exact Kd.R_mono HO642.out (fun _ hk => ⟨hk.2, ⟨hk.1.1.2, hk.1.2⟩⟩)), (by (with_reducible repeat (first | apply Kd.R_alloc | apply Kd.R_drewN | apply Kd.R_drew)); exact Kd.R_mono HO_629001.out (fun _ hk => ⟨hk.1.2, ⟨hk.2, hk.1.1⟩⟩)), (by (with_reducible repeat (first | apply Kd.R_alloc | apply Kd.R_drewN | apply Kd.R_drew)); exact Kd.R_mono HO_635001.out (fun _ hk => ⟨hk.1.2, ⟨hk.2, hk.1.1⟩⟩)), (kb_ BK620.out), (kb_ BK621.out), (kb_ BK622.out), (kb_ BK628.out), (kb_ BK634.out), (kb_ BK643.out), GW643.out, GE643.out, NB620_643.out, NB643_620.out, NB621_643.out, NB643_621.out, NB622_643.out, NB643_622.out, NB628_643.out, NB643_628.out, NB634_643.out, NB643_634.out, (bw_ HB.out)⟩)
     rintro ⟨v637, v641, gb643⟩ w110 ⟨hS_, h0_, h1_, h2_, h3_, h4_, h5_, h6_, h7_, h8_, h9_, h10_, h11_, h12_, h13_, h14_, h15_, h16_, h17_, h18_, h19_, h20_, h21_, h22_⟩
     have n0_ : Aside0 (Kd.R (Kd.int .u32) 68 w110 w.heap.size (fun k_ => some k_ ≠ (v641 : Value).ownBlock ∧ some k_ ≠ (u629001 : Value).ownBlock ∧ some k_ ≠ (.slice Ao104 x635001_56.length co104 : Value).ownBlock) v637 t636) := ⟨h0_⟩
     have n1_ : Aside0 (Kd.R (Kd.int .u32) 68 w110 w.heap.size (fun k_ => some k_ ≠ (v637 : Value).ownBlock ∧ some k_ ≠ (u629001 : Value).ownBlock ∧ some k_ ≠ (.slice Ao104 x635001_56.length co104 : Value).ownBlock) v641 t640) := ⟨h1_⟩
     have n2_ : Aside0 (Kd.R (Kd.int .u32) 68 w110 w.heap.size (fun k_ => some k_ ≠ (v637 : Value).ownBlock ∧ some k_ ≠ (v641 : Value).ownBlock ∧ some k_ ≠ (.slice Ao104 x635001_56.length co104 : Value).ownBlock) u629001 x629001_56) := ⟨h2_⟩
     have n3_ : Aside0 (Kd.R (Kd.int .u32) 68 w110 w.heap.size (fun k_ => some k_ ≠ (v637 : Value).ownBlock ∧ some k_ ≠ (v641 : Value).ownBlock ∧ some k_ ≠ (u629001 : Value).ownBlock) (.slice Ao104 x635001_56.length co104) x635001_56) := ⟨h3_⟩
     have n4_ : Aside0 (w110.heap[gb620]? = some (.cells #[.bool a0_0, .slice A0_1 l0_1.length c0_1, .int .i64 a0_2] 50 (0, 0))) := ⟨h4_⟩
     have n5_ : Aside0 (w110.heap[gb621]? = some (.cells #[.bool a1_0, .slice A1_1 l1_1.length c1_1, .int .i64 a1_2] 50 (0, 0))) := ⟨h5_⟩
     have n6_ : Aside0 (w110.heap[gb622]? = some (.cells #[.bool false, .slice none 0 0, .int .i64 0] 50 (0, 0))) := ⟨h6_⟩
     have n7_ : Aside0 (w110.heap[gb628]? = some (.cells #[.bool x629000_56, u629001, .int .i64 x629002_56] 50 (0, 0))) := ⟨h7_⟩
     have n8_ : Aside0 (w110.heap[gb634]? = some (.cells #[.bool x635000_56, .slice Ao104 x635001_56.length co104, .int .i64 x635002_56] 50 (0, 0))) := ⟨h8_⟩
     have n9_ : Aside0 (w110.heap[gb643]? = some (.cells #[.bool false, .slice none 0 0] 48 (0, 0))) := ⟨h9_⟩
     have n10_ : Aside0 (w.heap.size ≤ gb643) := ⟨h10_⟩
     have n11_ : Aside0 (w.heap.size ≤ gb643) := ⟨h11_⟩
     have n12_ : Aside0 (gb620 ≠ gb643) := ⟨h12_⟩
     have n13_ : Aside0 (gb643 ≠ gb620) := ⟨h13_⟩
     have n14_ : Aside0 (gb621 ≠ gb643) := ⟨h14_⟩
     have n15_ : Aside0 (gb643 ≠ gb621) := ⟨h15_⟩
     have n16_ : Aside0 (gb622 ≠ gb643) := ⟨h16_⟩
     have n17_ : Aside0 (gb643 ≠ gb622) := ⟨h17_⟩
     have n18_ : Aside0 (gb628 ≠ gb643) := ⟨h18_⟩
     have n19_ : Aside0 (gb643 ≠ gb628) := ⟨h19_⟩
     have n20_ : Aside0 (gb634 ≠ gb643) := ⟨h20_⟩
     have n21_ : Aside0 (gb643 ≠ gb634) := ⟨h21_⟩
     have n22_ : Aside0 (Below w.heap.size w w110) := ⟨h22_⟩
     clear HO_629001
     clear HO_635001
     clear BK620
     clear BK621
     clear BK622
     clear BK628
     clear BK634
     clear HB
     clear h0_ h1_ h2_ h3_ h4_ h5_ h6_ h7_ h8_ h9_ h10_ h11_ h12_ h13_ h14_ h15_ h16_ h17_ h18_ h19_ h20_ h21_ h22_
     have HO638 := n0_
     have HO642 := n1_
     have HO_629001 := n2_
     have HO_635001 := n3_
     have BK620 := n4_
     have BK621 := n5_
     have BK622 := n6_
     have BK628 := n7_
     have BK634 := n8_
     have BK643 := n9_
     have GW643 := n10_
     have GE643 := n11_
     have NB620_643 := n12_
     have NB643_620 := n13_
     have NB621_643 := n14_
     have NB643_621 := n15_
     have NB622_643 := n16_
     have NB643_622 := n17_
     have NB628_643 := n18_
     have NB643_628 := n19_
     have NB634_643 := n20_
     have NB643_634 := n21_
     have HB := n22_
     clear n0_ n1_ n2_ n3_ n4_ n5_ n6_ n7_ n8_ n9_ n10_ n11_ n12_ n13_ n14_ n15_ n16_ n17_ n18_ n19_ n20_ n21_ n22_
     have hHeld : w110.cell? ⟨gb634, 0, none⟩ = some (.bool x635000_56) ∧ w110.cell? ⟨gb634, 1, none⟩ = some (.slice Ao104 x635001_56.length co104) ∧ w110.cell? ⟨gb634, 2, none⟩ = some (.int .i64 x635002_56) ∧ w110.cell? ⟨gb628, 0, none⟩ = some (.bool x629000_56) ∧ w110.cell? ⟨gb628, 1, none⟩ = some (u629001) ∧ w110.cell? ⟨gb628, 2, none⟩ = some (.int .i64 x629002_56) := hS_
     obtain ⟨Ao112, co112, eo112⟩ := Kd.R_slice HO642.out
     (first | subst eo112 | (injection eo112 with f1_ f2_ f3_; have f4_ := f1_.symm; have f5_ := f3_.symm; clear f1_ f2_ f3_; subst f4_; subst f5_))
     refine norm_ (a' := ?_) ?_ ?_
     rotate_left
     ·simp only [putAll, Act.put, List.setIfInBounds_toArray, List.set_cons_zero, List.set_cons_succ]
      rfl
     refine one_ (i := 14) (N := none) #[true, true, true, true, true, true, true, true, true, true, true, true, true, true, true] rfl rfl (one_of HT_.out (by kernel_rfl)) (by decide) (fun K hK => ?_)
     have hs111 : w110.cell? ⟨gb643, 0, none⟩ = some (.bool false) := (blk_cell BK643.out 0).trans rfl
     have hfs111 := fz_ BK643 0
     have hns111_0 := NB620_643.out
     have hns111_1 := NB621_643.out
     have hns111_2 := NB622_643.out
     have hns111_3 := NB628_643.out
     have hns111_4 := NB634_643.out
     have hms111_0 := NB643_620.out
     have hms111_1 := NB643_621.out
     have hms111_2 := NB643_622.out
     have hms111_3 := NB643_628.out
     have hms111_4 := NB643_634.out
     have hs113 : w110.cell? ⟨gb643, 1, none⟩ = some (.slice none 0 0) := (blk_cell BK643.out 1).trans rfl
     have hfs113 := fz_ BK643 1
     have hns113_0 := NB620_643.out
     have hns113_1 := NB621_643.out
     have hns113_2 := NB622_643.out
     have hns113_3 := NB628_643.out
     have hns113_4 := NB634_643.out
     have hms113_0 := NB643_620.out
     have hms113_1 := NB643_621.out
     have hms113_2 := NB643_622.out
     have hms113_3 := NB643_628.out
     have hms113_4 := NB643_634.out
     refine skip_ (w1 := ?_) (by rfl) rfl ?_ ?_
     rotate_left
     ·go_simp
      rfl
     refine hK.out _ _ ⟨((cell_far (p := ⟨gb643, _, none⟩) NB634_643.out _).trans (((cell_far (p := ⟨gb643, _, none⟩) NB634_643.out _).trans (hHeld.1)))), ((cell_far (p := ⟨gb643, _, none⟩) NB634_643.out _).trans (((cell_far (p := ⟨gb643, _, none⟩) NB634_643.out _).trans (hHeld.2.1)))), ((cell_far (p := ⟨gb643, _, none⟩) NB634_643.out _).trans (((cell_far (p := ⟨gb643, _, none⟩) NB634_643.out _).trans (hHeld.2.2.1)))), ((cell_far (p := ⟨gb643, _, none⟩) NB628_643.out _).trans (((cell_far (p := ⟨gb643, _, none⟩) NB628_643.out _).trans (hHeld.2.2.2.1)))), ((cell_far (p := ⟨gb643, _, none⟩) NB628_643.out _).trans (((cell_far (p := ⟨gb643, _, none⟩) NB628_643.out _).trans (hHeld.2.2.2.2.1)))), ((cell_far (p := ⟨gb643, _, none⟩) NB628_643.out _).trans (((cell_far (p := ⟨gb643, _, none⟩) NB628_643.out _).trans (hHeld.2.2.2.2.2))))⟩ (fun hHeld => ?_)
     clear hK K
     refine done_ (done_of HT_.out (by kernel_rfl)) ?_
     try go_wp2
     have n0_ : Aside0 (Kd.R (Kd.int .u32) 68 ((w110.setCell ⟨gb643, 0, none⟩ (.bool t639)).setCell ⟨gb643, 1, none⟩ (.slice Ao112 t640.length co112)) w.heap.size (fun k_ => some k_ ≠ (.slice Ao104 x635001_56.length co104 : Value).ownBlock ∧ some k_ ≠ (v637 : Value).ownBlock ∧ some k_ ≠ (.slice Ao112 t640.length co112 : Value).ownBlock) u629001 x629001_56) := ⟨by (with_reducible repeat (first | apply Kd.R_alloc | apply Kd.R_drewN | apply Kd.R_drew)); exact Kd.R_mono (Kd.R_far (p := ⟨gb643, 1, none⟩) (Kd.R_far (p := ⟨gb643, 0, none⟩) (Kd.R_types HO_629001.out BK643.out (by decide)) (fun _ hk => hk.2) (.bool t639)) (fun _ hk => hk.2) (.slice Ao112 t640.length co112)) (fun _ hk => ⟨hk.1.2.2, ⟨hk.1.1, hk.1.2.1⟩⟩)⟩
     have n1_ : Aside0 (Kd.R (Kd.int .u32) 68 ((w110.setCell ⟨gb643, 0, none⟩ (.bool t639)).setCell ⟨gb643, 1, none⟩ (.slice Ao112 t640.length co112)) w.heap.size (fun k_ => some k_ ≠ (u629001 : Value).ownBlock ∧ some k_ ≠ (v637 : Value).ownBlock ∧ some k_ ≠ (.slice Ao112 t640.length co112 : Value).ownBlock) (.slice Ao104 x635001_56.length co104) x635001_56) := ⟨by (with_reducible repeat (first | apply Kd.R_alloc | apply Kd.R_drewN | apply Kd.R_drew)); exact Kd.R_mono (Kd.R_far (p := ⟨gb643, 1, none⟩) (Kd.R_far (p := ⟨gb643, 0, none⟩) (Kd.R_types HO_635001.out BK643.out (by decide)) (fun _ hk => hk.2) (.bool t639)) (fun _ hk => hk.2) (.slice Ao112 t640.length co112)) (fun _ hk => ⟨hk.1.2.2, ⟨hk.1.1, hk.1.2.1⟩⟩)⟩
     have n2_ : Aside0 (Kd.R (Kd.int .u32) 68 ((w110.setCell ⟨gb643, 0, none⟩ (.bool t639)).setCell ⟨gb643, 1, none⟩ (.slice Ao112 t640.length co112)) w.heap.size (fun k_ => some k_ ≠ (u629001 : Value).ownBlock ∧ some k_ ≠ (.slice Ao104 x635001_56.length co104 : Value).ownBlock ∧ some k_ ≠ (.slice Ao112 t640.length co112 : Value).ownBlock) v637 t636) := ⟨by (with_reducible repeat (first | apply Kd.R_alloc | apply Kd.R_drewN | apply Kd.R_drew)); exact Kd.R_mono (Kd.R_far (p := ⟨gb643, 1, none⟩) (Kd.R_far (p := ⟨gb643, 0, none⟩) (Kd.R_types HO638.out BK643.out (by decide)) (fun _ hk => hk.2) (.bool t639)) (fun _ hk => hk.2) (.slice Ao112 t640.length co112)) (fun _ hk => ⟨hk.1.2.1, ⟨hk.1.2.2, hk.1.1⟩⟩)⟩
     have n3_ : Aside0 (Kd.R (Kd.int .u32) 68 ((w110.setCell ⟨gb643, 0, none⟩ (.bool t639)).setCell ⟨gb643, 1, none⟩ (.slice Ao112 t640.length co112)) w.heap.size (fun k_ => some k_ ≠ (u629001 : Value).ownBlock ∧ some k_ ≠ (.slice Ao104 x635001_56.length co104 : Value).ownBlock ∧ some k_ ≠ (v637 : Value).ownBlock) (.slice Ao112 t640.length co112) t640) := ⟨by (with_reducible repeat (first | apply Kd.R_alloc | apply Kd.R_drewN | apply Kd.R_drew)); exact Kd.R_mono (Kd.R_far (p := ⟨gb643, 1, none⟩) (Kd.R_far (p := ⟨gb643, 0, none⟩) (Kd.R_types HO642.out BK643.out (by decide)) (fun _ hk => hk.2) (.bool t639)) (fun _ hk => hk.2) (.slice Ao112 t640.length co112)) (fun _ hk => ⟨hk.1.2.1, ⟨hk.1.2.2, hk.1.1⟩⟩)⟩
     have n4_ : Aside0 (((w110.setCell ⟨gb643, 0, none⟩ (.bool t639)).setCell ⟨gb643, 1, none⟩ (.slice Ao112 t640.length co112)).heap[gb620]? = some (.cells #[.bool a0_0, .slice A0_1 l0_1.length c0_1, .int .i64 a0_2] 50 (0, 0))) := ⟨by refine kb_ ?_; refine bf_ NB620_643 ?_; refine bf_ NB620_643 ?_; exact BK620.out⟩
     have n5_ : Aside0 (((w110.setCell ⟨gb643, 0, none⟩ (.bool t639)).setCell ⟨gb643, 1, none⟩ (.slice Ao112 t640.length co112)).heap[gb621]? = some (.cells #[.bool a1_0, .slice A1_1 l1_1.length c1_1, .int .i64 a1_2] 50 (0, 0))) := ⟨by refine kb_ ?_; refine bf_ NB621_643 ?_; refine bf_ NB621_643 ?_; exact BK621.out⟩
     have n6_ : Aside0 (((w110.setCell ⟨gb643, 0, none⟩ (.bool t639)).setCell ⟨gb643, 1, none⟩ (.slice Ao112 t640.length co112)).heap[gb622]? = some (.cells #[.bool false, .slice none 0 0, .int .i64 0] 50 (0, 0))) := ⟨by refine kb_ ?_; refine bf_ NB622_643 ?_; refine bf_ NB622_643 ?_; exact BK622.out⟩
     have n7_ : Aside0 (((w110.setCell ⟨gb643, 0, none⟩ (.bool t639)).setCell ⟨gb643, 1, none⟩ (.slice Ao112 t640.length co112)).heap[gb628]? = some (.cells #[.bool x629000_56, u629001, .int .i64 x629002_56] 50 (0, 0))) := ⟨by refine kb_ ?_; refine bf_ NB628_643 ?_; refine bf_ NB628_643 ?_; exact BK628.out⟩
     have n8_ : Aside0 (((w110.setCell ⟨gb643, 0, none⟩ (.bool t639)).setCell ⟨gb643, 1, none⟩ (.slice Ao112 t640.length co112)).heap[gb634]? = some (.cells #[.bool x635000_56, .slice Ao104 x635001_56.length co104, .int .i64 x635002_56] 50 (0, 0))) := ⟨by refine kb_ ?_; refine bf_ NB634_643 ?_; refine bf_ NB634_643 ?_; exact BK634.out⟩
     have n9_ : Aside0 (((w110.setCell ⟨gb643, 0, none⟩ (.bool t639)).setCell ⟨gb643, 1, none⟩ (.slice Ao112 t640.length co112)).heap[gb643]? = some (.cells #[.bool t639, .slice Ao112 t640.length co112] 48 (0, 0))) := ⟨by refine kb_ ?_; refine bp_ #[.bool t639, .slice none 0 0] 1 ?_; refine bp_ #[.bool false, .slice none 0 0] 0 ?_; exact BK643.out⟩
     have n10_ : Aside0 (Below w.heap.size w ((w110.setCell ⟨gb643, 0, none⟩ (.bool t639)).setCell ⟨gb643, 1, none⟩ (.slice Ao112 t640.length co112))) := ⟨bw_ HB.out⟩
     (try clear HO_629001)
     (try clear HO_635001)
     (try clear HO638)
     (try clear HO642)
     (try clear BK620)
     (try clear BK621)
     (try clear BK622)
     (try clear BK628)
     (try clear BK634)
     (try clear BK643)
     (try clear HB)
     generalize ((w110.setCell ⟨gb643, 0, none⟩ (.bool t639)).setCell ⟨gb643, 1, none⟩ (.slice Ao112 t640.length co112)) = w114 at n0_ n1_ n2_ n3_ n4_ n5_ n6_ n7_ n8_ n9_ n10_ ⊢
     have HO_629001 := n0_
     have HO_635001 := n1_
     have HO638 := n2_
     have HO642 := n3_
     have BK620 := n4_
     have BK621 := n5_
     have BK622 := n6_
     have BK628 := n7_
     have BK634 := n8_
     have BK643 := n9_
     have HB := n10_
     clear n0_ n1_ n2_ n3_ n4_ n5_ n6_ n7_ n8_ n9_ n10_
     have n0_ := Aside0.mk (Kd.R_drew HO_629001.out)
     have n1_ := Aside0.mk (Kd.R_drew HO_635001.out)
     have n2_ := Aside0.mk (Kd.R_drew HO638.out)
     have n3_ := Aside0.mk (Kd.R_drew HO642.out)
     have n4_ := Aside0.mk (blk_drew BK620.out)
     have n5_ := Aside0.mk (blk_drew BK621.out)
     have n6_ := Aside0.mk (blk_drew BK622.out)
     have n7_ := Aside0.mk (blk_drew BK628.out)
     have n8_ := Aside0.mk (blk_drew BK634.out)
     have n9_ := Aside0.mk (blk_drew BK643.out)
     have n10_ := Aside0.mk (below_drew1 HB.out)
     clear HO_629001
     clear HO_635001
     clear HO638
     clear HO642
     clear BK620
     clear BK621
     clear BK622
     clear BK628
     clear BK634
     clear BK643
     clear HB
     have HO_629001 := n0_
     have HO_635001 := n1_
     have HO638 := n2_
     have HO642 := n3_
     have BK620 := n4_
     have BK621 := n5_
     have BK622 := n6_
     have BK628 := n7_
     have BK634 := n8_
     have BK643 := n9_
     have HB := n10_
     clear n0_ n1_ n2_ n3_ n4_ n5_ n6_ n7_ n8_ n9_ n10_
     obtain ⟨Ao116, co116, eo116⟩ := Kd.R_slice HO_629001.out
     (first | subst eo116 | (injection eo116 with f1_ f2_ f3_; have f4_ := f1_.symm; have f5_ := f3_.symm; clear f1_ f2_ f3_; subst f4_; subst f5_))
     refine start_ (n := 8) (S := fun w' => w'.cell? ⟨gb628, 0, none⟩ = some (.bool x629000_56) ∧ w'.cell? ⟨gb628, 1, none⟩ = some (.slice Ao116 x629001_56.length co116) ∧ w'.cell? ⟨gb628, 2, none⟩ = some (.int .i64 x629002_56) ∧ w'.cell? ⟨gb643, 0, none⟩ = some (.bool t639) ∧ w'.cell? ⟨gb643, 1, none⟩ = some (.slice Ao112 t640.length co112)) (ds := []) #[false, false, false, false, false, false, false, false] (by kernel_rfl) rfl rfl ⟨(blk_cell BK628.out 0).trans rfl, (blk_cell BK628.out 1).trans rfl, (blk_cell BK628.out 2).trans rfl, (blk_cell BK643.out 0).trans rfl, (blk_cell BK643.out 1).trans rfl⟩ (fun hHeld => ?_); refine with_tabW pelorusref03_Two.tab12 pelorusref03_Two.bits12 (fun HT_ HW_ => ?_)
     generalize w114.drew = w115 at HO_629001 HO_635001 HO638 HO642 BK620 BK621 BK622 BK628 BK634 BK643 HB hHeld ⊢
     refine pure_ (i := 0) (N := some 52) (v := ?_) (a' := ?_) #[true, false, false, false, false, false, false, false] rfl rfl (any_of HT_.out (by kernel_rfl)) (fun _ _ _ h => h) (Or.inl ⟨by rfl, ?_⟩) ?_ ?_
     rotate_left
     ·intro w'
      go_simp
      with_reducible rfl
     rotate_left
     ·exact pt_
     refine pure_ (i := 4) (N := some 56) (v := ?_) (a' := ?_) #[true, false, false, false, true, false, false, false] rfl rfl (any_of HT_.out (by kernel_rfl)) (fun _ _ _ h => h) (Or.inl ⟨by rfl, ?_⟩) ?_ ?_
     rotate_left
     ·intro w'
      go_simp
      with_reducible rfl
     rotate_left
     ·exact pt_
     refine take_ (i := 1) (N := some 53) (v := ?_) (a' := ?_) #[true, true, false, false, true, false, false, false] rfl rfl (take_ofW HT_.out HW_.out (by kernel_rfl)) (fun _ _ _ h => h) (Or.inl ⟨by rfl, ?_⟩) hHeld ?_ ?_
     rotate_left
     ·rintro w' ⟨s0, s1, s2, s3, s4⟩
      go_simp
      with_reducible rfl
     rotate_left
     ·exact pt_
     refine take_ (i := 2) (N := some 54) (v := ?_) (a' := ?_) #[true, true, true, false, true, false, false, false] rfl rfl (take_ofW HT_.out HW_.out (by kernel_rfl)) (fun _ _ _ h => h) (Or.inl ⟨by rfl, ?_⟩) hHeld ?_ ?_
     rotate_left
     ·rintro w' ⟨s0, s1, s2, s3, s4⟩
      go_simp
      with_reducible rfl
     rotate_left
     ·exact pt_
     refine take_ (i := 5) (N := some 57) (v := ?_) (a' := ?_) #[true, true, true, false, true, true, false, false] rfl rfl (take_ofW HT_.out HW_.out (by kernel_rfl)) (fun _ _ _ h => h) (Or.inl ⟨by rfl, ?_⟩) hHeld ?_ ?_
     rotate_left
     ·rintro w' ⟨s0, s1, s2, s3, s4⟩
      go_simp
      with_reducible rfl
     rotate_left
     ·exact pt_
     refine one_ (i := 3) (N := some 55) #[true, true, true, true, true, true, false, false] rfl rfl (one_of HT_.out (by kernel_rfl)) (by decide) (fun K hK => ?_)
     refine gs_ Try.func63 #[.agg #[.bool x629000_56, .slice Ao116 x629001_56.length co116], .agg #[.bool t639, .slice Ao112 t640.length co112]] ?_
     with_reducible refine (pelorusref02_Add.calls kj56 x629000_56 _ _ x629001_56 t639 _ _ t640 t644 t645 _ ?side1 ?side2 ?side3 ?side4 A102.out).mono ?_
     (case side1 => repeat (first | exact (Kd.R_reads' HO_629001.out).2.2 | (with_reducible refine Kd.C_alloc ?_ _) | (with_reducible refine Kd.C_drewN ?_ _) | (with_reducible refine Kd.C_drew ?_)))
     (case side2 => exact (Kd.R_reads' HO_629001.out).2.1)
     (case side3 => repeat (first | exact (Kd.R_reads' HO642.out).2.2 | (with_reducible refine Kd.C_alloc ?_ _) | (with_reducible refine Kd.C_drewN ?_ _) | (with_reducible refine Kd.C_drew ?_)))
     (case side4 => exact (Kd.R_reads' HO642.out).2.1)
     rintro e w117 ⟨v646, rfl, ho0, hb⟩
     refine ⟨_, rfl, ?_⟩
     have n0_ := Aside0.mk (Kd.R_elder' (by (with_reducible repeat (first | apply Kd.R_alloc | apply Kd.R_drewN | apply Kd.R_drew)); exact HO_629001.out) (Kd.R_base ho0) hb)
     have n1_ := Aside0.mk (Kd.R_elder' (by (with_reducible repeat (first | apply Kd.R_alloc | apply Kd.R_drewN | apply Kd.R_drew)); exact HO_635001.out) (Kd.R_base ho0) hb)
     have n2_ := Aside0.mk (Kd.R_elder' (by (with_reducible repeat (first | apply Kd.R_alloc | apply Kd.R_drewN | apply Kd.R_drew)); exact HO638.out) (Kd.R_base ho0) hb)
     have n3_ := Aside0.mk (Kd.R_elder' (by (with_reducible repeat (first | apply Kd.R_alloc | apply Kd.R_drewN | apply Kd.R_drew)); exact HO642.out) (Kd.R_base ho0) hb)
     have n4_ := Aside0.mk (Kd.R_lower (Kd.R_new' (Kd.R_new' (Kd.R_new' (Kd.R_new' ho0 (Kd.R_lt (by (with_reducible repeat (first | apply Kd.R_alloc | apply Kd.R_drewN | apply Kd.R_drew)); exact HO_629001.out))) (Kd.R_lt (by (with_reducible repeat (first | apply Kd.R_alloc | apply Kd.R_drewN | apply Kd.R_drew)); exact HO_635001.out))) (Kd.R_lt (by (with_reducible repeat (first | apply Kd.R_alloc | apply Kd.R_drewN | apply Kd.R_drew)); exact HO638.out))) (Kd.R_lt (by (with_reducible repeat (first | apply Kd.R_alloc | apply Kd.R_drewN | apply Kd.R_drew)); exact HO642.out))) (below_size (bw_ HB.out)))
     have n5_ := kq_ BK620 hb
     have n6_ := kq_ BK621 hb
     have n7_ := kq_ BK622 hb
     have n8_ := kq_ BK628 hb
     have n9_ := kq_ BK634 hb
     have n10_ := kq_ BK643 hb
     have n11_ := bq_ HB hb
     clear HO_629001
     clear HO_635001
     clear HO638
     clear HO642
     clear BK620
     clear BK621
     clear BK622
     clear BK628
     clear BK634
     clear BK643
     clear HB
     have HO_629001 := n0_
     have HO_635001 := n1_
     have HO638 := n2_
     have HO642 := n3_
     have HO647 := n4_
     have BK620 := n5_
     have BK621 := n6_
     have BK622 := n7_
     have BK628 := n8_
     have BK634 := n9_
     have BK643 := n10_
     have HB := n11_
     clear n0_ n1_ n2_ n3_ n4_ n5_ n6_ n7_ n8_ n9_ n10_ n11_
     (try clear hb)
     (try clear hb2)
     (try clear hk)
     (try clear hi)
     (try clear ho0)
     obtain ⟨Ao118, co118, eo118⟩ := Kd.R_slice HO647.out
     (first | subst eo118 | (injection eo118 with f1_ f2_ f3_; have f4_ := f1_.symm; have f5_ := f3_.symm; clear f1_ f2_ f3_; subst f4_; subst f5_))
     refine hK.out _ _ ⟨(blk_cell BK628.out 0).trans rfl, (blk_cell BK628.out 1).trans rfl, (blk_cell BK628.out 2).trans rfl, (blk_cell BK643.out 0).trans rfl, (blk_cell BK643.out 1).trans rfl⟩ (fun hHeld => ?_)
     clear hK K
     refine norm_ (a' := ?_) ?_ ?_
     rotate_left
     ·show Act.put _ (some 55) _ = _
      exact pt_
     refine one_ (i := 6) (N := some 58) #[true, true, true, true, true, true, true, false] rfl rfl (one_of HT_.out (by kernel_rfl)) (by decide) (fun K hK => ?_)
     refine gs_ Try.func54 #[.agg #[.bool t644, .slice Ao118 t645.length co118], .int .i64 x629002_56] ?_
     with_reducible refine (pelorusref03_Make.calls kj56 t644 _ _ t645 x629002_56 t648 t649 t652 _ ?side1 ?side2 A103.out).mono ?_
     (case side1 => repeat (first | exact (Kd.R_reads' HO647.out).2.2 | (with_reducible refine Kd.C_alloc ?_ _) | (with_reducible refine Kd.C_drewN ?_ _) | (with_reducible refine Kd.C_drew ?_)))
     (case side2 => exact (Kd.R_reads' HO647.out).2.1)
     rintro e w119 ⟨v650, rfl, ho0, hb⟩
     refine ⟨_, rfl, ?_⟩
     have n0_ := Aside0.mk (Kd.R_elder' (by (with_reducible repeat (first | apply Kd.R_alloc | apply Kd.R_drewN | apply Kd.R_drew)); exact HO_629001.out) (Kd.R_base ho0) hb)
     have n1_ := Aside0.mk (Kd.R_elder' (by (with_reducible repeat (first | apply Kd.R_alloc | apply Kd.R_drewN | apply Kd.R_drew)); exact HO_635001.out) (Kd.R_base ho0) hb)
     have n2_ := Aside0.mk (Kd.R_elder' (by (with_reducible repeat (first | apply Kd.R_alloc | apply Kd.R_drewN | apply Kd.R_drew)); exact HO638.out) (Kd.R_base ho0) hb)
     have n3_ := Aside0.mk (Kd.R_elder' (by (with_reducible repeat (first | apply Kd.R_alloc | apply Kd.R_drewN | apply Kd.R_drew)); exact HO642.out) (Kd.R_base ho0) hb)
     have n4_ := Aside0.mk (Kd.R_elder' (by (with_reducible repeat (first | apply Kd.R_alloc | apply Kd.R_drewN | apply Kd.R_drew)); exact HO647.out) (Kd.R_base ho0) hb)
     have n5_ := Aside0.mk (Kd.R_lower (Kd.R_new' (Kd.R_new' (Kd.R_new' (Kd.R_new' (Kd.R_new' ho0 (Kd.R_lt (by (with_reducible repeat (first | apply Kd.R_alloc | apply Kd.R_drewN | apply Kd.R_drew)); exact HO_629001.out))) (Kd.R_lt (by (with_reducible repeat (first | apply Kd.R_alloc | apply Kd.R_drewN | apply Kd.R_drew)); exact HO_635001.out))) (Kd.R_lt (by (with_reducible repeat (first | apply Kd.R_alloc | apply Kd.R_drewN | apply Kd.R_drew)); exact HO638.out))) (Kd.R_lt (by (with_reducible repeat (first | apply Kd.R_alloc | apply Kd.R_drewN | apply Kd.R_drew)); exact HO642.out))) (Kd.R_lt (by (with_reducible repeat (first | apply Kd.R_alloc | apply Kd.R_drewN | apply Kd.R_drew)); exact HO647.out))) (below_size (bw_ HB.out)))
     have n6_ := kq_ BK620 hb
     have n7_ := kq_ BK621 hb
     have n8_ := kq_ BK622 hb
     have n9_ := kq_ BK628 hb
     have n10_ := kq_ BK634 hb
     have n11_ := kq_ BK643 hb
     have n12_ := bq_ HB hb
     clear HO_629001
     clear HO_635001
     clear HO638
     clear HO642
     clear HO647
     clear BK620
     clear BK621
     clear BK622
     clear BK628
     clear BK634
     clear BK643
     clear HB
     have HO_629001 := n0_
     have HO_635001 := n1_
     have HO638 := n2_
     have HO642 := n3_
     have HO647 := n4_
     have HO651 := n5_
     have BK620 := n6_
     have BK621 := n7_
     have BK622 := n8_
     have BK628 := n9_
     have BK634 := n10_
     have BK643 := n11_
     have HB := n12_
     clear n0_ n1_ n2_ n3_ n4_ n5_ n6_ n7_ n8_ n9_ n10_ n11_ n12_
     (try clear hb)
     (try clear hb2)
     (try clear hk)
     (try clear hi)
     (try clear ho0)
     obtain ⟨Ao121, co121, eo121⟩ := Kd.R_slice HO651.out
     (first | subst eo121 | (injection eo121 with f1_ f2_ f3_; have f4_ := f1_.symm; have f5_ := f3_.symm; clear f1_ f2_ f3_; subst f4_; subst f5_))
     refine hK.out _ _ ⟨(blk_cell BK628.out 0).trans rfl, (blk_cell BK628.out 1).trans rfl, (blk_cell BK628.out 2).trans rfl, (blk_cell BK643.out 0).trans rfl, (blk_cell BK643.out 1).trans rfl⟩ (fun hHeld => ?_)
     clear hK K
     refine norm_ (a' := ?_) ?_ ?_
     rotate_left
     ·show Act.put _ (some 58) _ = _
      exact pt_
     refine one_ (i := 7) (N := none) #[true, true, true, true, true, true, true, true] rfl rfl (one_of HT_.out (by kernel_rfl)) (by decide) (fun K hK => ?_)
     have hs120 : w119.cell? ⟨gb622, 0, none⟩ = some (.bool false) := (blk_cell BK622.out 0).trans rfl
     have hfs120 := fz_ BK622 0
     have hns120_0 := NB620_622.out
     have hns120_1 := NB621_622.out
     have hns120_3 := NB628_622.out
     have hns120_4 := NB634_622.out
     have hns120_5 := NB643_622.out
     have hms120_0 := NB622_620.out
     have hms120_1 := NB622_621.out
     have hms120_3 := NB622_628.out
     have hms120_4 := NB622_634.out
     have hms120_5 := NB622_643.out
     have hs122 : w119.cell? ⟨gb622, 1, none⟩ = some (.slice none 0 0) := (blk_cell BK622.out 1).trans rfl
     have hfs122 := fz_ BK622 1
     have hns122_0 := NB620_622.out
     have hns122_1 := NB621_622.out
     have hns122_3 := NB628_622.out
     have hns122_4 := NB634_622.out
     have hns122_5 := NB643_622.out
     have hms122_0 := NB622_620.out
     have hms122_1 := NB622_621.out
     have hms122_3 := NB622_628.out
     have hms122_4 := NB622_634.out
     have hms122_5 := NB622_643.out
     have hs123 : w119.cell? ⟨gb622, 2, none⟩ = some (.int .i64 0) := (blk_cell BK622.out 2).trans rfl
     have hfs123 := fz_ BK622 2
     have hns123_0 := NB620_622.out
     have hns123_1 := NB621_622.out
     have hns123_3 := NB628_622.out
     have hns123_4 := NB634_622.out
     have hns123_5 := NB643_622.out
     have hms123_0 := NB622_620.out
     have hms123_1 := NB622_621.out
     have hms123_3 := NB622_628.out
     have hms123_4 := NB622_634.out
     have hms123_5 := NB622_643.out
     refine skip_ (w1 := ?_) (by rfl) rfl ?_ ?_
     rotate_left
     ·go_simp
      rfl
     refine hK.out _ _ ⟨((cell_far (p := ⟨gb622, _, none⟩) NB628_622.out _).trans (((cell_far (p := ⟨gb622, _, none⟩) NB628_622.out _).trans (((cell_far (p := ⟨gb622, _, none⟩) NB628_622.out _).trans (hHeld.1)))))), ((cell_far (p := ⟨gb622, _, none⟩) NB628_622.out _).trans (((cell_far (p := ⟨gb622, _, none⟩) NB628_622.out _).trans (((cell_far (p := ⟨gb622, _, none⟩) NB628_622.out _).trans (hHeld.2.1)))))), ((cell_far (p := ⟨gb622, _, none⟩) NB628_622.out _).trans (((cell_far (p := ⟨gb622, _, none⟩) NB628_622.out _).trans (((cell_far (p := ⟨gb622, _, none⟩) NB628_622.out _).trans (hHeld.2.2.1)))))), ((cell_far (p := ⟨gb622, _, none⟩) NB643_622.out _).trans (((cell_far (p := ⟨gb622, _, none⟩) NB643_622.out _).trans (((cell_far (p := ⟨gb622, _, none⟩) NB643_622.out _).trans (hHeld.2.2.2.1)))))), ((cell_far (p := ⟨gb622, _, none⟩) NB643_622.out _).trans (((cell_far (p := ⟨gb622, _, none⟩) NB643_622.out _).trans (((cell_far (p := ⟨gb622, _, none⟩) NB643_622.out _).trans (hHeld.2.2.2.2))))))⟩ (fun hHeld => ?_)
     clear hK K
     refine done_ (done_of HT_.out (by kernel_rfl)) ?_
     try go_wp2
     refine bodyPost_ret (results_cell_row rfl _ _ gb622 50 #[.bool t648, .slice Ao121 t649.length co121, .int .i64 t652] (0, 0) _ rfl (by refine kb_ ?_; refine bp_ #[.bool t648, .slice Ao121 t649.length co121, .int .i64 0] 2 ?_; refine bp_ #[.bool t648, .slice none 0 0, .int .i64 0] 1 ?_; refine bp_ #[.bool false, .slice none 0 0, .int .i64 0] 0 ?_; exact BK622.out) Try.underlying50 rfl (by kernel_rfl)) rfl ?_
     exact ⟨_, rf_, by (with_reducible repeat (first | apply Kd.R_alloc | apply Kd.R_drewN | apply Kd.R_drew)); exact Kd.R_mono (Kd.R_far (p := ⟨gb622, 2, none⟩) (Kd.R_far (p := ⟨gb622, 1, none⟩) (Kd.R_far (p := ⟨gb622, 0, none⟩) (Kd.R_types HO651.out BK622.out (by decide)) (fun _ hk => hk.2) (.bool t648)) (fun _ hk => hk.2) (.slice Ao121 t649.length co121)) (fun _ hk => hk.2) (.int .i64 t652)) (fun _ hk => trivial), bw_ HB.out⟩

end Go.Proofs.Ythlhogcnfaiphaa.PA
