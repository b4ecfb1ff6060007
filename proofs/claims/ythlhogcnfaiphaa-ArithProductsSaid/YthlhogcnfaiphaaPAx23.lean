-- Laid by this work's own program; Lean checks it.
import Derived.Test.YthlhogcnfaiphaaPAx0
import Derived.Test.YthlhogcnfaiphaaPAx2
import Derived.Test.YthlhogcnfaiphaaPAx9
import Derived.Test.YthlhogcnfaiphaaPAx11
import Derived.Test.YthlhogcnfaiphaaPAx13
import Derived.Test.YthlhogcnfaiphaaPAx22
namespace Go.Proofs.Ythlhogcnfaiphaa.PA
open Go.RowKit Go.Proofs.YthlhogcnfaiphaaW.PrintWords Go.Proofs.YthlhogcnfaiphaaW.PrintLast Go.Proofs.YthlhogcnfaiphaaW.PrintMore
attribute [local go_sem] max2_int min2_int max_two min_two max_three min_three max_four min_four   -- for this text's walks alone
set_option linter.unusedVariables false
set_option linter.unusedSimpArgs false

attribute [local go_sem ↓ high] isSome_set_
/-! ### pelorusref06_Mul: function 19 -/
set_option maxHeartbeats 8000000 in
set_option maxRecDepth 100000 in
theorem pelorusref06_Mul.calls (k : Nat) (a0_0 : Int) (a0_1 : Bool) (a0_2 : Int) (a0_3 : Int) (a1_0 : Int) (a1_1 : Bool) (a1_2 : Int) (a1_3 : Int) (a2 : Bool) (r1 : Int) (r2 : Bool) (r3 : Int) (r4 : Int) (w : World) (h : pelorusref06_Mul.f k a0_0 a0_1 a0_2 a0_3 a1_0 a1_1 a1_2 a1_3 a2 = some (r1, r2, r3, r4)) :
  Calls Try.prog 19 #[.agg #[.int .i64 a0_0, .bool a0_1, .int .u64 a0_2, .int .i64 a0_3], .agg #[.int .i64 a1_0, .bool a1_1, .int .u64 a1_2, .int .i64 a1_3], .bool a2] w fun e w' => e = .returned (.agg #[.int .i64 r1, .bool r2, .int .u64 r3, .int .i64 r4]) ∧ Below w.heap.size w w' := by
 have hu24 := Try.underlying24
 have hu50 := Try.underlying50
 have HB := Aside0.mk (Below.refl w.heap.size w)
 have H : ((pelorusref06_Fair.f a0_0 a0_1 a0_2 a0_3).bind fun bt785 => ((pelorusref06_Fair.f a1_0 a1_1 a1_2 a1_3).bind fun bt790 => (if bt785.1 = 0 then (pelorusref06_Mul.j0 k a2 true bt785.1 bt785.2.1 bt785.2.2.1 bt785.2.2.2 bt790.1 bt790.2.1 bt790.2.2.1 bt790.2.2.2) else (pelorusref06_Mul.j0 k a2 (bt790.1 == 0) bt785.1 bt785.2.1 bt785.2.2.1 bt785.2.2.2 bt790.1 bt790.2.1 bt790.2.2.1 bt790.2.2.2)))) = some (r1, r2, r3, r4) := h
 clear h
 replace H := Option.bind_eq_some_iff.mp H
 obtain ⟨⟨t785, t786, t787, t788⟩, A40, H⟩ := H
 (try dsimp only at H)
 have A4 := Aside0.mk A40
 clear A40
 replace H := Option.bind_eq_some_iff.mp H
 obtain ⟨⟨t790, t791, t792, t793⟩, A50, H⟩ := H
 (try dsimp only at H)
 have A5 := Aside0.mk A50
 clear A50
 have HC6 := Aside0.mk H
 clear H
 go_enter Try.func19, Try.ntmps19
 go_upto_region 3 with (first | ((with_reducible refine gate_dst (N := 3) rfl ?_); refine bx_ 3 #[.int .i64 a0_0, .bool a0_1, .int .u64 a0_2, .int .i64 a0_3] 24 ?_; intro gb782 hg w7 hbox hb; have n0_ := bq_ HB hb; have n1_ := Aside0.mk (hbox); have n2_ := ge_ hg HB; have n3_ := ge_ hg HB; clear HB; have HB := n0_; have BK782 := n1_; have GW782 := n2_; have GE782 := n3_; clear n0_ n1_ n2_ n3_; clear hb hbox hg) | ((with_reducible refine gate_dst (N := 4) rfl ?_); refine bx_ 4 #[.int .i64 a1_0, .bool a1_1, .int .u64 a1_2, .int .i64 a1_3] 24 ?_; intro gb783 hg w8 hbox hb; have n0_ := kq_ BK782 hb; have n1_ := bq_ HB hb; have n2_ := Aside0.mk (hbox); have n3_ := ge_ hg HB; have n4_ := ge_ hg HB; have n5_ := nb_ hg BK782; have n6_ := nc_ hg BK782; clear BK782; clear HB; have BK782 := n0_; have HB := n1_; have BK783 := n2_; have GW783 := n3_; have GE783 := n4_; have NB782_783 := n5_; have NB783_782 := n6_; clear n0_ n1_ n2_ n3_ n4_ n5_ n6_; clear hb hbox hg) | ((with_reducible refine gate_dst (N := 6) rfl ?_); refine bx_ 6 #[.int .i64 0, .bool false, .int .u64 0, .int .i64 0] 24 ?_; intro gb784 hg w9 hbox hb; have n0_ := kq_ BK782 hb; have n1_ := kq_ BK783 hb; have n2_ := bq_ HB hb; have n3_ := Aside0.mk (hbox); have n4_ := ge_ hg HB; have n5_ := ge_ hg HB; have n6_ := nb_ hg BK782; have n7_ := nc_ hg BK782; have n8_ := nb_ hg BK783; have n9_ := nc_ hg BK783; clear BK782; clear BK783; clear HB; have BK782 := n0_; have BK783 := n1_; have HB := n2_; have BK784 := n3_; have GW784 := n4_; have GE784 := n5_; have NB782_784 := n6_; have NB784_782 := n7_; have NB783_784 := n8_; have NB784_783 := n9_; clear n0_ n1_ n2_ n3_ n4_ n5_ n6_ n7_ n8_ n9_; clear hb hbox hg; have hnb10 := NB782_783.out; have hnc10 := NB783_782.out; have hnb11 := NB782_784.out; have hnc11 := NB784_782.out; have hcz12_0 := cz_ BK782 0 rfl; have hcz12_1 := cz_ BK782 1 rfl; have hcz12_2 := cz_ BK782 2 rfl; have hcz12_3 := cz_ BK782 3 rfl; have hfz12_0 := fz_ BK782 0; have hfz12_1 := fz_ BK782 1; have hfz12_2 := fz_ BK782 2; have hfz12_3 := fz_ BK782 3) | ((with_reducible refine gate_callee (f := 37) rfl ?_); refine gl_ (some 14) Try.func37 #[.agg #[.int .i64 a0_0, .bool a0_1, .int .u64 a0_2, .int .i64 a0_3]] ?_; (with_reducible refine (pelorusref06_Fair.calls a0_0 a0_1 a0_2 a0_3 t785 t786 t787 t788 _ A4.out).mono ?_); rintro e w13 ⟨rfl, hb⟩; refine ⟨_, rfl, ?_⟩; have n0_ := kq_ BK782 hb; have n1_ := kq_ BK783 hb; have n2_ := kq_ BK784 hb; have n3_ := bq_ HB hb; clear BK782; clear BK783; clear BK784; clear HB; have BK782 := n0_; have BK783 := n1_; have BK784 := n2_; have HB := n3_; clear n0_ n1_ n2_ n3_; (try clear hb); (try clear hb2); (try clear hk); (try clear hi)) | ((with_reducible refine gate_dst (N := 7) rfl ?_); refine bx_ 7 #[.int .i64 0, .bool false, .int .u64 0, .int .i64 0] 24 ?_; intro gb789 hg w14 hbox hb; have n0_ := kq_ BK782 hb; have n1_ := kq_ BK783 hb; have n2_ := kq_ BK784 hb; have n3_ := bq_ HB hb; have n4_ := Aside0.mk (hbox); have n5_ := ge_ hg HB; have n6_ := ge_ hg HB; have n7_ := nb_ hg BK782; have n8_ := nc_ hg BK782; have n9_ := nb_ hg BK783; have n10_ := nc_ hg BK783; have n11_ := nb_ hg BK784; have n12_ := nc_ hg BK784; clear BK782; clear BK783; clear BK784; clear HB; have BK782 := n0_; have BK783 := n1_; have BK784 := n2_; have HB := n3_; have BK789 := n4_; have GW789 := n5_; have GE789 := n6_; have NB782_789 := n7_; have NB789_782 := n8_; have NB783_789 := n9_; have NB789_783 := n10_; have NB784_789 := n11_; have NB789_784 := n12_; clear n0_ n1_ n2_ n3_ n4_ n5_ n6_ n7_ n8_ n9_ n10_ n11_ n12_; clear hb hbox hg; have hnb15 := NB789_782.out; have hnc15 := NB782_789.out; have hnb16 := NB789_783.out; have hnc16 := NB783_789.out; have hnb17 := NB789_784.out; have hnc17 := NB784_789.out; have hcz18_0 := cz_ BK789 0 rfl; have hcz18_1 := cz_ BK789 1 rfl; have hcz18_2 := cz_ BK789 2 rfl; have hcz18_3 := cz_ BK789 3 rfl; have hfz18_0 := fz_ BK789 0; have hfz18_1 := fz_ BK789 1; have hfz18_2 := fz_ BK789 2; have hfz18_3 := fz_ BK789 3; have hnb19 := NB783_784.out; have hnc19 := NB784_783.out; have hcz20_0 := cz_ BK783 0 rfl; have hcz20_1 := cz_ BK783 1 rfl; have hcz20_2 := cz_ BK783 2 rfl; have hcz20_3 := cz_ BK783 3 rfl; have hfz20_0 := fz_ BK783 0; have hfz20_1 := fz_ BK783 1; have hfz20_2 := fz_ BK783 2; have hfz20_3 := fz_ BK783 3) | ((with_reducible refine gate_callee (f := 37) rfl ?_); refine gl_ (some 16) Try.func37 #[.agg #[.int .i64 a1_0, .bool a1_1, .int .u64 a1_2, .int .i64 a1_3]] ?_; (with_reducible refine (pelorusref06_Fair.calls a1_0 a1_1 a1_2 a1_3 t790 t791 t792 t793 _ A5.out).mono ?_); rintro e w21 ⟨rfl, hb⟩; refine ⟨_, rfl, ?_⟩; have n0_ := Aside0.mk (blk_below (g := gb782) (o := .cells #[.int .i64 a0_0, .bool a0_1, .int .u64 a0_2, .int .i64 a0_3] 24 (0, 0)) (by refine kb_ ?_; refine bf_ NB782_789 ?_; refine bf_ NB782_789 ?_; refine bf_ NB782_789 ?_; refine bf_ NB782_789 ?_; exact BK782.out) hb); have n1_ := Aside0.mk (blk_below (g := gb783) (o := .cells #[.int .i64 a1_0, .bool a1_1, .int .u64 a1_2, .int .i64 a1_3] 24 (0, 0)) (by refine kb_ ?_; refine bf_ NB783_789 ?_; refine bf_ NB783_789 ?_; refine bf_ NB783_789 ?_; refine bf_ NB783_789 ?_; exact BK783.out) hb); have n2_ := Aside0.mk (blk_below (g := gb784) (o := .cells #[.int .i64 0, .bool false, .int .u64 0, .int .i64 0] 24 (0, 0)) (by refine kb_ ?_; refine bf_ NB784_789 ?_; refine bf_ NB784_789 ?_; refine bf_ NB784_789 ?_; refine bf_ NB784_789 ?_; exact BK784.out) hb); have n3_ := Aside0.mk (blk_below (g := gb789) (o := .cells #[.int .i64 t785, .bool t786, .int .u64 t787, .int .i64 t788] 24 (0, 0)) (by refine kb_ ?_; refine bp_ #[.int .i64 t785, .bool t786, .int .u64 t787, .int .i64 0] 3 ?_; refine bp_ #[.int .i64 t785, .bool t786, .int .u64 0, .int .i64 0] 2 ?_; refine bp_ #[.int .i64 t785, .bool false, .int .u64 0, .int .i64 0] 1 ?_; refine bp_ #[.int .i64 0, .bool false, .int .u64 0, .int .i64 0] 0 ?_; exact BK789.out) hb); have n4_ := bq_ HB hb; clear BK782; clear BK783; clear BK784; clear BK789; clear HB; have BK782 := n0_; have BK783 := n1_; have BK784 := n2_; have BK789 := n3_; have HB := n4_; clear n0_ n1_ n2_ n3_ n4_; (try clear hb); (try clear hb2); (try clear hk); (try clear hi)) | ((with_reducible refine gate_dst (N := 8) rfl ?_); refine bx_ 8 #[.int .i64 0, .bool false, .int .u64 0, .int .i64 0] 24 ?_; intro gb794 hg w22 hbox hb; have n0_ := kq_ BK782 hb; have n1_ := kq_ BK783 hb; have n2_ := kq_ BK784 hb; have n3_ := kq_ BK789 hb; have n4_ := bq_ HB hb; have n5_ := Aside0.mk (hbox); have n6_ := ge_ hg HB; have n7_ := ge_ hg HB; have n8_ := nb_ hg BK782; have n9_ := nc_ hg BK782; have n10_ := nb_ hg BK783; have n11_ := nc_ hg BK783; have n12_ := nb_ hg BK784; have n13_ := nc_ hg BK784; have n14_ := nb_ hg BK789; have n15_ := nc_ hg BK789; clear BK782; clear BK783; clear BK784; clear BK789; clear HB; have BK782 := n0_; have BK783 := n1_; have BK784 := n2_; have BK789 := n3_; have HB := n4_; have BK794 := n5_; have GW794 := n6_; have GE794 := n7_; have NB782_794 := n8_; have NB794_782 := n9_; have NB783_794 := n10_; have NB794_783 := n11_; have NB784_794 := n12_; have NB794_784 := n13_; have NB789_794 := n14_; have NB794_789 := n15_; clear n0_ n1_ n2_ n3_ n4_ n5_ n6_ n7_ n8_ n9_ n10_ n11_ n12_ n13_ n14_ n15_; clear hb hbox hg; have hnb23 := NB794_782.out; have hnc23 := NB782_794.out; have hnb24 := NB794_783.out; have hnc24 := NB783_794.out; have hnb25 := NB794_784.out; have hnc25 := NB784_794.out; have hnb26 := NB794_789.out; have hnc26 := NB789_794.out; have hcz27_0 := cz_ BK794 0 rfl; have hcz27_1 := cz_ BK794 1 rfl; have hcz27_2 := cz_ BK794 2 rfl; have hcz27_3 := cz_ BK794 3 rfl; have hfz27_0 := fz_ BK794 0; have hfz27_1 := fz_ BK794 1; have hfz27_2 := fz_ BK794 2; have hfz27_3 := fz_ BK794 3))
 (try simp only [Act.put, List.setIfInBounds_toArray, List.set_cons_zero, List.set_cons_succ])
 go_cut [24] (fun v24 wc => ∃ (kq : Nat) (x24_5 : Bool), v24 = .bool x24_5 ∧ Aside0 (pelorusref06_Mul.j0 kq a2 x24_5 t785 t786 t787 t788 t790 t791 t792 t793 = some (r1, r2, r3, r4)) ∧ Aside0 (kq ≤ k) ∧ Aside0 (wc.heap[gb782]? = some (.cells #[.int .i64 a0_0, .bool a0_1, .int .u64 a0_2, .int .i64 a0_3] 24 (0, 0))) ∧ Aside0 (wc.heap[gb783]? = some (.cells #[.int .i64 a1_0, .bool a1_1, .int .u64 a1_2, .int .i64 a1_3] 24 (0, 0))) ∧ Aside0 (wc.heap[gb784]? = some (.cells #[.int .i64 0, .bool false, .int .u64 0, .int .i64 0] 24 (0, 0))) ∧ Aside0 (wc.heap[gb789]? = some (.cells #[.int .i64 t785, .bool t786, .int .u64 t787, .int .i64 t788] 24 (0, 0))) ∧ Aside0 (wc.heap[gb794]? = some (.cells #[.int .i64 t790, .bool t791, .int .u64 t792, .int .i64 t793] 24 (0, 0))) ∧ Aside0 (Below w.heap.size w wc))
 case first =>
  have H := HC6.out
  clear HC6
  by_cases c28 : t785 = 0
  ·rw [if_pos c28] at H
   have c28b0 : (t785 == 0) = true := beq_iff_eq.mpr c28
   have c28b1 : (t785 != 0) = false := bne_eq_false_iff_eq.mpr c28
   clear c28
   (first | rw [c28b0] | (simp only [i64_w, i32_w]; rw [c28b0]) | skip)
   have H' := Aside0.mk H
   clear H
   have hnb29 := NB789_782.out
   have hnc29 := NB782_789.out
   have hnb30 := NB789_783.out
   have hnc30 := NB783_789.out
   have hnb31 := NB789_784.out
   have hnc31 := NB784_789.out
   have hnb32 := NB789_794.out
   have hnc32 := NB794_789.out
   have hcz33_0 := cz_ BK789 0 rfl
   have hcz33_1 := cz_ BK789 1 rfl
   have hcz33_2 := cz_ BK789 2 rfl
   have hcz33_3 := cz_ BK789 3 rfl
   have hfz33_0 := fz_ BK789 0
   have hfz33_1 := fz_ BK789 1
   have hfz33_2 := fz_ BK789 2
   have hfz33_3 := fz_ BK789 3
   go_wp2
   go_meet
   case rel => exact ⟨_, (true), (by first | rfl | (simp; done) | (simp [*]; done)), H', ⟨by first | omega | exact Nat.le_refl _⟩, ⟨by refine kb_ ?_; refine bf_ NB782_794 ?_; refine bf_ NB782_794 ?_; refine bf_ NB782_794 ?_; refine bf_ NB782_794 ?_; exact BK782.out⟩, ⟨by refine kb_ ?_; refine bf_ NB783_794 ?_; refine bf_ NB783_794 ?_; refine bf_ NB783_794 ?_; refine bf_ NB783_794 ?_; exact BK783.out⟩, ⟨by refine kb_ ?_; refine bf_ NB784_794 ?_; refine bf_ NB784_794 ?_; refine bf_ NB784_794 ?_; refine bf_ NB784_794 ?_; exact BK784.out⟩, ⟨by refine kb_ ?_; refine bf_ NB789_794 ?_; refine bf_ NB789_794 ?_; refine bf_ NB789_794 ?_; refine bf_ NB789_794 ?_; exact BK789.out⟩, ⟨by refine kb_ ?_; refine bp_ #[.int .i64 t790, .bool t791, .int .u64 t792, .int .i64 0] 3 ?_; refine bp_ #[.int .i64 t790, .bool t791, .int .u64 0, .int .i64 0] 2 ?_; refine bp_ #[.int .i64 t790, .bool false, .int .u64 0, .int .i64 0] 1 ?_; refine bp_ #[.int .i64 0, .bool false, .int .u64 0, .int .i64 0] 0 ?_; exact BK794.out⟩, ⟨bw_ HB.out⟩⟩
  ·rw [if_neg c28] at H
   have c28b0 : (t785 == 0) = false := beq_eq_false_iff_ne.mpr c28
   have c28b1 : (t785 != 0) = true := bne_iff_ne.mpr c28
   (first | rw [c28b0] | (simp only [i64_w, i32_w]; rw [c28b0]) | skip)
   have H' := Aside0.mk H
   clear H
   have hnb34 := NB789_782.out
   have hnc34 := NB782_789.out
   have hnb35 := NB789_783.out
   have hnc35 := NB783_789.out
   have hnb36 := NB789_784.out
   have hnc36 := NB784_789.out
   have hnb37 := NB789_794.out
   have hnc37 := NB794_789.out
   have hcz38_0 := cz_ BK789 0 rfl
   have hcz38_1 := cz_ BK789 1 rfl
   have hcz38_2 := cz_ BK789 2 rfl
   have hcz38_3 := cz_ BK789 3 rfl
   have hfz38_0 := fz_ BK789 0
   have hfz38_1 := fz_ BK789 1
   have hfz38_2 := fz_ BK789 2
   have hfz38_3 := fz_ BK789 3
   have hnb39 := NB794_782.out
   have hnc39 := NB782_794.out
   have hnb40 := NB794_783.out
   have hnc40 := NB783_794.out
   have hnb41 := NB794_784.out
   have hnc41 := NB784_794.out
   have hcz42_0 := cz_ BK794 0 rfl
   have hcz42_1 := cz_ BK794 1 rfl
   have hcz42_2 := cz_ BK794 2 rfl
   have hcz42_3 := cz_ BK794 3 rfl
   have hfz42_0 := fz_ BK794 0
   have hfz42_1 := fz_ BK794 1
   have hfz42_2 := fz_ BK794 2
   have hfz42_3 := fz_ BK794 3
   go_wp2
   go_meet
   case rel => exact ⟨_, ((t790 == 0)), (by first | rfl | (simp; done) | (simp [*]; done)), H', ⟨by first | omega | exact Nat.le_refl _⟩, ⟨by refine kb_ ?_; refine bf_ NB782_794 ?_; refine bf_ NB782_794 ?_; refine bf_ NB782_794 ?_; refine bf_ NB782_794 ?_; exact BK782.out⟩, ⟨by refine kb_ ?_; refine bf_ NB783_794 ?_; refine bf_ NB783_794 ?_; refine bf_ NB783_794 ?_; refine bf_ NB783_794 ?_; exact BK783.out⟩, ⟨by refine kb_ ?_; refine bf_ NB784_794 ?_; refine bf_ NB784_794 ?_; refine bf_ NB784_794 ?_; refine bf_ NB784_794 ?_; exact BK784.out⟩, ⟨by refine kb_ ?_; refine bf_ NB789_794 ?_; refine bf_ NB789_794 ?_; refine bf_ NB789_794 ?_; refine bf_ NB789_794 ?_; exact BK789.out⟩, ⟨by refine kb_ ?_; refine bp_ #[.int .i64 t790, .bool t791, .int .u64 t792, .int .i64 0] 3 ?_; refine bp_ #[.int .i64 t790, .bool t791, .int .u64 0, .int .i64 0] 2 ?_; refine bp_ #[.int .i64 t790, .bool false, .int .u64 0, .int .i64 0] 1 ?_; refine bp_ #[.int .i64 0, .bool false, .int .u64 0, .int .i64 0] 0 ?_; exact BK794.out⟩, ⟨bw_ HB.out⟩⟩
 case rest =>
  clear HC6
  try clear c1
  try clear c2
  try clear p2
  try clear c3
  try clear c4
  try clear c10
  try clear c11
  try clear c15
  try clear c16
  try clear c17
  try clear c19
  try clear c23
  try clear c24
  try clear c25
  try clear c26
  try clear c28
  try clear c28b0
  try clear c28b1
  try clear c29
  try clear c30
  try clear c31
  try clear c32
  try clear c34
  try clear c35
  try clear c36
  try clear c37
  try clear c39
  try clear c40
  try clear c41
  try clear hcz12_0
  try clear hcz12_1
  try clear hcz12_2
  try clear hcz12_3
  try clear hcz18_0
  try clear hcz18_1
  try clear hcz18_2
  try clear hcz18_3
  try clear hcz20_0
  try clear hcz20_1
  try clear hcz20_2
  try clear hcz20_3
  try clear hcz27_0
  try clear hcz27_1
  try clear hcz27_2
  try clear hcz27_3
  try clear hcz33_0
  try clear hcz33_1
  try clear hcz33_2
  try clear hcz33_3
  try clear hcz38_0
  try clear hcz38_1
  try clear hcz38_2
  try clear hcz38_3
  try clear hcz42_0
  try clear hcz42_1
  try clear hcz42_2
  try clear hcz42_3
  try clear hfz12_0
  try clear hfz12_1
  try clear hfz12_2
  try clear hfz12_3
  try clear hfz18_0
  try clear hfz18_1
  try clear hfz18_2
  try clear hfz18_3
  try clear hfz20_0
  try clear hfz20_1
  try clear hfz20_2
  try clear hfz20_3
  try clear hfz27_0
  try clear hfz27_1
  try clear hfz27_2
  try clear hfz27_3
  try clear hfz33_0
  try clear hfz33_1
  try clear hfz33_2
  try clear hfz33_3
  try clear hfz38_0
  try clear hfz38_1
  try clear hfz38_2
  try clear hfz38_3
  try clear hfz42_0
  try clear hfz42_1
  try clear hfz42_2
  try clear hfz42_3
  obtain ⟨kq, x24_5, rfl, HA, HJ5, BK782, BK783, BK784, BK789, BK794, HB⟩ := hcut
  cases kq with
  | zero => exact absurd HA.out (by simp [pelorusref06_Mul.j0])
  | succ kj5 =>
   have H := HA.out
   clear HA
   simp only [pelorusref06_Mul.j0] at H
   by_cases c43 : x24_5 = true
   ·subst c43
    have H1 : (some (0, false, 0, 0)) = some (r1, r2, r3, r4) := by rw [if_pos rfl] at H; exact H
    clear H
    have H := H1
    clear H1
    simp only [Option.some.injEq, Prod.mk.injEq] at H
    obtain ⟨rfl, rfl, rfl, rfl⟩ := H
    have hnb44 := NB784_782.out
    have hnc44 := NB782_784.out
    have hnb45 := NB784_783.out
    have hnc45 := NB783_784.out
    have hnb46 := NB784_789.out
    have hnc46 := NB789_784.out
    have hnb47 := NB784_794.out
    have hnc47 := NB794_784.out
    have hcz48_0 := cz_ BK784 0 rfl
    have hcz48_1 := cz_ BK784 1 rfl
    have hcz48_2 := cz_ BK784 2 rfl
    have hcz48_3 := cz_ BK784 3 rfl
    have hfz48_0 := fz_ BK784 0
    have hfz48_1 := fz_ BK784 1
    have hfz48_2 := fz_ BK784 2
    have hfz48_3 := fz_ BK784 3
    go_wp2
    refine bodyPost_ret (results_cell_row rfl _ _ gb784 24 #[.int .i64 0, .bool false, .int .u64 0, .int .i64 0] (0, 0) _ rfl (by refine kb_ ?_; refine bp_ #[.int .i64 0, .bool false, .int .u64 0, .int .i64 0] 3 ?_; refine bp_ #[.int .i64 0, .bool false, .int .u64 0, .int .i64 0] 2 ?_; refine bp_ #[.int .i64 0, .bool false, .int .u64 0, .int .i64 0] 1 ?_; refine bp_ #[.int .i64 0, .bool false, .int .u64 0, .int .i64 0] 0 ?_; exact BK784.out) Try.underlying24 rfl (by kernel_rfl)) rfl ?_
    exact ⟨by first | rfl | (simp [errW_none, errW_some] <;> rfl) | (simp [*, errW_none, errW_some] <;> rfl), bw_ HB.out⟩
   ·replace c43 := Bool.eq_false_iff.mpr c43
    subst c43
    have H1 : (if t785 = 2 then (pelorusref06_Mul.j1 kj5 a2 true t785 t786 t787 t788 t790 t791 t792 t793) else (pelorusref06_Mul.j1 kj5 a2 (t790 == 2) t785 t786 t787 t788 t790 t791 t792 t793)) = some (r1, r2, r3, r4) := by rw [if_neg (show ¬ (false = true) by decide)] at H; exact H
    clear H
    have H := H1
    clear H1
    have HC49 := Aside0.mk H
    clear H
    go_upto_region 5 with (fail)
    go_cut [33] (fun v33 wc => ∃ (kq : Nat) (x33_48 : Bool), v33 = .bool x33_48 ∧ Aside0 (pelorusref06_Mul.j1 kq a2 x33_48 t785 t786 t787 t788 t790 t791 t792 t793 = some (r1, r2, r3, r4)) ∧ Aside0 (kq ≤ kj5) ∧ Aside0 (wc.heap[gb782]? = some (.cells #[.int .i64 a0_0, .bool a0_1, .int .u64 a0_2, .int .i64 a0_3] 24 (0, 0))) ∧ Aside0 (wc.heap[gb783]? = some (.cells #[.int .i64 a1_0, .bool a1_1, .int .u64 a1_2, .int .i64 a1_3] 24 (0, 0))) ∧ Aside0 (wc.heap[gb784]? = some (.cells #[.int .i64 0, .bool false, .int .u64 0, .int .i64 0] 24 (0, 0))) ∧ Aside0 (wc.heap[gb789]? = some (.cells #[.int .i64 t785, .bool t786, .int .u64 t787, .int .i64 t788] 24 (0, 0))) ∧ Aside0 (wc.heap[gb794]? = some (.cells #[.int .i64 t790, .bool t791, .int .u64 t792, .int .i64 t793] 24 (0, 0))) ∧ Aside0 (Below w.heap.size w wc))
    case first =>
     have H := HC49.out
     clear HC49
     by_cases c50 : t785 = 2
     ·rw [if_pos c50] at H
      have c50b0 : (t785 == 2) = true := beq_iff_eq.mpr c50
      have c50b1 : (t785 != 2) = false := bne_eq_false_iff_eq.mpr c50
      clear c50
      (first | rw [c50b0] | (simp only [i64_w, i32_w]; rw [c50b0]) | skip)
      have H' := Aside0.mk H
      clear H
      have hnb51 := NB789_782.out
      have hnc51 := NB782_789.out
      have hnb52 := NB789_783.out
      have hnc52 := NB783_789.out
      have hnb53 := NB789_784.out
      have hnc53 := NB784_789.out
      have hnb54 := NB789_794.out
      have hnc54 := NB794_789.out
      have hcz55_0 := cz_ BK789 0 rfl
      have hcz55_1 := cz_ BK789 1 rfl
      have hcz55_2 := cz_ BK789 2 rfl
      have hcz55_3 := cz_ BK789 3 rfl
      have hfz55_0 := fz_ BK789 0
      have hfz55_1 := fz_ BK789 1
      have hfz55_2 := fz_ BK789 2
      have hfz55_3 := fz_ BK789 3
      go_wp2
      go_meet
      case rel => exact ⟨_, (true), (by first | rfl | (simp; done) | (simp [*]; done)), H', ⟨by have := HJ5.out; first | omega | exact Nat.le_refl _⟩, ⟨kb_ BK782.out⟩, ⟨kb_ BK783.out⟩, ⟨kb_ BK784.out⟩, ⟨kb_ BK789.out⟩, ⟨kb_ BK794.out⟩, ⟨bw_ HB.out⟩⟩
     ·rw [if_neg c50] at H
      have c50b0 : (t785 == 2) = false := beq_eq_false_iff_ne.mpr c50
      have c50b1 : (t785 != 2) = true := bne_iff_ne.mpr c50
      (first | rw [c50b0] | (simp only [i64_w, i32_w]; rw [c50b0]) | skip)
      have H' := Aside0.mk H
      clear H
      have hnb56 := NB789_782.out
      have hnc56 := NB782_789.out
      have hnb57 := NB789_783.out
      have hnc57 := NB783_789.out
      have hnb58 := NB789_784.out
      have hnc58 := NB784_789.out
      have hnb59 := NB789_794.out
      have hnc59 := NB794_789.out
      have hcz60_0 := cz_ BK789 0 rfl
      have hcz60_1 := cz_ BK789 1 rfl
      have hcz60_2 := cz_ BK789 2 rfl
      have hcz60_3 := cz_ BK789 3 rfl
      have hfz60_0 := fz_ BK789 0
      have hfz60_1 := fz_ BK789 1
      have hfz60_2 := fz_ BK789 2
      have hfz60_3 := fz_ BK789 3
      have hnb61 := NB794_782.out
      have hnc61 := NB782_794.out
      have hnb62 := NB794_783.out
      have hnc62 := NB783_794.out
      have hnb63 := NB794_784.out
      have hnc63 := NB784_794.out
      have hcz64_0 := cz_ BK794 0 rfl
      have hcz64_1 := cz_ BK794 1 rfl
      have hcz64_2 := cz_ BK794 2 rfl
      have hcz64_3 := cz_ BK794 3 rfl
      have hfz64_0 := fz_ BK794 0
      have hfz64_1 := fz_ BK794 1
      have hfz64_2 := fz_ BK794 2
      have hfz64_3 := fz_ BK794 3
      go_wp2
      go_meet
      case rel => exact ⟨_, ((t790 == 2)), (by first | rfl | (simp; done) | (simp [*]; done)), H', ⟨by have := HJ5.out; first | omega | exact Nat.le_refl _⟩, ⟨kb_ BK782.out⟩, ⟨kb_ BK783.out⟩, ⟨kb_ BK784.out⟩, ⟨kb_ BK789.out⟩, ⟨kb_ BK794.out⟩, ⟨bw_ HB.out⟩⟩
    case rest =>
     clear HC49
     try clear c1
     try clear c2
     try clear p2
     try clear c3
     try clear c4
     try clear c5
     try clear c6
     try clear c10
     try clear c11
     try clear c15
     try clear c16
     try clear c17
     try clear c19
     try clear c23
     try clear c24
     try clear c25
     try clear c26
     try clear c28
     try clear c28b0
     try clear c28b1
     try clear c29
     try clear c30
     try clear c31
     try clear c32
     try clear c34
     try clear c35
     try clear c36
     try clear c37
     try clear c39
     try clear c40
     try clear c41
     try clear c43
     try clear c44
     try clear c45
     try clear c46
     try clear c47
     try clear c50
     try clear c50b0
     try clear c50b1
     try clear c51
     try clear c52
     try clear c53
     try clear c54
     try clear c56
     try clear c57
     try clear c58
     try clear c59
     try clear c61
     try clear c62
     try clear c63
     try clear hcz12_0
     try clear hcz12_1
     try clear hcz12_2
     try clear hcz12_3
     try clear hcz18_0
     try clear hcz18_1
     try clear hcz18_2
     try clear hcz18_3
     try clear hcz20_0
     try clear hcz20_1
     try clear hcz20_2
     try clear hcz20_3
     try clear hcz27_0
     try clear hcz27_1
     try clear hcz27_2
     try clear hcz27_3
     try clear hcz33_0
     try clear hcz33_1
     try clear hcz33_2
     try clear hcz33_3
     try clear hcz38_0
     try clear hcz38_1
     try clear hcz38_2
     try clear hcz38_3
     try clear hcz42_0
     try clear hcz42_1
     try clear hcz42_2
     try clear hcz42_3
     try clear hcz48_0
     try clear hcz48_1
     try clear hcz48_2
     try clear hcz48_3
     try clear hcz55_0
     try clear hcz55_1
     try clear hcz55_2
     try clear hcz55_3
     try clear hcz60_0
     try clear hcz60_1
     try clear hcz60_2
     try clear hcz60_3
     try clear hcz64_0
     try clear hcz64_1
     try clear hcz64_2
     try clear hcz64_3
     try clear hfz12_0
     try clear hfz12_1
     try clear hfz12_2
     try clear hfz12_3
     try clear hfz18_0
     try clear hfz18_1
     try clear hfz18_2
     try clear hfz18_3
     try clear hfz20_0
     try clear hfz20_1
     try clear hfz20_2
     try clear hfz20_3
     try clear hfz27_0
     try clear hfz27_1
     try clear hfz27_2
     try clear hfz27_3
     try clear hfz33_0
     try clear hfz33_1
     try clear hfz33_2
     try clear hfz33_3
     try clear hfz38_0
     try clear hfz38_1
     try clear hfz38_2
     try clear hfz38_3
     try clear hfz42_0
     try clear hfz42_1
     try clear hfz42_2
     try clear hfz42_3
     try clear hfz48_0
     try clear hfz48_1
     try clear hfz48_2
     try clear hfz48_3
     try clear hfz55_0
     try clear hfz55_1
     try clear hfz55_2
     try clear hfz55_3
     try clear hfz60_0
     try clear hfz60_1
     try clear hfz60_2
     try clear hfz60_3
     try clear hfz64_0
     try clear hfz64_1
     try clear hfz64_2
     try clear hfz64_3
     try clear p2
     obtain ⟨kq, x33_48, rfl, HA, HJ48, BK782, BK783, BK784, BK789, BK794, HB⟩ := hcut
     cases kq with
     | zero => exact absurd HA.out (by simp [pelorusref06_Mul.j1])
     | succ kj48 =>
      have H := HA.out
      clear HA
      simp only [pelorusref06_Mul.j1] at H
      by_cases c65 : x33_48 = true
      ·subst c65
       have H1 : ((pelorusref05_Infinite.f (t786 != t791)).bind fun bt795 => (some (bt795.1, bt795.2.1, bt795.2.2.1, bt795.2.2.2))) = some (r1, r2, r3, r4) := by rw [if_pos rfl] at H; exact H
       clear H
       have H := H1
       clear H1
       replace H := Option.bind_eq_some_iff.mp H
       obtain ⟨⟨t795, t796, t797, t798⟩, A660, H⟩ := H
       (try dsimp only at H)
       have A66 := Aside0.mk A660
       clear A660
       simp only [Option.some.injEq, Prod.mk.injEq] at H
       obtain ⟨rfl, rfl, rfl, rfl⟩ := H
       have hnb67 := NB789_782.out
       have hnc67 := NB782_789.out
       have hnb68 := NB789_783.out
       have hnc68 := NB783_789.out
       have hnb69 := NB789_784.out
       have hnc69 := NB784_789.out
       have hnb70 := NB789_794.out
       have hnc70 := NB794_789.out
       have hcz71_0 := cz_ BK789 0 rfl
       have hcz71_1 := cz_ BK789 1 rfl
       have hcz71_2 := cz_ BK789 2 rfl
       have hcz71_3 := cz_ BK789 3 rfl
       have hfz71_0 := fz_ BK789 0
       have hfz71_1 := fz_ BK789 1
       have hfz71_2 := fz_ BK789 2
       have hfz71_3 := fz_ BK789 3
       have hnb72 := NB794_782.out
       have hnc72 := NB782_794.out
       have hnb73 := NB794_783.out
       have hnc73 := NB783_794.out
       have hnb74 := NB794_784.out
       have hnc74 := NB784_794.out
       have hcz75_0 := cz_ BK794 0 rfl
       have hcz75_1 := cz_ BK794 1 rfl
       have hcz75_2 := cz_ BK794 2 rfl
       have hcz75_3 := cz_ BK794 3 rfl
       have hfz75_0 := fz_ BK794 0
       have hfz75_1 := fz_ BK794 1
       have hfz75_2 := fz_ BK794 2
       have hfz75_3 := fz_ BK794 3
       go_wp2_with (first | ((with_reducible refine gate_callee (f := 38) rfl ?_); refine gl_ (some 39) Try.func38 #[.bool (t786 != t791)] ?_; (with_reducible refine (pelorusref05_Infinite.calls (t786 != t791) t795 t796 t797 t798 _ A66.out).mono ?_); rintro e w76 ⟨rfl, hb⟩; refine ⟨_, rfl, ?_⟩; have n0_ := kq_ BK782 hb; have n1_ := kq_ BK783 hb; have n2_ := kq_ BK784 hb; have n3_ := kq_ BK789 hb; have n4_ := kq_ BK794 hb; have n5_ := bq_ HB hb; clear BK782; clear BK783; clear BK784; clear BK789; clear BK794; clear HB; have BK782 := n0_; have BK783 := n1_; have BK784 := n2_; have BK789 := n3_; have BK794 := n4_; have HB := n5_; clear n0_ n1_ n2_ n3_ n4_ n5_; (try clear hb); (try clear hb2); (try clear hk); (try clear hi); have hnb77 := NB784_782.out; have hnc77 := NB782_784.out; have hnb78 := NB784_783.out; have hnc78 := NB783_784.out; have hcz79_0 := cz_ BK784 0 rfl; have hcz79_1 := cz_ BK784 1 rfl; have hcz79_2 := cz_ BK784 2 rfl; have hcz79_3 := cz_ BK784 3 rfl; have hfz79_0 := fz_ BK784 0; have hfz79_1 := fz_ BK784 1; have hfz79_2 := fz_ BK784 2; have hfz79_3 := fz_ BK784 3))
       refine bodyPost_ret (results_cell_row rfl _ _ gb784 24 #[.int .i64 t795, .bool t796, .int .u64 t797, .int .i64 t798] (0, 0) _ rfl (by refine kb_ ?_; refine bp_ #[.int .i64 t795, .bool t796, .int .u64 t797, .int .i64 0] 3 ?_; refine bp_ #[.int .i64 t795, .bool t796, .int .u64 0, .int .i64 0] 2 ?_; refine bp_ #[.int .i64 t795, .bool false, .int .u64 0, .int .i64 0] 1 ?_; refine bp_ #[.int .i64 0, .bool false, .int .u64 0, .int .i64 0] 0 ?_; exact BK784.out) Try.underlying24 rfl (by kernel_rfl)) rfl ?_
       exact ⟨by first | rfl | (simp [errW_none, errW_some] <;> rfl) | (simp [*, errW_none, errW_some] <;> rfl), bw_ HB.out⟩
      ·replace c65 := Bool.eq_false_iff.mpr c65
       subst c65
       have H1 : ((pelorusref05_Exact.f kj48 t785 t786 t787 t788).bind fun bt799 => ((pelorusref05_Exact.f kj48 t790 t791 t792 t793).bind fun bt806 => ((pelorusref03_Mul.f kj48 bt799.1 bt799.2.1 bt799.2.2.1 bt806.1 bt806.2.1 bt806.2.2.1).bind fun bt813 => ((pelorusref05_Round.f kj48 bt813.1 bt813.2.1 bt813.2.2 a2).bind fun bt818 => (some (bt818.1, bt818.2.1, bt818.2.2.1, bt818.2.2.2)))))) = some (r1, r2, r3, r4) := by rw [if_neg (show ¬ (false = true) by decide)] at H; exact H
       clear H
       have H := H1
       clear H1
       replace H := Option.bind_eq_some_iff.mp H
       obtain ⟨⟨t799, t800, t803, t804⟩, A800, H⟩ := H
       (try dsimp only at H)
       have A80 := Aside0.mk A800
       clear A800
       replace H := Option.bind_eq_some_iff.mp H
       obtain ⟨⟨t806, t807, t810, t811⟩, A810, H⟩ := H
       (try dsimp only at H)
       have A81 := Aside0.mk A810
       clear A810
       replace H := Option.bind_eq_some_iff.mp H
       obtain ⟨⟨t813, t814, t817⟩, A820, H⟩ := H
       (try dsimp only at H)
       have A82 := Aside0.mk A820
       clear A820
       replace H := Option.bind_eq_some_iff.mp H
       obtain ⟨⟨t818, t819, t820, t821⟩, A830, H⟩ := H
       (try dsimp only at H)
       have A83 := Aside0.mk A830
       clear A830
       simp only [Option.some.injEq, Prod.mk.injEq] at H
       obtain ⟨rfl, rfl, rfl, rfl⟩ := H
       have hnb84 := NB789_782.out
       have hnc84 := NB782_789.out
       have hnb85 := NB789_783.out
       have hnc85 := NB783_789.out
       have hnb86 := NB789_784.out
       have hnc86 := NB784_789.out
       have hnb87 := NB789_794.out
       have hnc87 := NB794_789.out
       have hcz88_0 := cz_ BK789 0 rfl
       have hcz88_1 := cz_ BK789 1 rfl
       have hcz88_2 := cz_ BK789 2 rfl
       have hcz88_3 := cz_ BK789 3 rfl
       have hfz88_0 := fz_ BK789 0
       have hfz88_1 := fz_ BK789 1
       have hfz88_2 := fz_ BK789 2
       have hfz88_3 := fz_ BK789 3
       go_wp2_with (first | ((with_reducible refine gate_callee (f := 39) rfl ?_); refine gl_ (some 42) Try.func39 #[.agg #[.int .i64 t785, .bool t786, .int .u64 t787, .int .i64 t788]] ?_; (with_reducible refine (pelorusref05_Exact.calls kj48 t785 t786 t787 t788 t799 t800 t803 t804 _ A80.out).mono ?_); rintro e w89 ⟨v801, rfl, ho0, hb⟩; refine ⟨_, rfl, ?_⟩; have n0_ := Aside0.mk (Kd.R_lower ho0 (below_size (bw_ HB.out))); have n1_ := kq_ BK782 hb; have n2_ := kq_ BK783 hb; have n3_ := kq_ BK784 hb; have n4_ := kq_ BK789 hb; have n5_ := kq_ BK794 hb; have n6_ := bq_ HB hb; clear BK782; clear BK783; clear BK784; clear BK789; clear BK794; clear HB; have HO802 := n0_; have BK782 := n1_; have BK783 := n2_; have BK784 := n3_; have BK789 := n4_; have BK794 := n5_; have HB := n6_; clear n0_ n1_ n2_ n3_ n4_ n5_ n6_; (try clear hb); (try clear hb2); (try clear hk); (try clear hi); (try clear ho0)) | ((with_reducible refine gate_dst (N := 9) rfl ?_); refine bx_ 9 #[.bool false, .slice none 0 0, .int .i64 0] 50 ?_; intro gb805 hg w90 hbox hb; have n0_ := Aside0.mk (Kd.R_below (by (with_reducible repeat (first | apply Kd.R_alloc | apply Kd.R_drewN | apply Kd.R_drew)); exact HO802.out) hb); have n1_ := kq_ BK782 hb; have n2_ := kq_ BK783 hb; have n3_ := kq_ BK784 hb; have n4_ := kq_ BK789 hb; have n5_ := kq_ BK794 hb; have n6_ := bq_ HB hb; have n7_ := Aside0.mk (hbox); have n8_ := ge_ hg HB; have n9_ := ge_ hg HB; have n10_ := nb_ hg BK782; have n11_ := nc_ hg BK782; have n12_ := nb_ hg BK783; have n13_ := nc_ hg BK783; have n14_ := nb_ hg BK784; have n15_ := nc_ hg BK784; have n16_ := nb_ hg BK789; have n17_ := nc_ hg BK789; have n18_ := nb_ hg BK794; have n19_ := nc_ hg BK794; clear HO802; clear BK782; clear BK783; clear BK784; clear BK789; clear BK794; clear HB; have HO802 := n0_; have BK782 := n1_; have BK783 := n2_; have BK784 := n3_; have BK789 := n4_; have BK794 := n5_; have HB := n6_; have BK805 := n7_; have GW805 := n8_; have GE805 := n9_; have NB782_805 := n10_; have NB805_782 := n11_; have NB783_805 := n12_; have NB805_783 := n13_; have NB784_805 := n14_; have NB805_784 := n15_; have NB789_805 := n16_; have NB805_789 := n17_; have NB794_805 := n18_; have NB805_794 := n19_; clear n0_ n1_ n2_ n3_ n4_ n5_ n6_ n7_ n8_ n9_ n10_ n11_ n12_ n13_ n14_ n15_ n16_ n17_ n18_ n19_; clear hb hbox hg; have hnb91 := NB805_782.out; have hnc91 := NB782_805.out; have hnb92 := NB805_783.out; have hnc92 := NB783_805.out; have hnb93 := NB805_784.out; have hnc93 := NB784_805.out; have hnb94 := NB805_789.out; have hnc94 := NB789_805.out; have hnb95 := NB805_794.out; have hnc95 := NB794_805.out; have hcz96_0 := cz_ BK805 0 rfl; have hcz96_1 := cz_ BK805 1 rfl; have hcz96_2 := cz_ BK805 2 rfl; have hfz96_0 := fz_ BK805 0; have hfz96_1 := fz_ BK805 1; have hfz96_2 := fz_ BK805 2; obtain ⟨Ao97, co97, eo97⟩ := Kd.R_slice HO802.out; subst eo97; have hnb98 := NB794_782.out; have hnc98 := NB782_794.out; have hnb99 := NB794_783.out; have hnc99 := NB783_794.out; have hnb100 := NB794_784.out; have hnc100 := NB784_794.out; have hcz101_0 := cz_ BK794 0 rfl; have hcz101_1 := cz_ BK794 1 rfl; have hcz101_2 := cz_ BK794 2 rfl; have hcz101_3 := cz_ BK794 3 rfl; have hfz101_0 := fz_ BK794 0; have hfz101_1 := fz_ BK794 1; have hfz101_2 := fz_ BK794 2; have hfz101_3 := fz_ BK794 3) | ((with_reducible refine gate_callee (f := 39) rfl ?_); refine gl_ (some 47) Try.func39 #[.agg #[.int .i64 t790, .bool t791, .int .u64 t792, .int .i64 t793]] ?_; (with_reducible refine (pelorusref05_Exact.calls kj48 t790 t791 t792 t793 t806 t807 t810 t811 _ A81.out).mono ?_); rintro e w102 ⟨v808, rfl, ho0, hb⟩; refine ⟨_, rfl, ?_⟩; have n0_ := Aside0.mk (Kd.R_elder' (by (with_reducible repeat (first | apply Kd.R_alloc | apply Kd.R_drewN | apply Kd.R_drew)); exact (Kd.R_mono (Kd.R_far (p := ⟨gb805, 2, none⟩) (Kd.R_far (p := ⟨gb805, 1, none⟩) (Kd.R_far (p := ⟨gb805, 0, none⟩) (Kd.R_types HO802.out BK805.out (by decide)) (fun _ hk => hk.2) (.bool t799)) (fun _ hk => hk.2) (.slice Ao97 t800.length co97)) (fun _ hk => hk.2) (.int .i64 t803)) (fun _ h_ => h_.1))) (Kd.R_base ho0) hb); have n1_ := Aside0.mk (Kd.R_lower (Kd.R_new' ho0 (Kd.R_lt (by (with_reducible repeat (first | apply Kd.R_alloc | apply Kd.R_drewN | apply Kd.R_drew)); exact (Kd.R_mono (Kd.R_far (p := ⟨gb805, 2, none⟩) (Kd.R_far (p := ⟨gb805, 1, none⟩) (Kd.R_far (p := ⟨gb805, 0, none⟩) (Kd.R_types HO802.out BK805.out (by decide)) (fun _ hk => hk.2) (.bool t799)) (fun _ hk => hk.2) (.slice Ao97 t800.length co97)) (fun _ hk => hk.2) (.int .i64 t803)) (fun _ h_ => h_.1))))) (below_size (bw_ HB.out))); have n2_ := Aside0.mk (blk_below (g := gb782) (o := .cells #[.int .i64 a0_0, .bool a0_1, .int .u64 a0_2, .int .i64 a0_3] 24 (0, 0)) (by refine kb_ ?_; refine bf_ NB782_805 ?_; refine bf_ NB782_805 ?_; refine bf_ NB782_805 ?_; exact BK782.out) hb); have n3_ := Aside0.mk (blk_below (g := gb783) (o := .cells #[.int .i64 a1_0, .bool a1_1, .int .u64 a1_2, .int .i64 a1_3] 24 (0, 0)) (by refine kb_ ?_; refine bf_ NB783_805 ?_; refine bf_ NB783_805 ?_; refine bf_ NB783_805 ?_; exact BK783.out) hb); have n4_ := Aside0.mk (blk_below (g := gb784) (o := .cells #[.int .i64 0, .bool false, .int .u64 0, .int .i64 0] 24 (0, 0)) (by refine kb_ ?_; refine bf_ NB784_805 ?_; refine bf_ NB784_805 ?_; refine bf_ NB784_805 ?_; exact BK784.out) hb); have n5_ := Aside0.mk (blk_below (g := gb789) (o := .cells #[.int .i64 t785, .bool t786, .int .u64 t787, .int .i64 t788] 24 (0, 0)) (by refine kb_ ?_; refine bf_ NB789_805 ?_; refine bf_ NB789_805 ?_; refine bf_ NB789_805 ?_; exact BK789.out) hb); have n6_ := Aside0.mk (blk_below (g := gb794) (o := .cells #[.int .i64 t790, .bool t791, .int .u64 t792, .int .i64 t793] 24 (0, 0)) (by refine kb_ ?_; refine bf_ NB794_805 ?_; refine bf_ NB794_805 ?_; refine bf_ NB794_805 ?_; exact BK794.out) hb); have n7_ := Aside0.mk (blk_below (g := gb805) (o := .cells #[.bool t799, .slice Ao97 t800.length co97, .int .i64 t803] 50 (0, 0)) (by refine kb_ ?_; refine bp_ #[.bool t799, .slice Ao97 t800.length co97, .int .i64 0] 2 ?_; refine bp_ #[.bool t799, .slice none 0 0, .int .i64 0] 1 ?_; refine bp_ #[.bool false, .slice none 0 0, .int .i64 0] 0 ?_; exact BK805.out) hb); have n8_ := bq_ HB hb; clear HO802; clear BK782; clear BK783; clear BK784; clear BK789; clear BK794; clear BK805; clear HB; have HO802 := n0_; have HO809 := n1_; have BK782 := n2_; have BK783 := n3_; have BK784 := n4_; have BK789 := n5_; have BK794 := n6_; have BK805 := n7_; have HB := n8_; clear n0_ n1_ n2_ n3_ n4_ n5_ n6_ n7_ n8_; (try clear hb); (try clear hb2); (try clear hk); (try clear hi); (try clear ho0)) | ((with_reducible refine gate_dst (N := 11) rfl ?_); refine bx_ 11 #[.bool false, .slice none 0 0, .int .i64 0] 50 ?_; intro gb812 hg w103 hbox hb; have n0_ := Aside0.mk (Kd.R_below (by (with_reducible repeat (first | apply Kd.R_alloc | apply Kd.R_drewN | apply Kd.R_drew)); exact HO802.out) hb); have n1_ := Aside0.mk (Kd.R_below (by (with_reducible repeat (first | apply Kd.R_alloc | apply Kd.R_drewN | apply Kd.R_drew)); exact HO809.out) hb); have n2_ := kq_ BK782 hb; have n3_ := kq_ BK783 hb; have n4_ := kq_ BK784 hb; have n5_ := kq_ BK789 hb; have n6_ := kq_ BK794 hb; have n7_ := kq_ BK805 hb; have n8_ := bq_ HB hb; have n9_ := Aside0.mk (hbox); have n10_ := ge_ hg HB; have n11_ := ge_ hg HB; have n12_ := nb_ hg BK782; have n13_ := nc_ hg BK782; have n14_ := nb_ hg BK783; have n15_ := nc_ hg BK783; have n16_ := nb_ hg BK784; have n17_ := nc_ hg BK784; have n18_ := nb_ hg BK789; have n19_ := nc_ hg BK789; have n20_ := nb_ hg BK794; have n21_ := nc_ hg BK794; have n22_ := nb_ hg BK805; have n23_ := nc_ hg BK805; clear HO802; clear HO809; clear BK782; clear BK783; clear BK784; clear BK789; clear BK794; clear BK805; clear HB; have HO802 := n0_; have HO809 := n1_; have BK782 := n2_; have BK783 := n3_; have BK784 := n4_; have BK789 := n5_; have BK794 := n6_; have BK805 := n7_; have HB := n8_; have BK812 := n9_; have GW812 := n10_; have GE812 := n11_; have NB782_812 := n12_; have NB812_782 := n13_; have NB783_812 := n14_; have NB812_783 := n15_; have NB784_812 := n16_; have NB812_784 := n17_; have NB789_812 := n18_; have NB812_789 := n19_; have NB794_812 := n20_; have NB812_794 := n21_; have NB805_812 := n22_; have NB812_805 := n23_; clear n0_ n1_ n2_ n3_ n4_ n5_ n6_ n7_ n8_ n9_ n10_ n11_ n12_ n13_ n14_ n15_ n16_ n17_ n18_ n19_ n20_ n21_ n22_ n23_; clear hb hbox hg; have hnb104 := NB812_782.out; have hnc104 := NB782_812.out; have hnb105 := NB812_783.out; have hnc105 := NB783_812.out; have hnb106 := NB812_784.out; have hnc106 := NB784_812.out; have hnb107 := NB812_789.out; have hnc107 := NB789_812.out; have hnb108 := NB812_794.out; have hnc108 := NB794_812.out; have hnb109 := NB812_805.out; have hnc109 := NB805_812.out; have hcz110_0 := cz_ BK812 0 rfl; have hcz110_1 := cz_ BK812 1 rfl; have hcz110_2 := cz_ BK812 2 rfl; have hfz110_0 := fz_ BK812 0; have hfz110_1 := fz_ BK812 1; have hfz110_2 := fz_ BK812 2; obtain ⟨Ao111, co111, eo111⟩ := Kd.R_slice HO809.out; subst eo111; have hcz112_0 := cz_ BK805 0 rfl; have hcz112_1 := cz_ BK805 1 rfl; have hcz112_2 := cz_ BK805 2 rfl; have hfz112_0 := fz_ BK805 0; have hfz112_1 := fz_ BK805 1; have hfz112_2 := fz_ BK805 2) | ((with_reducible refine gate_callee (f := 43) rfl ?_); refine gl_ (some 52) Try.func43 #[.agg #[.bool t799, .slice Ao97 t800.length co97, .int .i64 t803], .agg #[.bool t806, .slice Ao111 t807.length co111, .int .i64 t810]] ?_; (with_reducible refine (pelorusref03_Mul.calls kj48 t799 _ _ t800 t803 t806 _ _ t807 t810 t813 t814 t817 _ ?side1 ?side2 ?side3 ?side4 A82.out).mono ?_); (case side1 => refine (Kd.R_reads' (e := 68) (base := w.heap.size) (ok := fun k_ => (True ∧ some k_ ≠ (.slice Ao111 t807.length co111 : Value).ownBlock)) (n := t800.length) (c := co97) ?_).2.2; exact (by (with_reducible repeat (first | apply Kd.R_alloc | apply Kd.R_drewN | apply Kd.R_drew)); exact (Kd.R_mono (Kd.R_far (p := ⟨gb812, 2, none⟩) (Kd.R_far (p := ⟨gb812, 1, none⟩) (Kd.R_far (p := ⟨gb812, 0, none⟩) (Kd.R_types HO802.out BK812.out (by decide)) (fun _ hk => hk.2) (.bool t806)) (fun _ hk => hk.2) (.slice Ao111 t807.length co111)) (fun _ hk => hk.2) (.int .i64 t810)) (fun _ h_ => h_.1)))); (case side2 => exact (Kd.R_reads' HO802.out).2.1); (case side3 => refine (Kd.R_reads' (e := 68) (base := w.heap.size) (ok := fun k_ => (True ∧ some k_ ≠ (.slice Ao97 t800.length co97 : Value).ownBlock)) (n := t807.length) (c := co111) ?_).2.2; exact (by (with_reducible repeat (first | apply Kd.R_alloc | apply Kd.R_drewN | apply Kd.R_drew)); exact (Kd.R_mono (Kd.R_far (p := ⟨gb812, 2, none⟩) (Kd.R_far (p := ⟨gb812, 1, none⟩) (Kd.R_far (p := ⟨gb812, 0, none⟩) (Kd.R_types HO809.out BK812.out (by decide)) (fun _ hk => hk.2) (.bool t806)) (fun _ hk => hk.2) (.slice Ao111 t807.length co111)) (fun _ hk => hk.2) (.int .i64 t810)) (fun _ h_ => h_.1)))); (case side4 => exact (Kd.R_reads' HO809.out).2.1); rintro e w113 ⟨v815, rfl, ho0, hb⟩; refine ⟨_, rfl, ?_⟩; have n0_ := Aside0.mk (Kd.R_elder' (by (with_reducible repeat (first | apply Kd.R_alloc | apply Kd.R_drewN | apply Kd.R_drew)); exact (Kd.R_mono (Kd.R_far (p := ⟨gb812, 2, none⟩) (Kd.R_far (p := ⟨gb812, 1, none⟩) (Kd.R_far (p := ⟨gb812, 0, none⟩) (Kd.R_types HO802.out BK812.out (by decide)) (fun _ hk => hk.2) (.bool t806)) (fun _ hk => hk.2) (.slice Ao111 t807.length co111)) (fun _ hk => hk.2) (.int .i64 t810)) (fun _ h_ => h_.1))) (Kd.R_base ho0) hb); have n1_ := Aside0.mk (Kd.R_elder' (by (with_reducible repeat (first | apply Kd.R_alloc | apply Kd.R_drewN | apply Kd.R_drew)); exact (Kd.R_mono (Kd.R_far (p := ⟨gb812, 2, none⟩) (Kd.R_far (p := ⟨gb812, 1, none⟩) (Kd.R_far (p := ⟨gb812, 0, none⟩) (Kd.R_types HO809.out BK812.out (by decide)) (fun _ hk => hk.2) (.bool t806)) (fun _ hk => hk.2) (.slice Ao111 t807.length co111)) (fun _ hk => hk.2) (.int .i64 t810)) (fun _ h_ => h_.1))) (Kd.R_base ho0) hb); have n2_ := Aside0.mk (Kd.R_lower (Kd.R_new' (Kd.R_new' ho0 (Kd.R_lt (by (with_reducible repeat (first | apply Kd.R_alloc | apply Kd.R_drewN | apply Kd.R_drew)); exact (Kd.R_mono (Kd.R_far (p := ⟨gb812, 2, none⟩) (Kd.R_far (p := ⟨gb812, 1, none⟩) (Kd.R_far (p := ⟨gb812, 0, none⟩) (Kd.R_types HO802.out BK812.out (by decide)) (fun _ hk => hk.2) (.bool t806)) (fun _ hk => hk.2) (.slice Ao111 t807.length co111)) (fun _ hk => hk.2) (.int .i64 t810)) (fun _ h_ => h_.1))))) (Kd.R_lt (by (with_reducible repeat (first | apply Kd.R_alloc | apply Kd.R_drewN | apply Kd.R_drew)); exact (Kd.R_mono (Kd.R_far (p := ⟨gb812, 2, none⟩) (Kd.R_far (p := ⟨gb812, 1, none⟩) (Kd.R_far (p := ⟨gb812, 0, none⟩) (Kd.R_types HO809.out BK812.out (by decide)) (fun _ hk => hk.2) (.bool t806)) (fun _ hk => hk.2) (.slice Ao111 t807.length co111)) (fun _ hk => hk.2) (.int .i64 t810)) (fun _ h_ => h_.1))))) (below_size (bw_ HB.out))); have n3_ := Aside0.mk (blk_below (g := gb782) (o := .cells #[.int .i64 a0_0, .bool a0_1, .int .u64 a0_2, .int .i64 a0_3] 24 (0, 0)) (by refine kb_ ?_; refine bf_ NB782_812 ?_; refine bf_ NB782_812 ?_; refine bf_ NB782_812 ?_; exact BK782.out) hb); have n4_ := Aside0.mk (blk_below (g := gb783) (o := .cells #[.int .i64 a1_0, .bool a1_1, .int .u64 a1_2, .int .i64 a1_3] 24 (0, 0)) (by refine kb_ ?_; refine bf_ NB783_812 ?_; refine bf_ NB783_812 ?_; refine bf_ NB783_812 ?_; exact BK783.out) hb); have n5_ := Aside0.mk (blk_below (g := gb784) (o := .cells #[.int .i64 0, .bool false, .int .u64 0, .int .i64 0] 24 (0, 0)) (by refine kb_ ?_; refine bf_ NB784_812 ?_; refine bf_ NB784_812 ?_; refine bf_ NB784_812 ?_; exact BK784.out) hb); have n6_ := Aside0.mk (blk_below (g := gb789) (o := .cells #[.int .i64 t785, .bool t786, .int .u64 t787, .int .i64 t788] 24 (0, 0)) (by refine kb_ ?_; refine bf_ NB789_812 ?_; refine bf_ NB789_812 ?_; refine bf_ NB789_812 ?_; exact BK789.out) hb); have n7_ := Aside0.mk (blk_below (g := gb794) (o := .cells #[.int .i64 t790, .bool t791, .int .u64 t792, .int .i64 t793] 24 (0, 0)) (by refine kb_ ?_; refine bf_ NB794_812 ?_; refine bf_ NB794_812 ?_; refine bf_ NB794_812 ?_; exact BK794.out) hb); have n8_ := Aside0.mk (blk_below (g := gb805) (o := .cells #[.bool t799, .slice Ao97 t800.length co97, .int .i64 t803] 50 (0, 0)) (by refine kb_ ?_; refine bf_ NB805_812 ?_; refine bf_ NB805_812 ?_; refine bf_ NB805_812 ?_; exact BK805.out) hb); have n9_ := Aside0.mk (blk_below (g := gb812) (o := .cells #[.bool t806, .slice Ao111 t807.length co111, .int .i64 t810] 50 (0, 0)) (by refine kb_ ?_; refine bp_ #[.bool t806, .slice Ao111 t807.length co111, .int .i64 0] 2 ?_; refine bp_ #[.bool t806, .slice none 0 0, .int .i64 0] 1 ?_; refine bp_ #[.bool false, .slice none 0 0, .int .i64 0] 0 ?_; exact BK812.out) hb); have n10_ := bq_ HB hb; clear HO802; clear HO809; clear BK782; clear BK783; clear BK784; clear BK789; clear BK794; clear BK805; clear BK812; clear HB; have HO802 := n0_; have HO809 := n1_; have HO816 := n2_; have BK782 := n3_; have BK783 := n4_; have BK784 := n5_; have BK789 := n6_; have BK794 := n7_; have BK805 := n8_; have BK812 := n9_; have HB := n10_; clear n0_ n1_ n2_ n3_ n4_ n5_ n6_ n7_ n8_ n9_ n10_; (try clear hb); (try clear hb2); (try clear hk); (try clear hi); (try clear ho0); obtain ⟨Ao114, co114, eo114⟩ := Kd.R_slice HO816.out; subst eo114) | ((with_reducible refine gate_callee (f := 40) rfl ?_); refine gl_ (some 54) Try.func40 #[.agg #[.bool t813, .slice Ao114 t814.length co114, .int .i64 t817], .bool a2] ?_; (with_reducible refine (pelorusref05_Round.calls kj48 t813 _ _ t814 t817 a2 t818 t819 t820 t821 _ ?side1 ?side2 A83.out).mono ?_); (case side1 => repeat (first | exact (Kd.R_reads' HO816.out).2.2 | (with_reducible refine Kd.C_alloc ?_ _) | (with_reducible refine Kd.C_drewN ?_ _) | (with_reducible refine Kd.C_drew ?_))); (case side2 => exact (Kd.R_reads' HO816.out).2.1); rintro e w115 ⟨rfl, hb⟩; refine ⟨_, rfl, ?_⟩; have n0_ := Aside0.mk (Kd.R_below (by (with_reducible repeat (first | apply Kd.R_alloc | apply Kd.R_drewN | apply Kd.R_drew)); exact HO802.out) hb); have n1_ := Aside0.mk (Kd.R_below (by (with_reducible repeat (first | apply Kd.R_alloc | apply Kd.R_drewN | apply Kd.R_drew)); exact HO809.out) hb); have n2_ := Aside0.mk (Kd.R_below (by (with_reducible repeat (first | apply Kd.R_alloc | apply Kd.R_drewN | apply Kd.R_drew)); exact HO816.out) hb); have n3_ := kq_ BK782 hb; have n4_ := kq_ BK783 hb; have n5_ := kq_ BK784 hb; have n6_ := kq_ BK789 hb; have n7_ := kq_ BK794 hb; have n8_ := kq_ BK805 hb; have n9_ := kq_ BK812 hb; have n10_ := bq_ HB hb; clear HO802; clear HO809; clear HO816; clear BK782; clear BK783; clear BK784; clear BK789; clear BK794; clear BK805; clear BK812; clear HB; have HO802 := n0_; have HO809 := n1_; have HO816 := n2_; have BK782 := n3_; have BK783 := n4_; have BK784 := n5_; have BK789 := n6_; have BK794 := n7_; have BK805 := n8_; have BK812 := n9_; have HB := n10_; clear n0_ n1_ n2_ n3_ n4_ n5_ n6_ n7_ n8_ n9_ n10_; (try clear hb); (try clear hb2); (try clear hk); (try clear hi); have hnb116 := NB784_782.out; have hnc116 := NB782_784.out; have hnb117 := NB784_783.out; have hnc117 := NB783_784.out; have hcz118_0 := cz_ BK784 0 rfl; have hcz118_1 := cz_ BK784 1 rfl; have hcz118_2 := cz_ BK784 2 rfl; have hcz118_3 := cz_ BK784 3 rfl; have hfz118_0 := fz_ BK784 0; have hfz118_1 := fz_ BK784 1; have hfz118_2 := fz_ BK784 2; have hfz118_3 := fz_ BK784 3))
       refine bodyPost_ret (results_cell_row rfl _ _ gb784 24 #[.int .i64 t818, .bool t819, .int .u64 t820, .int .i64 t821] (0, 0) _ rfl (by refine kb_ ?_; refine bp_ #[.int .i64 t818, .bool t819, .int .u64 t820, .int .i64 0] 3 ?_; refine bp_ #[.int .i64 t818, .bool t819, .int .u64 0, .int .i64 0] 2 ?_; refine bp_ #[.int .i64 t818, .bool false, .int .u64 0, .int .i64 0] 1 ?_; refine bp_ #[.int .i64 0, .bool false, .int .u64 0, .int .i64 0] 0 ?_; exact BK784.out) Try.underlying24 rfl (by kernel_rfl)) rfl ?_
       exact ⟨by first | rfl | (simp [errW_none, errW_some] <;> rfl) | (simp [*, errW_none, errW_some] <;> rfl), bw_ HB.out⟩

/-! ### pelorusref06_Half: function 21 -/
set_option maxHeartbeats 8000000 in
set_option maxRecDepth 100000 in
theorem pelorusref06_Half.calls (k : Nat) (a0_0 : Int) (a0_1 : Bool) (a0_2 : Int) (a0_3 : Int) (a1 : Bool) (r1 : Int) (r2 : Bool) (r3 : Int) (r4 : Int) (w : World) (h : pelorusref06_Half.f k a0_0 a0_1 a0_2 a0_3 a1 = some (r1, r2, r3, r4)) :
  Calls Try.prog 21 #[.agg #[.int .i64 a0_0, .bool a0_1, .int .u64 a0_2, .int .i64 a0_3], .bool a1] w fun e w' => e = .returned (.agg #[.int .i64 r1, .bool r2, .int .u64 r3, .int .i64 r4]) ∧ Below w.heap.size w w' := by
 have hu24 := Try.underlying24
 have HB := Aside0.mk (Below.refl w.heap.size w)
 have H : ((pelorusref06_Mul.f k a0_0 a0_1 a0_2 a0_3 1 false 9223372036854775808 (-64) a1).bind fun bt835 => (some (bt835.1, bt835.2.1, bt835.2.2.1, bt835.2.2.2))) = some (r1, r2, r3, r4) := h
 clear h
 replace H := Option.bind_eq_some_iff.mp H
 obtain ⟨⟨t835, t836, t837, t838⟩, A30, H⟩ := H
 (try dsimp only at H)
 have A3 := Aside0.mk A30
 clear A30
 simp only [Option.some.injEq, Prod.mk.injEq] at H
 obtain ⟨rfl, rfl, rfl, rfl⟩ := H
 go_enter Try.func21, Try.ntmps21
 go_wp2_with (first | ((with_reducible refine gate_dst (N := 2) rfl ?_); refine bx_ 2 #[.int .i64 a0_0, .bool a0_1, .int .u64 a0_2, .int .i64 a0_3] 24 ?_; intro gb833 hg w4 hbox hb; have n0_ := bq_ HB hb; have n1_ := Aside0.mk (hbox); have n2_ := ge_ hg HB; have n3_ := ge_ hg HB; clear HB; have HB := n0_; have BK833 := n1_; have GW833 := n2_; have GE833 := n3_; clear n0_ n1_ n2_ n3_; clear hb hbox hg) | ((with_reducible refine gate_dst (N := 4) rfl ?_); refine bx_ 4 #[.int .i64 0, .bool false, .int .u64 0, .int .i64 0] 24 ?_; intro gb834 hg w5 hbox hb; have n0_ := kq_ BK833 hb; have n1_ := bq_ HB hb; have n2_ := Aside0.mk (hbox); have n3_ := ge_ hg HB; have n4_ := ge_ hg HB; have n5_ := nb_ hg BK833; have n6_ := nc_ hg BK833; clear BK833; clear HB; have BK833 := n0_; have HB := n1_; have BK834 := n2_; have GW834 := n3_; have GE834 := n4_; have NB833_834 := n5_; have NB834_833 := n6_; clear n0_ n1_ n2_ n3_ n4_ n5_ n6_; clear hb hbox hg; have hnb6 := NB833_834.out; have hnc6 := NB834_833.out; have hcz7_0 := cz_ BK833 0 rfl; have hcz7_1 := cz_ BK833 1 rfl; have hcz7_2 := cz_ BK833 2 rfl; have hcz7_3 := cz_ BK833 3 rfl; have hfz7_0 := fz_ BK833 0; have hfz7_1 := fz_ BK833 1; have hfz7_2 := fz_ BK833 2; have hfz7_3 := fz_ BK833 3) | ((with_reducible refine gate_callee (f := 19) rfl ?_); refine gl_ (some 8) Try.func19 #[.agg #[.int .i64 a0_0, .bool a0_1, .int .u64 a0_2, .int .i64 a0_3], .agg #[.int .i64 1, .bool false, .int .u64 9223372036854775808, .int .i64 (-64)], .bool a1] ?_; (with_reducible refine (pelorusref06_Mul.calls k a0_0 a0_1 a0_2 a0_3 1 false 9223372036854775808 (-64) a1 t835 t836 t837 t838 _ A3.out).mono ?_); rintro e w8 ⟨rfl, hb⟩; refine ⟨_, rfl, ?_⟩; have n0_ := kq_ BK833 hb; have n1_ := kq_ BK834 hb; have n2_ := bq_ HB hb; clear BK833; clear BK834; clear HB; have BK833 := n0_; have BK834 := n1_; have HB := n2_; clear n0_ n1_ n2_; (try clear hb); (try clear hb2); (try clear hk); (try clear hi); have hcz9_0 := cz_ BK834 0 rfl; have hcz9_1 := cz_ BK834 1 rfl; have hcz9_2 := cz_ BK834 2 rfl; have hcz9_3 := cz_ BK834 3 rfl; have hfz9_0 := fz_ BK834 0; have hfz9_1 := fz_ BK834 1; have hfz9_2 := fz_ BK834 2; have hfz9_3 := fz_ BK834 3))
 refine bodyPost_ret (results_cell_row rfl _ _ gb834 24 #[.int .i64 t835, .bool t836, .int .u64 t837, .int .i64 t838] (0, 0) _ rfl (by refine kb_ ?_; refine bp_ #[.int .i64 t835, .bool t836, .int .u64 t837, .int .i64 0] 3 ?_; refine bp_ #[.int .i64 t835, .bool t836, .int .u64 0, .int .i64 0] 2 ?_; refine bp_ #[.int .i64 t835, .bool false, .int .u64 0, .int .i64 0] 1 ?_; refine bp_ #[.int .i64 0, .bool false, .int .u64 0, .int .i64 0] 0 ?_; exact BK834.out) Try.underlying24 rfl (by kernel_rfl)) rfl ?_
 exact ⟨by first | rfl | (simp [errW_none, errW_some] <;> rfl) | (simp [*, errW_none, errW_some] <;> rfl), bw_ HB.out⟩

/-! ### pelorusref02_From: function 66 -/
set_option maxHeartbeats 8000000 in
set_option maxRecDepth 100000 in
theorem pelorusref02_From.calls (k : Nat) (a0 : Int) (r1 : Bool) (r2 : List Int) (w : World) (h : pelorusref02_From.f k a0 = some (r1, r2)) :
  Calls Try.prog 66 #[.int .i64 a0] w fun e w' => ∃ v1_ : Value, e = .returned (.agg #[.bool r1, v1_]) ∧ Kd.R (Kd.int .u32) 68 w' w.heap.size (fun _ => True) v1_ r2 ∧ Below w.heap.size w w' := by
 have hu48 := Try.underlying48
 have HB := Aside0.mk (Below.refl w.heap.size w)
 have H : (if a0 < 0 then ((pelorusref02_Make.f k (decide (a0 < 0)) (([(Int.tmod (IntKind.u64.wrap ((IntKind.u64.wrap (wrap64 (-(wrap64 (a0 + 1))))) + 1)) 4294967296) % 4294967296, (IntKind.u64.wrap (Int.tdiv (IntKind.u64.wrap ((IntKind.u64.wrap (wrap64 (-(wrap64 (a0 + 1))))) + 1)) 4294967296)) % 4294967296] : List Int))).bind fun bt853 => (some (bt853.1, bt853.2))) else ((pelorusref02_Make.f k (decide (a0 < 0)) (([(Int.tmod (IntKind.u64.wrap (a0)) 4294967296) % 4294967296, (IntKind.u64.wrap (Int.tdiv (IntKind.u64.wrap (a0)) 4294967296)) % 4294967296] : List Int))).bind fun bt860 => (some (bt860.1, bt860.2)))) = some (r1, r2) := h
 clear h
 by_cases c2 : a0 < 0
 ·rw [if_pos c2] at H
  have c2b0 : decide (a0 < 0) = true := decide_eq_true c2
  clear c2
  obtain ⟨y850, hy850⟩ : ∃ y_ : List Int, y_ = (([(Int.tmod (IntKind.u64.wrap ((IntKind.u64.wrap (wrap64 (-(wrap64 (a0 + 1))))) + 1)) 4294967296) % 4294967296, (IntKind.u64.wrap (Int.tdiv (IntKind.u64.wrap ((IntKind.u64.wrap (wrap64 (-(wrap64 (a0 + 1))))) + 1)) 4294967296)) % 4294967296] : List Int)) := ⟨_, rfl⟩
  replace H : ((pelorusref02_Make.f k (decide (a0 < 0)) y850).bind fun bt853 => (some (bt853.1, bt853.2))) = some (r1, r2) := by first | (rw [hy850]; with_reducible exact H) | (have H2_ := (Option.bind_some _ _).symm.trans H; rw [hy850]; with_reducible exact H2_) | (have H2_ := (Option.bind_some _ _).symm.trans H; with_reducible exact H2_) | with_reducible exact H | (rw [hy850]; exact H) | exact H
  have Ny850 := Aside0.mk hy850
  clear hy850
  replace H := Option.bind_eq_some_iff.mp H
  obtain ⟨⟨t853, t854⟩, A30, H⟩ := H
  (try dsimp only at H)
  have A3 := Aside0.mk A30
  clear A30
  simp only [Option.some.injEq, Prod.mk.injEq] at H
  obtain ⟨rfl, rfl⟩ := H
  go_enter Try.func66, Try.ntmps66
  go_wp2_with (first | ((with_reducible refine gate_dst (N := 2) rfl ?_); refine bx_ 2 #[.bool false, .slice none 0 0] 48 ?_; intro gb849 hg w4 hbox hb; have n0_ := bq_ HB hb; have n1_ := Aside0.mk (hbox); have n2_ := ge_ hg HB; have n3_ := ge_ hg HB; clear HB; have HB := n0_; have BK849 := n1_; have GW849 := n2_; have GE849 := n3_; clear n0_ n1_ n2_ n3_; clear hb hbox hg) | ((with_reducible refine gate_dst (N := 21) rfl ?_); refine Kd.R_lit (Kd.int .u32) _ 68 ?hg (N := 21) ?hd (xs := ([(Int.tmod (IntKind.u64.wrap ((IntKind.u64.wrap (wrap64 (-(wrap64 (a0 + 1))))) + 1)) 4294967296) % 4294967296, (IntKind.u64.wrap (Int.tdiv (IntKind.u64.wrap ((IntKind.u64.wrap (wrap64 (-(wrap64 (a0 + 1))))) + 1)) 4294967296)) % 4294967296] : List Int)) (inner := [.int .u32 ((Int.tmod (IntKind.u64.wrap ((IntKind.u64.wrap (wrap64 (-(wrap64 (a0 + 1))))) + 1)) 4294967296) % 4294967296), .int .u32 ((IntKind.u64.wrap (Int.tdiv (IntKind.u64.wrap ((IntKind.u64.wrap (wrap64 (-(wrap64 (a0 + 1))))) + 1)) 4294967296)) % 4294967296)]) (ok := fun _ => True) (okp := fun _ => True) ?hr ?hp (fun _ hk => hk) trivial (Below.refl _ _) (Nat.le_refl _) (by simp) ?_; (case hd => rfl); (case hg => rfl); (case hr => first | (go_simp; done) | (go_simp; rfl)); (case hp => exact (Reps.one (show Kd.M (Kd.int .u32) _ _ _ ((Int.tmod (IntKind.u64.wrap ((IntKind.u64.wrap (wrap64 (-(wrap64 (a0 + 1))))) + 1)) 4294967296) % 4294967296) [.int .u32 ((Int.tmod (IntKind.u64.wrap ((IntKind.u64.wrap (wrap64 (-(wrap64 (a0 + 1))))) + 1)) 4294967296) % 4294967296)] from rfl) (Reps.one (show Kd.M (Kd.int .u32) _ _ _ ((IntKind.u64.wrap (Int.tdiv (IntKind.u64.wrap ((IntKind.u64.wrap (wrap64 (-(wrap64 (a0 + 1))))) + 1)) 4294967296)) % 4294967296) [.int .u32 ((IntKind.u64.wrap (Int.tdiv (IntKind.u64.wrap ((IntKind.u64.wrap (wrap64 (-(wrap64 (a0 + 1))))) + 1)) 4294967296)) % 4294967296)] from rfl) (Reps.none _ _)))); intro v851 w5 ho6 hb hg_ hnew_; clear hg_ hnew_; (first | rw [← Ny850.out] at ho6 | (simp only [Int.reduceToNat] at ho6; rw [← Ny850.out] at ho6)); have n0_ := Aside0.mk (Kd.R_lower ho6 (below_size (bw_ HB.out))); have n1_ := kq_ BK849 hb; have n2_ := bq_ HB hb; clear BK849; clear HB; have HO852 := n0_; have BK849 := n1_; have HB := n2_; clear n0_ n1_ n2_; clear hb ho6; obtain ⟨Ao7, co7, eo7⟩ := Kd.R_slice HO852.out; subst eo7) | ((with_reducible refine gate_callee (f := 55) rfl ?_); refine gl_ (some 22) Try.func55 #[.bool (decide (a0 < 0)), .slice Ao7 y850.length co7] ?_; (with_reducible refine (pelorusref02_Make.calls k (decide (a0 < 0)) _ _ y850 t853 t854 _ ?side1 ?side2 A3.out).mono ?_); (case side1 => repeat (first | exact (Kd.R_reads' HO852.out).2.2 | (with_reducible refine Kd.C_alloc ?_ _) | (with_reducible refine Kd.C_drewN ?_ _) | (with_reducible refine Kd.C_drew ?_))); (case side2 => exact (Kd.R_reads' HO852.out).2.1); rintro e w8 ⟨v855, rfl, ho0, hb⟩; refine ⟨_, rfl, ?_⟩; have n0_ := Aside0.mk (Kd.R_elder' (by (with_reducible repeat (first | apply Kd.R_alloc | apply Kd.R_drewN | apply Kd.R_drew)); exact HO852.out) (Kd.R_base ho0) hb); have n1_ := Aside0.mk (Kd.R_lower (Kd.R_new' ho0 (Kd.R_lt (by (with_reducible repeat (first | apply Kd.R_alloc | apply Kd.R_drewN | apply Kd.R_drew)); exact HO852.out))) (below_size (bw_ HB.out))); have n2_ := kq_ BK849 hb; have n3_ := bq_ HB hb; clear HO852; clear BK849; clear HB; have HO852 := n0_; have HO856 := n1_; have BK849 := n2_; have HB := n3_; clear n0_ n1_ n2_ n3_; (try clear hb); (try clear hb2); (try clear hk); (try clear hi); (try clear ho0); have hcz9_0 := cz_ BK849 0 rfl; have hcz9_1 := cz_ BK849 1 rfl; have hfz9_0 := fz_ BK849 0; have hfz9_1 := fz_ BK849 1; obtain ⟨Ao10, co10, eo10⟩ := Kd.R_slice HO856.out; subst eo10))
  refine bodyPost_ret (results_cell_row rfl _ _ gb849 48 #[.bool t853, .slice Ao10 t854.length co10] (0, 0) _ rfl (by refine kb_ ?_; refine bp_ #[.bool t853, .slice none 0 0] 1 ?_; refine bp_ #[.bool false, .slice none 0 0] 0 ?_; exact BK849.out) Try.underlying48 rfl (by kernel_rfl)) rfl ?_
  exact ⟨_, by first | rfl | (simp [errW_none, errW_some] <;> rfl) | (simp [*, errW_none, errW_some] <;> rfl), by (with_reducible repeat (first | apply Kd.R_alloc | apply Kd.R_drewN | apply Kd.R_drew)); exact Kd.R_mono (Kd.R_far (p := ⟨gb849, 1, none⟩) (Kd.R_far (p := ⟨gb849, 0, none⟩) (Kd.R_types HO856.out BK849.out (by decide)) (fun _ hk => hk.2) (.bool t853)) (fun _ hk => hk.2) (.slice Ao10 t854.length co10)) (fun _ hk => trivial), bw_ HB.out⟩
 ·rw [if_neg c2] at H
  have c2b0 : decide (a0 < 0) = false := decide_eq_false c2
  clear c2
  obtain ⟨y857, hy857⟩ : ∃ y_ : List Int, y_ = (([(Int.tmod (IntKind.u64.wrap (a0)) 4294967296) % 4294967296, (IntKind.u64.wrap (Int.tdiv (IntKind.u64.wrap (a0)) 4294967296)) % 4294967296] : List Int)) := ⟨_, rfl⟩
  replace H : ((pelorusref02_Make.f k (decide (a0 < 0)) y857).bind fun bt860 => (some (bt860.1, bt860.2))) = some (r1, r2) := by first | (rw [hy857]; with_reducible exact H) | (have H2_ := (Option.bind_some _ _).symm.trans H; rw [hy857]; with_reducible exact H2_) | (have H2_ := (Option.bind_some _ _).symm.trans H; with_reducible exact H2_) | with_reducible exact H | (rw [hy857]; exact H) | exact H
  have Ny857 := Aside0.mk hy857
  clear hy857
  replace H := Option.bind_eq_some_iff.mp H
  obtain ⟨⟨t860, t861⟩, A110, H⟩ := H
  (try dsimp only at H)
  have A11 := Aside0.mk A110
  clear A110
  simp only [Option.some.injEq, Prod.mk.injEq] at H
  obtain ⟨rfl, rfl⟩ := H
  go_enter Try.func66, Try.ntmps66
  go_wp2_with (first | ((with_reducible refine gate_dst (N := 2) rfl ?_); refine bx_ 2 #[.bool false, .slice none 0 0] 48 ?_; intro gb849 hg w12 hbox hb; have n0_ := bq_ HB hb; have n1_ := Aside0.mk (hbox); have n2_ := ge_ hg HB; have n3_ := ge_ hg HB; clear HB; have HB := n0_; have BK849 := n1_; have GW849 := n2_; have GE849 := n3_; clear n0_ n1_ n2_ n3_; clear hb hbox hg) | ((with_reducible refine gate_dst (N := 21) rfl ?_); refine Kd.R_lit (Kd.int .u32) _ 68 ?hg (N := 21) ?hd (xs := ([(Int.tmod (IntKind.u64.wrap (a0)) 4294967296) % 4294967296, (IntKind.u64.wrap (Int.tdiv (IntKind.u64.wrap (a0)) 4294967296)) % 4294967296] : List Int)) (inner := [.int .u32 ((Int.tmod (IntKind.u64.wrap (a0)) 4294967296) % 4294967296), .int .u32 ((IntKind.u64.wrap (Int.tdiv (IntKind.u64.wrap (a0)) 4294967296)) % 4294967296)]) (ok := fun _ => True) (okp := fun _ => True) ?hr ?hp (fun _ hk => hk) trivial (Below.refl _ _) (Nat.le_refl _) (by simp) ?_; (case hd => rfl); (case hg => rfl); (case hr => first | (go_simp; done) | (go_simp; rfl)); (case hp => exact (Reps.one (show Kd.M (Kd.int .u32) _ _ _ ((Int.tmod (IntKind.u64.wrap (a0)) 4294967296) % 4294967296) [.int .u32 ((Int.tmod (IntKind.u64.wrap (a0)) 4294967296) % 4294967296)] from rfl) (Reps.one (show Kd.M (Kd.int .u32) _ _ _ ((IntKind.u64.wrap (Int.tdiv (IntKind.u64.wrap (a0)) 4294967296)) % 4294967296) [.int .u32 ((IntKind.u64.wrap (Int.tdiv (IntKind.u64.wrap (a0)) 4294967296)) % 4294967296)] from rfl) (Reps.none _ _)))); intro v858 w13 ho14 hb hg_ hnew_; clear hg_ hnew_; (first | rw [← Ny857.out] at ho14 | (simp only [Int.reduceToNat] at ho14; rw [← Ny857.out] at ho14)); have n0_ := Aside0.mk (Kd.R_lower ho14 (below_size (bw_ HB.out))); have n1_ := kq_ BK849 hb; have n2_ := bq_ HB hb; clear BK849; clear HB; have HO859 := n0_; have BK849 := n1_; have HB := n2_; clear n0_ n1_ n2_; clear hb ho14; obtain ⟨Ao15, co15, eo15⟩ := Kd.R_slice HO859.out; subst eo15) | ((with_reducible refine gate_callee (f := 55) rfl ?_); refine gl_ (some 22) Try.func55 #[.bool (decide (a0 < 0)), .slice Ao15 y857.length co15] ?_; (with_reducible refine (pelorusref02_Make.calls k (decide (a0 < 0)) _ _ y857 t860 t861 _ ?side1 ?side2 A11.out).mono ?_); (case side1 => repeat (first | exact (Kd.R_reads' HO859.out).2.2 | (with_reducible refine Kd.C_alloc ?_ _) | (with_reducible refine Kd.C_drewN ?_ _) | (with_reducible refine Kd.C_drew ?_))); (case side2 => exact (Kd.R_reads' HO859.out).2.1); rintro e w16 ⟨v862, rfl, ho0, hb⟩; refine ⟨_, rfl, ?_⟩; have n0_ := Aside0.mk (Kd.R_elder' (by (with_reducible repeat (first | apply Kd.R_alloc | apply Kd.R_drewN | apply Kd.R_drew)); exact HO859.out) (Kd.R_base ho0) hb); have n1_ := Aside0.mk (Kd.R_lower (Kd.R_new' ho0 (Kd.R_lt (by (with_reducible repeat (first | apply Kd.R_alloc | apply Kd.R_drewN | apply Kd.R_drew)); exact HO859.out))) (below_size (bw_ HB.out))); have n2_ := kq_ BK849 hb; have n3_ := bq_ HB hb; clear HO859; clear BK849; clear HB; have HO859 := n0_; have HO863 := n1_; have BK849 := n2_; have HB := n3_; clear n0_ n1_ n2_ n3_; (try clear hb); (try clear hb2); (try clear hk); (try clear hi); (try clear ho0); have hcz17_0 := cz_ BK849 0 rfl; have hcz17_1 := cz_ BK849 1 rfl; have hfz17_0 := fz_ BK849 0; have hfz17_1 := fz_ BK849 1; obtain ⟨Ao18, co18, eo18⟩ := Kd.R_slice HO863.out; subst eo18))
  refine bodyPost_ret (results_cell_row rfl _ _ gb849 48 #[.bool t860, .slice Ao18 t861.length co18] (0, 0) _ rfl (by refine kb_ ?_; refine bp_ #[.bool t860, .slice none 0 0] 1 ?_; refine bp_ #[.bool false, .slice none 0 0] 0 ?_; exact BK849.out) Try.underlying48 rfl (by kernel_rfl)) rfl ?_
  exact ⟨_, by first | rfl | (simp [errW_none, errW_some] <;> rfl) | (simp [*, errW_none, errW_some] <;> rfl), by (with_reducible repeat (first | apply Kd.R_alloc | apply Kd.R_drewN | apply Kd.R_drew)); exact Kd.R_mono (Kd.R_far (p := ⟨gb849, 1, none⟩) (Kd.R_far (p := ⟨gb849, 0, none⟩) (Kd.R_types HO863.out BK849.out (by decide)) (fun _ hk => hk.2) (.bool t860)) (fun _ hk => hk.2) (.slice Ao18 t861.length co18)) (fun _ hk => trivial), bw_ HB.out⟩

/-! ### pelorusref05_Of: function 44 -/
set_option maxHeartbeats 8000000 in
set_option maxRecDepth 100000 in
theorem pelorusref05_Of.calls (k : Nat) (a0 : Int) (r1 : Int) (r2 : Bool) (r3 : Int) (r4 : Int) (w : World) (h : pelorusref05_Of.f k a0 = some (r1, r2, r3, r4)) :
  Calls Try.prog 44 #[.int .i64 a0] w fun e w' => e = .returned (.agg #[.int .i64 r1, .bool r2, .int .u64 r3, .int .i64 r4]) ∧ Below w.heap.size w w' := by
 have hu24 := Try.underlying24
 have HB := Aside0.mk (Below.refl w.heap.size w)
 have H : ((pelorusref02_From.f k a0).bind fun bt865 => ((pelorusref03_Make.f k bt865.1 bt865.2 0).bind fun bt869 => ((pelorusref05_Round.f k bt869.1 bt869.2.1 bt869.2.2 true).bind fun bt874 => (some (bt874.1, bt874.2.1, bt874.2.2.1, bt874.2.2.2))))) = some (r1, r2, r3, r4) := h
 clear h
 replace H := Option.bind_eq_some_iff.mp H
 obtain ⟨⟨t865, t866⟩, A20, H⟩ := H
 (try dsimp only at H)
 have A2 := Aside0.mk A20
 clear A20
 replace H := Option.bind_eq_some_iff.mp H
 obtain ⟨⟨t869, t870, t873⟩, A30, H⟩ := H
 (try dsimp only at H)
 have A3 := Aside0.mk A30
 clear A30
 replace H := Option.bind_eq_some_iff.mp H
 obtain ⟨⟨t874, t875, t876, t877⟩, A40, H⟩ := H
 (try dsimp only at H)
 have A4 := Aside0.mk A40
 clear A40
 simp only [Option.some.injEq, Prod.mk.injEq] at H
 obtain ⟨rfl, rfl, rfl, rfl⟩ := H
 go_enter Try.func44, Try.ntmps44
 go_wp2_with (first | ((with_reducible refine gate_dst (N := 2) rfl ?_); refine bx_ 2 #[.int .i64 0, .bool false, .int .u64 0, .int .i64 0] 24 ?_; intro gb864 hg w5 hbox hb; have n0_ := bq_ HB hb; have n1_ := Aside0.mk (hbox); have n2_ := ge_ hg HB; have n3_ := ge_ hg HB; clear HB; have HB := n0_; have BK864 := n1_; have GW864 := n2_; have GE864 := n3_; clear n0_ n1_ n2_ n3_; clear hb hbox hg) | ((with_reducible refine gate_callee (f := 66) rfl ?_); refine gl_ (some 4) Try.func66 #[.int .i64 a0] ?_; (with_reducible refine (pelorusref02_From.calls k a0 t865 t866 _ A2.out).mono ?_); rintro e w6 ⟨v867, rfl, ho0, hb⟩; refine ⟨_, rfl, ?_⟩; have n0_ := Aside0.mk (Kd.R_lower ho0 (below_size (bw_ HB.out))); have n1_ := kq_ BK864 hb; have n2_ := bq_ HB hb; clear BK864; clear HB; have HO868 := n0_; have BK864 := n1_; have HB := n2_; clear n0_ n1_ n2_; (try clear hb); (try clear hb2); (try clear hk); (try clear hi); (try clear ho0); obtain ⟨Ao7, co7, eo7⟩ := Kd.R_slice HO868.out; subst eo7) | ((with_reducible refine gate_callee (f := 54) rfl ?_); refine gl_ (some 5) Try.func54 #[.agg #[.bool t865, .slice Ao7 t866.length co7], .int .i64 0] ?_; (with_reducible refine (pelorusref03_Make.calls k t865 _ _ t866 0 t869 t870 t873 _ ?side1 ?side2 A3.out).mono ?_); (case side1 => repeat (first | exact (Kd.R_reads' HO868.out).2.2 | (with_reducible refine Kd.C_alloc ?_ _) | (with_reducible refine Kd.C_drewN ?_ _) | (with_reducible refine Kd.C_drew ?_))); (case side2 => exact (Kd.R_reads' HO868.out).2.1); rintro e w8 ⟨v871, rfl, ho0, hb⟩; refine ⟨_, rfl, ?_⟩; have n0_ := Aside0.mk (Kd.R_elder' (by (with_reducible repeat (first | apply Kd.R_alloc | apply Kd.R_drewN | apply Kd.R_drew)); exact HO868.out) (Kd.R_base ho0) hb); have n1_ := Aside0.mk (Kd.R_lower (Kd.R_new' ho0 (Kd.R_lt (by (with_reducible repeat (first | apply Kd.R_alloc | apply Kd.R_drewN | apply Kd.R_drew)); exact HO868.out))) (below_size (bw_ HB.out))); have n2_ := kq_ BK864 hb; have n3_ := bq_ HB hb; clear HO868; clear BK864; clear HB; have HO868 := n0_; have HO872 := n1_; have BK864 := n2_; have HB := n3_; clear n0_ n1_ n2_ n3_; (try clear hb); (try clear hb2); (try clear hk); (try clear hi); (try clear ho0); obtain ⟨Ao9, co9, eo9⟩ := Kd.R_slice HO872.out; subst eo9) | ((with_reducible refine gate_callee (f := 40) rfl ?_); refine gl_ (some 6) Try.func40 #[.agg #[.bool t869, .slice Ao9 t870.length co9, .int .i64 t873], .bool true] ?_; (with_reducible refine (pelorusref05_Round.calls k t869 _ _ t870 t873 true t874 t875 t876 t877 _ ?side1 ?side2 A4.out).mono ?_); (case side1 => repeat (first | exact (Kd.R_reads' HO872.out).2.2 | (with_reducible refine Kd.C_alloc ?_ _) | (with_reducible refine Kd.C_drewN ?_ _) | (with_reducible refine Kd.C_drew ?_))); (case side2 => exact (Kd.R_reads' HO872.out).2.1); rintro e w10 ⟨rfl, hb⟩; refine ⟨_, rfl, ?_⟩; have n0_ := Aside0.mk (Kd.R_below (by (with_reducible repeat (first | apply Kd.R_alloc | apply Kd.R_drewN | apply Kd.R_drew)); exact HO868.out) hb); have n1_ := Aside0.mk (Kd.R_below (by (with_reducible repeat (first | apply Kd.R_alloc | apply Kd.R_drewN | apply Kd.R_drew)); exact HO872.out) hb); have n2_ := kq_ BK864 hb; have n3_ := bq_ HB hb; clear HO868; clear HO872; clear BK864; clear HB; have HO868 := n0_; have HO872 := n1_; have BK864 := n2_; have HB := n3_; clear n0_ n1_ n2_ n3_; (try clear hb); (try clear hb2); (try clear hk); (try clear hi); have hcz11_0 := cz_ BK864 0 rfl; have hcz11_1 := cz_ BK864 1 rfl; have hcz11_2 := cz_ BK864 2 rfl; have hcz11_3 := cz_ BK864 3 rfl; have hfz11_0 := fz_ BK864 0; have hfz11_1 := fz_ BK864 1; have hfz11_2 := fz_ BK864 2; have hfz11_3 := fz_ BK864 3))
 refine bodyPost_ret (results_cell_row rfl _ _ gb864 24 #[.int .i64 t874, .bool t875, .int .u64 t876, .int .i64 t877] (0, 0) _ rfl (by refine kb_ ?_; refine bp_ #[.int .i64 t874, .bool t875, .int .u64 t876, .int .i64 0] 3 ?_; refine bp_ #[.int .i64 t874, .bool t875, .int .u64 0, .int .i64 0] 2 ?_; refine bp_ #[.int .i64 t874, .bool false, .int .u64 0, .int .i64 0] 1 ?_; refine bp_ #[.int .i64 0, .bool false, .int .u64 0, .int .i64 0] 0 ?_; exact BK864.out) Try.underlying24 rfl (by kernel_rfl)) rfl ?_
 exact ⟨by first | rfl | (simp [errW_none, errW_some] <;> rfl) | (simp [*, errW_none, errW_some] <;> rfl), bw_ HB.out⟩

/-! ### pelorusref06_Twice: function 23 -/
set_option maxHeartbeats 8000000 in
set_option maxRecDepth 100000 in
theorem pelorusref06_Twice.calls (k : Nat) (a0_0 : Int) (a0_1 : Bool) (a0_2 : Int) (a0_3 : Int) (a1 : Bool) (r1 : Int) (r2 : Bool) (r3 : Int) (r4 : Int) (w : World) (h : pelorusref06_Twice.f k a0_0 a0_1 a0_2 a0_3 a1 = some (r1, r2, r3, r4)) :
  Calls Try.prog 23 #[.agg #[.int .i64 a0_0, .bool a0_1, .int .u64 a0_2, .int .i64 a0_3], .bool a1] w fun e w' => e = .returned (.agg #[.int .i64 r1, .bool r2, .int .u64 r3, .int .i64 r4]) ∧ Below w.heap.size w w' := by
 have hu24 := Try.underlying24
 have HB := Aside0.mk (Below.refl w.heap.size w)
 have H : ((pelorusref05_Of.f k 2).bind fun bt880 => ((pelorusref06_Mul.f k a0_0 a0_1 a0_2 a0_3 bt880.1 bt880.2.1 bt880.2.2.1 bt880.2.2.2 a1).bind fun bt884 => (some (bt884.1, bt884.2.1, bt884.2.2.1, bt884.2.2.2)))) = some (r1, r2, r3, r4) := h
 clear h
 replace H := Option.bind_eq_some_iff.mp H
 obtain ⟨⟨t880, t881, t882, t883⟩, A30, H⟩ := H
 (try dsimp only at H)
 have A3 := Aside0.mk A30
 clear A30
 replace H := Option.bind_eq_some_iff.mp H
 obtain ⟨⟨t884, t885, t886, t887⟩, A40, H⟩ := H
 (try dsimp only at H)
 have A4 := Aside0.mk A40
 clear A40
 simp only [Option.some.injEq, Prod.mk.injEq] at H
 obtain ⟨rfl, rfl, rfl, rfl⟩ := H
 go_enter Try.func23, Try.ntmps23
 try go_wp2_with (first | ((with_reducible refine gate_dst (N := 2) rfl ?_); refine bx_ 2 #[.int .i64 a0_0, .bool a0_1, .int .u64 a0_2, .int .i64 a0_3] 24 ?_; intro gb878 hg w5 hbox hb; have n0_ := bq_ HB hb; have n1_ := Aside0.mk (hbox); have n2_ := ge_ hg HB; have n3_ := ge_ hg HB; clear HB; have HB := n0_; have BK878 := n1_; have GW878 := n2_; have GE878 := n3_; clear n0_ n1_ n2_ n3_; clear hb hbox hg) | ((with_reducible refine gate_dst (N := 4) rfl ?_); refine bx_ 4 #[.int .i64 0, .bool false, .int .u64 0, .int .i64 0] 24 ?_; intro gb879 hg w6 hbox hb; have n0_ := kq_ BK878 hb; have n1_ := bq_ HB hb; have n2_ := Aside0.mk (hbox); have n3_ := ge_ hg HB; have n4_ := ge_ hg HB; have n5_ := nb_ hg BK878; have n6_ := nc_ hg BK878; clear BK878; clear HB; have BK878 := n0_; have HB := n1_; have BK879 := n2_; have GW879 := n3_; have GE879 := n4_; have NB878_879 := n5_; have NB879_878 := n6_; clear n0_ n1_ n2_ n3_ n4_ n5_ n6_; clear hb hbox hg))
 have n0_ := Aside0.mk (blk_drew BK878.out)
 have n1_ := Aside0.mk (blk_drew BK879.out)
 have n2_ := Aside0.mk (below_drew1 HB.out)
 clear BK878
 clear BK879
 clear HB
 have BK878 := n0_
 have BK879 := n1_
 have HB := n2_
 clear n0_ n1_ n2_
 refine start_ (n := 5) (S := fun w' => w'.cell? ⟨gb878, 0, none⟩ = some (.int .i64 a0_0) ∧ w'.cell? ⟨gb878, 1, none⟩ = some (.bool a0_1) ∧ w'.cell? ⟨gb878, 2, none⟩ = some (.int .u64 a0_2) ∧ w'.cell? ⟨gb878, 3, none⟩ = some (.int .i64 a0_3)) (ds := []) #[false, false, false, false, false] (by kernel_rfl) rfl rfl ⟨(blk_cell BK878.out 0).trans rfl, (blk_cell BK878.out 1).trans rfl, (blk_cell BK878.out 2).trans rfl, (blk_cell BK878.out 3).trans rfl⟩ (fun hHeld => ?_)
 generalize w6.drew = w7 at BK878 BK879 HB hHeld ⊢
 refine pure_ (i := 2) (N := some 7) (v := ?_) (a' := ?_) #[false, false, true, false, false] rfl rfl (by kernel_rfl) (fun _ _ _ h => h) (Or.inl ⟨by rfl, ?_⟩) ?_ ?_
 rotate_left
 ·intro w'
  go_simp
  with_reducible rfl
 rotate_left
 ·simp only [Act.put, List.setIfInBounds_toArray, List.set_cons_zero, List.set_cons_succ, i64_w, i32_w]
  rfl
 refine take_ (i := 0) (N := some 5) (v := ?_) (a' := ?_) #[true, false, true, false, false] rfl rfl (by kernel_rfl) (fun _ _ _ h => h) (Or.inl ⟨by rfl, ?_⟩) hHeld ?_ ?_
 rotate_left
 ·rintro w' ⟨s0, s1, s2, s3⟩
  go_simp
  with_reducible rfl
 rotate_left
 ·simp only [Act.put, List.setIfInBounds_toArray, List.set_cons_zero, List.set_cons_succ, i64_w, i32_w]
  rfl
 refine one_ (i := 1) (N := some 6) #[true, true, true, false, false] rfl rfl (by kernel_rfl) (by decide) (fun K hK => ?_)
 refine gs_ Try.func44 #[.int .i64 2] ?_
 with_reducible refine (pelorusref05_Of.calls k 2 t880 t881 t882 t883 _ A3.out).mono ?_
 rintro e w8 ⟨rfl, hb⟩
 refine ⟨_, rfl, ?_⟩
 have n0_ := kq_ BK878 hb
 have n1_ := kq_ BK879 hb
 have n2_ := bq_ HB hb
 clear BK878
 clear BK879
 clear HB
 have BK878 := n0_
 have BK879 := n1_
 have HB := n2_
 clear n0_ n1_ n2_
 (try clear hb)
 (try clear hb2)
 (try clear hk)
 (try clear hi)
 refine hK.out _ _ ⟨(blk_cell BK878.out 0).trans rfl, (blk_cell BK878.out 1).trans rfl, (blk_cell BK878.out 2).trans rfl, (blk_cell BK878.out 3).trans rfl⟩ (fun hHeld => ?_)
 clear hK K
 refine norm_ (a' := ?_) ?_ ?_
 rotate_left
 ·show Act.put _ (some 6) _ = _
  simp only [Act.put, List.setIfInBounds_toArray, List.set_cons_zero, List.set_cons_succ, i64_w, i32_w]
  rfl
 refine one_ (i := 3) (N := some 8) #[true, true, true, true, false] rfl rfl (by kernel_rfl) (by decide) (fun K hK => ?_)
 refine gs_ Try.func19 #[.agg #[.int .i64 a0_0, .bool a0_1, .int .u64 a0_2, .int .i64 a0_3], .agg #[.int .i64 t880, .bool t881, .int .u64 t882, .int .i64 t883], .bool a1] ?_
 with_reducible refine (pelorusref06_Mul.calls k a0_0 a0_1 a0_2 a0_3 t880 t881 t882 t883 a1 t884 t885 t886 t887 _ A4.out).mono ?_
 rintro e w9 ⟨rfl, hb⟩
 refine ⟨_, rfl, ?_⟩
 have n0_ := kq_ BK878 hb
 have n1_ := kq_ BK879 hb
 have n2_ := bq_ HB hb
 clear BK878
 clear BK879
 clear HB
 have BK878 := n0_
 have BK879 := n1_
 have HB := n2_
 clear n0_ n1_ n2_
 (try clear hb)
 (try clear hb2)
 (try clear hk)
 (try clear hi)
 refine hK.out _ _ ⟨(blk_cell BK878.out 0).trans rfl, (blk_cell BK878.out 1).trans rfl, (blk_cell BK878.out 2).trans rfl, (blk_cell BK878.out 3).trans rfl⟩ (fun hHeld => ?_)
 clear hK K
 refine norm_ (a' := ?_) ?_ ?_
 rotate_left
 ·show Act.put _ (some 8) _ = _
  simp only [Act.put, List.setIfInBounds_toArray, List.set_cons_zero, List.set_cons_succ, i64_w, i32_w]
  rfl
 refine one_ (i := 4) (N := none) #[true, true, true, true, true] rfl rfl (by kernel_rfl) (by decide) (fun K hK => ?_)
 have hs10 : w9.cell? ⟨gb879, 0, none⟩ = some (.int .i64 0) := (blk_cell BK879.out 0).trans rfl
 have hfs10 := fz_ BK879 0
 have hns10_0 := NB878_879.out
 have hms10_0 := NB879_878.out
 have hs11 : w9.cell? ⟨gb879, 1, none⟩ = some (.bool false) := (blk_cell BK879.out 1).trans rfl
 have hfs11 := fz_ BK879 1
 have hns11_0 := NB878_879.out
 have hms11_0 := NB879_878.out
 have hs12 : w9.cell? ⟨gb879, 2, none⟩ = some (.int .u64 0) := (blk_cell BK879.out 2).trans rfl
 have hfs12 := fz_ BK879 2
 have hns12_0 := NB878_879.out
 have hms12_0 := NB879_878.out
 have hs13 : w9.cell? ⟨gb879, 3, none⟩ = some (.int .i64 0) := (blk_cell BK879.out 3).trans rfl
 have hfs13 := fz_ BK879 3
 have hns13_0 := NB878_879.out
 have hms13_0 := NB879_878.out
 refine skip_ (w1 := ?_) (by rfl) rfl ?_ ?_
 rotate_left
 ·go_simp
  rfl
 refine hK.out _ _ ⟨((cell_far (p := ⟨gb879, _, none⟩) NB878_879.out _).trans (((cell_far (p := ⟨gb879, _, none⟩) NB878_879.out _).trans (((cell_far (p := ⟨gb879, _, none⟩) NB878_879.out _).trans (((cell_far (p := ⟨gb879, _, none⟩) NB878_879.out _).trans (hHeld.1)))))))), ((cell_far (p := ⟨gb879, _, none⟩) NB878_879.out _).trans (((cell_far (p := ⟨gb879, _, none⟩) NB878_879.out _).trans (((cell_far (p := ⟨gb879, _, none⟩) NB878_879.out _).trans (((cell_far (p := ⟨gb879, _, none⟩) NB878_879.out _).trans (hHeld.2.1)))))))), ((cell_far (p := ⟨gb879, _, none⟩) NB878_879.out _).trans (((cell_far (p := ⟨gb879, _, none⟩) NB878_879.out _).trans (((cell_far (p := ⟨gb879, _, none⟩) NB878_879.out _).trans (((cell_far (p := ⟨gb879, _, none⟩) NB878_879.out _).trans (hHeld.2.2.1)))))))), ((cell_far (p := ⟨gb879, _, none⟩) NB878_879.out _).trans (((cell_far (p := ⟨gb879, _, none⟩) NB878_879.out _).trans (((cell_far (p := ⟨gb879, _, none⟩) NB878_879.out _).trans (((cell_far (p := ⟨gb879, _, none⟩) NB878_879.out _).trans (hHeld.2.2.2))))))))⟩ (fun hHeld => ?_)
 clear hK K
 refine done_ (by kernel_rfl) ?_
 try go_wp2
 refine bodyPost_ret (results_cell_row rfl _ _ gb879 24 #[.int .i64 t884, .bool t885, .int .u64 t886, .int .i64 t887] (0, 0) _ rfl (by refine kb_ ?_; refine bp_ #[.int .i64 t884, .bool t885, .int .u64 t886, .int .i64 0] 3 ?_; refine bp_ #[.int .i64 t884, .bool t885, .int .u64 0, .int .i64 0] 2 ?_; refine bp_ #[.int .i64 t884, .bool false, .int .u64 0, .int .i64 0] 1 ?_; refine bp_ #[.int .i64 0, .bool false, .int .u64 0, .int .i64 0] 0 ?_; exact BK879.out) Try.underlying24 rfl (by kernel_rfl)) rfl ?_
 exact ⟨by first | rfl | (simp [errW_none, errW_some] <;> rfl) | (simp [*, errW_none, errW_some] <;> rfl), bw_ HB.out⟩

end Go.Proofs.Ythlhogcnfaiphaa.PA
