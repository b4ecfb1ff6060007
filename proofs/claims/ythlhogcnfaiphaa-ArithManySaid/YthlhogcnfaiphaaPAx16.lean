-- Laid by this work's own program; Lean checks it.
import Derived.Test.YthlhogcnfaiphaaPAx0
import Derived.Test.YthlhogcnfaiphaaPAx2
import Derived.Test.YthlhogcnfaiphaaPAx8
import Derived.Test.YthlhogcnfaiphaaPAx10
import Derived.Test.YthlhogcnfaiphaaPAx12
import Derived.Test.YthlhogcnfaiphaaPAx15
namespace Go.Proofs.Ythlhogcnfaiphaa.PA
open Go.RowKit Go.Proofs.YthlhogcnfaiphaaW.PrintWords Go.Proofs.YthlhogcnfaiphaaW.PrintLast Go.Proofs.YthlhogcnfaiphaaW.PrintMore
attribute [local go_sem] max2_int min2_int max_two min_two max_three min_three max_four min_four   -- for this text's walks alone
set_option linter.unusedVariables false
set_option linter.unusedSimpArgs false

attribute [local go_sem ↓ high] isSome_set_
/-! ### pelorusref06_Add: function 15 -/
set_option maxHeartbeats 8000000 in
set_option maxRecDepth 100000 in
theorem pelorusref06_Add.calls (k : Nat) (a0_0 : Int) (a0_1 : Bool) (a0_2 : Int) (a0_3 : Int) (a1_0 : Int) (a1_1 : Bool) (a1_2 : Int) (a1_3 : Int) (a2 : Bool) (r1 : Int) (r2 : Bool) (r3 : Int) (r4 : Int) (w : World) (h : pelorusref06_Add.f k a0_0 a0_1 a0_2 a0_3 a1_0 a1_1 a1_2 a1_3 a2 = some (r1, r2, r3, r4)) :
  Calls Try.prog 15 #[.agg #[.int .i64 a0_0, .bool a0_1, .int .u64 a0_2, .int .i64 a0_3], .agg #[.int .i64 a1_0, .bool a1_1, .int .u64 a1_2, .int .i64 a1_3], .bool a2] w fun e w' => e = .returned (.agg #[.int .i64 r1, .bool r2, .int .u64 r3, .int .i64 r4]) ∧ Below w.heap.size w w' := by
 have hu24 := Try.underlying24
 have hu50 := Try.underlying50
 have HB := Aside0.mk (Below.refl w.heap.size w)
 have H : ((pelorusref06_Fair.f a0_0 a0_1 a0_2 a0_3).bind fun bt656 => ((pelorusref06_Fair.f a1_0 a1_1 a1_2 a1_3).bind fun bt661 => (if bt656.1 = 2 then (if bt661.1 = 2 then (pelorusref06_Add.j0 k a2 (bt656.2.1 != bt661.2.1) bt656.1 bt656.2.1 bt656.2.2.1 bt656.2.2.2 bt661.1 bt661.2.1 bt661.2.2.1 bt661.2.2.2) else (pelorusref06_Add.j0 k a2 false bt656.1 bt656.2.1 bt656.2.2.1 bt656.2.2.2 bt661.1 bt661.2.1 bt661.2.2.1 bt661.2.2.2)) else (pelorusref06_Add.j0 k a2 false bt656.1 bt656.2.1 bt656.2.2.1 bt656.2.2.2 bt661.1 bt661.2.1 bt661.2.2.1 bt661.2.2.2)))) = some (r1, r2, r3, r4) := h
 clear h
 replace H := Option.bind_eq_some_iff.mp H
 obtain ⟨⟨t656, t657, t658, t659⟩, A40, H⟩ := H
 (try dsimp only at H)
 have A4 := Aside0.mk A40
 clear A40
 replace H := Option.bind_eq_some_iff.mp H
 obtain ⟨⟨t661, t662, t663, t664⟩, A50, H⟩ := H
 (try dsimp only at H)
 have A5 := Aside0.mk A50
 clear A50
 have HC6 := Aside0.mk H
 clear H
 go_enter Try.func15, Try.ntmps15
 go_upto_region 3 with (first | ((with_reducible refine gate_dst (N := 3) rfl ?_); refine bx_ 3 #[.int .i64 a0_0, .bool a0_1, .int .u64 a0_2, .int .i64 a0_3] 24 ?_; intro gb653 hg w7 hbox hb; have n0_ := bq_ HB hb; have n1_ := Aside0.mk (hbox); have n2_ := ge_ hg HB; have n3_ := ge_ hg HB; clear HB; have HB := n0_; have BK653 := n1_; have GW653 := n2_; have GE653 := n3_; clear n0_ n1_ n2_ n3_; clear hb hbox hg) | ((with_reducible refine gate_dst (N := 4) rfl ?_); refine bx_ 4 #[.int .i64 a1_0, .bool a1_1, .int .u64 a1_2, .int .i64 a1_3] 24 ?_; intro gb654 hg w8 hbox hb; have n0_ := kq_ BK653 hb; have n1_ := bq_ HB hb; have n2_ := Aside0.mk (hbox); have n3_ := ge_ hg HB; have n4_ := ge_ hg HB; have n5_ := nb_ hg BK653; have n6_ := nc_ hg BK653; clear BK653; clear HB; have BK653 := n0_; have HB := n1_; have BK654 := n2_; have GW654 := n3_; have GE654 := n4_; have NB653_654 := n5_; have NB654_653 := n6_; clear n0_ n1_ n2_ n3_ n4_ n5_ n6_; clear hb hbox hg) | ((with_reducible refine gate_dst (N := 6) rfl ?_); refine bx_ 6 #[.int .i64 0, .bool false, .int .u64 0, .int .i64 0] 24 ?_; intro gb655 hg w9 hbox hb; have n0_ := kq_ BK653 hb; have n1_ := kq_ BK654 hb; have n2_ := bq_ HB hb; have n3_ := Aside0.mk (hbox); have n4_ := ge_ hg HB; have n5_ := ge_ hg HB; have n6_ := nb_ hg BK653; have n7_ := nc_ hg BK653; have n8_ := nb_ hg BK654; have n9_ := nc_ hg BK654; clear BK653; clear BK654; clear HB; have BK653 := n0_; have BK654 := n1_; have HB := n2_; have BK655 := n3_; have GW655 := n4_; have GE655 := n5_; have NB653_655 := n6_; have NB655_653 := n7_; have NB654_655 := n8_; have NB655_654 := n9_; clear n0_ n1_ n2_ n3_ n4_ n5_ n6_ n7_ n8_ n9_; clear hb hbox hg; have hnb10 := NB653_654.out; have hnc10 := NB654_653.out; have hnb11 := NB653_655.out; have hnc11 := NB655_653.out; obtain ⟨hcz12_0, hcz12_1, hcz12_2, hcz12_3, hfz12_0, hfz12_1, hfz12_2, hfz12_3⟩ := c4_ BK653) | ((with_reducible refine gate_callee (f := 37) rfl ?_); refine gl_ (some 14) Try.func37 #[.agg #[.int .i64 a0_0, .bool a0_1, .int .u64 a0_2, .int .i64 a0_3]] ?_; (with_reducible refine (pelorusref06_Fair.calls a0_0 a0_1 a0_2 a0_3 t656 t657 t658 t659 _ A4.out).mono ?_); rintro e w13 ⟨rfl, hb⟩; refine ⟨_, rfl, ?_⟩; have n0_ := kq_ BK653 hb; have n1_ := kq_ BK654 hb; have n2_ := kq_ BK655 hb; have n3_ := bq_ HB hb; clear BK653; clear BK654; clear BK655; clear HB; have BK653 := n0_; have BK654 := n1_; have BK655 := n2_; have HB := n3_; clear n0_ n1_ n2_ n3_; (try clear hb); (try clear hb2); (try clear hk); (try clear hi)) | ((with_reducible refine gate_dst (N := 7) rfl ?_); refine bx_ 7 #[.int .i64 0, .bool false, .int .u64 0, .int .i64 0] 24 ?_; intro gb660 hg w14 hbox hb; have n0_ := kq_ BK653 hb; have n1_ := kq_ BK654 hb; have n2_ := kq_ BK655 hb; have n3_ := bq_ HB hb; have n4_ := Aside0.mk (hbox); have n5_ := ge_ hg HB; have n6_ := ge_ hg HB; have n7_ := nb_ hg BK653; have n8_ := nc_ hg BK653; have n9_ := nb_ hg BK654; have n10_ := nc_ hg BK654; have n11_ := nb_ hg BK655; have n12_ := nc_ hg BK655; clear BK653; clear BK654; clear BK655; clear HB; have BK653 := n0_; have BK654 := n1_; have BK655 := n2_; have HB := n3_; have BK660 := n4_; have GW660 := n5_; have GE660 := n6_; have NB653_660 := n7_; have NB660_653 := n8_; have NB654_660 := n9_; have NB660_654 := n10_; have NB655_660 := n11_; have NB660_655 := n12_; clear n0_ n1_ n2_ n3_ n4_ n5_ n6_ n7_ n8_ n9_ n10_ n11_ n12_; clear hb hbox hg; have hnb15 := NB660_653.out; have hnc15 := NB653_660.out; have hnb16 := NB660_654.out; have hnc16 := NB654_660.out; have hnb17 := NB660_655.out; have hnc17 := NB655_660.out; obtain ⟨hcz18_0, hcz18_1, hcz18_2, hcz18_3, hfz18_0, hfz18_1, hfz18_2, hfz18_3⟩ := c4_ BK660; have hnb19 := NB654_655.out; have hnc19 := NB655_654.out; obtain ⟨hcz20_0, hcz20_1, hcz20_2, hcz20_3, hfz20_0, hfz20_1, hfz20_2, hfz20_3⟩ := c4_ BK654) | ((with_reducible refine gate_callee (f := 37) rfl ?_); refine gl_ (some 16) Try.func37 #[.agg #[.int .i64 a1_0, .bool a1_1, .int .u64 a1_2, .int .i64 a1_3]] ?_; (with_reducible refine (pelorusref06_Fair.calls a1_0 a1_1 a1_2 a1_3 t661 t662 t663 t664 _ A5.out).mono ?_); rintro e w21 ⟨rfl, hb⟩; refine ⟨_, rfl, ?_⟩; have n0_ := Aside0.mk (blk_below (g := gb653) (o := .cells #[.int .i64 a0_0, .bool a0_1, .int .u64 a0_2, .int .i64 a0_3] 24 (0, 0)) (by refine kb_ ?_; refine bf_ NB653_660 ?_; refine bf_ NB653_660 ?_; refine bf_ NB653_660 ?_; refine bf_ NB653_660 ?_; exact BK653.out) hb); have n1_ := Aside0.mk (blk_below (g := gb654) (o := .cells #[.int .i64 a1_0, .bool a1_1, .int .u64 a1_2, .int .i64 a1_3] 24 (0, 0)) (by refine kb_ ?_; refine bf_ NB654_660 ?_; refine bf_ NB654_660 ?_; refine bf_ NB654_660 ?_; refine bf_ NB654_660 ?_; exact BK654.out) hb); have n2_ := Aside0.mk (blk_below (g := gb655) (o := .cells #[.int .i64 0, .bool false, .int .u64 0, .int .i64 0] 24 (0, 0)) (by refine kb_ ?_; refine bf_ NB655_660 ?_; refine bf_ NB655_660 ?_; refine bf_ NB655_660 ?_; refine bf_ NB655_660 ?_; exact BK655.out) hb); have n3_ := Aside0.mk (blk_below (g := gb660) (o := .cells #[.int .i64 t656, .bool t657, .int .u64 t658, .int .i64 t659] 24 (0, 0)) (by refine kb_ ?_; refine bp_ #[.int .i64 t656, .bool t657, .int .u64 t658, .int .i64 0] 3 ?_; refine bp_ #[.int .i64 t656, .bool t657, .int .u64 0, .int .i64 0] 2 ?_; refine bp_ #[.int .i64 t656, .bool false, .int .u64 0, .int .i64 0] 1 ?_; refine bp_ #[.int .i64 0, .bool false, .int .u64 0, .int .i64 0] 0 ?_; exact BK660.out) hb); have n4_ := bq_ HB hb; clear BK653; clear BK654; clear BK655; clear BK660; clear HB; have BK653 := n0_; have BK654 := n1_; have BK655 := n2_; have BK660 := n3_; have HB := n4_; clear n0_ n1_ n2_ n3_ n4_; (try clear hb); (try clear hb2); (try clear hk); (try clear hi)) | ((with_reducible refine gate_dst (N := 8) rfl ?_); refine bx_ 8 #[.int .i64 0, .bool false, .int .u64 0, .int .i64 0] 24 ?_; intro gb665 hg w22 hbox hb; have n0_ := kq_ BK653 hb; have n1_ := kq_ BK654 hb; have n2_ := kq_ BK655 hb; have n3_ := kq_ BK660 hb; have n4_ := bq_ HB hb; have n5_ := Aside0.mk (hbox); have n6_ := ge_ hg HB; have n7_ := ge_ hg HB; have n8_ := nb_ hg BK653; have n9_ := nc_ hg BK653; have n10_ := nb_ hg BK654; have n11_ := nc_ hg BK654; have n12_ := nb_ hg BK655; have n13_ := nc_ hg BK655; have n14_ := nb_ hg BK660; have n15_ := nc_ hg BK660; clear BK653; clear BK654; clear BK655; clear BK660; clear HB; have BK653 := n0_; have BK654 := n1_; have BK655 := n2_; have BK660 := n3_; have HB := n4_; have BK665 := n5_; have GW665 := n6_; have GE665 := n7_; have NB653_665 := n8_; have NB665_653 := n9_; have NB654_665 := n10_; have NB665_654 := n11_; have NB655_665 := n12_; have NB665_655 := n13_; have NB660_665 := n14_; have NB665_660 := n15_; clear n0_ n1_ n2_ n3_ n4_ n5_ n6_ n7_ n8_ n9_ n10_ n11_ n12_ n13_ n14_ n15_; clear hb hbox hg; have hnb23 := NB665_653.out; have hnc23 := NB653_665.out; have hnb24 := NB665_654.out; have hnc24 := NB654_665.out; have hnb25 := NB665_655.out; have hnc25 := NB655_665.out; have hnb26 := NB665_660.out; have hnc26 := NB660_665.out; obtain ⟨hcz27_0, hcz27_1, hcz27_2, hcz27_3, hfz27_0, hfz27_1, hfz27_2, hfz27_3⟩ := c4_ BK665))
 (try simp only [Act.put, List.setIfInBounds_toArray, List.set_cons_zero, List.set_cons_succ])
 go_cut [31] (fun v31 wc => ∃ (kq : Nat) (x31_5 : Bool), v31 = .bool x31_5 ∧ Aside0 (pelorusref06_Add.j0 kq a2 x31_5 t656 t657 t658 t659 t661 t662 t663 t664 = some (r1, r2, r3, r4)) ∧ Aside0 (kq ≤ k) ∧ Aside0 (wc.heap[gb653]? = some (.cells #[.int .i64 a0_0, .bool a0_1, .int .u64 a0_2, .int .i64 a0_3] 24 (0, 0))) ∧ Aside0 (wc.heap[gb654]? = some (.cells #[.int .i64 a1_0, .bool a1_1, .int .u64 a1_2, .int .i64 a1_3] 24 (0, 0))) ∧ Aside0 (wc.heap[gb655]? = some (.cells #[.int .i64 0, .bool false, .int .u64 0, .int .i64 0] 24 (0, 0))) ∧ Aside0 (wc.heap[gb660]? = some (.cells #[.int .i64 t656, .bool t657, .int .u64 t658, .int .i64 t659] 24 (0, 0))) ∧ Aside0 (wc.heap[gb665]? = some (.cells #[.int .i64 t661, .bool t662, .int .u64 t663, .int .i64 t664] 24 (0, 0))) ∧ Aside0 (Below w.heap.size w wc))
 case first =>
  have H := HC6.out
  clear HC6
  by_cases c28 : t656 = 2
  ·rw [if_pos c28] at H
   have c28b0 : (t656 == 2) = true := beq_iff_eq.mpr c28
   have c28b1 : (t656 != 2) = false := bne_eq_false_iff_eq.mpr c28
   clear c28
   (first | rw [c28b0] | (simp only [i64_w, i32_w]; rw [c28b0]) | skip)
   by_cases c29 : t661 = 2
   ·rw [if_pos c29] at H
    have c29b0 : (t661 == 2) = true := beq_iff_eq.mpr c29
    have c29b1 : (t661 != 2) = false := bne_eq_false_iff_eq.mpr c29
    clear c29
    have H' := Aside0.mk H
    clear H
    have hnb30 := NB660_653.out
    have hnc30 := NB653_660.out
    have hnb31 := NB660_654.out
    have hnc31 := NB654_660.out
    have hnb32 := NB660_655.out
    have hnc32 := NB655_660.out
    have hnb33 := NB660_665.out
    have hnc33 := NB665_660.out
    obtain ⟨hcz34_0, hcz34_1, hcz34_2, hcz34_3, hfz34_0, hfz34_1, hfz34_2, hfz34_3⟩ := c4_ BK660
    have hnb35 := NB665_653.out
    have hnc35 := NB653_665.out
    have hnb36 := NB665_654.out
    have hnc36 := NB654_665.out
    have hnb37 := NB665_655.out
    have hnc37 := NB655_665.out
    obtain ⟨hcz38_0, hcz38_1, hcz38_2, hcz38_3, hfz38_0, hfz38_1, hfz38_2, hfz38_3⟩ := c4_ BK665
    go_wp2
    go_meet
    case rel => exact ⟨_, ((t657 != t662)), (by first | rfl | (simp; done) | (simp [*]; done)), H', ⟨by first | omega | exact Nat.le_refl _⟩, ⟨by refine kb_ ?_; refine bf_ NB653_665 ?_; refine bf_ NB653_665 ?_; refine bf_ NB653_665 ?_; refine bf_ NB653_665 ?_; exact BK653.out⟩, ⟨by refine kb_ ?_; refine bf_ NB654_665 ?_; refine bf_ NB654_665 ?_; refine bf_ NB654_665 ?_; refine bf_ NB654_665 ?_; exact BK654.out⟩, ⟨by refine kb_ ?_; refine bf_ NB655_665 ?_; refine bf_ NB655_665 ?_; refine bf_ NB655_665 ?_; refine bf_ NB655_665 ?_; exact BK655.out⟩, ⟨by refine kb_ ?_; refine bf_ NB660_665 ?_; refine bf_ NB660_665 ?_; refine bf_ NB660_665 ?_; refine bf_ NB660_665 ?_; exact BK660.out⟩, ⟨by refine kb_ ?_; refine bp_ #[.int .i64 t661, .bool t662, .int .u64 t663, .int .i64 0] 3 ?_; refine bp_ #[.int .i64 t661, .bool t662, .int .u64 0, .int .i64 0] 2 ?_; refine bp_ #[.int .i64 t661, .bool false, .int .u64 0, .int .i64 0] 1 ?_; refine bp_ #[.int .i64 0, .bool false, .int .u64 0, .int .i64 0] 0 ?_; exact BK665.out⟩, ⟨bw_ HB.out⟩⟩
   ·rw [if_neg c29] at H
    have c29b0 : (t661 == 2) = false := beq_eq_false_iff_ne.mpr c29
    have c29b1 : (t661 != 2) = true := bne_iff_ne.mpr c29
    have H' := Aside0.mk H
    clear H
    have hnb39 := NB660_653.out
    have hnc39 := NB653_660.out
    have hnb40 := NB660_654.out
    have hnc40 := NB654_660.out
    have hnb41 := NB660_655.out
    have hnc41 := NB655_660.out
    have hnb42 := NB660_665.out
    have hnc42 := NB665_660.out
    obtain ⟨hcz43_0, hcz43_1, hcz43_2, hcz43_3, hfz43_0, hfz43_1, hfz43_2, hfz43_3⟩ := c4_ BK660
    have hnb44 := NB665_653.out
    have hnc44 := NB653_665.out
    have hnb45 := NB665_654.out
    have hnc45 := NB654_665.out
    have hnb46 := NB665_655.out
    have hnc46 := NB655_665.out
    obtain ⟨hcz47_0, hcz47_1, hcz47_2, hcz47_3, hfz47_0, hfz47_1, hfz47_2, hfz47_3⟩ := c4_ BK665
    go_wp2
    go_meet
    case rel => exact ⟨_, (false), (by first | rfl | (simp; done) | (simp [*]; done)), H', ⟨by first | omega | exact Nat.le_refl _⟩, ⟨by refine kb_ ?_; refine bf_ NB653_665 ?_; refine bf_ NB653_665 ?_; refine bf_ NB653_665 ?_; refine bf_ NB653_665 ?_; exact BK653.out⟩, ⟨by refine kb_ ?_; refine bf_ NB654_665 ?_; refine bf_ NB654_665 ?_; refine bf_ NB654_665 ?_; refine bf_ NB654_665 ?_; exact BK654.out⟩, ⟨by refine kb_ ?_; refine bf_ NB655_665 ?_; refine bf_ NB655_665 ?_; refine bf_ NB655_665 ?_; refine bf_ NB655_665 ?_; exact BK655.out⟩, ⟨by refine kb_ ?_; refine bf_ NB660_665 ?_; refine bf_ NB660_665 ?_; refine bf_ NB660_665 ?_; refine bf_ NB660_665 ?_; exact BK660.out⟩, ⟨by refine kb_ ?_; refine bp_ #[.int .i64 t661, .bool t662, .int .u64 t663, .int .i64 0] 3 ?_; refine bp_ #[.int .i64 t661, .bool t662, .int .u64 0, .int .i64 0] 2 ?_; refine bp_ #[.int .i64 t661, .bool false, .int .u64 0, .int .i64 0] 1 ?_; refine bp_ #[.int .i64 0, .bool false, .int .u64 0, .int .i64 0] 0 ?_; exact BK665.out⟩, ⟨bw_ HB.out⟩⟩
  ·rw [if_neg c28] at H
   have c28b0 : (t656 == 2) = false := beq_eq_false_iff_ne.mpr c28
   have c28b1 : (t656 != 2) = true := bne_iff_ne.mpr c28
   (first | rw [c28b0] | (simp only [i64_w, i32_w]; rw [c28b0]) | skip)
   have H' := Aside0.mk H
   clear H
   have hnb48 := NB660_653.out
   have hnc48 := NB653_660.out
   have hnb49 := NB660_654.out
   have hnc49 := NB654_660.out
   have hnb50 := NB660_655.out
   have hnc50 := NB655_660.out
   have hnb51 := NB660_665.out
   have hnc51 := NB665_660.out
   obtain ⟨hcz52_0, hcz52_1, hcz52_2, hcz52_3, hfz52_0, hfz52_1, hfz52_2, hfz52_3⟩ := c4_ BK660
   go_wp2
   go_meet
   case rel => exact ⟨_, (false), (by first | rfl | (simp; done) | (simp [*]; done)), H', ⟨by first | omega | exact Nat.le_refl _⟩, ⟨by refine kb_ ?_; refine bf_ NB653_665 ?_; refine bf_ NB653_665 ?_; refine bf_ NB653_665 ?_; refine bf_ NB653_665 ?_; exact BK653.out⟩, ⟨by refine kb_ ?_; refine bf_ NB654_665 ?_; refine bf_ NB654_665 ?_; refine bf_ NB654_665 ?_; refine bf_ NB654_665 ?_; exact BK654.out⟩, ⟨by refine kb_ ?_; refine bf_ NB655_665 ?_; refine bf_ NB655_665 ?_; refine bf_ NB655_665 ?_; refine bf_ NB655_665 ?_; exact BK655.out⟩, ⟨by refine kb_ ?_; refine bf_ NB660_665 ?_; refine bf_ NB660_665 ?_; refine bf_ NB660_665 ?_; refine bf_ NB660_665 ?_; exact BK660.out⟩, ⟨by refine kb_ ?_; refine bp_ #[.int .i64 t661, .bool t662, .int .u64 t663, .int .i64 0] 3 ?_; refine bp_ #[.int .i64 t661, .bool t662, .int .u64 0, .int .i64 0] 2 ?_; refine bp_ #[.int .i64 t661, .bool false, .int .u64 0, .int .i64 0] 1 ?_; refine bp_ #[.int .i64 0, .bool false, .int .u64 0, .int .i64 0] 0 ?_; exact BK665.out⟩, ⟨bw_ HB.out⟩⟩
 case rest =>
  clear HC6
  try clear c1
  try clear c2
  try clear p2
  try clear c3
  try clear c4
  try clear c5
  try clear c10
  try clear c11
  try clear c15
  try clear c16
  try clear c17
  try clear c19
  try clear c23
  try clear c24
  try clear c25
  try clear c26
  try clear c28
  try clear c28b0
  try clear c28b1
  try clear c29
  try clear c29b0
  try clear c29b1
  try clear c30
  try clear c31
  try clear c32
  try clear c33
  try clear c35
  try clear c36
  try clear c37
  try clear c39
  try clear c40
  try clear c41
  try clear c42
  try clear c44
  try clear c45
  try clear c46
  try clear c48
  try clear c49
  try clear c50
  try clear c51
  try clear hcz12_0 hcz12_1 hcz12_2 hcz12_3
  try clear hcz18_0 hcz18_1 hcz18_2 hcz18_3
  try clear hcz20_0 hcz20_1 hcz20_2 hcz20_3
  try clear hcz27_0 hcz27_1 hcz27_2 hcz27_3
  try clear hcz34_0 hcz34_1 hcz34_2 hcz34_3
  try clear hcz38_0 hcz38_1 hcz38_2 hcz38_3
  try clear hcz43_0 hcz43_1 hcz43_2 hcz43_3
  try clear hcz47_0 hcz47_1 hcz47_2 hcz47_3
  try clear hcz52_0 hcz52_1 hcz52_2 hcz52_3
  try clear hfz12_0 hfz12_1 hfz12_2 hfz12_3
  try clear hfz18_0 hfz18_1 hfz18_2 hfz18_3
  try clear hfz20_0 hfz20_1 hfz20_2 hfz20_3
  try clear hfz27_0 hfz27_1 hfz27_2 hfz27_3
  try clear hfz34_0 hfz34_1 hfz34_2 hfz34_3
  try clear hfz38_0 hfz38_1 hfz38_2 hfz38_3
  try clear hfz43_0 hfz43_1 hfz43_2 hfz43_3
  try clear hfz47_0 hfz47_1 hfz47_2 hfz47_3
  try clear hfz52_0 hfz52_1 hfz52_2 hfz52_3
  obtain ⟨kq, x31_5, rfl, HA, HJ5, BK653, BK654, BK655, BK660, BK665, HB⟩ := hcut
  cases kq with
  | zero => exact absurd HA.out (by simp [pelorusref06_Add.j0])
  | succ kj5 =>
   have H := HA.out
   clear HA
   simp only [pelorusref06_Add.j0] at H
   by_cases c53 : x31_5 = true
   ·subst c53
    have H1 : ((pelorusref05_Infinite.f (!a2)).bind fun bt666 => (some (bt666.1, bt666.2.1, bt666.2.2.1, bt666.2.2.2))) = some (r1, r2, r3, r4) := by rw [if_pos rfl] at H; exact H
    clear H
    have H := H1
    clear H1
    replace H := Option.bind_eq_some_iff.mp H
    obtain ⟨⟨t666, t667, t668, t669⟩, A540, H⟩ := H
    (try dsimp only at H)
    have A54 := Aside0.mk A540
    clear A540
    simp only [Option.some.injEq, Prod.mk.injEq] at H
    obtain ⟨rfl, rfl, rfl, rfl⟩ := H
    go_wp2_with (first | ((with_reducible refine gate_callee (f := 38) rfl ?_); refine gl_ (some 34) Try.func38 #[.bool (!a2)] ?_; (with_reducible refine (pelorusref05_Infinite.calls (!a2) t666 t667 t668 t669 _ A54.out).mono ?_); rintro e w55 ⟨rfl, hb⟩; refine ⟨_, rfl, ?_⟩; have n0_ := kq_ BK653 hb; have n1_ := kq_ BK654 hb; have n2_ := kq_ BK655 hb; have n3_ := kq_ BK660 hb; have n4_ := kq_ BK665 hb; have n5_ := bq_ HB hb; clear BK653; clear BK654; clear BK655; clear BK660; clear BK665; clear HB; have BK653 := n0_; have BK654 := n1_; have BK655 := n2_; have BK660 := n3_; have BK665 := n4_; have HB := n5_; clear n0_ n1_ n2_ n3_ n4_ n5_; (try clear hb); (try clear hb2); (try clear hk); (try clear hi); have hnb56 := NB655_653.out; have hnc56 := NB653_655.out; have hnb57 := NB655_654.out; have hnc57 := NB654_655.out; have hnb58 := NB655_660.out; have hnc58 := NB660_655.out; have hnb59 := NB655_665.out; have hnc59 := NB665_655.out; obtain ⟨hcz60_0, hcz60_1, hcz60_2, hcz60_3, hfz60_0, hfz60_1, hfz60_2, hfz60_3⟩ := c4_ BK655))
    refine bodyPost_ret (results_cell_row rfl _ _ gb655 24 #[.int .i64 t666, .bool t667, .int .u64 t668, .int .i64 t669] (0, 0) _ rfl (by refine kb_ ?_; refine bp_ #[.int .i64 t666, .bool t667, .int .u64 t668, .int .i64 0] 3 ?_; refine bp_ #[.int .i64 t666, .bool t667, .int .u64 0, .int .i64 0] 2 ?_; refine bp_ #[.int .i64 t666, .bool false, .int .u64 0, .int .i64 0] 1 ?_; refine bp_ #[.int .i64 0, .bool false, .int .u64 0, .int .i64 0] 0 ?_; exact BK655.out) Try.underlying24 rfl (by kernel_rfl)) rfl ?_
    exact ⟨rf_, bw_ HB.out⟩
   ·replace c53 := Bool.eq_false_iff.mpr c53
    subst c53
    have H1 : (if t656 = 2 then (some (t656, t657, t658, t659)) else (if t661 = 2 then (some (t661, t662, t663, t664)) else ((pelorusref05_Exact.f kj5 t656 t657 t658 t659).bind fun bt670 => ((pelorusref05_Exact.f kj5 t661 t662 t663 t664).bind fun bt677 => ((pelorusref03_Two.f kj5 bt670.1 bt670.2.1 bt670.2.2.1 bt677.1 bt677.2.1 bt677.2.2.1).bind fun bt684 => ((pelorusref05_Round.f kj5 bt684.1 bt684.2.1 bt684.2.2 a2).bind fun bt689 => (some (bt689.1, bt689.2.1, bt689.2.2.1, bt689.2.2.2)))))))) = some (r1, r2, r3, r4) := by rw [if_neg (show ¬ (false = true) by decide)] at H; exact H
    clear H
    have H := H1
    clear H1
    by_cases c61 : t656 = 2
    ·rw [if_pos c61] at H
     have c61b0 : (t656 == 2) = true := beq_iff_eq.mpr c61
     have c61b1 : (t656 != 2) = false := bne_eq_false_iff_eq.mpr c61
     clear c61
     simp only [Option.some.injEq, Prod.mk.injEq] at H
     obtain ⟨rfl, rfl, rfl, rfl⟩ := H
     have hnb62 := NB660_653.out
     have hnc62 := NB653_660.out
     have hnb63 := NB660_654.out
     have hnc63 := NB654_660.out
     have hnb64 := NB660_655.out
     have hnc64 := NB655_660.out
     have hnb65 := NB660_665.out
     have hnc65 := NB665_660.out
     obtain ⟨hcz66_0, hcz66_1, hcz66_2, hcz66_3, hfz66_0, hfz66_1, hfz66_2, hfz66_3⟩ := c4_ BK660
     have hnb67 := NB655_653.out
     have hnc67 := NB653_655.out
     have hnb68 := NB655_654.out
     have hnc68 := NB654_655.out
     have hnb69 := NB655_665.out
     have hnc69 := NB665_655.out
     obtain ⟨hcz70_0, hcz70_1, hcz70_2, hcz70_3, hfz70_0, hfz70_1, hfz70_2, hfz70_3⟩ := c4_ BK655
     go_wp2
     refine bodyPost_ret (results_cell_row rfl _ _ gb655 24 #[.int .i64 t656, .bool t657, .int .u64 t658, .int .i64 t659] (0, 0) _ rfl (by refine kb_ ?_; refine bp_ #[.int .i64 t656, .bool t657, .int .u64 t658, .int .i64 0] 3 ?_; refine bp_ #[.int .i64 t656, .bool t657, .int .u64 0, .int .i64 0] 2 ?_; refine bp_ #[.int .i64 t656, .bool false, .int .u64 0, .int .i64 0] 1 ?_; refine bp_ #[.int .i64 0, .bool false, .int .u64 0, .int .i64 0] 0 ?_; exact BK655.out) Try.underlying24 rfl (by kernel_rfl)) rfl ?_
     exact ⟨rf_, bw_ HB.out⟩
    ·rw [if_neg c61] at H
     have c61b0 : (t656 == 2) = false := beq_eq_false_iff_ne.mpr c61
     have c61b1 : (t656 != 2) = true := bne_iff_ne.mpr c61
     by_cases c71 : t661 = 2
     ·rw [if_pos c71] at H
      have c71b0 : (t661 == 2) = true := beq_iff_eq.mpr c71
      have c71b1 : (t661 != 2) = false := bne_eq_false_iff_eq.mpr c71
      clear c71
      simp only [Option.some.injEq, Prod.mk.injEq] at H
      obtain ⟨rfl, rfl, rfl, rfl⟩ := H
      have hnb72 := NB660_653.out
      have hnc72 := NB653_660.out
      have hnb73 := NB660_654.out
      have hnc73 := NB654_660.out
      have hnb74 := NB660_655.out
      have hnc74 := NB655_660.out
      have hnb75 := NB660_665.out
      have hnc75 := NB665_660.out
      obtain ⟨hcz76_0, hcz76_1, hcz76_2, hcz76_3, hfz76_0, hfz76_1, hfz76_2, hfz76_3⟩ := c4_ BK660
      have hnb77 := NB665_653.out
      have hnc77 := NB653_665.out
      have hnb78 := NB665_654.out
      have hnc78 := NB654_665.out
      have hnb79 := NB665_655.out
      have hnc79 := NB655_665.out
      obtain ⟨hcz80_0, hcz80_1, hcz80_2, hcz80_3, hfz80_0, hfz80_1, hfz80_2, hfz80_3⟩ := c4_ BK665
      have hnb81 := NB655_653.out
      have hnc81 := NB653_655.out
      have hnb82 := NB655_654.out
      have hnc82 := NB654_655.out
      obtain ⟨hcz83_0, hcz83_1, hcz83_2, hcz83_3, hfz83_0, hfz83_1, hfz83_2, hfz83_3⟩ := c4_ BK655
      go_wp2
      refine bodyPost_ret (results_cell_row rfl _ _ gb655 24 #[.int .i64 t661, .bool t662, .int .u64 t663, .int .i64 t664] (0, 0) _ rfl (by refine kb_ ?_; refine bp_ #[.int .i64 t661, .bool t662, .int .u64 t663, .int .i64 0] 3 ?_; refine bp_ #[.int .i64 t661, .bool t662, .int .u64 0, .int .i64 0] 2 ?_; refine bp_ #[.int .i64 t661, .bool false, .int .u64 0, .int .i64 0] 1 ?_; refine bp_ #[.int .i64 0, .bool false, .int .u64 0, .int .i64 0] 0 ?_; exact BK655.out) Try.underlying24 rfl (by kernel_rfl)) rfl ?_
      exact ⟨rf_, bw_ HB.out⟩
     ·rw [if_neg c71] at H
      have c71b0 : (t661 == 2) = false := beq_eq_false_iff_ne.mpr c71
      have c71b1 : (t661 != 2) = true := bne_iff_ne.mpr c71
      replace H := Option.bind_eq_some_iff.mp H
      obtain ⟨⟨t670, t671, t674, t675⟩, A840, H⟩ := H
      (try dsimp only at H)
      have A84 := Aside0.mk A840
      clear A840
      replace H := Option.bind_eq_some_iff.mp H
      obtain ⟨⟨t677, t678, t681, t682⟩, A850, H⟩ := H
      (try dsimp only at H)
      have A85 := Aside0.mk A850
      clear A850
      replace H := Option.bind_eq_some_iff.mp H
      obtain ⟨⟨t684, t685, t688⟩, A860, H⟩ := H
      (try dsimp only at H)
      have A86 := Aside0.mk A860
      clear A860
      replace H := Option.bind_eq_some_iff.mp H
      obtain ⟨⟨t689, t690, t691, t692⟩, A870, H⟩ := H
      (try dsimp only at H)
      have A87 := Aside0.mk A870
      clear A870
      simp only [Option.some.injEq, Prod.mk.injEq] at H
      obtain ⟨rfl, rfl, rfl, rfl⟩ := H
      have hnb88 := NB660_653.out
      have hnc88 := NB653_660.out
      have hnb89 := NB660_654.out
      have hnc89 := NB654_660.out
      have hnb90 := NB660_655.out
      have hnc90 := NB655_660.out
      have hnb91 := NB660_665.out
      have hnc91 := NB665_660.out
      obtain ⟨hcz92_0, hcz92_1, hcz92_2, hcz92_3, hfz92_0, hfz92_1, hfz92_2, hfz92_3⟩ := c4_ BK660
      have hnb93 := NB665_653.out
      have hnc93 := NB653_665.out
      have hnb94 := NB665_654.out
      have hnc94 := NB654_665.out
      have hnb95 := NB665_655.out
      have hnc95 := NB655_665.out
      obtain ⟨hcz96_0, hcz96_1, hcz96_2, hcz96_3, hfz96_0, hfz96_1, hfz96_2, hfz96_3⟩ := c4_ BK665
      go_wp2_with (first | ((with_reducible refine gate_callee (f := 39) rfl ?_); refine gl_ (some 45) Try.func39 #[.agg #[.int .i64 t656, .bool t657, .int .u64 t658, .int .i64 t659]] ?_; (with_reducible refine (pelorusref05_Exact.calls kj5 t656 t657 t658 t659 t670 t671 t674 t675 _ A84.out).mono ?_); rintro e w97 ⟨v672, rfl, ho0, hb⟩; refine ⟨_, rfl, ?_⟩; have n0_ := Aside0.mk (Kd.R_lower ho0 (below_size (bw_ HB.out))); have n1_ := kq_ BK653 hb; have n2_ := kq_ BK654 hb; have n3_ := kq_ BK655 hb; have n4_ := kq_ BK660 hb; have n5_ := kq_ BK665 hb; have n6_ := bq_ HB hb; clear BK653; clear BK654; clear BK655; clear BK660; clear BK665; clear HB; have HO673 := n0_; have BK653 := n1_; have BK654 := n2_; have BK655 := n3_; have BK660 := n4_; have BK665 := n5_; have HB := n6_; clear n0_ n1_ n2_ n3_ n4_ n5_ n6_; (try clear hb); (try clear hb2); (try clear hk); (try clear hi); (try clear ho0)) | ((with_reducible refine gate_dst (N := 9) rfl ?_); refine bx_ 9 #[.bool false, .slice none 0 0, .int .i64 0] 50 ?_; intro gb676 hg w98 hbox hb; have n0_ := Aside0.mk (Kd.R_below (by (with_reducible repeat (first | apply Kd.R_alloc | apply Kd.R_drewN | apply Kd.R_drew)); exact HO673.out) hb); have n1_ := kq_ BK653 hb; have n2_ := kq_ BK654 hb; have n3_ := kq_ BK655 hb; have n4_ := kq_ BK660 hb; have n5_ := kq_ BK665 hb; have n6_ := bq_ HB hb; have n7_ := Aside0.mk (hbox); have n8_ := ge_ hg HB; have n9_ := ge_ hg HB; have n10_ := nb_ hg BK653; have n11_ := nc_ hg BK653; have n12_ := nb_ hg BK654; have n13_ := nc_ hg BK654; have n14_ := nb_ hg BK655; have n15_ := nc_ hg BK655; have n16_ := nb_ hg BK660; have n17_ := nc_ hg BK660; have n18_ := nb_ hg BK665; have n19_ := nc_ hg BK665; clear HO673; clear BK653; clear BK654; clear BK655; clear BK660; clear BK665; clear HB; have HO673 := n0_; have BK653 := n1_; have BK654 := n2_; have BK655 := n3_; have BK660 := n4_; have BK665 := n5_; have HB := n6_; have BK676 := n7_; have GW676 := n8_; have GE676 := n9_; have NB653_676 := n10_; have NB676_653 := n11_; have NB654_676 := n12_; have NB676_654 := n13_; have NB655_676 := n14_; have NB676_655 := n15_; have NB660_676 := n16_; have NB676_660 := n17_; have NB665_676 := n18_; have NB676_665 := n19_; clear n0_ n1_ n2_ n3_ n4_ n5_ n6_ n7_ n8_ n9_ n10_ n11_ n12_ n13_ n14_ n15_ n16_ n17_ n18_ n19_; clear hb hbox hg; have hnb99 := NB676_653.out; have hnc99 := NB653_676.out; have hnb100 := NB676_654.out; have hnc100 := NB654_676.out; have hnb101 := NB676_655.out; have hnc101 := NB655_676.out; have hnb102 := NB676_660.out; have hnc102 := NB660_676.out; have hnb103 := NB676_665.out; have hnc103 := NB665_676.out; obtain ⟨hcz104_0, hcz104_1, hcz104_2, hfz104_0, hfz104_1, hfz104_2⟩ := c3_ BK676; obtain ⟨Ao105, co105, eo105⟩ := Kd.R_slice HO673.out; subst eo105; obtain ⟨hcz106_0, hcz106_1, hcz106_2, hcz106_3, hfz106_0, hfz106_1, hfz106_2, hfz106_3⟩ := c4_ BK665) | ((with_reducible refine gate_callee (f := 39) rfl ?_); refine gl_ (some 50) Try.func39 #[.agg #[.int .i64 t661, .bool t662, .int .u64 t663, .int .i64 t664]] ?_; (with_reducible refine (pelorusref05_Exact.calls kj5 t661 t662 t663 t664 t677 t678 t681 t682 _ A85.out).mono ?_); rintro e w107 ⟨v679, rfl, ho0, hb⟩; refine ⟨_, rfl, ?_⟩; have n0_ := Aside0.mk (Kd.R_elder' (by (with_reducible repeat (first | apply Kd.R_alloc | apply Kd.R_drewN | apply Kd.R_drew)); exact (Kd.R_mono (Kd.R_far (p := ⟨gb676, 2, none⟩) (Kd.R_far (p := ⟨gb676, 1, none⟩) (Kd.R_far (p := ⟨gb676, 0, none⟩) (Kd.R_types HO673.out BK676.out (by decide)) (fun _ hk => hk.2) (.bool t670)) (fun _ hk => hk.2) (.slice Ao105 t671.length co105)) (fun _ hk => hk.2) (.int .i64 t674)) (fun _ h_ => h_.1))) (Kd.R_base ho0) hb); have n1_ := Aside0.mk (Kd.R_lower (Kd.R_new' ho0 (Kd.R_lt (by (with_reducible repeat (first | apply Kd.R_alloc | apply Kd.R_drewN | apply Kd.R_drew)); exact (Kd.R_mono (Kd.R_far (p := ⟨gb676, 2, none⟩) (Kd.R_far (p := ⟨gb676, 1, none⟩) (Kd.R_far (p := ⟨gb676, 0, none⟩) (Kd.R_types HO673.out BK676.out (by decide)) (fun _ hk => hk.2) (.bool t670)) (fun _ hk => hk.2) (.slice Ao105 t671.length co105)) (fun _ hk => hk.2) (.int .i64 t674)) (fun _ h_ => h_.1))))) (below_size (bw_ HB.out))); have n2_ := Aside0.mk (blk_below (g := gb653) (o := .cells #[.int .i64 a0_0, .bool a0_1, .int .u64 a0_2, .int .i64 a0_3] 24 (0, 0)) (by refine kb_ ?_; refine bf_ NB653_676 ?_; refine bf_ NB653_676 ?_; refine bf_ NB653_676 ?_; exact BK653.out) hb); have n3_ := Aside0.mk (blk_below (g := gb654) (o := .cells #[.int .i64 a1_0, .bool a1_1, .int .u64 a1_2, .int .i64 a1_3] 24 (0, 0)) (by refine kb_ ?_; refine bf_ NB654_676 ?_; refine bf_ NB654_676 ?_; refine bf_ NB654_676 ?_; exact BK654.out) hb); have n4_ := Aside0.mk (blk_below (g := gb655) (o := .cells #[.int .i64 0, .bool false, .int .u64 0, .int .i64 0] 24 (0, 0)) (by refine kb_ ?_; refine bf_ NB655_676 ?_; refine bf_ NB655_676 ?_; refine bf_ NB655_676 ?_; exact BK655.out) hb); have n5_ := Aside0.mk (blk_below (g := gb660) (o := .cells #[.int .i64 t656, .bool t657, .int .u64 t658, .int .i64 t659] 24 (0, 0)) (by refine kb_ ?_; refine bf_ NB660_676 ?_; refine bf_ NB660_676 ?_; refine bf_ NB660_676 ?_; exact BK660.out) hb); have n6_ := Aside0.mk (blk_below (g := gb665) (o := .cells #[.int .i64 t661, .bool t662, .int .u64 t663, .int .i64 t664] 24 (0, 0)) (by refine kb_ ?_; refine bf_ NB665_676 ?_; refine bf_ NB665_676 ?_; refine bf_ NB665_676 ?_; exact BK665.out) hb); have n7_ := Aside0.mk (blk_below (g := gb676) (o := .cells #[.bool t670, .slice Ao105 t671.length co105, .int .i64 t674] 50 (0, 0)) (by refine kb_ ?_; refine bp_ #[.bool t670, .slice Ao105 t671.length co105, .int .i64 0] 2 ?_; refine bp_ #[.bool t670, .slice none 0 0, .int .i64 0] 1 ?_; refine bp_ #[.bool false, .slice none 0 0, .int .i64 0] 0 ?_; exact BK676.out) hb); have n8_ := bq_ HB hb; clear HO673; clear BK653; clear BK654; clear BK655; clear BK660; clear BK665; clear BK676; clear HB; have HO673 := n0_; have HO680 := n1_; have BK653 := n2_; have BK654 := n3_; have BK655 := n4_; have BK660 := n5_; have BK665 := n6_; have BK676 := n7_; have HB := n8_; clear n0_ n1_ n2_ n3_ n4_ n5_ n6_ n7_ n8_; (try clear hb); (try clear hb2); (try clear hk); (try clear hi); (try clear ho0)) | ((with_reducible refine gate_dst (N := 11) rfl ?_); refine bx_ 11 #[.bool false, .slice none 0 0, .int .i64 0] 50 ?_; intro gb683 hg w108 hbox hb; have n0_ := Aside0.mk (Kd.R_below (by (with_reducible repeat (first | apply Kd.R_alloc | apply Kd.R_drewN | apply Kd.R_drew)); exact HO673.out) hb); have n1_ := Aside0.mk (Kd.R_below (by (with_reducible repeat (first | apply Kd.R_alloc | apply Kd.R_drewN | apply Kd.R_drew)); exact HO680.out) hb); have n2_ := kq_ BK653 hb; have n3_ := kq_ BK654 hb; have n4_ := kq_ BK655 hb; have n5_ := kq_ BK660 hb; have n6_ := kq_ BK665 hb; have n7_ := kq_ BK676 hb; have n8_ := bq_ HB hb; have n9_ := Aside0.mk (hbox); have n10_ := ge_ hg HB; have n11_ := ge_ hg HB; have n12_ := nb_ hg BK653; have n13_ := nc_ hg BK653; have n14_ := nb_ hg BK654; have n15_ := nc_ hg BK654; have n16_ := nb_ hg BK655; have n17_ := nc_ hg BK655; have n18_ := nb_ hg BK660; have n19_ := nc_ hg BK660; have n20_ := nb_ hg BK665; have n21_ := nc_ hg BK665; have n22_ := nb_ hg BK676; have n23_ := nc_ hg BK676; clear HO673; clear HO680; clear BK653; clear BK654; clear BK655; clear BK660; clear BK665; clear BK676; clear HB; have HO673 := n0_; have HO680 := n1_; have BK653 := n2_; have BK654 := n3_; have BK655 := n4_; have BK660 := n5_; have BK665 := n6_; have BK676 := n7_; have HB := n8_; have BK683 := n9_; have GW683 := n10_; have GE683 := n11_; have NB653_683 := n12_; have NB683_653 := n13_; have NB654_683 := n14_; have NB683_654 := n15_; have NB655_683 := n16_; have NB683_655 := n17_; have NB660_683 := n18_; have NB683_660 := n19_; have NB665_683 := n20_; have NB683_665 := n21_; have NB676_683 := n22_; have NB683_676 := n23_; clear n0_ n1_ n2_ n3_ n4_ n5_ n6_ n7_ n8_ n9_ n10_ n11_ n12_ n13_ n14_ n15_ n16_ n17_ n18_ n19_ n20_ n21_ n22_ n23_; clear hb hbox hg; have hnb109 := NB683_653.out; have hnc109 := NB653_683.out; have hnb110 := NB683_654.out; have hnc110 := NB654_683.out; have hnb111 := NB683_655.out; have hnc111 := NB655_683.out; have hnb112 := NB683_660.out; have hnc112 := NB660_683.out; have hnb113 := NB683_665.out; have hnc113 := NB665_683.out; have hnb114 := NB683_676.out; have hnc114 := NB676_683.out; obtain ⟨hcz115_0, hcz115_1, hcz115_2, hfz115_0, hfz115_1, hfz115_2⟩ := c3_ BK683; obtain ⟨Ao116, co116, eo116⟩ := Kd.R_slice HO680.out; subst eo116; obtain ⟨hcz117_0, hcz117_1, hcz117_2, hfz117_0, hfz117_1, hfz117_2⟩ := c3_ BK676) | ((with_reducible refine gate_callee (f := 41) rfl ?_); refine gl_ (some 55) Try.func41 #[.agg #[.bool t670, .slice Ao105 t671.length co105, .int .i64 t674], .agg #[.bool t677, .slice Ao116 t678.length co116, .int .i64 t681]] ?_; (with_reducible refine (pelorusref03_Two.calls kj5 t670 _ _ t671 t674 t677 _ _ t678 t681 t684 t685 t688 _ ?side1 ?side2 ?side3 ?side4 A86.out).mono ?_); (case side1 => refine (Kd.R_reads' (e := 68) (base := w.heap.size) (ok := fun k_ => (True ∧ some k_ ≠ (.slice Ao116 t678.length co116 : Value).ownBlock)) (n := t671.length) (c := co105) ?_).2.2; exact (by (with_reducible repeat (first | apply Kd.R_alloc | apply Kd.R_drewN | apply Kd.R_drew)); exact (Kd.R_mono (Kd.R_far (p := ⟨gb683, 2, none⟩) (Kd.R_far (p := ⟨gb683, 1, none⟩) (Kd.R_far (p := ⟨gb683, 0, none⟩) (Kd.R_types HO673.out BK683.out (by decide)) (fun _ hk => hk.2) (.bool t677)) (fun _ hk => hk.2) (.slice Ao116 t678.length co116)) (fun _ hk => hk.2) (.int .i64 t681)) (fun _ h_ => h_.1)))); (case side2 => exact (Kd.R_reads' HO673.out).2.1); (case side3 => refine (Kd.R_reads' (e := 68) (base := w.heap.size) (ok := fun k_ => (True ∧ some k_ ≠ (.slice Ao105 t671.length co105 : Value).ownBlock)) (n := t678.length) (c := co116) ?_).2.2; exact (by (with_reducible repeat (first | apply Kd.R_alloc | apply Kd.R_drewN | apply Kd.R_drew)); exact (Kd.R_mono (Kd.R_far (p := ⟨gb683, 2, none⟩) (Kd.R_far (p := ⟨gb683, 1, none⟩) (Kd.R_far (p := ⟨gb683, 0, none⟩) (Kd.R_types HO680.out BK683.out (by decide)) (fun _ hk => hk.2) (.bool t677)) (fun _ hk => hk.2) (.slice Ao116 t678.length co116)) (fun _ hk => hk.2) (.int .i64 t681)) (fun _ h_ => h_.1)))); (case side4 => exact (Kd.R_reads' HO680.out).2.1); rintro e w118 ⟨v686, rfl, ho0, hb⟩; refine ⟨_, rfl, ?_⟩; have n0_ := Aside0.mk (Kd.R_elder' (by (with_reducible repeat (first | apply Kd.R_alloc | apply Kd.R_drewN | apply Kd.R_drew)); exact (Kd.R_mono (Kd.R_far (p := ⟨gb683, 2, none⟩) (Kd.R_far (p := ⟨gb683, 1, none⟩) (Kd.R_far (p := ⟨gb683, 0, none⟩) (Kd.R_types HO673.out BK683.out (by decide)) (fun _ hk => hk.2) (.bool t677)) (fun _ hk => hk.2) (.slice Ao116 t678.length co116)) (fun _ hk => hk.2) (.int .i64 t681)) (fun _ h_ => h_.1))) (Kd.R_base ho0) hb); have n1_ := Aside0.mk (Kd.R_elder' (by (with_reducible repeat (first | apply Kd.R_alloc | apply Kd.R_drewN | apply Kd.R_drew)); exact (Kd.R_mono (Kd.R_far (p := ⟨gb683, 2, none⟩) (Kd.R_far (p := ⟨gb683, 1, none⟩) (Kd.R_far (p := ⟨gb683, 0, none⟩) (Kd.R_types HO680.out BK683.out (by decide)) (fun _ hk => hk.2) (.bool t677)) (fun _ hk => hk.2) (.slice Ao116 t678.length co116)) (fun _ hk => hk.2) (.int .i64 t681)) (fun _ h_ => h_.1))) (Kd.R_base ho0) hb); have n2_ := Aside0.mk (Kd.R_lower (Kd.R_new' (Kd.R_new' ho0 (Kd.R_lt (by (with_reducible repeat (first | apply Kd.R_alloc | apply Kd.R_drewN | apply Kd.R_drew)); exact (Kd.R_mono (Kd.R_far (p := ⟨gb683, 2, none⟩) (Kd.R_far (p := ⟨gb683, 1, none⟩) (Kd.R_far (p := ⟨gb683, 0, none⟩) (Kd.R_types HO673.out BK683.out (by decide)) (fun _ hk => hk.2) (.bool t677)) (fun _ hk => hk.2) (.slice Ao116 t678.length co116)) (fun _ hk => hk.2) (.int .i64 t681)) (fun _ h_ => h_.1))))) (Kd.R_lt (by (with_reducible repeat (first | apply Kd.R_alloc | apply Kd.R_drewN | apply Kd.R_drew)); exact (Kd.R_mono (Kd.R_far (p := ⟨gb683, 2, none⟩) (Kd.R_far (p := ⟨gb683, 1, none⟩) (Kd.R_far (p := ⟨gb683, 0, none⟩) (Kd.R_types HO680.out BK683.out (by decide)) (fun _ hk => hk.2) (.bool t677)) (fun _ hk => hk.2) (.slice Ao116 t678.length co116)) (fun _ hk => hk.2) (.int .i64 t681)) (fun _ h_ => h_.1))))) (below_size (bw_ HB.out))); have n3_ := Aside0.mk (blk_below (g := gb653) (o := .cells #[.int .i64 a0_0, .bool a0_1, .int .u64 a0_2, .int .i64 a0_3] 24 (0, 0)) (by refine kb_ ?_; refine bf_ NB653_683 ?_; refine bf_ NB653_683 ?_; refine bf_ NB653_683 ?_; exact BK653.out) hb); have n4_ := Aside0.mk (blk_below (g := gb654) (o := .cells #[.int .i64 a1_0, .bool a1_1, .int .u64 a1_2, .int .i64 a1_3] 24 (0, 0)) (by refine kb_ ?_; refine bf_ NB654_683 ?_; refine bf_ NB654_683 ?_; refine bf_ NB654_683 ?_; exact BK654.out) hb); have n5_ := Aside0.mk (blk_below (g := gb655) (o := .cells #[.int .i64 0, .bool false, .int .u64 0, .int .i64 0] 24 (0, 0)) (by refine kb_ ?_; refine bf_ NB655_683 ?_; refine bf_ NB655_683 ?_; refine bf_ NB655_683 ?_; exact BK655.out) hb); have n6_ := Aside0.mk (blk_below (g := gb660) (o := .cells #[.int .i64 t656, .bool t657, .int .u64 t658, .int .i64 t659] 24 (0, 0)) (by refine kb_ ?_; refine bf_ NB660_683 ?_; refine bf_ NB660_683 ?_; refine bf_ NB660_683 ?_; exact BK660.out) hb); have n7_ := Aside0.mk (blk_below (g := gb665) (o := .cells #[.int .i64 t661, .bool t662, .int .u64 t663, .int .i64 t664] 24 (0, 0)) (by refine kb_ ?_; refine bf_ NB665_683 ?_; refine bf_ NB665_683 ?_; refine bf_ NB665_683 ?_; exact BK665.out) hb); have n8_ := Aside0.mk (blk_below (g := gb676) (o := .cells #[.bool t670, .slice Ao105 t671.length co105, .int .i64 t674] 50 (0, 0)) (by refine kb_ ?_; refine bf_ NB676_683 ?_; refine bf_ NB676_683 ?_; refine bf_ NB676_683 ?_; exact BK676.out) hb); have n9_ := Aside0.mk (blk_below (g := gb683) (o := .cells #[.bool t677, .slice Ao116 t678.length co116, .int .i64 t681] 50 (0, 0)) (by refine kb_ ?_; refine bp_ #[.bool t677, .slice Ao116 t678.length co116, .int .i64 0] 2 ?_; refine bp_ #[.bool t677, .slice none 0 0, .int .i64 0] 1 ?_; refine bp_ #[.bool false, .slice none 0 0, .int .i64 0] 0 ?_; exact BK683.out) hb); have n10_ := bq_ HB hb; clear HO673; clear HO680; clear BK653; clear BK654; clear BK655; clear BK660; clear BK665; clear BK676; clear BK683; clear HB; have HO673 := n0_; have HO680 := n1_; have HO687 := n2_; have BK653 := n3_; have BK654 := n4_; have BK655 := n5_; have BK660 := n6_; have BK665 := n7_; have BK676 := n8_; have BK683 := n9_; have HB := n10_; clear n0_ n1_ n2_ n3_ n4_ n5_ n6_ n7_ n8_ n9_ n10_; (try clear hb); (try clear hb2); (try clear hk); (try clear hi); (try clear ho0); obtain ⟨Ao119, co119, eo119⟩ := Kd.R_slice HO687.out; subst eo119) | ((with_reducible refine gate_callee (f := 40) rfl ?_); refine gl_ (some 57) Try.func40 #[.agg #[.bool t684, .slice Ao119 t685.length co119, .int .i64 t688], .bool a2] ?_; (with_reducible refine (pelorusref05_Round.calls kj5 t684 _ _ t685 t688 a2 t689 t690 t691 t692 _ ?side1 ?side2 A87.out).mono ?_); (case side1 => repeat (first | exact (Kd.R_reads' HO687.out).2.2 | (with_reducible refine Kd.C_alloc ?_ _) | (with_reducible refine Kd.C_drewN ?_ _) | (with_reducible refine Kd.C_drew ?_))); (case side2 => exact (Kd.R_reads' HO687.out).2.1); rintro e w120 ⟨rfl, hb⟩; refine ⟨_, rfl, ?_⟩; have n0_ := Aside0.mk (Kd.R_below (by (with_reducible repeat (first | apply Kd.R_alloc | apply Kd.R_drewN | apply Kd.R_drew)); exact HO673.out) hb); have n1_ := Aside0.mk (Kd.R_below (by (with_reducible repeat (first | apply Kd.R_alloc | apply Kd.R_drewN | apply Kd.R_drew)); exact HO680.out) hb); have n2_ := Aside0.mk (Kd.R_below (by (with_reducible repeat (first | apply Kd.R_alloc | apply Kd.R_drewN | apply Kd.R_drew)); exact HO687.out) hb); have n3_ := kq_ BK653 hb; have n4_ := kq_ BK654 hb; have n5_ := kq_ BK655 hb; have n6_ := kq_ BK660 hb; have n7_ := kq_ BK665 hb; have n8_ := kq_ BK676 hb; have n9_ := kq_ BK683 hb; have n10_ := bq_ HB hb; clear HO673; clear HO680; clear HO687; clear BK653; clear BK654; clear BK655; clear BK660; clear BK665; clear BK676; clear BK683; clear HB; have HO673 := n0_; have HO680 := n1_; have HO687 := n2_; have BK653 := n3_; have BK654 := n4_; have BK655 := n5_; have BK660 := n6_; have BK665 := n7_; have BK676 := n8_; have BK683 := n9_; have HB := n10_; clear n0_ n1_ n2_ n3_ n4_ n5_ n6_ n7_ n8_ n9_ n10_; (try clear hb); (try clear hb2); (try clear hk); (try clear hi); have hnb121 := NB655_653.out; have hnc121 := NB653_655.out; have hnb122 := NB655_654.out; have hnc122 := NB654_655.out; obtain ⟨hcz123_0, hcz123_1, hcz123_2, hcz123_3, hfz123_0, hfz123_1, hfz123_2, hfz123_3⟩ := c4_ BK655))
      refine bodyPost_ret (results_cell_row rfl _ _ gb655 24 #[.int .i64 t689, .bool t690, .int .u64 t691, .int .i64 t692] (0, 0) _ rfl (by refine kb_ ?_; refine bp_ #[.int .i64 t689, .bool t690, .int .u64 t691, .int .i64 0] 3 ?_; refine bp_ #[.int .i64 t689, .bool t690, .int .u64 0, .int .i64 0] 2 ?_; refine bp_ #[.int .i64 t689, .bool false, .int .u64 0, .int .i64 0] 1 ?_; refine bp_ #[.int .i64 0, .bool false, .int .u64 0, .int .i64 0] 0 ?_; exact BK655.out) Try.underlying24 rfl (by kernel_rfl)) rfl ?_
      exact ⟨rf_, bw_ HB.out⟩

end Go.Proofs.Ythlhogcnfaiphaa.PA
