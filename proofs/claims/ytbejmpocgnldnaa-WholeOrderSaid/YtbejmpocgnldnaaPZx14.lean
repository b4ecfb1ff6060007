-- Laid by this work's own program; Lean checks it.
import Derived.Test.YtbejmpocgnldnaaPZx0
import Derived.Test.YtbejmpocgnldnaaPZx1
import Derived.Test.YtbejmpocgnldnaaPZx2
import Derived.Test.YtbejmpocgnldnaaPZx4
import Derived.Test.YtbejmpocgnldnaaPZx8
import Derived.Test.YtbejmpocgnldnaaPZx9
import Derived.Test.YtbejmpocgnldnaaPZx10
import Derived.Test.YtbejmpocgnldnaaPZx13
namespace Go.Proofs.Ytbejmpocgnldnaa.PZ
open Go.RowKit Go.Proofs.YtbejmpocgnldnaaW.PrintWords Go.Proofs.YtbejmpocgnldnaaW.PrintLast Go.Proofs.YtbejmpocgnldnaaW.PrintMore
attribute [local go_sem] max2_int min2_int max_two min_two max_three min_three max_four min_four   -- for this text's walks alone
set_option linter.unusedVariables false
set_option linter.unusedSimpArgs false

attribute [local go_sem ↓ high] isSome_set_
/-! ### peloruslaw02_WholeOrder: function 6 -/
theorem peloruslaw02_WholeOrder.tab6 : rtab .any (opsOf Try.f6 6) = peloruslaw02_WholeOrder.T6 := by kernel_rfl
theorem peloruslaw02_WholeOrder.bits6 : waitsOk peloruslaw02_WholeOrder.T6.2 peloruslaw02_WholeOrder.B6 = true := by kernel_rfl
set_option maxHeartbeats 8000000 in
set_option maxRecDepth 100000 in
theorem peloruslaw02_WholeOrder.calls (k : Nat) (a0_0 : Bool) (P0_1_ : Nat → Prop) (A0_1 : Option Addr) (c0_1 : Nat) (l0_1 : List Int) (a1_0 : Bool) (P1_1_ : Nat → Prop) (A1_1 : Option Addr) (c1_1 : Nat) (l1_1 : List Int) (a2_0 : Bool) (P2_1_ : Nat → Prop) (A2_1 : Option Addr) (c2_1 : Nat) (l2_1 : List Int) (r : Bool) (w : World) (hs0_1 : Kd.V (Kd.int .u32) 47 w w.heap.size (fun k_ => P0_1_ k_) (.slice A0_1 l0_1.length c0_1) l0_1) (hs1_1 : Kd.V (Kd.int .u32) 47 w w.heap.size (fun k_ => P1_1_ k_) (.slice A1_1 l1_1.length c1_1) l1_1) (hs2_1 : Kd.V (Kd.int .u32) 47 w w.heap.size (fun k_ => P2_1_ k_) (.slice A2_1 l2_1.length c2_1) l2_1) (hr_ : r = true) (haw_ : ∀ r, peloruslaw02_awake.f k = some r → r = true) (h : peloruslaw02_WholeOrder.f k a0_0 l0_1 a1_0 l1_1 a2_0 l2_1 = some r) :
  Calls Try.prog 6 #[.agg #[.bool a0_0, .slice A0_1 l0_1.length c0_1], .agg #[.bool a1_0, .slice A1_1 l1_1.length c1_1], .agg #[.bool a2_0, .slice A2_1 l2_1.length c2_1]] w fun e w' => e = .returned (.bool r) ∧ Below w.heap.size w w' := by
 have HRT_ := Aside0.mk hr_
 clear hr_
 have HAW_ := Aside0.mk haw_
 clear haw_
 have hu24 := Try.underlying24
 have HO0_1 := Aside0.mk (show Kd.V (Kd.int .u32) 47 w w.heap.size (fun k_ => ((P0_1_ k_ ∨ P1_1_ k_ ∨ P2_1_ k_) ∨ w.heap.size ≤ k_)) (.slice A0_1 l0_1.length c0_1) l0_1 from Kd.V_mono hs0_1 (fun k_ hk => .inl (.inl hk)))
 have HO1_1 := Aside0.mk (show Kd.V (Kd.int .u32) 47 w w.heap.size (fun k_ => ((P0_1_ k_ ∨ P1_1_ k_ ∨ P2_1_ k_) ∨ w.heap.size ≤ k_)) (.slice A1_1 l1_1.length c1_1) l1_1 from Kd.V_mono hs1_1 (fun k_ hk => .inl (.inr (.inl hk))))
 have HO2_1 := Aside0.mk (show Kd.V (Kd.int .u32) 47 w w.heap.size (fun k_ => ((P0_1_ k_ ∨ P1_1_ k_ ∨ P2_1_ k_) ∨ w.heap.size ≤ k_)) (.slice A2_1 l2_1.length c2_1) l2_1 from Kd.V_mono hs2_1 (fun k_ hk => .inl (.inr (.inr hk))))
 have HB := Aside0.mk (Below.refl w.heap.size w)
 have H : ((peloruslaw02_awake.f k).bind fun t486 => (if t486 = true then (if (l0_1.length : Int) > 15 then (peloruslaw02_WholeOrder.j0 k t486 true a0_0 l0_1 a1_0 l1_1 a2_0 l2_1) else (if (l1_1.length : Int) > 15 then (peloruslaw02_WholeOrder.j0 k t486 true a0_0 l0_1 a1_0 l1_1 a2_0 l2_1) else (peloruslaw02_WholeOrder.j0 k t486 (decide ((l2_1.length : Int) > 15)) a0_0 l0_1 a1_0 l1_1 a2_0 l2_1))) else (peloruslaw02_WholeOrder.j0 k t486 true a0_0 l0_1 a1_0 l1_1 a2_0 l2_1))) = some r := h
 clear h
 replace H := Option.bind_eq_some_iff.mp H
 obtain ⟨t486, A40, H⟩ := H
 (try dsimp only at H)
 have A4 := Aside0.mk A40
 clear A40
 have HC5 := Aside0.mk H
 clear H
 go_enter Try.func6, Try.ntmps6
 go_upto_region 2 with (first | ((with_reducible refine gate_dst (N := 3) rfl ?_); (try (refine gate_guard (by rfl) ?_; dsimp only)); refine bx_ 3 #[.bool a0_0, .slice A0_1 l0_1.length c0_1] 24 ?_; intro gb483 hg w6 hbox hb; have n0_ := Aside0.mk (Kd.V_below (Kd.V_elderB (by (with_reducible repeat (first | apply Kd.V_alloc | apply Kd.V_drewN | apply Kd.V_drew)); exact HO0_1.out) gb483 (Nat.le_of_eq hg.symm)) hb); have n1_ := Aside0.mk (Kd.V_below (Kd.V_elderB (by (with_reducible repeat (first | apply Kd.V_alloc | apply Kd.V_drewN | apply Kd.V_drew)); exact HO1_1.out) gb483 (Nat.le_of_eq hg.symm)) hb); have n2_ := Aside0.mk (Kd.V_below (Kd.V_elderB (by (with_reducible repeat (first | apply Kd.V_alloc | apply Kd.V_drewN | apply Kd.V_drew)); exact HO2_1.out) gb483 (Nat.le_of_eq hg.symm)) hb); have n3_ := bq_ HB hb; have n4_ := Aside0.mk (hbox); have n5_ := ge_ hg HB; have n6_ := ge_ hg HB; clear HO0_1; clear HO1_1; clear HO2_1; clear HB; have HO0_1 := n0_; have HO1_1 := n1_; have HO2_1 := n2_; have HB := n3_; have BK483 := n4_; have GW483 := n5_; have GE483 := n6_; clear n0_ n1_ n2_ n3_ n4_ n5_ n6_; clear hb hbox hg) | ((with_reducible refine gate_dst (N := 4) rfl ?_); (try (refine gate_guard (by rfl) ?_; dsimp only)); refine bx_ 4 #[.bool a1_0, .slice A1_1 l1_1.length c1_1] 24 ?_; intro gb484 hg w7 hbox hb; have n0_ := Aside0.mk (Kd.V_below (Kd.V_elderB (by (with_reducible repeat (first | apply Kd.V_alloc | apply Kd.V_drewN | apply Kd.V_drew)); exact HO0_1.out) gb484 (Nat.le_of_eq hg.symm)) hb); have n1_ := Aside0.mk (Kd.V_below (Kd.V_elderB (by (with_reducible repeat (first | apply Kd.V_alloc | apply Kd.V_drewN | apply Kd.V_drew)); exact HO1_1.out) gb484 (Nat.le_of_eq hg.symm)) hb); have n2_ := Aside0.mk (Kd.V_below (Kd.V_elderB (by (with_reducible repeat (first | apply Kd.V_alloc | apply Kd.V_drewN | apply Kd.V_drew)); exact HO2_1.out) gb484 (Nat.le_of_eq hg.symm)) hb); have n3_ := kq_ BK483 hb; have n4_ := bq_ HB hb; have n5_ := Aside0.mk (hbox); have n6_ := ge_ hg HB; have n7_ := ge_ hg HB; have n8_ := nb_ hg BK483; have n9_ := nc_ hg BK483; clear HO0_1; clear HO1_1; clear HO2_1; clear BK483; clear HB; have HO0_1 := n0_; have HO1_1 := n1_; have HO2_1 := n2_; have BK483 := n3_; have HB := n4_; have BK484 := n5_; have GW484 := n6_; have GE484 := n7_; have NB483_484 := n8_; have NB484_483 := n9_; clear n0_ n1_ n2_ n3_ n4_ n5_ n6_ n7_ n8_ n9_; clear hb hbox hg) | ((with_reducible refine gate_dst (N := 5) rfl ?_); (try (refine gate_guard (by rfl) ?_; dsimp only)); refine bx_ 5 #[.bool a2_0, .slice A2_1 l2_1.length c2_1] 24 ?_; intro gb485 hg w8 hbox hb; have n0_ := Aside0.mk (Kd.V_below (Kd.V_elderB (by (with_reducible repeat (first | apply Kd.V_alloc | apply Kd.V_drewN | apply Kd.V_drew)); exact HO0_1.out) gb485 (Nat.le_of_eq hg.symm)) hb); have n1_ := Aside0.mk (Kd.V_below (Kd.V_elderB (by (with_reducible repeat (first | apply Kd.V_alloc | apply Kd.V_drewN | apply Kd.V_drew)); exact HO1_1.out) gb485 (Nat.le_of_eq hg.symm)) hb); have n2_ := Aside0.mk (Kd.V_below (Kd.V_elderB (by (with_reducible repeat (first | apply Kd.V_alloc | apply Kd.V_drewN | apply Kd.V_drew)); exact HO2_1.out) gb485 (Nat.le_of_eq hg.symm)) hb); have n3_ := kq_ BK483 hb; have n4_ := kq_ BK484 hb; have n5_ := bq_ HB hb; have n6_ := Aside0.mk (hbox); have n7_ := ge_ hg HB; have n8_ := ge_ hg HB; have n9_ := nb_ hg BK483; have n10_ := nc_ hg BK483; have n11_ := nb_ hg BK484; have n12_ := nc_ hg BK484; clear HO0_1; clear HO1_1; clear HO2_1; clear BK483; clear BK484; clear HB; have HO0_1 := n0_; have HO1_1 := n1_; have HO2_1 := n2_; have BK483 := n3_; have BK484 := n4_; have HB := n5_; have BK485 := n6_; have GW485 := n7_; have GE485 := n8_; have NB483_485 := n9_; have NB485_483 := n10_; have NB484_485 := n11_; have NB485_484 := n12_; clear n0_ n1_ n2_ n3_ n4_ n5_ n6_ n7_ n8_ n9_ n10_ n11_ n12_; clear hb hbox hg) | ((with_reducible refine gate_callee (f := 9) rfl ?_); refine gl_ (some 10) Try.func9 #[] ?_; (with_reducible refine (peloruslaw02_awake.calls k  t486 _ (HAW_.out _ A4.out) A4.out).mono ?_); rintro e w9 ⟨rfl, hb⟩; refine ⟨_, rfl, ?_⟩; have n0_ := Aside0.mk (Kd.V_below (by (with_reducible repeat (first | apply Kd.V_alloc | apply Kd.V_drewN | apply Kd.V_drew)); exact HO0_1.out) hb); have n1_ := Aside0.mk (Kd.V_below (by (with_reducible repeat (first | apply Kd.V_alloc | apply Kd.V_drewN | apply Kd.V_drew)); exact HO1_1.out) hb); have n2_ := Aside0.mk (Kd.V_below (by (with_reducible repeat (first | apply Kd.V_alloc | apply Kd.V_drewN | apply Kd.V_drew)); exact HO2_1.out) hb); have n3_ := kq_ BK483 hb; have n4_ := kq_ BK484 hb; have n5_ := kq_ BK485 hb; have n6_ := bq_ HB hb; clear HO0_1; clear HO1_1; clear HO2_1; clear BK483; clear BK484; clear BK485; clear HB; have HO0_1 := n0_; have HO1_1 := n1_; have HO2_1 := n2_; have BK483 := n3_; have BK484 := n4_; have BK485 := n5_; have HB := n6_; clear n0_ n1_ n2_ n3_ n4_ n5_ n6_; (try clear hb); (try clear hb2); (try clear hk); (try clear hi)))
 (try simp only [Act.put, List.setIfInBounds_toArray, List.set_cons_zero, List.set_cons_succ])
 go_cut [30] (fun v30 wc => ∃ (kq : Nat) (x30_4 : Bool), v30 = .bool x30_4 ∧ Aside0 (peloruslaw02_WholeOrder.j0 kq t486 x30_4 a0_0 l0_1 a1_0 l1_1 a2_0 l2_1 = some r) ∧ Aside0 (kq ≤ k) ∧ Aside0 (Kd.V (Kd.int .u32) 47 wc w.heap.size (fun k_ => ((P0_1_ k_ ∨ P1_1_ k_ ∨ P2_1_ k_) ∨ w.heap.size ≤ k_) ∧ k_ ≠ gb483 ∧ k_ ≠ gb484 ∧ k_ ≠ gb485) (.slice A0_1 l0_1.length c0_1) l0_1) ∧ Aside0 (Kd.V (Kd.int .u32) 47 wc w.heap.size (fun k_ => ((P0_1_ k_ ∨ P1_1_ k_ ∨ P2_1_ k_) ∨ w.heap.size ≤ k_) ∧ k_ ≠ gb483 ∧ k_ ≠ gb484 ∧ k_ ≠ gb485) (.slice A1_1 l1_1.length c1_1) l1_1) ∧ Aside0 (Kd.V (Kd.int .u32) 47 wc w.heap.size (fun k_ => ((P0_1_ k_ ∨ P1_1_ k_ ∨ P2_1_ k_) ∨ w.heap.size ≤ k_) ∧ k_ ≠ gb483 ∧ k_ ≠ gb484 ∧ k_ ≠ gb485) (.slice A2_1 l2_1.length c2_1) l2_1) ∧ Aside0 (wc.heap[gb483]? = some (.cells #[.bool a0_0, (.slice A0_1 l0_1.length c0_1)] 24 (0, 0))) ∧ Aside0 (wc.heap[gb484]? = some (.cells #[.bool a1_0, (.slice A1_1 l1_1.length c1_1)] 24 (0, 0))) ∧ Aside0 (wc.heap[gb485]? = some (.cells #[.bool a2_0, (.slice A2_1 l2_1.length c2_1)] 24 (0, 0))) ∧ Aside0 (Below w.heap.size w wc))
 case first =>
  have H := HC5.out
  clear HC5
  by_cases c10 : t486 = true
  ·subst c10
   have H1 : (if (l0_1.length : Int) > 15 then (peloruslaw02_WholeOrder.j0 k true true a0_0 l0_1 a1_0 l1_1 a2_0 l2_1) else (if (l1_1.length : Int) > 15 then (peloruslaw02_WholeOrder.j0 k true true a0_0 l0_1 a1_0 l1_1 a2_0 l2_1) else (peloruslaw02_WholeOrder.j0 k true (decide ((l2_1.length : Int) > 15)) a0_0 l0_1 a1_0 l1_1 a2_0 l2_1))) = some r := by rw [if_pos rfl] at H; exact H
   clear H
   have H := H1
   clear H1
   by_cases c11 : (l0_1.length : Int) > 15
   ·rw [if_pos c11] at H
    have c11b0 : decide (15 < (l0_1.length : Int)) = true := decide_eq_true c11
    have c11b1 : decide (15 < l0_1.length) = true := decide_eq_true (by omega)
    clear c11
    (first | rw [c11b0] | (simp only [i64_w, i32_w]; rw [c11b0]) | skip)
    have H' := Aside0.mk H
    clear H
    have hnb12 := NB483_484.out
    have hnc12 := NB484_483.out
    have hnb13 := NB483_485.out
    have hnc13 := NB485_483.out
    obtain ⟨hcz14_0, hcz14_1, hfz14_0, hfz14_1⟩ := c2_ BK483
    go_wp2
    go_meet
    case rel => exact ⟨_, (true), (by first | rfl | (simp; done) | (simp [*]; done)), H', ⟨by first | omega | exact Nat.le_refl _⟩, ⟨by (with_reducible repeat (first | apply Kd.V_alloc | apply Kd.V_drewN | apply Kd.V_drew)); exact Kd.V_mono HO0_1.out (fun _ hk => by first | exact ⟨hk.1.1.1, ⟨hk.1.1.2, ⟨hk.1.2, hk.2⟩⟩⟩ | simp [hk])⟩, ⟨by (with_reducible repeat (first | apply Kd.V_alloc | apply Kd.V_drewN | apply Kd.V_drew)); exact Kd.V_mono HO1_1.out (fun _ hk => by first | exact ⟨hk.1.1.1, ⟨hk.1.1.2, ⟨hk.1.2, hk.2⟩⟩⟩ | simp [hk])⟩, ⟨by (with_reducible repeat (first | apply Kd.V_alloc | apply Kd.V_drewN | apply Kd.V_drew)); exact Kd.V_mono HO2_1.out (fun _ hk => by first | exact ⟨hk.1.1.1, ⟨hk.1.1.2, ⟨hk.1.2, hk.2⟩⟩⟩ | simp [hk])⟩, ⟨kb_ BK483.out⟩, ⟨kb_ BK484.out⟩, ⟨kb_ BK485.out⟩, ⟨bw_ HB.out⟩⟩
   ·rw [if_neg c11] at H
    have c11b0 : decide (15 < (l0_1.length : Int)) = false := decide_eq_false c11
    have c11b1 : decide (15 < l0_1.length) = false := decide_eq_false (by omega)
    clear c11
    (first | rw [c11b0] | (simp only [i64_w, i32_w]; rw [c11b0]) | skip)
    by_cases c15 : (l1_1.length : Int) > 15
    ·rw [if_pos c15] at H
     have c15b0 : decide (15 < (l1_1.length : Int)) = true := decide_eq_true c15
     have c15b1 : decide (15 < l1_1.length) = true := decide_eq_true (by omega)
     clear c15
     have H' := Aside0.mk H
     clear H
     have hnb16 := NB483_484.out
     have hnc16 := NB484_483.out
     have hnb17 := NB483_485.out
     have hnc17 := NB485_483.out
     obtain ⟨hcz18_0, hcz18_1, hfz18_0, hfz18_1⟩ := c2_ BK483
     have hnb19 := NB484_485.out
     have hnc19 := NB485_484.out
     obtain ⟨hcz20_0, hcz20_1, hfz20_0, hfz20_1⟩ := c2_ BK484
     go_wp2
     go_meet
     case rel => exact ⟨_, (true), (by first | rfl | (simp; done) | (simp [*]; done)), H', ⟨by first | omega | exact Nat.le_refl _⟩, ⟨by (with_reducible repeat (first | apply Kd.V_alloc | apply Kd.V_drewN | apply Kd.V_drew)); exact Kd.V_mono HO0_1.out (fun _ hk => by first | exact ⟨hk.1.1.1, ⟨hk.1.1.2, ⟨hk.1.2, hk.2⟩⟩⟩ | simp [hk])⟩, ⟨by (with_reducible repeat (first | apply Kd.V_alloc | apply Kd.V_drewN | apply Kd.V_drew)); exact Kd.V_mono HO1_1.out (fun _ hk => by first | exact ⟨hk.1.1.1, ⟨hk.1.1.2, ⟨hk.1.2, hk.2⟩⟩⟩ | simp [hk])⟩, ⟨by (with_reducible repeat (first | apply Kd.V_alloc | apply Kd.V_drewN | apply Kd.V_drew)); exact Kd.V_mono HO2_1.out (fun _ hk => by first | exact ⟨hk.1.1.1, ⟨hk.1.1.2, ⟨hk.1.2, hk.2⟩⟩⟩ | simp [hk])⟩, ⟨kb_ BK483.out⟩, ⟨kb_ BK484.out⟩, ⟨kb_ BK485.out⟩, ⟨bw_ HB.out⟩⟩
    ·rw [if_neg c15] at H
     have c15b0 : decide (15 < (l1_1.length : Int)) = false := decide_eq_false c15
     have c15b1 : decide (15 < l1_1.length) = false := decide_eq_false (by omega)
     clear c15
     have H' := Aside0.mk H
     clear H
     have hnb21 := NB483_484.out
     have hnc21 := NB484_483.out
     have hnb22 := NB483_485.out
     have hnc22 := NB485_483.out
     obtain ⟨hcz23_0, hcz23_1, hfz23_0, hfz23_1⟩ := c2_ BK483
     have hnb24 := NB484_485.out
     have hnc24 := NB485_484.out
     obtain ⟨hcz25_0, hcz25_1, hfz25_0, hfz25_1⟩ := c2_ BK484
     obtain ⟨hcz26_0, hcz26_1, hfz26_0, hfz26_1⟩ := c2_ BK485
     go_wp2
     go_meet
     case rel => exact ⟨_, (decide ((l2_1.length : Int) > 15)), (by first | rfl | (simp; done) | (simp [*]; done)), H', ⟨by first | omega | exact Nat.le_refl _⟩, ⟨by (with_reducible repeat (first | apply Kd.V_alloc | apply Kd.V_drewN | apply Kd.V_drew)); exact Kd.V_mono HO0_1.out (fun _ hk => by first | exact ⟨hk.1.1.1, ⟨hk.1.1.2, ⟨hk.1.2, hk.2⟩⟩⟩ | simp [hk])⟩, ⟨by (with_reducible repeat (first | apply Kd.V_alloc | apply Kd.V_drewN | apply Kd.V_drew)); exact Kd.V_mono HO1_1.out (fun _ hk => by first | exact ⟨hk.1.1.1, ⟨hk.1.1.2, ⟨hk.1.2, hk.2⟩⟩⟩ | simp [hk])⟩, ⟨by (with_reducible repeat (first | apply Kd.V_alloc | apply Kd.V_drewN | apply Kd.V_drew)); exact Kd.V_mono HO2_1.out (fun _ hk => by first | exact ⟨hk.1.1.1, ⟨hk.1.1.2, ⟨hk.1.2, hk.2⟩⟩⟩ | simp [hk])⟩, ⟨kb_ BK483.out⟩, ⟨kb_ BK484.out⟩, ⟨kb_ BK485.out⟩, ⟨bw_ HB.out⟩⟩
  ·replace c10 := Bool.eq_false_iff.mpr c10
   subst c10
   have H1 : (peloruslaw02_WholeOrder.j0 k false true a0_0 l0_1 a1_0 l1_1 a2_0 l2_1) = some r := by rw [if_neg (show ¬ (false = true) by decide)] at H; exact H
   clear H
   have H := H1
   clear H1
   have H' := Aside0.mk H
   clear H
   go_wp2
   go_meet
   case rel => exact ⟨_, (true), (by first | rfl | (simp; done) | (simp [*]; done)), H', ⟨by first | omega | exact Nat.le_refl _⟩, ⟨by (with_reducible repeat (first | apply Kd.V_alloc | apply Kd.V_drewN | apply Kd.V_drew)); exact Kd.V_mono HO0_1.out (fun _ hk => by first | exact ⟨hk.1.1.1, ⟨hk.1.1.2, ⟨hk.1.2, hk.2⟩⟩⟩ | simp [hk])⟩, ⟨by (with_reducible repeat (first | apply Kd.V_alloc | apply Kd.V_drewN | apply Kd.V_drew)); exact Kd.V_mono HO1_1.out (fun _ hk => by first | exact ⟨hk.1.1.1, ⟨hk.1.1.2, ⟨hk.1.2, hk.2⟩⟩⟩ | simp [hk])⟩, ⟨by (with_reducible repeat (first | apply Kd.V_alloc | apply Kd.V_drewN | apply Kd.V_drew)); exact Kd.V_mono HO2_1.out (fun _ hk => by first | exact ⟨hk.1.1.1, ⟨hk.1.1.2, ⟨hk.1.2, hk.2⟩⟩⟩ | simp [hk])⟩, ⟨kb_ BK483.out⟩, ⟨kb_ BK484.out⟩, ⟨kb_ BK485.out⟩, ⟨bw_ HB.out⟩⟩
 case rest =>
  clear HC5
  try clear c1
  try clear c2
  try clear p2
  try clear c6
  try clear c9
  try clear c10
  try clear c11
  try clear c11b0
  try clear c11b1
  try clear c12
  try clear c13
  try clear c15
  try clear c15b0
  try clear c15b1
  try clear c16
  try clear c17
  try clear c19
  try clear c21
  try clear c22
  try clear c24
  try clear hcz14_0 hcz14_1
  try clear hcz18_0 hcz18_1
  try clear hcz20_0 hcz20_1
  try clear hcz23_0 hcz23_1
  try clear hcz25_0 hcz25_1
  try clear hcz26_0 hcz26_1
  try clear hfz14_0 hfz14_1
  try clear hfz18_0 hfz18_1
  try clear hfz20_0 hfz20_1
  try clear hfz23_0 hfz23_1
  try clear hfz25_0 hfz25_1
  try clear hfz26_0 hfz26_1
  obtain ⟨kq, x30_4, rfl, HA, HJ4, HO_484001, HO_485001, HO_486001, BK483, BK484, BK485, HB⟩ := hcut
  cases kq with
  | zero => exact absurd HA.out (by simp [peloruslaw02_WholeOrder.j0])
  | succ kj4 =>
   have H := HA.out
   clear HA
   simp only [peloruslaw02_WholeOrder.j0] at H
   by_cases c27 : x30_4 = true
   ·subst c27
    have H1 : (some t486) = some r := by rw [if_pos rfl] at H; exact H
    clear H
    have H := H1
    clear H1
    obtain rfl := Option.some.inj H
    go_wp2
    go_ret
    exact ⟨rf_, bw_ HB.out⟩
   ·replace c27 := Bool.eq_false_iff.mpr c27
    subst c27
    have H1 : ((whole_Cmp.f kj4 a0_0 l0_1 a1_0 l1_1).bind fun t487 => ((whole_Sign.f kj4 a2_0 l2_1).bind fun t488 => ((whole_Sub.f kj4 a0_0 l0_1 a1_0 l1_1).bind fun bt489 => ((whole_Sign.f kj4 bt489.1 bt489.2).bind fun t493 => (if t493 = t487 then ((whole_Add.f kj4 a0_0 l0_1 a2_0 l2_1).bind fun bt494 => ((whole_Add.f kj4 a1_0 l1_1 a2_0 l2_1).bind fun bt498 => ((whole_Cmp.f kj4 bt494.1 bt494.2 bt498.1 bt498.2).bind fun t502 => (if t502 = t487 then ((whole_Mul.f kj4 (([(⟨a0_0, l0_1⟩ : S24), (⟨a2_0, l2_1⟩ : S24)] : List (S24)))).bind fun bt506 => ((whole_Mul.f kj4 (([(⟨a1_0, l1_1⟩ : S24), (⟨a2_0, l2_1⟩ : S24)] : List (S24)))).bind fun bt513 => ((whole_Cmp.f kj4 bt506.1 bt506.2 bt513.1 bt513.2).bind fun t517 => (if t517 = (wrap64 (t487 * t488)) then ((whole_Cmp.f kj4 a1_0 l1_1 a0_0 l0_1).bind fun t518 => (some (t518 == (wrap64 (-t487))))) else (some false))))) else (some false))))) else (some false)))))) = some r := by rw [if_neg (show ¬ (false = true) by decide)] at H; exact H
    clear H
    have H := H1
    clear H1
    replace H := Option.bind_eq_some_iff.mp H
    obtain ⟨t487, A280, H⟩ := H
    (try dsimp only at H)
    have A28 := Aside0.mk A280
    clear A280
    replace H := Option.bind_eq_some_iff.mp H
    obtain ⟨t488, A290, H⟩ := H
    (try dsimp only at H)
    have A29 := Aside0.mk A290
    clear A290
    replace H := Option.bind_eq_some_iff.mp H
    obtain ⟨⟨t489, t490⟩, A300, H⟩ := H
    (try dsimp only at H)
    have A30 := Aside0.mk A300
    clear A300
    replace H := Option.bind_eq_some_iff.mp H
    obtain ⟨t493, A310, H⟩ := H
    (try dsimp only at H)
    have A31 := Aside0.mk A310
    clear A310
    by_cases c32 : t493 = t487
    ·rw [if_pos c32] at H
     have c32b0 : (t493 == t487) = true := beq_iff_eq.mpr c32
     have c32b1 : (t493 != t487) = false := bne_eq_false_iff_eq.mpr c32
     clear c32
     replace H := Option.bind_eq_some_iff.mp H
     obtain ⟨⟨t494, t495⟩, A330, H⟩ := H
     (try dsimp only at H)
     have A33 := Aside0.mk A330
     clear A330
     replace H := Option.bind_eq_some_iff.mp H
     obtain ⟨⟨t498, t499⟩, A340, H⟩ := H
     (try dsimp only at H)
     have A34 := Aside0.mk A340
     clear A340
     replace H := Option.bind_eq_some_iff.mp H
     obtain ⟨t502, A350, H⟩ := H
     (try dsimp only at H)
     have A35 := Aside0.mk A350
     clear A350
     by_cases c36 : t502 = t487
     ·rw [if_pos c36] at H
      have c36b0 : (t502 == t487) = true := beq_iff_eq.mpr c36
      have c36b1 : (t502 != t487) = false := bne_eq_false_iff_eq.mpr c36
      clear c36
      obtain ⟨y503, hy503⟩ : ∃ y_ : List (S24), y_ = (([(⟨a0_0, l0_1⟩ : S24), (⟨a2_0, l2_1⟩ : S24)] : List (S24))) := ⟨_, rfl⟩
      replace H : ((whole_Mul.f kj4 y503).bind fun bt506 => ((whole_Mul.f kj4 (([(⟨a1_0, l1_1⟩ : S24), (⟨a2_0, l2_1⟩ : S24)] : List (S24)))).bind fun bt513 => ((whole_Cmp.f kj4 bt506.1 bt506.2 bt513.1 bt513.2).bind fun t517 => (if t517 = (wrap64 (t487 * t488)) then ((whole_Cmp.f kj4 a1_0 l1_1 a0_0 l0_1).bind fun t518 => (some (t518 == (wrap64 (-t487))))) else (some false))))) = some r := by first | (rw [hy503]; with_reducible exact H) | (have H2_ := (Option.bind_some _ _).symm.trans H; rw [hy503]; with_reducible exact H2_) | (have H2_ := (Option.bind_some _ _).symm.trans H; with_reducible exact H2_) | with_reducible exact H | (rw [hy503]; exact H) | exact H
      have Ny503 := Aside0.mk hy503
      clear hy503
      replace H := Option.bind_eq_some_iff.mp H
      obtain ⟨⟨t506, t507⟩, A370, H⟩ := H
      (try dsimp only at H)
      have A37 := Aside0.mk A370
      clear A370
      obtain ⟨y510, hy510⟩ : ∃ y_ : List (S24), y_ = (([(⟨a1_0, l1_1⟩ : S24), (⟨a2_0, l2_1⟩ : S24)] : List (S24))) := ⟨_, rfl⟩
      replace H : ((whole_Mul.f kj4 y510).bind fun bt513 => ((whole_Cmp.f kj4 t506 t507 bt513.1 bt513.2).bind fun t517 => (if t517 = (wrap64 (t487 * t488)) then ((whole_Cmp.f kj4 a1_0 l1_1 a0_0 l0_1).bind fun t518 => (some (t518 == (wrap64 (-t487))))) else (some false)))) = some r := by first | (rw [hy510]; with_reducible exact H) | (have H2_ := (Option.bind_some _ _).symm.trans H; rw [hy510]; with_reducible exact H2_) | (have H2_ := (Option.bind_some _ _).symm.trans H; with_reducible exact H2_) | with_reducible exact H | (rw [hy510]; exact H) | exact H
      have Ny510 := Aside0.mk hy510
      clear hy510
      replace H := Option.bind_eq_some_iff.mp H
      obtain ⟨⟨t513, t514⟩, A380, H⟩ := H
      (try dsimp only at H)
      have A38 := Aside0.mk A380
      clear A380
      replace H := Option.bind_eq_some_iff.mp H
      obtain ⟨t517, A390, H⟩ := H
      (try dsimp only at H)
      have A39 := Aside0.mk A390
      clear A390
      by_cases c40 : t517 = (wrap64 (t487 * t488))
      ·rw [if_pos c40] at H
       have c40b0 : (t517 == (wrap64 (t487 * t488))) = true := beq_iff_eq.mpr c40
       have c40b1 : (t517 != (wrap64 (t487 * t488))) = false := bne_eq_false_iff_eq.mpr c40
       clear c40
       replace H := Option.bind_eq_some_iff.mp H
       obtain ⟨t518, A410, H⟩ := H
       (try dsimp only at H)
       have A41 := Aside0.mk A410
       clear A410
       obtain rfl := Option.some.inj H
       have hnb42 := NB483_484.out
       have hnc42 := NB484_483.out
       have hnb43 := NB483_485.out
       have hnc43 := NB485_483.out
       obtain ⟨hcz44_0, hcz44_1, hfz44_0, hfz44_1⟩ := c2_ BK483
       have hnb45 := NB484_485.out
       have hnc45 := NB485_484.out
       obtain ⟨hcz46_0, hcz46_1, hfz46_0, hfz46_1⟩ := c2_ BK484
       try go_wp2_with (first | ((with_reducible refine gate_callee (f := 25) rfl ?_); refine gl_ (some 34) Try.func25 #[.agg #[.bool a0_0, .slice A0_1 l0_1.length c0_1], .agg #[.bool a1_0, .slice A1_1 l1_1.length c1_1]] ?_; (with_reducible refine (whole_Cmp.calls kj4 a0_0 _ _ l0_1 a1_0 _ _ l1_1 t487 _ ?side1 ?side2 ?side3 ?side4 A28.out).mono ?_); (case side1 => exact kc_ (Kd.V_reads' HO_484001.out).2.2); (case side2 => exact (Kd.V_reads' HO_484001.out).2.1); (case side3 => exact kc_ (Kd.V_reads' HO_485001.out).2.2); (case side4 => exact (Kd.V_reads' HO_485001.out).2.1); rintro e w47 ⟨rfl, hb⟩; refine ⟨_, rfl, ?_⟩; have n0_ := Aside0.mk (Kd.V_below (by (with_reducible repeat (first | apply Kd.V_alloc | apply Kd.V_drewN | apply Kd.V_drew)); exact HO_484001.out) hb); have n1_ := Aside0.mk (Kd.V_below (by (with_reducible repeat (first | apply Kd.V_alloc | apply Kd.V_drewN | apply Kd.V_drew)); exact HO_485001.out) hb); have n2_ := Aside0.mk (Kd.V_below (by (with_reducible repeat (first | apply Kd.V_alloc | apply Kd.V_drewN | apply Kd.V_drew)); exact HO_486001.out) hb); have n3_ := kq_ BK483 hb; have n4_ := kq_ BK484 hb; have n5_ := kq_ BK485 hb; have n6_ := bq_ HB hb; clear HO_484001; clear HO_485001; clear HO_486001; clear BK483; clear BK484; clear BK485; clear HB; have HO_484001 := n0_; have HO_485001 := n1_; have HO_486001 := n2_; have BK483 := n3_; have BK484 := n4_; have BK485 := n5_; have HB := n6_; clear n0_ n1_ n2_ n3_ n4_ n5_ n6_; (try clear hb); (try clear hb2); (try clear hk); (try clear hi); obtain ⟨hcz48_0, hcz48_1, hfz48_0, hfz48_1⟩ := c2_ BK485) | ((with_reducible refine gate_callee (f := 24) rfl ?_); refine gl_ (some 36) Try.func24 #[.agg #[.bool a2_0, .slice A2_1 l2_1.length c2_1]] ?_; (with_reducible refine (whole_Sign.calls kj4 a2_0 _ _ l2_1 t488 _ ?side1 ?side2 A29.out).mono ?_); (case side1 => exact kc_ (Kd.V_reads' HO_486001.out).2.2); (case side2 => exact (Kd.V_reads' HO_486001.out).2.1); rintro e w49 ⟨rfl, hb⟩; refine ⟨_, rfl, ?_⟩; have n0_ := Aside0.mk (Kd.V_below (by (with_reducible repeat (first | apply Kd.V_alloc | apply Kd.V_drewN | apply Kd.V_drew)); exact HO_484001.out) hb); have n1_ := Aside0.mk (Kd.V_below (by (with_reducible repeat (first | apply Kd.V_alloc | apply Kd.V_drewN | apply Kd.V_drew)); exact HO_485001.out) hb); have n2_ := Aside0.mk (Kd.V_below (by (with_reducible repeat (first | apply Kd.V_alloc | apply Kd.V_drewN | apply Kd.V_drew)); exact HO_486001.out) hb); have n3_ := kq_ BK483 hb; have n4_ := kq_ BK484 hb; have n5_ := kq_ BK485 hb; have n6_ := bq_ HB hb; clear HO_484001; clear HO_485001; clear HO_486001; clear BK483; clear BK484; clear BK485; clear HB; have HO_484001 := n0_; have HO_485001 := n1_; have HO_486001 := n2_; have BK483 := n3_; have BK484 := n4_; have BK485 := n5_; have HB := n6_; clear n0_ n1_ n2_ n3_ n4_ n5_ n6_; (try clear hb); (try clear hb2); (try clear hk); (try clear hi)))
       replace HO_484001 := Aside0.mk (Kd.V_drew HO_484001.out)
       replace HO_485001 := Aside0.mk (Kd.V_drew HO_485001.out)
       replace HO_486001 := Aside0.mk (Kd.V_drew HO_486001.out)
       replace BK483 := Aside0.mk (blk_drew BK483.out)
       replace BK484 := Aside0.mk (blk_drew BK484.out)
       replace BK485 := Aside0.mk (blk_drew BK485.out)
       replace HB := Aside0.mk (below_drew1 HB.out)
       refine start_ (n := 41) (S := fun w' => w'.cell? ⟨gb483, 0, none⟩ = some (.bool a0_0) ∧ w'.cell? ⟨gb483, 1, none⟩ = some (.slice A0_1 l0_1.length c0_1) ∧ w'.cell? ⟨gb484, 0, none⟩ = some (.bool a1_0) ∧ w'.cell? ⟨gb484, 1, none⟩ = some (.slice A1_1 l1_1.length c1_1) ∧ w'.cell? ⟨gb485, 0, none⟩ = some (.bool a2_0) ∧ w'.cell? ⟨gb485, 1, none⟩ = some (.slice A2_1 l2_1.length c2_1)) (ds := []) #[false, false, false, false, false, false, false, false, false, false, false, false, false, false, false, false, false, false, false, false, false, false, false, false, false, false, false, false, false, false, false, false, false, false, false, false, false, false, false, false, false] (by kernel_rfl) rfl rfl ⟨(blk_cell BK483.out 0).trans rfl, (blk_cell BK483.out 1).trans rfl, (blk_cell BK484.out 0).trans rfl, (blk_cell BK484.out 1).trans rfl, (blk_cell BK485.out 0).trans rfl, (blk_cell BK485.out 1).trans rfl⟩ (fun hHeld => ?_); refine with_tabW peloruslaw02_WholeOrder.tab6 peloruslaw02_WholeOrder.bits6 (fun HT_ HW_ => ?_)
       generalize w49.drew = w50 at HO_484001 HO_485001 HO_486001 BK483 BK484 BK485 HB hHeld ⊢
       refine pure_ (i := 4) (N := some 41) (v := ?_) (a' := ?_) #[false, false, false, false, true, false, false, false, false, false, false, false, false, false, false, false, false, false, false, false, false, false, false, false, false, false, false, false, false, false, false, false, false, false, false, false, false, false, false, false, false] rfl rfl (any_of HT_.out (by kernel_rfl)) (fun _ _ _ h => h) (Or.inl ⟨by rfl, ?_⟩) ?_ ?_
       rotate_left
       ·intro w'
        go_simp
        with_reducible rfl
       rotate_left
       ·exact pt_
       refine take_ (i := 0) (N := some 37) (v := ?_) (a' := ?_) #[true, false, false, false, true, false, false, false, false, false, false, false, false, false, false, false, false, false, false, false, false, false, false, false, false, false, false, false, false, false, false, false, false, false, false, false, false, false, false, false, false] rfl rfl (take_ofW HT_.out HW_.out (by kernel_rfl)) (fun _ _ _ h => h) (Or.inl ⟨by rfl, ?_⟩) hHeld ?_ ?_
       rotate_left
       ·rintro w' ⟨s0, s1, s2, s3, s4, s5⟩
        go_simp
        with_reducible rfl
       rotate_left
       ·exact pt_
       refine take_ (i := 1) (N := some 38) (v := ?_) (a' := ?_) #[true, true, false, false, true, false, false, false, false, false, false, false, false, false, false, false, false, false, false, false, false, false, false, false, false, false, false, false, false, false, false, false, false, false, false, false, false, false, false, false, false] rfl rfl (take_ofW HT_.out HW_.out (by kernel_rfl)) (fun _ _ _ h => h) (Or.inl ⟨by rfl, ?_⟩) hHeld ?_ ?_
       rotate_left
       ·rintro w' ⟨s0, s1, s2, s3, s4, s5⟩
        go_simp
        with_reducible rfl
       rotate_left
       ·exact pt_
       refine one_ (i := 2) (N := some 39) #[true, true, true, false, true, false, false, false, false, false, false, false, false, false, false, false, false, false, false, false, false, false, false, false, false, false, false, false, false, false, false, false, false, false, false, false, false, false, false, false, false] rfl rfl (one_of HT_.out (by kernel_rfl)) (by decide) (fun K hK => ?_)
       refine gs_ Try.func28 #[.agg #[.bool a0_0, .slice A0_1 l0_1.length c0_1], .agg #[.bool a1_0, .slice A1_1 l1_1.length c1_1]] ?_
       with_reducible refine (whole_Sub.calls kj4 a0_0 _ _ l0_1 a1_0 _ _ l1_1 t489 t490 _ ?side1 ?side2 ?side3 ?side4 A30.out).mono ?_
       (case side1 => exact kc_ (Kd.V_reads' HO_484001.out).2.2)
       (case side2 => exact (Kd.V_reads' HO_484001.out).2.1)
       (case side3 => exact kc_ (Kd.V_reads' HO_485001.out).2.2)
       (case side4 => exact (Kd.V_reads' HO_485001.out).2.1)
       rintro e w51 ⟨v491, rfl, ho0, hb⟩
       refine ⟨_, rfl, ?_⟩
       have n0_ := Aside0.mk (Kd.V_elder' (by (with_reducible repeat (first | apply Kd.V_alloc | apply Kd.V_drewN | apply Kd.V_drew)); exact HO_484001.out) (Kd.R_base ho0) hb)
       have n1_ := Aside0.mk (Kd.V_elder' (by (with_reducible repeat (first | apply Kd.V_alloc | apply Kd.V_drewN | apply Kd.V_drew)); exact HO_485001.out) (Kd.R_base ho0) hb)
       have n2_ := Aside0.mk (Kd.V_elder' (by (with_reducible repeat (first | apply Kd.V_alloc | apply Kd.V_drewN | apply Kd.V_drew)); exact HO_486001.out) (Kd.R_base ho0) hb)
       have n3_ := Aside0.mk (Kd.R_lower (Kd.R_newM (M := fun k_ => (w.heap.size ≤ k_)) ho0 (below_size (bw_ HB.out)) (fun k_ h_ => h_)) (below_size (bw_ HB.out)))
       have n4_ := kq_ BK483 hb
       have n5_ := kq_ BK484 hb
       have n6_ := kq_ BK485 hb
       have n7_ := bq_ HB hb
       clear HO_484001
       clear HO_485001
       clear HO_486001
       clear BK483
       clear BK484
       clear BK485
       clear HB
       have HO_484001 := n0_
       have HO_485001 := n1_
       have HO_486001 := n2_
       have HO492 := n3_
       have BK483 := n4_
       have BK484 := n5_
       have BK485 := n6_
       have HB := n7_
       clear n0_ n1_ n2_ n3_ n4_ n5_ n6_ n7_
       (try clear hb)
       (try clear hb2)
       (try clear hk)
       (try clear hi)
       (try clear ho0)
       obtain ⟨Ao52, co52, eo52⟩ := Kd.R_slice HO492.out
       (first | subst eo52 | (injection eo52 with f1_ f2_ f3_; have f4_ := f1_.symm; have f5_ := f3_.symm; clear f1_ f2_ f3_; subst f4_; subst f5_))
       refine hK.out _ _ ⟨(blk_cell BK483.out 0).trans rfl, (blk_cell BK483.out 1).trans rfl, (blk_cell BK484.out 0).trans rfl, (blk_cell BK484.out 1).trans rfl, (blk_cell BK485.out 0).trans rfl, (blk_cell BK485.out 1).trans rfl⟩ (fun hHeld => ?_)
       clear hK K
       refine norm_ (a' := ?_) ?_ ?_
       rotate_left
       ·show Act.put _ (some 39) _ = _
        exact pt_
       refine one_ (i := 3) (N := some 40) #[true, true, true, true, true, false, false, false, false, false, false, false, false, false, false, false, false, false, false, false, false, false, false, false, false, false, false, false, false, false, false, false, false, false, false, false, false, false, false, false, false] rfl rfl (one_of HT_.out (by kernel_rfl)) (by decide) (fun K hK => ?_)
       refine gs_ Try.func24 #[.agg #[.bool t489, .slice Ao52 t490.length co52]] ?_
       with_reducible refine (whole_Sign.calls kj4 t489 _ _ t490 t493 _ ?side1 ?side2 A31.out).mono ?_
       (case side1 => exact kc_ (Kd.R_reads' HO492.out).2.2)
       (case side2 => exact (Kd.R_reads' HO492.out).2.1)
       rintro e w53 ⟨rfl, hb⟩
       refine ⟨_, rfl, ?_⟩
       have n0_ := Aside0.mk (Kd.V_below (by (with_reducible repeat (first | apply Kd.V_alloc | apply Kd.V_drewN | apply Kd.V_drew)); exact HO_484001.out) hb)
       have n1_ := Aside0.mk (Kd.V_below (by (with_reducible repeat (first | apply Kd.V_alloc | apply Kd.V_drewN | apply Kd.V_drew)); exact HO_485001.out) hb)
       have n2_ := Aside0.mk (Kd.V_below (by (with_reducible repeat (first | apply Kd.V_alloc | apply Kd.V_drewN | apply Kd.V_drew)); exact HO_486001.out) hb)
       have n3_ := Aside0.mk (Kd.R_below (kr_ HO492.out) hb)
       have n4_ := kq_ BK483 hb
       have n5_ := kq_ BK484 hb
       have n6_ := kq_ BK485 hb
       have n7_ := bq_ HB hb
       clear HO_484001
       clear HO_485001
       clear HO_486001
       clear HO492
       clear BK483
       clear BK484
       clear BK485
       clear HB
       have HO_484001 := n0_
       have HO_485001 := n1_
       have HO_486001 := n2_
       have HO492 := n3_
       have BK483 := n4_
       have BK484 := n5_
       have BK485 := n6_
       have HB := n7_
       clear n0_ n1_ n2_ n3_ n4_ n5_ n6_ n7_
       (try clear hb)
       (try clear hb2)
       (try clear hk)
       (try clear hi)
       refine hK.out _ _ ⟨(blk_cell BK483.out 0).trans rfl, (blk_cell BK483.out 1).trans rfl, (blk_cell BK484.out 0).trans rfl, (blk_cell BK484.out 1).trans rfl, (blk_cell BK485.out 0).trans rfl, (blk_cell BK485.out 1).trans rfl⟩ (fun hHeld => ?_)
       clear hK K
       refine norm_ (a' := ?_) ?_ ?_
       rotate_left
       ·show Act.put _ (some 40) _ = _
        exact pt_
       refine pure_ (i := 5) (N := some 42) (v := ?_) (a' := ?_) #[true, true, true, true, true, true, false, false, false, false, false, false, false, false, false, false, false, false, false, false, false, false, false, false, false, false, false, false, false, false, false, false, false, false, false, false, false, false, false, false, false] rfl rfl (any_of HT_.out (by kernel_rfl)) (fun _ _ _ h => h) (Or.inl ⟨by rfl, ?_⟩) ?_ ?_
       rotate_left
       ·intro w'
        go_simp
        with_reducible rfl
       rotate_left
       ·exact pt_
       refine pure_ (i := 6) (N := some 43) (v := ?_) (a' := ?_) #[true, true, true, true, true, true, true, false, false, false, false, false, false, false, false, false, false, false, false, false, false, false, false, false, false, false, false, false, false, false, false, false, false, false, false, false, false, false, false, false, false] rfl rfl (any_of HT_.out (by kernel_rfl)) (fun _ _ _ h => h) (Or.inl ⟨by rfl, ?_⟩) ?_ ?_
       rotate_left
       ·intro w'
        go_simp
        with_reducible rfl
       rotate_left
       ·exact pt_
       refine pure_ (i := 14) (N := some 51) (v := ?_) (a' := ?_) #[true, true, true, true, true, true, true, false, false, false, false, false, false, false, true, false, false, false, false, false, false, false, false, false, false, false, false, false, false, false, false, false, false, false, false, false, false, false, false, false, false] rfl rfl (any_of HT_.out (by kernel_rfl)) (fun _ _ _ h => h) (Or.inl ⟨by rfl, ?_⟩) ?_ ?_
       rotate_left
       ·intro w'
        go_simp
        with_reducible rfl
       rotate_left
       ·exact pt_
       refine take_ (i := 7) (N := some 44) (v := ?_) (a' := ?_) #[true, true, true, true, true, true, true, true, false, false, false, false, false, false, true, false, false, false, false, false, false, false, false, false, false, false, false, false, false, false, false, false, false, false, false, false, false, false, false, false, false] rfl rfl (take_ofW HT_.out HW_.out (by kernel_rfl)) (fun _ _ _ h => h) (Or.inl ⟨by rfl, ?_⟩) hHeld ?_ ?_
       rotate_left
       ·rintro w' ⟨s0, s1, s2, s3, s4, s5⟩
        go_simp
        with_reducible rfl
       rotate_left
       ·exact pt_
       refine take_ (i := 8) (N := some 45) (v := ?_) (a' := ?_) #[true, true, true, true, true, true, true, true, true, false, false, false, false, false, true, false, false, false, false, false, false, false, false, false, false, false, false, false, false, false, false, false, false, false, false, false, false, false, false, false, false] rfl rfl (take_ofW HT_.out HW_.out (by kernel_rfl)) (fun _ _ _ h => h) (Or.inl ⟨by rfl, ?_⟩) hHeld ?_ ?_
       rotate_left
       ·rintro w' ⟨s0, s1, s2, s3, s4, s5⟩
        go_simp
        with_reducible rfl
       rotate_left
       ·exact pt_
       refine take_ (i := 10) (N := some 47) (v := ?_) (a' := ?_) #[true, true, true, true, true, true, true, true, true, false, true, false, false, false, true, false, false, false, false, false, false, false, false, false, false, false, false, false, false, false, false, false, false, false, false, false, false, false, false, false, false] rfl rfl (take_ofW HT_.out HW_.out (by kernel_rfl)) (fun _ _ _ h => h) (Or.inl ⟨by rfl, ?_⟩) hHeld ?_ ?_
       rotate_left
       ·rintro w' ⟨s0, s1, s2, s3, s4, s5⟩
        go_simp
        with_reducible rfl
       rotate_left
       ·exact pt_
       refine take_ (i := 11) (N := some 48) (v := ?_) (a' := ?_) #[true, true, true, true, true, true, true, true, true, false, true, true, false, false, true, false, false, false, false, false, false, false, false, false, false, false, false, false, false, false, false, false, false, false, false, false, false, false, false, false, false] rfl rfl (take_ofW HT_.out HW_.out (by kernel_rfl)) (fun _ _ _ h => h) (Or.inl ⟨by rfl, ?_⟩) hHeld ?_ ?_
       rotate_left
       ·rintro w' ⟨s0, s1, s2, s3, s4, s5⟩
        go_simp
        with_reducible rfl
       rotate_left
       ·exact pt_
       refine one_ (i := 9) (N := some 46) #[true, true, true, true, true, true, true, true, true, true, true, true, false, false, true, false, false, false, false, false, false, false, false, false, false, false, false, false, false, false, false, false, false, false, false, false, false, false, false, false, false] rfl rfl (one_of HT_.out (by kernel_rfl)) (by decide) (fun K hK => ?_)
       refine gs_ Try.func27 #[.agg #[.bool a0_0, .slice A0_1 l0_1.length c0_1], .agg #[.bool a2_0, .slice A2_1 l2_1.length c2_1]] ?_
       with_reducible refine (whole_Add.calls kj4 a0_0 _ _ l0_1 a2_0 _ _ l2_1 t494 t495 _ ?side1 ?side2 ?side3 ?side4 A33.out).mono ?_
       (case side1 => exact kc_ (Kd.V_reads' HO_484001.out).2.2)
       (case side2 => exact (Kd.V_reads' HO_484001.out).2.1)
       (case side3 => exact kc_ (Kd.V_reads' HO_486001.out).2.2)
       (case side4 => exact (Kd.V_reads' HO_486001.out).2.1)
       rintro e w54 ⟨v496, rfl, ho0, hb⟩
       refine ⟨_, rfl, ?_⟩
       have n0_ := Aside0.mk (Kd.V_elder' (by (with_reducible repeat (first | apply Kd.V_alloc | apply Kd.V_drewN | apply Kd.V_drew)); exact HO_484001.out) (Kd.R_base ho0) hb)
       have n1_ := Aside0.mk (Kd.V_elder' (by (with_reducible repeat (first | apply Kd.V_alloc | apply Kd.V_drewN | apply Kd.V_drew)); exact HO_485001.out) (Kd.R_base ho0) hb)
       have n2_ := Aside0.mk (Kd.V_elder' (by (with_reducible repeat (first | apply Kd.V_alloc | apply Kd.V_drewN | apply Kd.V_drew)); exact HO_486001.out) (Kd.R_base ho0) hb)
       have n3_ := Aside0.mk (Kd.R_elder' (kr_ HO492.out) (Kd.R_base ho0) hb)
       have n4_ := Aside0.mk (Kd.R_lower (Kd.R_new' (Kd.R_newM (M := fun k_ => (w.heap.size ≤ k_)) ho0 (below_size (bw_ HB.out)) (fun k_ h_ => h_)) (Kd.R_lt (kr_ HO492.out))) (below_size (bw_ HB.out)))
       have n5_ := kq_ BK483 hb
       have n6_ := kq_ BK484 hb
       have n7_ := kq_ BK485 hb
       have n8_ := bq_ HB hb
       clear HO_484001
       clear HO_485001
       clear HO_486001
       clear HO492
       clear BK483
       clear BK484
       clear BK485
       clear HB
       have HO_484001 := n0_
       have HO_485001 := n1_
       have HO_486001 := n2_
       have HO492 := n3_
       have HO497 := n4_
       have BK483 := n5_
       have BK484 := n6_
       have BK485 := n7_
       have HB := n8_
       clear n0_ n1_ n2_ n3_ n4_ n5_ n6_ n7_ n8_
       (try clear hb)
       (try clear hb2)
       (try clear hk)
       (try clear hi)
       (try clear ho0)
       refine hK.out _ _ ⟨(blk_cell BK483.out 0).trans rfl, (blk_cell BK483.out 1).trans rfl, (blk_cell BK484.out 0).trans rfl, (blk_cell BK484.out 1).trans rfl, (blk_cell BK485.out 0).trans rfl, (blk_cell BK485.out 1).trans rfl⟩ (fun hHeld => ?_)
       clear hK K
       refine norm_ (a' := ?_) ?_ ?_
       rotate_left
       ·show Act.put _ (some 46) _ = _
        exact pt_
       refine one_ (i := 12) (N := some 49) #[true, true, true, true, true, true, true, true, true, true, true, true, true, false, true, false, false, false, false, false, false, false, false, false, false, false, false, false, false, false, false, false, false, false, false, false, false, false, false, false, false] rfl rfl (one_of HT_.out (by kernel_rfl)) (by decide) (fun K hK => ?_)
       refine gs_ Try.func27 #[.agg #[.bool a1_0, .slice A1_1 l1_1.length c1_1], .agg #[.bool a2_0, .slice A2_1 l2_1.length c2_1]] ?_
       with_reducible refine (whole_Add.calls kj4 a1_0 _ _ l1_1 a2_0 _ _ l2_1 t498 t499 _ ?side1 ?side2 ?side3 ?side4 A34.out).mono ?_
       (case side1 => exact kc_ (Kd.V_reads' HO_485001.out).2.2)
       (case side2 => exact (Kd.V_reads' HO_485001.out).2.1)
       (case side3 => exact kc_ (Kd.V_reads' HO_486001.out).2.2)
       (case side4 => exact (Kd.V_reads' HO_486001.out).2.1)
       rintro e w55 ⟨v500, rfl, ho0, hb⟩
       refine ⟨_, rfl, ?_⟩
       have n0_ := Aside0.mk (Kd.V_elder' (by (with_reducible repeat (first | apply Kd.V_alloc | apply Kd.V_drewN | apply Kd.V_drew)); exact HO_484001.out) (Kd.R_base ho0) hb)
       have n1_ := Aside0.mk (Kd.V_elder' (by (with_reducible repeat (first | apply Kd.V_alloc | apply Kd.V_drewN | apply Kd.V_drew)); exact HO_485001.out) (Kd.R_base ho0) hb)
       have n2_ := Aside0.mk (Kd.V_elder' (by (with_reducible repeat (first | apply Kd.V_alloc | apply Kd.V_drewN | apply Kd.V_drew)); exact HO_486001.out) (Kd.R_base ho0) hb)
       have n3_ := Aside0.mk (Kd.R_elder' (kr_ HO492.out) (Kd.R_base ho0) hb)
       have n4_ := Aside0.mk (Kd.R_elder' (kr_ HO497.out) (Kd.R_base ho0) hb)
       have n5_ := Aside0.mk (Kd.R_lower (Kd.R_new' (Kd.R_new' (Kd.R_newM (M := fun k_ => (w.heap.size ≤ k_)) ho0 (below_size (bw_ HB.out)) (fun k_ h_ => h_)) (Kd.R_lt (kr_ HO492.out))) (Kd.R_lt (kr_ HO497.out))) (below_size (bw_ HB.out)))
       have n6_ := kq_ BK483 hb
       have n7_ := kq_ BK484 hb
       have n8_ := kq_ BK485 hb
       have n9_ := bq_ HB hb
       clear HO_484001
       clear HO_485001
       clear HO_486001
       clear HO492
       clear HO497
       clear BK483
       clear BK484
       clear BK485
       clear HB
       have HO_484001 := n0_
       have HO_485001 := n1_
       have HO_486001 := n2_
       have HO492 := n3_
       have HO497 := n4_
       have HO501 := n5_
       have BK483 := n6_
       have BK484 := n7_
       have BK485 := n8_
       have HB := n9_
       clear n0_ n1_ n2_ n3_ n4_ n5_ n6_ n7_ n8_ n9_
       (try clear hb)
       (try clear hb2)
       (try clear hk)
       (try clear hi)
       (try clear ho0)
       obtain ⟨Ao56, co56, eo56⟩ := Kd.R_slice HO497.out
       (first | subst eo56 | (injection eo56 with f1_ f2_ f3_; have f4_ := f1_.symm; have f5_ := f3_.symm; clear f1_ f2_ f3_; subst f4_; subst f5_))
       obtain ⟨Ao57, co57, eo57⟩ := Kd.R_slice HO501.out
       (first | subst eo57 | (injection eo57 with f1_ f2_ f3_; have f4_ := f1_.symm; have f5_ := f3_.symm; clear f1_ f2_ f3_; subst f4_; subst f5_))
       refine hK.out _ _ ⟨(blk_cell BK483.out 0).trans rfl, (blk_cell BK483.out 1).trans rfl, (blk_cell BK484.out 0).trans rfl, (blk_cell BK484.out 1).trans rfl, (blk_cell BK485.out 0).trans rfl, (blk_cell BK485.out 1).trans rfl⟩ (fun hHeld => ?_)
       clear hK K
       refine norm_ (a' := ?_) ?_ ?_
       rotate_left
       ·show Act.put _ (some 49) _ = _
        exact pt_
       refine one_ (i := 13) (N := some 50) #[true, true, true, true, true, true, true, true, true, true, true, true, true, true, true, false, false, false, false, false, false, false, false, false, false, false, false, false, false, false, false, false, false, false, false, false, false, false, false, false, false] rfl rfl (one_of HT_.out (by kernel_rfl)) (by decide) (fun K hK => ?_)
       refine gs_ Try.func25 #[.agg #[.bool t494, .slice Ao56 t495.length co56], .agg #[.bool t498, .slice Ao57 t499.length co57]] ?_
       with_reducible refine (whole_Cmp.calls kj4 t494 _ _ t495 t498 _ _ t499 t502 _ ?side1 ?side2 ?side3 ?side4 A35.out).mono ?_
       (case side1 => exact kc_ (Kd.R_reads' HO497.out).2.2)
       (case side2 => exact (Kd.R_reads' HO497.out).2.1)
       (case side3 => exact kc_ (Kd.R_reads' HO501.out).2.2)
       (case side4 => exact (Kd.R_reads' HO501.out).2.1)
       rintro e w58 ⟨rfl, hb⟩
       refine ⟨_, rfl, ?_⟩
       have n0_ := Aside0.mk (Kd.V_below (by (with_reducible repeat (first | apply Kd.V_alloc | apply Kd.V_drewN | apply Kd.V_drew)); exact HO_484001.out) hb)
       have n1_ := Aside0.mk (Kd.V_below (by (with_reducible repeat (first | apply Kd.V_alloc | apply Kd.V_drewN | apply Kd.V_drew)); exact HO_485001.out) hb)
       have n2_ := Aside0.mk (Kd.V_below (by (with_reducible repeat (first | apply Kd.V_alloc | apply Kd.V_drewN | apply Kd.V_drew)); exact HO_486001.out) hb)
       have n3_ := Aside0.mk (Kd.R_below (kr_ HO492.out) hb)
       have n4_ := Aside0.mk (Kd.R_below (kr_ HO497.out) hb)
       have n5_ := Aside0.mk (Kd.R_below (kr_ HO501.out) hb)
       have n6_ := kq_ BK483 hb
       have n7_ := kq_ BK484 hb
       have n8_ := kq_ BK485 hb
       have n9_ := bq_ HB hb
       clear HO_484001
       clear HO_485001
       clear HO_486001
       clear HO492
       clear HO497
       clear HO501
       clear BK483
       clear BK484
       clear BK485
       clear HB
       have HO_484001 := n0_
       have HO_485001 := n1_
       have HO_486001 := n2_
       have HO492 := n3_
       have HO497 := n4_
       have HO501 := n5_
       have BK483 := n6_
       have BK484 := n7_
       have BK485 := n8_
       have HB := n9_
       clear n0_ n1_ n2_ n3_ n4_ n5_ n6_ n7_ n8_ n9_
       (try clear hb)
       (try clear hb2)
       (try clear hk)
       (try clear hi)
       refine hK.out _ _ ⟨(blk_cell BK483.out 0).trans rfl, (blk_cell BK483.out 1).trans rfl, (blk_cell BK484.out 0).trans rfl, (blk_cell BK484.out 1).trans rfl, (blk_cell BK485.out 0).trans rfl, (blk_cell BK485.out 1).trans rfl⟩ (fun hHeld => ?_)
       clear hK K
       refine norm_ (a' := ?_) ?_ ?_
       rotate_left
       ·show Act.put _ (some 50) _ = _
        exact pt_
       refine pure_ (i := 15) (N := some 52) (v := ?_) (a' := ?_) #[true, true, true, true, true, true, true, true, true, true, true, true, true, true, true, true, false, false, false, false, false, false, false, false, false, false, false, false, false, false, false, false, false, false, false, false, false, false, false, false, false] rfl rfl (any_of HT_.out (by kernel_rfl)) (fun _ _ _ h => h) (Or.inl ⟨by rfl, ?_⟩) ?_ ?_
       rotate_left
       ·intro w'
        go_simp
        with_reducible rfl
       rotate_left
       ·exact pt_
       refine pure_ (i := 16) (N := some 53) (v := ?_) (a' := ?_) #[true, true, true, true, true, true, true, true, true, true, true, true, true, true, true, true, true, false, false, false, false, false, false, false, false, false, false, false, false, false, false, false, false, false, false, false, false, false, false, false, false] rfl rfl (any_of HT_.out (by kernel_rfl)) (fun _ _ _ h => h) (Or.inl ⟨by rfl, ?_⟩) ?_ ?_
       rotate_left
       ·intro w'
        go_simp
        with_reducible rfl
       rotate_left
       ·exact pt_
       refine pure_ (i := 17) (N := some 54) (v := ?_) (a' := ?_) #[true, true, true, true, true, true, true, true, true, true, true, true, true, true, true, true, true, true, false, false, false, false, false, false, false, false, false, false, false, false, false, false, false, false, false, false, false, false, false, false, false] rfl rfl (any_of HT_.out (by kernel_rfl)) (fun _ _ _ h => h) (Or.inl ⟨by rfl, ?_⟩) ?_ ?_
       rotate_left
       ·intro w'
        go_simp
        with_reducible rfl
       rotate_left
       ·exact pt_
       refine pure_ (i := 27) (N := some 64) (v := ?_) (a' := ?_) #[true, true, true, true, true, true, true, true, true, true, true, true, true, true, true, true, true, true, false, false, false, false, false, false, false, false, false, true, false, false, false, false, false, false, false, false, false, false, false, false, false] rfl rfl (any_of HT_.out (by kernel_rfl)) (fun _ _ _ h => h) (Or.inl ⟨by rfl, ?_⟩) ?_ ?_
       rotate_left
       ·intro w'
        go_simp
        with_reducible rfl
       rotate_left
       ·exact pt_
       refine pure_ (i := 28) (N := some 65) (v := ?_) (a' := ?_) #[true, true, true, true, true, true, true, true, true, true, true, true, true, true, true, true, true, true, false, false, false, false, false, false, false, false, false, true, true, false, false, false, false, false, false, false, false, false, false, false, false] rfl rfl (any_of HT_.out (by kernel_rfl)) (fun _ _ _ h => h) (Or.inl ⟨by rfl, ?_⟩) ?_ ?_
       rotate_left
       ·intro w'
        go_simp
        with_reducible rfl
       rotate_left
       ·exact pt_
       refine pure_ (i := 29) (N := some 66) (v := ?_) (a' := ?_) #[true, true, true, true, true, true, true, true, true, true, true, true, true, true, true, true, true, true, false, false, false, false, false, false, false, false, false, true, true, true, false, false, false, false, false, false, false, false, false, false, false] rfl rfl (any_of HT_.out (by kernel_rfl)) (fun _ _ _ h => h) (Or.inl ⟨by rfl, ?_⟩) ?_ ?_
       rotate_left
       ·intro w'
        go_simp
        with_reducible rfl
       rotate_left
       ·exact pt_
       refine take_ (i := 18) (N := some 55) (v := ?_) (a' := ?_) #[true, true, true, true, true, true, true, true, true, true, true, true, true, true, true, true, true, true, true, false, false, false, false, false, false, false, false, true, true, true, false, false, false, false, false, false, false, false, false, false, false] rfl rfl (take_ofW HT_.out HW_.out (by kernel_rfl)) (fun _ _ _ h => h) (Or.inl ⟨by rfl, ?_⟩) hHeld ?_ ?_
       rotate_left
       ·rintro w' ⟨s0, s1, s2, s3, s4, s5⟩
        go_simp
        with_reducible rfl
       rotate_left
       ·exact pt_
       refine take_ (i := 19) (N := some 56) (v := ?_) (a' := ?_) #[true, true, true, true, true, true, true, true, true, true, true, true, true, true, true, true, true, true, true, true, false, false, false, false, false, false, false, true, true, true, false, false, false, false, false, false, false, false, false, false, false] rfl rfl (take_ofW HT_.out HW_.out (by kernel_rfl)) (fun _ _ _ h => h) (Or.inl ⟨by rfl, ?_⟩) hHeld ?_ ?_
       rotate_left
       ·rintro w' ⟨s0, s1, s2, s3, s4, s5⟩
        go_simp
        with_reducible rfl
       rotate_left
       ·exact pt_
       refine take_ (i := 22) (N := some 59) (v := ?_) (a' := ?_) #[true, true, true, true, true, true, true, true, true, true, true, true, true, true, true, true, true, true, true, true, false, false, true, false, false, false, false, true, true, true, false, false, false, false, false, false, false, false, false, false, false] rfl rfl (take_ofW HT_.out HW_.out (by kernel_rfl)) (fun _ _ _ h => h) (Or.inl ⟨by rfl, ?_⟩) hHeld ?_ ?_
       rotate_left
       ·rintro w' ⟨s0, s1, s2, s3, s4, s5⟩
        go_simp
        with_reducible rfl
       rotate_left
       ·exact pt_
       refine take_ (i := 23) (N := some 60) (v := ?_) (a' := ?_) #[true, true, true, true, true, true, true, true, true, true, true, true, true, true, true, true, true, true, true, true, false, false, true, true, false, false, false, true, true, true, false, false, false, false, false, false, false, false, false, false, false] rfl rfl (take_ofW HT_.out HW_.out (by kernel_rfl)) (fun _ _ _ h => h) (Or.inl ⟨by rfl, ?_⟩) hHeld ?_ ?_
       rotate_left
       ·rintro w' ⟨s0, s1, s2, s3, s4, s5⟩
        go_simp
        with_reducible rfl
       rotate_left
       ·exact pt_
       refine join_ (σ := Value × Value × Value) 13 #[true, true, true, true, true, true, true, true, true, true, true, true, true, true, true, true, true, true, true, true, true, true, true, true, true, false, false, true, true, true, false, false, false, false, false, false, false, false, false, false, false] (fun s_ => [(57, s_.1), (58, .agg #[.bool t506, s_.2.1]), (61, s_.2.2)]) (fun s_ w' => (w'.cell? ⟨gb483, 0, none⟩ = some (.bool a0_0) ∧ w'.cell? ⟨gb483, 1, none⟩ = some (.slice A0_1 l0_1.length c0_1) ∧ w'.cell? ⟨gb484, 0, none⟩ = some (.bool a1_0) ∧ w'.cell? ⟨gb484, 1, none⟩ = some (.slice A1_1 l1_1.length c1_1) ∧ w'.cell? ⟨gb485, 0, none⟩ = some (.bool a2_0) ∧ w'.cell? ⟨gb485, 1, none⟩ = some (.slice A2_1 l2_1.length c2_1)) ∧ (Kd.R (Kd.int .u32) 47 w' w.heap.size (fun k_ => (w.heap.size ≤ k_) ∧ some k_ ≠ (.slice Ao56 t495.length co56 : Value).ownBlock ∧ some k_ ≠ (.slice Ao57 t499.length co57 : Value).ownBlock ∧ some k_ ≠ (s_.2.1 : Value).ownBlock) (.slice Ao52 t490.length co52) t490) ∧ (Kd.R (Kd.int .u32) 47 w' w.heap.size (fun k_ => (w.heap.size ≤ k_) ∧ some k_ ≠ (.slice Ao52 t490.length co52 : Value).ownBlock ∧ some k_ ≠ (.slice Ao57 t499.length co57 : Value).ownBlock ∧ some k_ ≠ (s_.2.1 : Value).ownBlock) (.slice Ao56 t495.length co56) t495) ∧ (Kd.R (Kd.int .u32) 47 w' w.heap.size (fun k_ => (w.heap.size ≤ k_) ∧ some k_ ≠ (.slice Ao52 t490.length co52 : Value).ownBlock ∧ some k_ ≠ (.slice Ao56 t495.length co56 : Value).ownBlock ∧ some k_ ≠ (s_.2.1 : Value).ownBlock) (.slice Ao57 t499.length co57) t499) ∧ (Kd.N k24 24 w' w.heap.size (fun k_ => ((P0_1_ k_ ∨ P1_1_ k_ ∨ P2_1_ k_) ∨ w.heap.size ≤ k_) ∧ some k_ ≠ (.slice Ao52 t490.length co52 : Value).ownBlock ∧ some k_ ≠ (.slice Ao56 t495.length co56 : Value).ownBlock ∧ some k_ ≠ (.slice Ao57 t499.length co57 : Value).ownBlock ∧ some k_ ≠ (s_.2.1 : Value).ownBlock ∧ some k_ ≠ (s_.2.2 : Value).ownBlock ∧ k_ ≠ gb483 ∧ k_ ≠ gb484 ∧ k_ ≠ gb485) s_.1 y503) ∧ (Kd.R (Kd.int .u32) 47 w' w.heap.size (fun k_ => (w.heap.size ≤ k_) ∧ some k_ ≠ (.slice Ao52 t490.length co52 : Value).ownBlock ∧ some k_ ≠ (.slice Ao56 t495.length co56 : Value).ownBlock ∧ some k_ ≠ (.slice Ao57 t499.length co57 : Value).ownBlock) s_.2.1 t507) ∧ (Kd.N k24 24 w' w.heap.size (fun k_ => ((P0_1_ k_ ∨ P1_1_ k_ ∨ P2_1_ k_) ∨ w.heap.size ≤ k_) ∧ some k_ ≠ (.slice Ao52 t490.length co52 : Value).ownBlock ∧ some k_ ≠ (.slice Ao56 t495.length co56 : Value).ownBlock ∧ some k_ ≠ (.slice Ao57 t499.length co57 : Value).ownBlock ∧ some k_ ≠ (s_.1 : Value).ownBlock ∧ some k_ ≠ (s_.2.1 : Value).ownBlock ∧ k_ ≠ gb483 ∧ k_ ≠ gb484 ∧ k_ ≠ gb485) s_.2.2 y510) ∧ (Kd.V (Kd.int .u32) 47 w' w.heap.size (fun k_ => ((P0_1_ k_ ∨ P1_1_ k_ ∨ P2_1_ k_) ∨ w.heap.size ≤ k_) ∧ some k_ ≠ (.slice Ao52 t490.length co52 : Value).ownBlock ∧ some k_ ≠ (.slice Ao56 t495.length co56 : Value).ownBlock ∧ some k_ ≠ (.slice Ao57 t499.length co57 : Value).ownBlock ∧ some k_ ≠ (s_.1 : Value).ownBlock ∧ some k_ ≠ (s_.2.1 : Value).ownBlock ∧ some k_ ≠ (s_.2.2 : Value).ownBlock ∧ k_ ≠ gb483 ∧ k_ ≠ gb484 ∧ k_ ≠ gb485) (.slice A0_1 l0_1.length c0_1) l0_1) ∧ (Kd.V (Kd.int .u32) 47 w' w.heap.size (fun k_ => ((P0_1_ k_ ∨ P1_1_ k_ ∨ P2_1_ k_) ∨ w.heap.size ≤ k_) ∧ some k_ ≠ (.slice Ao52 t490.length co52 : Value).ownBlock ∧ some k_ ≠ (.slice Ao56 t495.length co56 : Value).ownBlock ∧ some k_ ≠ (.slice Ao57 t499.length co57 : Value).ownBlock ∧ some k_ ≠ (s_.1 : Value).ownBlock ∧ some k_ ≠ (s_.2.1 : Value).ownBlock ∧ some k_ ≠ (s_.2.2 : Value).ownBlock ∧ k_ ≠ gb483 ∧ k_ ≠ gb484 ∧ k_ ≠ gb485) (.slice A1_1 l1_1.length c1_1) l1_1) ∧ (Kd.V (Kd.int .u32) 47 w' w.heap.size (fun k_ => ((P0_1_ k_ ∨ P1_1_ k_ ∨ P2_1_ k_) ∨ w.heap.size ≤ k_) ∧ some k_ ≠ (.slice Ao52 t490.length co52 : Value).ownBlock ∧ some k_ ≠ (.slice Ao56 t495.length co56 : Value).ownBlock ∧ some k_ ≠ (.slice Ao57 t499.length co57 : Value).ownBlock ∧ some k_ ≠ (s_.1 : Value).ownBlock ∧ some k_ ≠ (s_.2.1 : Value).ownBlock ∧ some k_ ≠ (s_.2.2 : Value).ownBlock ∧ k_ ≠ gb483 ∧ k_ ≠ gb484 ∧ k_ ≠ gb485) (.slice A2_1 l2_1.length c2_1) l2_1) ∧ (w'.heap[gb483]? = some (.cells #[.bool a0_0, .slice A0_1 l0_1.length c0_1] 24 (0, 0))) ∧ (w'.heap[gb484]? = some (.cells #[.bool a1_0, .slice A1_1 l1_1.length c1_1] 24 (0, 0))) ∧ (w'.heap[gb485]? = some (.cells #[.bool a2_0, .slice A2_1 l2_1.length c2_1] 24 (0, 0))) ∧ (Below w.heap.size w w')) ?_ ?_
       rotate_left
       ·intro hCont
        refine two_ (i := 20) (j := 24) (Ni := some 57) (Nj := some 61) #[true, true, true, true, true, true, true, true, true, true, true, true, true, true, true, true, true, true, true, true, true, false, true, true, false, false, false, true, true, true, false, false, false, false, false, false, false, false, false, false, false] #[true, true, true, true, true, true, true, true, true, true, true, true, true, true, true, true, true, true, true, true, false, false, true, true, true, false, false, true, true, true, false, false, false, false, false, false, false, false, false, false, false] rfl rfl rfl rfl (two_of HT_.out (by kernel_rfl)) (by decide) (by decide) (fun K hK => ?_) (fun K hK => ?_)
        ·skip
         refine Kd.N_lit_step k24 _ 24 ?hg (N' := 57) ?hd (xs := ([(⟨a0_0, l0_1⟩ : S24), (⟨a2_0, l2_1⟩ : S24)] : List (S24))) (inner := [.bool a0_0, .slice A0_1 l0_1.length c0_1, .bool a2_0, .slice A2_1 l2_1.length c2_1]) (ok := (fun k_ => ((P0_1_ k_ ∨ P1_1_ k_ ∨ P2_1_ k_) ∨ w.heap.size ≤ k_) ∧ some k_ ≠ (.slice Ao52 t490.length co52 : Value).ownBlock ∧ some k_ ≠ (.slice Ao56 t495.length co56 : Value).ownBlock ∧ some k_ ≠ (.slice Ao57 t499.length co57 : Value).ownBlock ∧ k_ ≠ gb483 ∧ k_ ≠ gb484 ∧ k_ ≠ gb485)) (okp := (fun k_ => ((P0_1_ k_ ∨ P1_1_ k_ ∨ P2_1_ k_) ∨ w.heap.size ≤ k_) ∧ some k_ ≠ (.slice Ao52 t490.length co52 : Value).ownBlock ∧ some k_ ≠ (.slice Ao56 t495.length co56 : Value).ownBlock ∧ some k_ ≠ (.slice Ao57 t499.length co57 : Value).ownBlock ∧ k_ ≠ gb483 ∧ k_ ≠ gb484 ∧ k_ ≠ gb485)) ?hr ?hp (fun _ hk => hk) ((show ∀ k_, w58.heap.size ≤ k_ → (fun k_ => ((P0_1_ k_ ∨ P1_1_ k_ ∨ P2_1_ k_) ∨ w.heap.size ≤ k_) ∧ some k_ ≠ (.slice Ao52 t490.length co52 : Value).ownBlock ∧ some k_ ≠ (.slice Ao56 t495.length co56 : Value).ownBlock ∧ some k_ ≠ (.slice Ao57 t499.length co57 : Value).ownBlock ∧ k_ ≠ gb483 ∧ k_ ≠ gb484 ∧ k_ ≠ gb485) k_ from fun k_ hk => ⟨(.inr (Nat.le_trans (below_size (bw_ HB.out)) hk)), Kd.fresh' (Kd.R_lt (kr_ HO492.out)) k_ hk, Kd.fresh' (Kd.R_lt (kr_ HO497.out)) k_ hk, Kd.fresh' (Kd.R_lt (kr_ HO501.out)) k_ hk, Kd.freshB (g := gb483) (o := .cells #[.bool a0_0, .slice A0_1 l0_1.length c0_1] 24 (0, 0)) (kb_ BK483.out) k_ hk, Kd.freshB (g := gb484) (o := .cells #[.bool a1_0, .slice A1_1 l1_1.length c1_1] 24 (0, 0)) (kb_ BK484.out) k_ hk, Kd.freshB (g := gb485) (o := .cells #[.bool a2_0, .slice A2_1 l2_1.length c2_1] 24 (0, 0)) (kb_ BK485.out) k_ hk⟩) _ (Nat.le_refl _)) (Below.refl _ _) (Nat.le_refl _) (by simp) ?_; (case hd => rfl); (case hg => rfl); (case hr => first | (go_simp; done) | (go_simp; rfl)); (case hp => exact (Reps.c2 (show Kd.FK k24 _ _ (⟨a0_0, l0_1⟩ : S24) [.bool a0_0, .slice A0_1 l0_1.length c0_1] from (k24_mkF _ _ (⟨a0_0, l0_1⟩ : S24) (Kd.V_reads' (Kd.V_mono (ok' := (fun k_ => ((P0_1_ k_ ∨ P1_1_ k_ ∨ P2_1_ k_) ∨ w.heap.size ≤ k_) ∧ some k_ ≠ (.slice Ao52 t490.length co52 : Value).ownBlock ∧ some k_ ≠ (.slice Ao56 t495.length co56 : Value).ownBlock ∧ some k_ ≠ (.slice Ao57 t499.length co57 : Value).ownBlock ∧ k_ ≠ gb483 ∧ k_ ≠ gb484 ∧ k_ ≠ gb485)) (HO_484001.out) (fun k_ hk => ⟨hk.1.1.1.1, ⟨hk.1.1.2, ⟨hk.1.2, ⟨hk.2, ⟨hk.1.1.1.2.1, ⟨hk.1.1.1.2.2.1, hk.1.1.1.2.2.2⟩⟩⟩⟩⟩⟩))).2.1 (Kd.V_F (Kd.V_mono (ok' := (fun k_ => ((P0_1_ k_ ∨ P1_1_ k_ ∨ P2_1_ k_) ∨ w.heap.size ≤ k_) ∧ some k_ ≠ (.slice Ao52 t490.length co52 : Value).ownBlock ∧ some k_ ≠ (.slice Ao56 t495.length co56 : Value).ownBlock ∧ some k_ ≠ (.slice Ao57 t499.length co57 : Value).ownBlock ∧ k_ ≠ gb483 ∧ k_ ≠ gb484 ∧ k_ ≠ gb485)) (HO_484001.out) (fun k_ hk => ⟨hk.1.1.1.1, ⟨hk.1.1.2, ⟨hk.1.2, ⟨hk.2, ⟨hk.1.1.1.2.1, ⟨hk.1.1.1.2.2.1, hk.1.1.1.2.2.2⟩⟩⟩⟩⟩⟩))))) (Reps.c2 (show Kd.FK k24 _ _ (⟨a2_0, l2_1⟩ : S24) [.bool a2_0, .slice A2_1 l2_1.length c2_1] from (k24_mkF _ _ (⟨a2_0, l2_1⟩ : S24) (Kd.V_reads' (Kd.V_mono (ok' := (fun k_ => ((P0_1_ k_ ∨ P1_1_ k_ ∨ P2_1_ k_) ∨ w.heap.size ≤ k_) ∧ some k_ ≠ (.slice Ao52 t490.length co52 : Value).ownBlock ∧ some k_ ≠ (.slice Ao56 t495.length co56 : Value).ownBlock ∧ some k_ ≠ (.slice Ao57 t499.length co57 : Value).ownBlock ∧ k_ ≠ gb483 ∧ k_ ≠ gb484 ∧ k_ ≠ gb485)) (HO_486001.out) (fun k_ hk => ⟨hk.1.1.1.1, ⟨hk.1.1.2, ⟨hk.1.2, ⟨hk.2, ⟨hk.1.1.1.2.1, ⟨hk.1.1.1.2.2.1, hk.1.1.1.2.2.2⟩⟩⟩⟩⟩⟩))).2.1 (Kd.V_F (Kd.V_mono (ok' := (fun k_ => ((P0_1_ k_ ∨ P1_1_ k_ ∨ P2_1_ k_) ∨ w.heap.size ≤ k_) ∧ some k_ ≠ (.slice Ao52 t490.length co52 : Value).ownBlock ∧ some k_ ≠ (.slice Ao56 t495.length co56 : Value).ownBlock ∧ some k_ ≠ (.slice Ao57 t499.length co57 : Value).ownBlock ∧ k_ ≠ gb483 ∧ k_ ≠ gb484 ∧ k_ ≠ gb485)) (HO_486001.out) (fun k_ hk => ⟨hk.1.1.1.1, ⟨hk.1.1.2, ⟨hk.1.2, ⟨hk.2, ⟨hk.1.1.1.2.1, ⟨hk.1.1.1.2.2.1, hk.1.1.1.2.2.2⟩⟩⟩⟩⟩⟩))))) (Reps.none _ _))))
         intro v504 w59 ho60 hb hg_ hnew_
         clear hg_ hnew_
         (first | rw [← Ny503.out] at ho60 | (simp only [Int.reduceToNat] at ho60; rw [← Ny503.out] at ho60))
         have n0_ := Aside0.mk (Kd.V_elder' (by (with_reducible repeat (first | apply Kd.V_alloc | apply Kd.V_drewN | apply Kd.V_drew)); exact HO_484001.out) (Kd.N_base ho60) hb)
         have n1_ := Aside0.mk (Kd.V_elder' (by (with_reducible repeat (first | apply Kd.V_alloc | apply Kd.V_drewN | apply Kd.V_drew)); exact HO_485001.out) (Kd.N_base ho60) hb)
         have n2_ := Aside0.mk (Kd.V_elder' (by (with_reducible repeat (first | apply Kd.V_alloc | apply Kd.V_drewN | apply Kd.V_drew)); exact HO_486001.out) (Kd.N_base ho60) hb)
         have n3_ := Aside0.mk (Kd.R_below (kr_ HO492.out) hb)
         have n4_ := Aside0.mk (Kd.R_below (kr_ HO497.out) hb)
         have n5_ := Aside0.mk (Kd.R_below (kr_ HO501.out) hb)
         have n6_ := Aside0.mk (Kd.N_lower ho60 (below_size (bw_ HB.out)))
         have n7_ := kq_ BK483 hb
         have n8_ := kq_ BK484 hb
         have n9_ := kq_ BK485 hb
         have n10_ := bq_ HB hb
         clear HO_484001
         clear HO_485001
         clear HO_486001
         clear HO492
         clear HO497
         clear HO501
         clear BK483
         clear BK484
         clear BK485
         clear HB
         have HO_484001 := n0_
         have HO_485001 := n1_
         have HO_486001 := n2_
         have HO492 := n3_
         have HO497 := n4_
         have HO501 := n5_
         have HO505 := n6_
         have BK483 := n7_
         have BK484 := n8_
         have BK485 := n9_
         have HB := n10_
         clear n0_ n1_ n2_ n3_ n4_ n5_ n6_ n7_ n8_ n9_ n10_
         clear hb ho60
         obtain ⟨Ao61, co61, eo61⟩ := Kd.N_slice HO505.out
         (first | subst eo61 | (injection eo61 with f1_ f2_ f3_; have f4_ := f1_.symm; have f5_ := f3_.symm; clear f1_ f2_ f3_; subst f4_; subst f5_))
         refine hK.out _ _ ⟨(blk_cell BK483.out 0).trans rfl, (blk_cell BK483.out 1).trans rfl, (blk_cell BK484.out 0).trans rfl, (blk_cell BK484.out 1).trans rfl, (blk_cell BK485.out 0).trans rfl, (blk_cell BK485.out 1).trans rfl⟩ (fun hHeld => ?_)
         clear hK K
         refine norm_ (a' := ?_) ?_ ?_
         rotate_left
         ·show Act.put _ (some 57) _ = _
          exact pt_
         refine two_ (i := 21) (j := 24) (Ni := some 58) (Nj := some 61) #[true, true, true, true, true, true, true, true, true, true, true, true, true, true, true, true, true, true, true, true, true, true, true, true, false, false, false, true, true, true, false, false, false, false, false, false, false, false, false, false, false] #[true, true, true, true, true, true, true, true, true, true, true, true, true, true, true, true, true, true, true, true, true, false, true, true, true, false, false, true, true, true, false, false, false, false, false, false, false, false, false, false, false] rfl rfl rfl rfl (two_of HT_.out (by kernel_rfl)) (by decide) (by decide) (fun K hK => ?_) (fun K hK => ?_)
         ·skip
          refine gs_ Try.func14 #[.slice Ao61 y503.length co61] ?_
          with_reducible refine (whole_Mul.calls kj4 _ _ y503 t506 t507 _ ?side1 ?side2 A37.out).mono ?_
          (case side1 => exact kc_ (Kd.N_reads' HO505.out).2.2)
          (case side2 => exact (Kd.N_reads' HO505.out).2.1)
          rintro e w62 ⟨v508, rfl, ho0, hb⟩
          refine ⟨_, rfl, ?_⟩
          have n0_ := Aside0.mk (Kd.V_elder' (by (with_reducible repeat (first | apply Kd.V_alloc | apply Kd.V_drewN | apply Kd.V_drew)); exact HO_484001.out) (Kd.R_base ho0) hb)
          have n1_ := Aside0.mk (Kd.V_elder' (by (with_reducible repeat (first | apply Kd.V_alloc | apply Kd.V_drewN | apply Kd.V_drew)); exact HO_485001.out) (Kd.R_base ho0) hb)
          have n2_ := Aside0.mk (Kd.V_elder' (by (with_reducible repeat (first | apply Kd.V_alloc | apply Kd.V_drewN | apply Kd.V_drew)); exact HO_486001.out) (Kd.R_base ho0) hb)
          have n3_ := Aside0.mk (Kd.R_elder' (kr_ HO492.out) (Kd.R_base ho0) hb)
          have n4_ := Aside0.mk (Kd.R_elder' (kr_ HO497.out) (Kd.R_base ho0) hb)
          have n5_ := Aside0.mk (Kd.R_elder' (kr_ HO501.out) (Kd.R_base ho0) hb)
          have n6_ := Aside0.mk (Kd.N_elder' (by (with_reducible repeat (first | apply Kd.N_alloc | apply Kd.N_drewN | apply Kd.N_drew)); exact HO505.out) (Kd.R_base ho0) hb)
          have n7_ := Aside0.mk (Kd.R_lower (Kd.R_new' (Kd.R_new' (Kd.R_new' (Kd.R_newM (M := fun k_ => (w.heap.size ≤ k_)) ho0 (below_size (bw_ HB.out)) (fun k_ h_ => h_)) (Kd.R_lt (kr_ HO492.out))) (Kd.R_lt (kr_ HO497.out))) (Kd.R_lt (kr_ HO501.out))) (below_size (bw_ HB.out)))
          have n8_ := kq_ BK483 hb
          have n9_ := kq_ BK484 hb
          have n10_ := kq_ BK485 hb
          have n11_ := bq_ HB hb
          clear HO_484001
          clear HO_485001
          clear HO_486001
          clear HO492
          clear HO497
          clear HO501
          clear HO505
          clear BK483
          clear BK484
          clear BK485
          clear HB
          have HO_484001 := n0_
          have HO_485001 := n1_
          have HO_486001 := n2_
          have HO492 := n3_
          have HO497 := n4_
          have HO501 := n5_
          have HO505 := n6_
          have HO509 := n7_
          have BK483 := n8_
          have BK484 := n9_
          have BK485 := n10_
          have HB := n11_
          clear n0_ n1_ n2_ n3_ n4_ n5_ n6_ n7_ n8_ n9_ n10_ n11_
          (try clear hb)
          (try clear hb2)
          (try clear hk)
          (try clear hi)
          (try clear ho0)
          refine hK.out _ _ ⟨(blk_cell BK483.out 0).trans rfl, (blk_cell BK483.out 1).trans rfl, (blk_cell BK484.out 0).trans rfl, (blk_cell BK484.out 1).trans rfl, (blk_cell BK485.out 0).trans rfl, (blk_cell BK485.out 1).trans rfl⟩ (fun hHeld => ?_)
          clear hK K
          refine norm_ (a' := ?_) ?_ ?_
          rotate_left
          ·show Act.put _ (some 58) _ = _
           exact pt_
          refine one_ (i := 24) (N := some 61) #[true, true, true, true, true, true, true, true, true, true, true, true, true, true, true, true, true, true, true, true, true, true, true, true, true, false, false, true, true, true, false, false, false, false, false, false, false, false, false, false, false] rfl rfl (one_of HT_.out (by kernel_rfl)) (by decide) (fun K hK => ?_)
          refine Kd.N_lit_step k24 _ 24 ?hg (N' := 61) ?hd (xs := ([(⟨a1_0, l1_1⟩ : S24), (⟨a2_0, l2_1⟩ : S24)] : List (S24))) (inner := [.bool a1_0, .slice A1_1 l1_1.length c1_1, .bool a2_0, .slice A2_1 l2_1.length c2_1]) (ok := (fun k_ => ((P0_1_ k_ ∨ P1_1_ k_ ∨ P2_1_ k_) ∨ w.heap.size ≤ k_) ∧ some k_ ≠ (.slice Ao52 t490.length co52 : Value).ownBlock ∧ some k_ ≠ (.slice Ao56 t495.length co56 : Value).ownBlock ∧ some k_ ≠ (.slice Ao57 t499.length co57 : Value).ownBlock ∧ some k_ ≠ (.slice Ao61 y503.length co61 : Value).ownBlock ∧ some k_ ≠ (v508 : Value).ownBlock ∧ k_ ≠ gb483 ∧ k_ ≠ gb484 ∧ k_ ≠ gb485)) (okp := (fun k_ => ((P0_1_ k_ ∨ P1_1_ k_ ∨ P2_1_ k_) ∨ w.heap.size ≤ k_) ∧ some k_ ≠ (.slice Ao52 t490.length co52 : Value).ownBlock ∧ some k_ ≠ (.slice Ao56 t495.length co56 : Value).ownBlock ∧ some k_ ≠ (.slice Ao57 t499.length co57 : Value).ownBlock ∧ some k_ ≠ (.slice Ao61 y503.length co61 : Value).ownBlock ∧ some k_ ≠ (v508 : Value).ownBlock ∧ k_ ≠ gb483 ∧ k_ ≠ gb484 ∧ k_ ≠ gb485)) ?hr ?hp (fun _ hk => hk) ((show ∀ k_, w62.heap.size ≤ k_ → (fun k_ => ((P0_1_ k_ ∨ P1_1_ k_ ∨ P2_1_ k_) ∨ w.heap.size ≤ k_) ∧ some k_ ≠ (.slice Ao52 t490.length co52 : Value).ownBlock ∧ some k_ ≠ (.slice Ao56 t495.length co56 : Value).ownBlock ∧ some k_ ≠ (.slice Ao57 t499.length co57 : Value).ownBlock ∧ some k_ ≠ (.slice Ao61 y503.length co61 : Value).ownBlock ∧ some k_ ≠ (v508 : Value).ownBlock ∧ k_ ≠ gb483 ∧ k_ ≠ gb484 ∧ k_ ≠ gb485) k_ from fun k_ hk => ⟨(.inr (Nat.le_trans (below_size (bw_ HB.out)) hk)), Kd.fresh' (Kd.R_lt (kr_ HO492.out)) k_ hk, Kd.fresh' (Kd.R_lt (kr_ HO497.out)) k_ hk, Kd.fresh' (Kd.R_lt (kr_ HO501.out)) k_ hk, Kd.fresh' (Kd.N_lt (by (with_reducible repeat (first | apply Kd.N_alloc | apply Kd.N_drewN | apply Kd.N_drew)); exact HO505.out)) k_ hk, Kd.fresh' (Kd.R_lt (kr_ HO509.out)) k_ hk, Kd.freshB (g := gb483) (o := .cells #[.bool a0_0, .slice A0_1 l0_1.length c0_1] 24 (0, 0)) (kb_ BK483.out) k_ hk, Kd.freshB (g := gb484) (o := .cells #[.bool a1_0, .slice A1_1 l1_1.length c1_1] 24 (0, 0)) (kb_ BK484.out) k_ hk, Kd.freshB (g := gb485) (o := .cells #[.bool a2_0, .slice A2_1 l2_1.length c2_1] 24 (0, 0)) (kb_ BK485.out) k_ hk⟩) _ (Nat.le_refl _)) (Below.refl _ _) (Nat.le_refl _) (by simp) ?_; (case hd => rfl); (case hg => rfl); (case hr => first | (go_simp; done) | (go_simp; rfl)); (case hp => exact (Reps.c2 (show Kd.FK k24 _ _ (⟨a1_0, l1_1⟩ : S24) [.bool a1_0, .slice A1_1 l1_1.length c1_1] from (k24_mkF _ _ (⟨a1_0, l1_1⟩ : S24) (Kd.V_reads' (Kd.V_mono (ok' := (fun k_ => ((P0_1_ k_ ∨ P1_1_ k_ ∨ P2_1_ k_) ∨ w.heap.size ≤ k_) ∧ some k_ ≠ (.slice Ao52 t490.length co52 : Value).ownBlock ∧ some k_ ≠ (.slice Ao56 t495.length co56 : Value).ownBlock ∧ some k_ ≠ (.slice Ao57 t499.length co57 : Value).ownBlock ∧ some k_ ≠ (.slice Ao61 y503.length co61 : Value).ownBlock ∧ some k_ ≠ (v508 : Value).ownBlock ∧ k_ ≠ gb483 ∧ k_ ≠ gb484 ∧ k_ ≠ gb485)) (HO_485001.out) (fun k_ hk => ⟨hk.1.1.1.1.1.1, ⟨hk.1.1.1.1.2, ⟨hk.1.1.1.2, ⟨hk.1.1.2, ⟨hk.1.2, ⟨hk.2, ⟨hk.1.1.1.1.1.2.1, ⟨hk.1.1.1.1.1.2.2.1, hk.1.1.1.1.1.2.2.2⟩⟩⟩⟩⟩⟩⟩⟩))).2.1 (Kd.V_F (Kd.V_mono (ok' := (fun k_ => ((P0_1_ k_ ∨ P1_1_ k_ ∨ P2_1_ k_) ∨ w.heap.size ≤ k_) ∧ some k_ ≠ (.slice Ao52 t490.length co52 : Value).ownBlock ∧ some k_ ≠ (.slice Ao56 t495.length co56 : Value).ownBlock ∧ some k_ ≠ (.slice Ao57 t499.length co57 : Value).ownBlock ∧ some k_ ≠ (.slice Ao61 y503.length co61 : Value).ownBlock ∧ some k_ ≠ (v508 : Value).ownBlock ∧ k_ ≠ gb483 ∧ k_ ≠ gb484 ∧ k_ ≠ gb485)) (HO_485001.out) (fun k_ hk => ⟨hk.1.1.1.1.1.1, ⟨hk.1.1.1.1.2, ⟨hk.1.1.1.2, ⟨hk.1.1.2, ⟨hk.1.2, ⟨hk.2, ⟨hk.1.1.1.1.1.2.1, ⟨hk.1.1.1.1.1.2.2.1, hk.1.1.1.1.1.2.2.2⟩⟩⟩⟩⟩⟩⟩⟩))))) (Reps.c2 (show Kd.FK k24 _ _ (⟨a2_0, l2_1⟩ : S24) [.bool a2_0, .slice A2_1 l2_1.length c2_1] from (k24_mkF _ _ (⟨a2_0, l2_1⟩ : S24) (Kd.V_reads' (Kd.V_mono (ok' := (fun k_ => ((P0_1_ k_ ∨ P1_1_ k_ ∨ P2_1_ k_) ∨ w.heap.size ≤ k_) ∧ some k_ ≠ (.slice Ao52 t490.length co52 : Value).ownBlock ∧ some k_ ≠ (.slice Ao56 t495.length co56 : Value).ownBlock ∧ some k_ ≠ (.slice Ao57 t499.length co57 : Value).ownBlock ∧ some k_ ≠ (.slice Ao61 y503.length co61 : Value).ownBlock ∧ some k_ ≠ (v508 : Value).ownBlock ∧ k_ ≠ gb483 ∧ k_ ≠ gb484 ∧ k_ ≠ gb485)) (HO_486001.out) (fun k_ hk => ⟨hk.1.1.1.1.1.1, ⟨hk.1.1.1.1.2, ⟨hk.1.1.1.2, ⟨hk.1.1.2, ⟨hk.1.2, ⟨hk.2, ⟨hk.1.1.1.1.1.2.1, ⟨hk.1.1.1.1.1.2.2.1, hk.1.1.1.1.1.2.2.2⟩⟩⟩⟩⟩⟩⟩⟩))).2.1 (Kd.V_F (Kd.V_mono (ok' := (fun k_ => ((P0_1_ k_ ∨ P1_1_ k_ ∨ P2_1_ k_) ∨ w.heap.size ≤ k_) ∧ some k_ ≠ (.slice Ao52 t490.length co52 : Value).ownBlock ∧ some k_ ≠ (.slice Ao56 t495.length co56 : Value).ownBlock ∧ some k_ ≠ (.slice Ao57 t499.length co57 : Value).ownBlock ∧ some k_ ≠ (.slice Ao61 y503.length co61 : Value).ownBlock ∧ some k_ ≠ (v508 : Value).ownBlock ∧ k_ ≠ gb483 ∧ k_ ≠ gb484 ∧ k_ ≠ gb485)) (HO_486001.out) (fun k_ hk => ⟨hk.1.1.1.1.1.1, ⟨hk.1.1.1.1.2, ⟨hk.1.1.1.2, ⟨hk.1.1.2, ⟨hk.1.2, ⟨hk.2, ⟨hk.1.1.1.1.1.2.1, ⟨hk.1.1.1.1.1.2.2.1, hk.1.1.1.1.1.2.2.2⟩⟩⟩⟩⟩⟩⟩⟩))))) (Reps.none _ _))))
          intro v511 w63 ho64 hb hg_ hnew_
          clear hg_ hnew_
          (first | rw [← Ny510.out] at ho64 | (simp only [Int.reduceToNat] at ho64; rw [← Ny510.out] at ho64))
          have n0_ := Aside0.mk (Kd.V_elder' (by (with_reducible repeat (first | apply Kd.V_alloc | apply Kd.V_drewN | apply Kd.V_drew)); exact HO_484001.out) (Kd.N_base ho64) hb)
          have n1_ := Aside0.mk (Kd.V_elder' (by (with_reducible repeat (first | apply Kd.V_alloc | apply Kd.V_drewN | apply Kd.V_drew)); exact HO_485001.out) (Kd.N_base ho64) hb)
          have n2_ := Aside0.mk (Kd.V_elder' (by (with_reducible repeat (first | apply Kd.V_alloc | apply Kd.V_drewN | apply Kd.V_drew)); exact HO_486001.out) (Kd.N_base ho64) hb)
          have n3_ := Aside0.mk (Kd.R_below (kr_ HO492.out) hb)
          have n4_ := Aside0.mk (Kd.R_below (kr_ HO497.out) hb)
          have n5_ := Aside0.mk (Kd.R_below (kr_ HO501.out) hb)
          have n6_ := Aside0.mk (Kd.N_elder' (by (with_reducible repeat (first | apply Kd.N_alloc | apply Kd.N_drewN | apply Kd.N_drew)); exact HO505.out) (Kd.N_base ho64) hb)
          have n7_ := Aside0.mk (Kd.R_below (kr_ HO509.out) hb)
          have n8_ := Aside0.mk (Kd.N_lower ho64 (below_size (bw_ HB.out)))
          have n9_ := kq_ BK483 hb
          have n10_ := kq_ BK484 hb
          have n11_ := kq_ BK485 hb
          have n12_ := bq_ HB hb
          clear HO_484001
          clear HO_485001
          clear HO_486001
          clear HO492
          clear HO497
          clear HO501
          clear HO505
          clear HO509
          clear BK483
          clear BK484
          clear BK485
          clear HB
          have HO_484001 := n0_
          have HO_485001 := n1_
          have HO_486001 := n2_
          have HO492 := n3_
          have HO497 := n4_
          have HO501 := n5_
          have HO505 := n6_
          have HO509 := n7_
          have HO512 := n8_
          have BK483 := n9_
          have BK484 := n10_
          have BK485 := n11_
          have HB := n12_
          clear n0_ n1_ n2_ n3_ n4_ n5_ n6_ n7_ n8_ n9_ n10_ n11_ n12_
          clear hb ho64
          refine hK.out _ _ ⟨(blk_cell BK483.out 0).trans rfl, (blk_cell BK483.out 1).trans rfl, (blk_cell BK484.out 0).trans rfl, (blk_cell BK484.out 1).trans rfl, (blk_cell BK485.out 0).trans rfl, (blk_cell BK485.out 1).trans rfl⟩ (fun hHeld => ?_)
          clear hK K
          refine norm_ (a' := ?_) ?_ ?_
          rotate_left
          ·show Act.put _ (some 61) _ = _
           exact pt_
          exact norm_ (by simp only [putAll, Act.put, List.setIfInBounds_toArray, List.set_cons_zero, List.set_cons_succ]) (hCont (.slice Ao61 y503.length co61, v508, v511) _ ⟨hHeld, (kr_ (Kd.R_mono HO492.out (fun _ hk => by first | exact ⟨hk.1.1.1.1, ⟨hk.1.1.2, ⟨hk.1.2, hk.2⟩⟩⟩ | simp [hk]))), (kr_ (Kd.R_mono HO497.out (fun _ hk => by first | exact ⟨hk.1.1.1.1, ⟨hk.1.1.2, ⟨hk.1.2, hk.2⟩⟩⟩ | simp [hk]))), (kr_ (Kd.R_mono HO501.out (fun _ hk => by first | exact ⟨hk.1.1.1.1, ⟨hk.1.1.2, ⟨hk.1.2, hk.2⟩⟩⟩ | simp [hk]))), (by (with_reducible repeat (first | apply Kd.N_alloc | apply Kd.N_drewN | apply Kd.N_drew)); exact Kd.N_mono HO505.out (fun _ hk => by first | exact ⟨hk.1.1.1, ⟨hk.1.1.2.1, ⟨hk.1.1.2.2.1, ⟨hk.1.1.2.2.2.1, ⟨hk.1.2, ⟨hk.2, ⟨hk.1.1.2.2.2.2.1, ⟨hk.1.1.2.2.2.2.2.1, hk.1.1.2.2.2.2.2.2⟩⟩⟩⟩⟩⟩⟩⟩ | simp [hk])), (kr_ (Kd.R_mono HO509.out (fun _ hk => by first | exact ⟨hk.1.1.1.1, ⟨hk.1.1.2, ⟨hk.1.2, hk.2⟩⟩⟩ | simp [hk]))), (by (with_reducible repeat (first | apply Kd.N_alloc | apply Kd.N_drewN | apply Kd.N_drew)); exact HO512.out), (by (with_reducible repeat (first | apply Kd.V_alloc | apply Kd.V_drewN | apply Kd.V_drew)); exact Kd.V_mono HO_484001.out (fun _ hk => by first | exact ⟨hk.1.1.1.1.1.1.1, ⟨hk.1.1.1.1.1.2, ⟨hk.1.1.1.1.2, ⟨hk.1.1.1.2, ⟨hk.1.1.2, ⟨hk.1.2, ⟨hk.2, ⟨hk.1.1.1.1.1.1.2.1, ⟨hk.1.1.1.1.1.1.2.2.1, hk.1.1.1.1.1.1.2.2.2⟩⟩⟩⟩⟩⟩⟩⟩⟩ | simp [hk])), (by (with_reducible repeat (first | apply Kd.V_alloc | apply Kd.V_drewN | apply Kd.V_drew)); exact Kd.V_mono HO_485001.out (fun _ hk => by first | exact ⟨hk.1.1.1.1.1.1.1, ⟨hk.1.1.1.1.1.2, ⟨hk.1.1.1.1.2, ⟨hk.1.1.1.2, ⟨hk.1.1.2, ⟨hk.1.2, ⟨hk.2, ⟨hk.1.1.1.1.1.1.2.1, ⟨hk.1.1.1.1.1.1.2.2.1, hk.1.1.1.1.1.1.2.2.2⟩⟩⟩⟩⟩⟩⟩⟩⟩ | simp [hk])), (by (with_reducible repeat (first | apply Kd.V_alloc | apply Kd.V_drewN | apply Kd.V_drew)); exact Kd.V_mono HO_486001.out (fun _ hk => by first | exact ⟨hk.1.1.1.1.1.1.1, ⟨hk.1.1.1.1.1.2, ⟨hk.1.1.1.1.2, ⟨hk.1.1.1.2, ⟨hk.1.1.2, ⟨hk.1.2, ⟨hk.2, ⟨hk.1.1.1.1.1.1.2.1, ⟨hk.1.1.1.1.1.1.2.2.1, hk.1.1.1.1.1.1.2.2.2⟩⟩⟩⟩⟩⟩⟩⟩⟩ | simp [hk])), (kb_ BK483.out), (kb_ BK484.out), (kb_ BK485.out), (bw_ HB.out)⟩)
         ·skip
          refine Kd.N_lit_step k24 _ 24 ?hg (N' := 61) ?hd (xs := ([(⟨a1_0, l1_1⟩ : S24), (⟨a2_0, l2_1⟩ : S24)] : List (S24))) (inner := [.bool a1_0, .slice A1_1 l1_1.length c1_1, .bool a2_0, .slice A2_1 l2_1.length c2_1]) (ok := (fun k_ => ((P0_1_ k_ ∨ P1_1_ k_ ∨ P2_1_ k_) ∨ w.heap.size ≤ k_) ∧ some k_ ≠ (.slice Ao52 t490.length co52 : Value).ownBlock ∧ some k_ ≠ (.slice Ao56 t495.length co56 : Value).ownBlock ∧ some k_ ≠ (.slice Ao57 t499.length co57 : Value).ownBlock ∧ some k_ ≠ (.slice Ao61 y503.length co61 : Value).ownBlock ∧ k_ ≠ gb483 ∧ k_ ≠ gb484 ∧ k_ ≠ gb485)) (okp := (fun k_ => ((P0_1_ k_ ∨ P1_1_ k_ ∨ P2_1_ k_) ∨ w.heap.size ≤ k_) ∧ some k_ ≠ (.slice Ao52 t490.length co52 : Value).ownBlock ∧ some k_ ≠ (.slice Ao56 t495.length co56 : Value).ownBlock ∧ some k_ ≠ (.slice Ao57 t499.length co57 : Value).ownBlock ∧ some k_ ≠ (.slice Ao61 y503.length co61 : Value).ownBlock ∧ k_ ≠ gb483 ∧ k_ ≠ gb484 ∧ k_ ≠ gb485)) ?hr ?hp (fun _ hk => hk) ((show ∀ k_, w59.heap.size ≤ k_ → (fun k_ => ((P0_1_ k_ ∨ P1_1_ k_ ∨ P2_1_ k_) ∨ w.heap.size ≤ k_) ∧ some k_ ≠ (.slice Ao52 t490.length co52 : Value).ownBlock ∧ some k_ ≠ (.slice Ao56 t495.length co56 : Value).ownBlock ∧ some k_ ≠ (.slice Ao57 t499.length co57 : Value).ownBlock ∧ some k_ ≠ (.slice Ao61 y503.length co61 : Value).ownBlock ∧ k_ ≠ gb483 ∧ k_ ≠ gb484 ∧ k_ ≠ gb485) k_ from fun k_ hk => ⟨(.inr (Nat.le_trans (below_size (bw_ HB.out)) hk)), Kd.fresh' (Kd.R_lt (kr_ HO492.out)) k_ hk, Kd.fresh' (Kd.R_lt (kr_ HO497.out)) k_ hk, Kd.fresh' (Kd.R_lt (kr_ HO501.out)) k_ hk, Kd.fresh' (Kd.N_lt (by (with_reducible repeat (first | apply Kd.N_alloc | apply Kd.N_drewN | apply Kd.N_drew)); exact HO505.out)) k_ hk, Kd.freshB (g := gb483) (o := .cells #[.bool a0_0, .slice A0_1 l0_1.length c0_1] 24 (0, 0)) (kb_ BK483.out) k_ hk, Kd.freshB (g := gb484) (o := .cells #[.bool a1_0, .slice A1_1 l1_1.length c1_1] 24 (0, 0)) (kb_ BK484.out) k_ hk, Kd.freshB (g := gb485) (o := .cells #[.bool a2_0, .slice A2_1 l2_1.length c2_1] 24 (0, 0)) (kb_ BK485.out) k_ hk⟩) _ (Nat.le_refl _)) (Below.refl _ _) (Nat.le_refl _) (by simp) ?_; (case hd => rfl); (case hg => rfl); (case hr => first | (go_simp; done) | (go_simp; rfl)); (case hp => exact (Reps.c2 (show Kd.FK k24 _ _ (⟨a1_0, l1_1⟩ : S24) [.bool a1_0, .slice A1_1 l1_1.length c1_1] from (k24_mkF _ _ (⟨a1_0, l1_1⟩ : S24) (Kd.V_reads' (Kd.V_mono (ok' := (fun k_ => ((P0_1_ k_ ∨ P1_1_ k_ ∨ P2_1_ k_) ∨ w.heap.size ≤ k_) ∧ some k_ ≠ (.slice Ao52 t490.length co52 : Value).ownBlock ∧ some k_ ≠ (.slice Ao56 t495.length co56 : Value).ownBlock ∧ some k_ ≠ (.slice Ao57 t499.length co57 : Value).ownBlock ∧ some k_ ≠ (.slice Ao61 y503.length co61 : Value).ownBlock ∧ k_ ≠ gb483 ∧ k_ ≠ gb484 ∧ k_ ≠ gb485)) (HO_485001.out) (fun k_ hk => ⟨hk.1.1.1.1.1, ⟨hk.1.1.1.2, ⟨hk.1.1.2, ⟨hk.1.2, ⟨hk.2, ⟨hk.1.1.1.1.2.1, ⟨hk.1.1.1.1.2.2.1, hk.1.1.1.1.2.2.2⟩⟩⟩⟩⟩⟩⟩))).2.1 (Kd.V_F (Kd.V_mono (ok' := (fun k_ => ((P0_1_ k_ ∨ P1_1_ k_ ∨ P2_1_ k_) ∨ w.heap.size ≤ k_) ∧ some k_ ≠ (.slice Ao52 t490.length co52 : Value).ownBlock ∧ some k_ ≠ (.slice Ao56 t495.length co56 : Value).ownBlock ∧ some k_ ≠ (.slice Ao57 t499.length co57 : Value).ownBlock ∧ some k_ ≠ (.slice Ao61 y503.length co61 : Value).ownBlock ∧ k_ ≠ gb483 ∧ k_ ≠ gb484 ∧ k_ ≠ gb485)) (HO_485001.out) (fun k_ hk => ⟨hk.1.1.1.1.1, ⟨hk.1.1.1.2, ⟨hk.1.1.2, ⟨hk.1.2, ⟨hk.2, ⟨hk.1.1.1.1.2.1, ⟨hk.1.1.1.1.2.2.1, hk.1.1.1.1.2.2.2⟩⟩⟩⟩⟩⟩⟩))))) (Reps.c2 (show Kd.FK k24 _ _ (⟨a2_0, l2_1⟩ : S24) [.bool a2_0, .slice A2_1 l2_1.length c2_1] from (k24_mkF _ _ (⟨a2_0, l2_1⟩ : S24) (Kd.V_reads' (Kd.V_mono (ok' := (fun k_ => ((P0_1_ k_ ∨ P1_1_ k_ ∨ P2_1_ k_) ∨ w.heap.size ≤ k_) ∧ some k_ ≠ (.slice Ao52 t490.length co52 : Value).ownBlock ∧ some k_ ≠ (.slice Ao56 t495.length co56 : Value).ownBlock ∧ some k_ ≠ (.slice Ao57 t499.length co57 : Value).ownBlock ∧ some k_ ≠ (.slice Ao61 y503.length co61 : Value).ownBlock ∧ k_ ≠ gb483 ∧ k_ ≠ gb484 ∧ k_ ≠ gb485)) (HO_486001.out) (fun k_ hk => ⟨hk.1.1.1.1.1, ⟨hk.1.1.1.2, ⟨hk.1.1.2, ⟨hk.1.2, ⟨hk.2, ⟨hk.1.1.1.1.2.1, ⟨hk.1.1.1.1.2.2.1, hk.1.1.1.1.2.2.2⟩⟩⟩⟩⟩⟩⟩))).2.1 (Kd.V_F (Kd.V_mono (ok' := (fun k_ => ((P0_1_ k_ ∨ P1_1_ k_ ∨ P2_1_ k_) ∨ w.heap.size ≤ k_) ∧ some k_ ≠ (.slice Ao52 t490.length co52 : Value).ownBlock ∧ some k_ ≠ (.slice Ao56 t495.length co56 : Value).ownBlock ∧ some k_ ≠ (.slice Ao57 t499.length co57 : Value).ownBlock ∧ some k_ ≠ (.slice Ao61 y503.length co61 : Value).ownBlock ∧ k_ ≠ gb483 ∧ k_ ≠ gb484 ∧ k_ ≠ gb485)) (HO_486001.out) (fun k_ hk => ⟨hk.1.1.1.1.1, ⟨hk.1.1.1.2, ⟨hk.1.1.2, ⟨hk.1.2, ⟨hk.2, ⟨hk.1.1.1.1.2.1, ⟨hk.1.1.1.1.2.2.1, hk.1.1.1.1.2.2.2⟩⟩⟩⟩⟩⟩⟩))))) (Reps.none _ _))))
          intro v511 w61 ho62 hb hg_ hnew_
          clear hg_ hnew_
          (first | rw [← Ny510.out] at ho62 | (simp only [Int.reduceToNat] at ho62; rw [← Ny510.out] at ho62))
          have n0_ := Aside0.mk (Kd.V_elder' (by (with_reducible repeat (first | apply Kd.V_alloc | apply Kd.V_drewN | apply Kd.V_drew)); exact HO_484001.out) (Kd.N_base ho62) hb)
          have n1_ := Aside0.mk (Kd.V_elder' (by (with_reducible repeat (first | apply Kd.V_alloc | apply Kd.V_drewN | apply Kd.V_drew)); exact HO_485001.out) (Kd.N_base ho62) hb)
          have n2_ := Aside0.mk (Kd.V_elder' (by (with_reducible repeat (first | apply Kd.V_alloc | apply Kd.V_drewN | apply Kd.V_drew)); exact HO_486001.out) (Kd.N_base ho62) hb)
          have n3_ := Aside0.mk (Kd.R_below (kr_ HO492.out) hb)
          have n4_ := Aside0.mk (Kd.R_below (kr_ HO497.out) hb)
          have n5_ := Aside0.mk (Kd.R_below (kr_ HO501.out) hb)
          have n6_ := Aside0.mk (Kd.N_elder' (by (with_reducible repeat (first | apply Kd.N_alloc | apply Kd.N_drewN | apply Kd.N_drew)); exact HO505.out) (Kd.N_base ho62) hb)
          have n7_ := Aside0.mk (Kd.N_lower ho62 (below_size (bw_ HB.out)))
          have n8_ := kq_ BK483 hb
          have n9_ := kq_ BK484 hb
          have n10_ := kq_ BK485 hb
          have n11_ := bq_ HB hb
          clear HO_484001
          clear HO_485001
          clear HO_486001
          clear HO492
          clear HO497
          clear HO501
          clear HO505
          clear BK483
          clear BK484
          clear BK485
          clear HB
          have HO_484001 := n0_
          have HO_485001 := n1_
          have HO_486001 := n2_
          have HO492 := n3_
          have HO497 := n4_
          have HO501 := n5_
          have HO505 := n6_
          have HO512 := n7_
          have BK483 := n8_
          have BK484 := n9_
          have BK485 := n10_
          have HB := n11_
          clear n0_ n1_ n2_ n3_ n4_ n5_ n6_ n7_ n8_ n9_ n10_ n11_
          clear hb ho62
          obtain ⟨Ao63, co63, eo63⟩ := Kd.N_slice HO505.out
          (first | subst eo63 | (injection eo63 with f1_ f2_ f3_; have f4_ := f1_.symm; have f5_ := f3_.symm; clear f1_ f2_ f3_; subst f4_; subst f5_))
          refine hK.out _ _ ⟨(blk_cell BK483.out 0).trans rfl, (blk_cell BK483.out 1).trans rfl, (blk_cell BK484.out 0).trans rfl, (blk_cell BK484.out 1).trans rfl, (blk_cell BK485.out 0).trans rfl, (blk_cell BK485.out 1).trans rfl⟩ (fun hHeld => ?_)
          clear hK K
          refine norm_ (a' := ?_) ?_ ?_
          rotate_left
          ·show Act.put _ (some 61) _ = _
           exact pt_
          refine one_ (i := 21) (N := some 58) #[true, true, true, true, true, true, true, true, true, true, true, true, true, true, true, true, true, true, true, true, true, true, true, true, true, false, false, true, true, true, false, false, false, false, false, false, false, false, false, false, false] rfl rfl (one_of HT_.out (by kernel_rfl)) (by decide) (fun K hK => ?_)
          refine gs_ Try.func14 #[.slice Ao63 y503.length co63] ?_
          with_reducible refine (whole_Mul.calls kj4 _ _ y503 t506 t507 _ ?side1 ?side2 A37.out).mono ?_
          (case side1 => exact kc_ (Kd.N_reads' HO505.out).2.2)
          (case side2 => exact (Kd.N_reads' HO505.out).2.1)
          rintro e w64 ⟨v508, rfl, ho0, hb⟩
          refine ⟨_, rfl, ?_⟩
          have n0_ := Aside0.mk (Kd.V_elder' (by (with_reducible repeat (first | apply Kd.V_alloc | apply Kd.V_drewN | apply Kd.V_drew)); exact HO_484001.out) (Kd.R_base ho0) hb)
          have n1_ := Aside0.mk (Kd.V_elder' (by (with_reducible repeat (first | apply Kd.V_alloc | apply Kd.V_drewN | apply Kd.V_drew)); exact HO_485001.out) (Kd.R_base ho0) hb)
          have n2_ := Aside0.mk (Kd.V_elder' (by (with_reducible repeat (first | apply Kd.V_alloc | apply Kd.V_drewN | apply Kd.V_drew)); exact HO_486001.out) (Kd.R_base ho0) hb)
          have n3_ := Aside0.mk (Kd.R_elder' (kr_ HO492.out) (Kd.R_base ho0) hb)
          have n4_ := Aside0.mk (Kd.R_elder' (kr_ HO497.out) (Kd.R_base ho0) hb)
          have n5_ := Aside0.mk (Kd.R_elder' (kr_ HO501.out) (Kd.R_base ho0) hb)
          have n6_ := Aside0.mk (Kd.N_elder' (by (with_reducible repeat (first | apply Kd.N_alloc | apply Kd.N_drewN | apply Kd.N_drew)); exact HO505.out) (Kd.R_base ho0) hb)
          have n7_ := Aside0.mk (Kd.N_elder' (by (with_reducible repeat (first | apply Kd.N_alloc | apply Kd.N_drewN | apply Kd.N_drew)); exact HO512.out) (Kd.R_base ho0) hb)
          have n8_ := Aside0.mk (Kd.R_lower (Kd.R_new' (Kd.R_new' (Kd.R_new' (Kd.R_newM (M := fun k_ => (w.heap.size ≤ k_)) ho0 (below_size (bw_ HB.out)) (fun k_ h_ => h_)) (Kd.R_lt (kr_ HO492.out))) (Kd.R_lt (kr_ HO497.out))) (Kd.R_lt (kr_ HO501.out))) (below_size (bw_ HB.out)))
          have n9_ := kq_ BK483 hb
          have n10_ := kq_ BK484 hb
          have n11_ := kq_ BK485 hb
          have n12_ := bq_ HB hb
          clear HO_484001
          clear HO_485001
          clear HO_486001
          clear HO492
          clear HO497
          clear HO501
          clear HO505
          clear HO512
          clear BK483
          clear BK484
          clear BK485
          clear HB
          have HO_484001 := n0_
          have HO_485001 := n1_
          have HO_486001 := n2_
          have HO492 := n3_
          have HO497 := n4_
          have HO501 := n5_
          have HO505 := n6_
          have HO512 := n7_
          have HO509 := n8_
          have BK483 := n9_
          have BK484 := n10_
          have BK485 := n11_
          have HB := n12_
          clear n0_ n1_ n2_ n3_ n4_ n5_ n6_ n7_ n8_ n9_ n10_ n11_ n12_
          (try clear hb)
          (try clear hb2)
          (try clear hk)
          (try clear hi)
          (try clear ho0)
          refine hK.out _ _ ⟨(blk_cell BK483.out 0).trans rfl, (blk_cell BK483.out 1).trans rfl, (blk_cell BK484.out 0).trans rfl, (blk_cell BK484.out 1).trans rfl, (blk_cell BK485.out 0).trans rfl, (blk_cell BK485.out 1).trans rfl⟩ (fun hHeld => ?_)
          clear hK K
          refine norm_ (a' := ?_) ?_ ?_
          rotate_left
          ·show Act.put _ (some 58) _ = _
           exact pt_
          exact norm_ (by simp only [putAll, Act.put, List.setIfInBounds_toArray, List.set_cons_zero, List.set_cons_succ]) (hCont (.slice Ao63 y503.length co63, v508, v511) _ ⟨hHeld, (kr_ (Kd.R_mono HO492.out (fun _ hk => by first | exact ⟨hk.1.1.1.1, ⟨hk.1.1.2, ⟨hk.1.2, hk.2⟩⟩⟩ | simp [hk]))), (kr_ (Kd.R_mono HO497.out (fun _ hk => by first | exact ⟨hk.1.1.1.1, ⟨hk.1.1.2, ⟨hk.1.2, hk.2⟩⟩⟩ | simp [hk]))), (kr_ (Kd.R_mono HO501.out (fun _ hk => by first | exact ⟨hk.1.1.1.1, ⟨hk.1.1.2, ⟨hk.1.2, hk.2⟩⟩⟩ | simp [hk]))), (by (with_reducible repeat (first | apply Kd.N_alloc | apply Kd.N_drewN | apply Kd.N_drew)); exact Kd.N_mono HO505.out (fun _ hk => by first | exact ⟨hk.1.1.1, ⟨hk.1.1.2.1, ⟨hk.1.1.2.2.1, ⟨hk.1.1.2.2.2.1, ⟨hk.2, ⟨hk.1.2, ⟨hk.1.1.2.2.2.2.1, ⟨hk.1.1.2.2.2.2.2.1, hk.1.1.2.2.2.2.2.2⟩⟩⟩⟩⟩⟩⟩⟩ | simp [hk])), (kr_ (Kd.R_mono HO509.out (fun _ hk => by first | exact ⟨hk.1.1.1.1, ⟨hk.1.1.2, ⟨hk.1.2, hk.2⟩⟩⟩ | simp [hk]))), (by (with_reducible repeat (first | apply Kd.N_alloc | apply Kd.N_drewN | apply Kd.N_drew)); exact Kd.N_mono HO512.out (fun _ hk => by first | exact ⟨hk.1.1, ⟨hk.1.2.1, ⟨hk.1.2.2.1, ⟨hk.1.2.2.2.1, ⟨hk.1.2.2.2.2.1, ⟨hk.2, ⟨hk.1.2.2.2.2.2.1, ⟨hk.1.2.2.2.2.2.2.1, hk.1.2.2.2.2.2.2.2⟩⟩⟩⟩⟩⟩⟩⟩ | simp [hk])), (by (with_reducible repeat (first | apply Kd.V_alloc | apply Kd.V_drewN | apply Kd.V_drew)); exact Kd.V_mono HO_484001.out (fun _ hk => by first | exact ⟨hk.1.1.1.1.1.1.1, ⟨hk.1.1.1.1.1.2, ⟨hk.1.1.1.1.2, ⟨hk.1.1.1.2, ⟨hk.1.1.2, ⟨hk.2, ⟨hk.1.2, ⟨hk.1.1.1.1.1.1.2.1, ⟨hk.1.1.1.1.1.1.2.2.1, hk.1.1.1.1.1.1.2.2.2⟩⟩⟩⟩⟩⟩⟩⟩⟩ | simp [hk])), (by (with_reducible repeat (first | apply Kd.V_alloc | apply Kd.V_drewN | apply Kd.V_drew)); exact Kd.V_mono HO_485001.out (fun _ hk => by first | exact ⟨hk.1.1.1.1.1.1.1, ⟨hk.1.1.1.1.1.2, ⟨hk.1.1.1.1.2, ⟨hk.1.1.1.2, ⟨hk.1.1.2, ⟨hk.2, ⟨hk.1.2, ⟨hk.1.1.1.1.1.1.2.1, ⟨hk.1.1.1.1.1.1.2.2.1, hk.1.1.1.1.1.1.2.2.2⟩⟩⟩⟩⟩⟩⟩⟩⟩ | simp [hk])), (by (with_reducible repeat (first | apply Kd.V_alloc | apply Kd.V_drewN | apply Kd.V_drew)); exact Kd.V_mono HO_486001.out (fun _ hk => by first | exact ⟨hk.1.1.1.1.1.1.1, ⟨hk.1.1.1.1.1.2, ⟨hk.1.1.1.1.2, ⟨hk.1.1.1.2, ⟨hk.1.1.2, ⟨hk.2, ⟨hk.1.2, ⟨hk.1.1.1.1.1.1.2.1, ⟨hk.1.1.1.1.1.1.2.2.1, hk.1.1.1.1.1.1.2.2.2⟩⟩⟩⟩⟩⟩⟩⟩⟩ | simp [hk])), (kb_ BK483.out), (kb_ BK484.out), (kb_ BK485.out), (bw_ HB.out)⟩)
        ·skip
         refine Kd.N_lit_step k24 _ 24 ?hg (N' := 61) ?hd (xs := ([(⟨a1_0, l1_1⟩ : S24), (⟨a2_0, l2_1⟩ : S24)] : List (S24))) (inner := [.bool a1_0, .slice A1_1 l1_1.length c1_1, .bool a2_0, .slice A2_1 l2_1.length c2_1]) (ok := (fun k_ => ((P0_1_ k_ ∨ P1_1_ k_ ∨ P2_1_ k_) ∨ w.heap.size ≤ k_) ∧ some k_ ≠ (.slice Ao52 t490.length co52 : Value).ownBlock ∧ some k_ ≠ (.slice Ao56 t495.length co56 : Value).ownBlock ∧ some k_ ≠ (.slice Ao57 t499.length co57 : Value).ownBlock ∧ k_ ≠ gb483 ∧ k_ ≠ gb484 ∧ k_ ≠ gb485)) (okp := (fun k_ => ((P0_1_ k_ ∨ P1_1_ k_ ∨ P2_1_ k_) ∨ w.heap.size ≤ k_) ∧ some k_ ≠ (.slice Ao52 t490.length co52 : Value).ownBlock ∧ some k_ ≠ (.slice Ao56 t495.length co56 : Value).ownBlock ∧ some k_ ≠ (.slice Ao57 t499.length co57 : Value).ownBlock ∧ k_ ≠ gb483 ∧ k_ ≠ gb484 ∧ k_ ≠ gb485)) ?hr ?hp (fun _ hk => hk) ((show ∀ k_, w58.heap.size ≤ k_ → (fun k_ => ((P0_1_ k_ ∨ P1_1_ k_ ∨ P2_1_ k_) ∨ w.heap.size ≤ k_) ∧ some k_ ≠ (.slice Ao52 t490.length co52 : Value).ownBlock ∧ some k_ ≠ (.slice Ao56 t495.length co56 : Value).ownBlock ∧ some k_ ≠ (.slice Ao57 t499.length co57 : Value).ownBlock ∧ k_ ≠ gb483 ∧ k_ ≠ gb484 ∧ k_ ≠ gb485) k_ from fun k_ hk => ⟨(.inr (Nat.le_trans (below_size (bw_ HB.out)) hk)), Kd.fresh' (Kd.R_lt (kr_ HO492.out)) k_ hk, Kd.fresh' (Kd.R_lt (kr_ HO497.out)) k_ hk, Kd.fresh' (Kd.R_lt (kr_ HO501.out)) k_ hk, Kd.freshB (g := gb483) (o := .cells #[.bool a0_0, .slice A0_1 l0_1.length c0_1] 24 (0, 0)) (kb_ BK483.out) k_ hk, Kd.freshB (g := gb484) (o := .cells #[.bool a1_0, .slice A1_1 l1_1.length c1_1] 24 (0, 0)) (kb_ BK484.out) k_ hk, Kd.freshB (g := gb485) (o := .cells #[.bool a2_0, .slice A2_1 l2_1.length c2_1] 24 (0, 0)) (kb_ BK485.out) k_ hk⟩) _ (Nat.le_refl _)) (Below.refl _ _) (Nat.le_refl _) (by simp) ?_; (case hd => rfl); (case hg => rfl); (case hr => first | (go_simp; done) | (go_simp; rfl)); (case hp => exact (Reps.c2 (show Kd.FK k24 _ _ (⟨a1_0, l1_1⟩ : S24) [.bool a1_0, .slice A1_1 l1_1.length c1_1] from (k24_mkF _ _ (⟨a1_0, l1_1⟩ : S24) (Kd.V_reads' (Kd.V_mono (ok' := (fun k_ => ((P0_1_ k_ ∨ P1_1_ k_ ∨ P2_1_ k_) ∨ w.heap.size ≤ k_) ∧ some k_ ≠ (.slice Ao52 t490.length co52 : Value).ownBlock ∧ some k_ ≠ (.slice Ao56 t495.length co56 : Value).ownBlock ∧ some k_ ≠ (.slice Ao57 t499.length co57 : Value).ownBlock ∧ k_ ≠ gb483 ∧ k_ ≠ gb484 ∧ k_ ≠ gb485)) (HO_485001.out) (fun k_ hk => ⟨hk.1.1.1.1, ⟨hk.1.1.2, ⟨hk.1.2, ⟨hk.2, ⟨hk.1.1.1.2.1, ⟨hk.1.1.1.2.2.1, hk.1.1.1.2.2.2⟩⟩⟩⟩⟩⟩))).2.1 (Kd.V_F (Kd.V_mono (ok' := (fun k_ => ((P0_1_ k_ ∨ P1_1_ k_ ∨ P2_1_ k_) ∨ w.heap.size ≤ k_) ∧ some k_ ≠ (.slice Ao52 t490.length co52 : Value).ownBlock ∧ some k_ ≠ (.slice Ao56 t495.length co56 : Value).ownBlock ∧ some k_ ≠ (.slice Ao57 t499.length co57 : Value).ownBlock ∧ k_ ≠ gb483 ∧ k_ ≠ gb484 ∧ k_ ≠ gb485)) (HO_485001.out) (fun k_ hk => ⟨hk.1.1.1.1, ⟨hk.1.1.2, ⟨hk.1.2, ⟨hk.2, ⟨hk.1.1.1.2.1, ⟨hk.1.1.1.2.2.1, hk.1.1.1.2.2.2⟩⟩⟩⟩⟩⟩))))) (Reps.c2 (show Kd.FK k24 _ _ (⟨a2_0, l2_1⟩ : S24) [.bool a2_0, .slice A2_1 l2_1.length c2_1] from (k24_mkF _ _ (⟨a2_0, l2_1⟩ : S24) (Kd.V_reads' (Kd.V_mono (ok' := (fun k_ => ((P0_1_ k_ ∨ P1_1_ k_ ∨ P2_1_ k_) ∨ w.heap.size ≤ k_) ∧ some k_ ≠ (.slice Ao52 t490.length co52 : Value).ownBlock ∧ some k_ ≠ (.slice Ao56 t495.length co56 : Value).ownBlock ∧ some k_ ≠ (.slice Ao57 t499.length co57 : Value).ownBlock ∧ k_ ≠ gb483 ∧ k_ ≠ gb484 ∧ k_ ≠ gb485)) (HO_486001.out) (fun k_ hk => ⟨hk.1.1.1.1, ⟨hk.1.1.2, ⟨hk.1.2, ⟨hk.2, ⟨hk.1.1.1.2.1, ⟨hk.1.1.1.2.2.1, hk.1.1.1.2.2.2⟩⟩⟩⟩⟩⟩))).2.1 (Kd.V_F (Kd.V_mono (ok' := (fun k_ => ((P0_1_ k_ ∨ P1_1_ k_ ∨ P2_1_ k_) ∨ w.heap.size ≤ k_) ∧ some k_ ≠ (.slice Ao52 t490.length co52 : Value).ownBlock ∧ some k_ ≠ (.slice Ao56 t495.length co56 : Value).ownBlock ∧ some k_ ≠ (.slice Ao57 t499.length co57 : Value).ownBlock ∧ k_ ≠ gb483 ∧ k_ ≠ gb484 ∧ k_ ≠ gb485)) (HO_486001.out) (fun k_ hk => ⟨hk.1.1.1.1, ⟨hk.1.1.2, ⟨hk.1.2, ⟨hk.2, ⟨hk.1.1.1.2.1, ⟨hk.1.1.1.2.2.1, hk.1.1.1.2.2.2⟩⟩⟩⟩⟩⟩))))) (Reps.none _ _))))
         intro v511 w59 ho60 hb hg_ hnew_
         clear hg_ hnew_
         (first | rw [← Ny510.out] at ho60 | (simp only [Int.reduceToNat] at ho60; rw [← Ny510.out] at ho60))
         have n0_ := Aside0.mk (Kd.V_elder' (by (with_reducible repeat (first | apply Kd.V_alloc | apply Kd.V_drewN | apply Kd.V_drew)); exact HO_484001.out) (Kd.N_base ho60) hb)
         have n1_ := Aside0.mk (Kd.V_elder' (by (with_reducible repeat (first | apply Kd.V_alloc | apply Kd.V_drewN | apply Kd.V_drew)); exact HO_485001.out) (Kd.N_base ho60) hb)
         have n2_ := Aside0.mk (Kd.V_elder' (by (with_reducible repeat (first | apply Kd.V_alloc | apply Kd.V_drewN | apply Kd.V_drew)); exact HO_486001.out) (Kd.N_base ho60) hb)
         have n3_ := Aside0.mk (Kd.R_below (kr_ HO492.out) hb)
         have n4_ := Aside0.mk (Kd.R_below (kr_ HO497.out) hb)
         have n5_ := Aside0.mk (Kd.R_below (kr_ HO501.out) hb)
         have n6_ := Aside0.mk (Kd.N_lower ho60 (below_size (bw_ HB.out)))
         have n7_ := kq_ BK483 hb
         have n8_ := kq_ BK484 hb
         have n9_ := kq_ BK485 hb
         have n10_ := bq_ HB hb
         clear HO_484001
         clear HO_485001
         clear HO_486001
         clear HO492
         clear HO497
         clear HO501
         clear BK483
         clear BK484
         clear BK485
         clear HB
         have HO_484001 := n0_
         have HO_485001 := n1_
         have HO_486001 := n2_
         have HO492 := n3_
         have HO497 := n4_
         have HO501 := n5_
         have HO512 := n6_
         have BK483 := n7_
         have BK484 := n8_
         have BK485 := n9_
         have HB := n10_
         clear n0_ n1_ n2_ n3_ n4_ n5_ n6_ n7_ n8_ n9_ n10_
         clear hb ho60
         refine hK.out _ _ ⟨(blk_cell BK483.out 0).trans rfl, (blk_cell BK483.out 1).trans rfl, (blk_cell BK484.out 0).trans rfl, (blk_cell BK484.out 1).trans rfl, (blk_cell BK485.out 0).trans rfl, (blk_cell BK485.out 1).trans rfl⟩ (fun hHeld => ?_)
         clear hK K
         refine norm_ (a' := ?_) ?_ ?_
         rotate_left
         ·show Act.put _ (some 61) _ = _
          exact pt_
         refine one_ (i := 20) (N := some 57) #[true, true, true, true, true, true, true, true, true, true, true, true, true, true, true, true, true, true, true, true, true, false, true, true, true, false, false, true, true, true, false, false, false, false, false, false, false, false, false, false, false] rfl rfl (one_of HT_.out (by kernel_rfl)) (by decide) (fun K hK => ?_)
         refine Kd.N_lit_step k24 _ 24 ?hg (N' := 57) ?hd (xs := ([(⟨a0_0, l0_1⟩ : S24), (⟨a2_0, l2_1⟩ : S24)] : List (S24))) (inner := [.bool a0_0, .slice A0_1 l0_1.length c0_1, .bool a2_0, .slice A2_1 l2_1.length c2_1]) (ok := (fun k_ => ((P0_1_ k_ ∨ P1_1_ k_ ∨ P2_1_ k_) ∨ w.heap.size ≤ k_) ∧ some k_ ≠ (.slice Ao52 t490.length co52 : Value).ownBlock ∧ some k_ ≠ (.slice Ao56 t495.length co56 : Value).ownBlock ∧ some k_ ≠ (.slice Ao57 t499.length co57 : Value).ownBlock ∧ some k_ ≠ (v511 : Value).ownBlock ∧ k_ ≠ gb483 ∧ k_ ≠ gb484 ∧ k_ ≠ gb485)) (okp := (fun k_ => ((P0_1_ k_ ∨ P1_1_ k_ ∨ P2_1_ k_) ∨ w.heap.size ≤ k_) ∧ some k_ ≠ (.slice Ao52 t490.length co52 : Value).ownBlock ∧ some k_ ≠ (.slice Ao56 t495.length co56 : Value).ownBlock ∧ some k_ ≠ (.slice Ao57 t499.length co57 : Value).ownBlock ∧ some k_ ≠ (v511 : Value).ownBlock ∧ k_ ≠ gb483 ∧ k_ ≠ gb484 ∧ k_ ≠ gb485)) ?hr ?hp (fun _ hk => hk) ((show ∀ k_, w59.heap.size ≤ k_ → (fun k_ => ((P0_1_ k_ ∨ P1_1_ k_ ∨ P2_1_ k_) ∨ w.heap.size ≤ k_) ∧ some k_ ≠ (.slice Ao52 t490.length co52 : Value).ownBlock ∧ some k_ ≠ (.slice Ao56 t495.length co56 : Value).ownBlock ∧ some k_ ≠ (.slice Ao57 t499.length co57 : Value).ownBlock ∧ some k_ ≠ (v511 : Value).ownBlock ∧ k_ ≠ gb483 ∧ k_ ≠ gb484 ∧ k_ ≠ gb485) k_ from fun k_ hk => ⟨(.inr (Nat.le_trans (below_size (bw_ HB.out)) hk)), Kd.fresh' (Kd.R_lt (kr_ HO492.out)) k_ hk, Kd.fresh' (Kd.R_lt (kr_ HO497.out)) k_ hk, Kd.fresh' (Kd.R_lt (kr_ HO501.out)) k_ hk, Kd.fresh' (Kd.N_lt (by (with_reducible repeat (first | apply Kd.N_alloc | apply Kd.N_drewN | apply Kd.N_drew)); exact HO512.out)) k_ hk, Kd.freshB (g := gb483) (o := .cells #[.bool a0_0, .slice A0_1 l0_1.length c0_1] 24 (0, 0)) (kb_ BK483.out) k_ hk, Kd.freshB (g := gb484) (o := .cells #[.bool a1_0, .slice A1_1 l1_1.length c1_1] 24 (0, 0)) (kb_ BK484.out) k_ hk, Kd.freshB (g := gb485) (o := .cells #[.bool a2_0, .slice A2_1 l2_1.length c2_1] 24 (0, 0)) (kb_ BK485.out) k_ hk⟩) _ (Nat.le_refl _)) (Below.refl _ _) (Nat.le_refl _) (by simp) ?_; (case hd => rfl); (case hg => rfl); (case hr => first | (go_simp; done) | (go_simp; rfl)); (case hp => exact (Reps.c2 (show Kd.FK k24 _ _ (⟨a0_0, l0_1⟩ : S24) [.bool a0_0, .slice A0_1 l0_1.length c0_1] from (k24_mkF _ _ (⟨a0_0, l0_1⟩ : S24) (Kd.V_reads' (Kd.V_mono (ok' := (fun k_ => ((P0_1_ k_ ∨ P1_1_ k_ ∨ P2_1_ k_) ∨ w.heap.size ≤ k_) ∧ some k_ ≠ (.slice Ao52 t490.length co52 : Value).ownBlock ∧ some k_ ≠ (.slice Ao56 t495.length co56 : Value).ownBlock ∧ some k_ ≠ (.slice Ao57 t499.length co57 : Value).ownBlock ∧ some k_ ≠ (v511 : Value).ownBlock ∧ k_ ≠ gb483 ∧ k_ ≠ gb484 ∧ k_ ≠ gb485)) (HO_484001.out) (fun k_ hk => ⟨hk.1.1.1.1.1, ⟨hk.1.1.1.2, ⟨hk.1.1.2, ⟨hk.1.2, ⟨hk.2, ⟨hk.1.1.1.1.2.1, ⟨hk.1.1.1.1.2.2.1, hk.1.1.1.1.2.2.2⟩⟩⟩⟩⟩⟩⟩))).2.1 (Kd.V_F (Kd.V_mono (ok' := (fun k_ => ((P0_1_ k_ ∨ P1_1_ k_ ∨ P2_1_ k_) ∨ w.heap.size ≤ k_) ∧ some k_ ≠ (.slice Ao52 t490.length co52 : Value).ownBlock ∧ some k_ ≠ (.slice Ao56 t495.length co56 : Value).ownBlock ∧ some k_ ≠ (.slice Ao57 t499.length co57 : Value).ownBlock ∧ some k_ ≠ (v511 : Value).ownBlock ∧ k_ ≠ gb483 ∧ k_ ≠ gb484 ∧ k_ ≠ gb485)) (HO_484001.out) (fun k_ hk => ⟨hk.1.1.1.1.1, ⟨hk.1.1.1.2, ⟨hk.1.1.2, ⟨hk.1.2, ⟨hk.2, ⟨hk.1.1.1.1.2.1, ⟨hk.1.1.1.1.2.2.1, hk.1.1.1.1.2.2.2⟩⟩⟩⟩⟩⟩⟩))))) (Reps.c2 (show Kd.FK k24 _ _ (⟨a2_0, l2_1⟩ : S24) [.bool a2_0, .slice A2_1 l2_1.length c2_1] from (k24_mkF _ _ (⟨a2_0, l2_1⟩ : S24) (Kd.V_reads' (Kd.V_mono (ok' := (fun k_ => ((P0_1_ k_ ∨ P1_1_ k_ ∨ P2_1_ k_) ∨ w.heap.size ≤ k_) ∧ some k_ ≠ (.slice Ao52 t490.length co52 : Value).ownBlock ∧ some k_ ≠ (.slice Ao56 t495.length co56 : Value).ownBlock ∧ some k_ ≠ (.slice Ao57 t499.length co57 : Value).ownBlock ∧ some k_ ≠ (v511 : Value).ownBlock ∧ k_ ≠ gb483 ∧ k_ ≠ gb484 ∧ k_ ≠ gb485)) (HO_486001.out) (fun k_ hk => ⟨hk.1.1.1.1.1, ⟨hk.1.1.1.2, ⟨hk.1.1.2, ⟨hk.1.2, ⟨hk.2, ⟨hk.1.1.1.1.2.1, ⟨hk.1.1.1.1.2.2.1, hk.1.1.1.1.2.2.2⟩⟩⟩⟩⟩⟩⟩))).2.1 (Kd.V_F (Kd.V_mono (ok' := (fun k_ => ((P0_1_ k_ ∨ P1_1_ k_ ∨ P2_1_ k_) ∨ w.heap.size ≤ k_) ∧ some k_ ≠ (.slice Ao52 t490.length co52 : Value).ownBlock ∧ some k_ ≠ (.slice Ao56 t495.length co56 : Value).ownBlock ∧ some k_ ≠ (.slice Ao57 t499.length co57 : Value).ownBlock ∧ some k_ ≠ (v511 : Value).ownBlock ∧ k_ ≠ gb483 ∧ k_ ≠ gb484 ∧ k_ ≠ gb485)) (HO_486001.out) (fun k_ hk => ⟨hk.1.1.1.1.1, ⟨hk.1.1.1.2, ⟨hk.1.1.2, ⟨hk.1.2, ⟨hk.2, ⟨hk.1.1.1.1.2.1, ⟨hk.1.1.1.1.2.2.1, hk.1.1.1.1.2.2.2⟩⟩⟩⟩⟩⟩⟩))))) (Reps.none _ _))))
         intro v504 w61 ho62 hb hg_ hnew_
         clear hg_ hnew_
         (first | rw [← Ny503.out] at ho62 | (simp only [Int.reduceToNat] at ho62; rw [← Ny503.out] at ho62))
         have n0_ := Aside0.mk (Kd.V_elder' (by (with_reducible repeat (first | apply Kd.V_alloc | apply Kd.V_drewN | apply Kd.V_drew)); exact HO_484001.out) (Kd.N_base ho62) hb)
         have n1_ := Aside0.mk (Kd.V_elder' (by (with_reducible repeat (first | apply Kd.V_alloc | apply Kd.V_drewN | apply Kd.V_drew)); exact HO_485001.out) (Kd.N_base ho62) hb)
         have n2_ := Aside0.mk (Kd.V_elder' (by (with_reducible repeat (first | apply Kd.V_alloc | apply Kd.V_drewN | apply Kd.V_drew)); exact HO_486001.out) (Kd.N_base ho62) hb)
         have n3_ := Aside0.mk (Kd.R_below (kr_ HO492.out) hb)
         have n4_ := Aside0.mk (Kd.R_below (kr_ HO497.out) hb)
         have n5_ := Aside0.mk (Kd.R_below (kr_ HO501.out) hb)
         have n6_ := Aside0.mk (Kd.N_elder' (by (with_reducible repeat (first | apply Kd.N_alloc | apply Kd.N_drewN | apply Kd.N_drew)); exact HO512.out) (Kd.N_base ho62) hb)
         have n7_ := Aside0.mk (Kd.N_lower ho62 (below_size (bw_ HB.out)))
         have n8_ := kq_ BK483 hb
         have n9_ := kq_ BK484 hb
         have n10_ := kq_ BK485 hb
         have n11_ := bq_ HB hb
         clear HO_484001
         clear HO_485001
         clear HO_486001
         clear HO492
         clear HO497
         clear HO501
         clear HO512
         clear BK483
         clear BK484
         clear BK485
         clear HB
         have HO_484001 := n0_
         have HO_485001 := n1_
         have HO_486001 := n2_
         have HO492 := n3_
         have HO497 := n4_
         have HO501 := n5_
         have HO512 := n6_
         have HO505 := n7_
         have BK483 := n8_
         have BK484 := n9_
         have BK485 := n10_
         have HB := n11_
         clear n0_ n1_ n2_ n3_ n4_ n5_ n6_ n7_ n8_ n9_ n10_ n11_
         clear hb ho62
         obtain ⟨Ao63, co63, eo63⟩ := Kd.N_slice HO505.out
         (first | subst eo63 | (injection eo63 with f1_ f2_ f3_; have f4_ := f1_.symm; have f5_ := f3_.symm; clear f1_ f2_ f3_; subst f4_; subst f5_))
         refine hK.out _ _ ⟨(blk_cell BK483.out 0).trans rfl, (blk_cell BK483.out 1).trans rfl, (blk_cell BK484.out 0).trans rfl, (blk_cell BK484.out 1).trans rfl, (blk_cell BK485.out 0).trans rfl, (blk_cell BK485.out 1).trans rfl⟩ (fun hHeld => ?_)
         clear hK K
         refine norm_ (a' := ?_) ?_ ?_
         rotate_left
         ·show Act.put _ (some 57) _ = _
          exact pt_
         refine one_ (i := 21) (N := some 58) #[true, true, true, true, true, true, true, true, true, true, true, true, true, true, true, true, true, true, true, true, true, true, true, true, true, false, false, true, true, true, false, false, false, false, false, false, false, false, false, false, false] rfl rfl (one_of HT_.out (by kernel_rfl)) (by decide) (fun K hK => ?_)
         refine gs_ Try.func14 #[.slice Ao63 y503.length co63] ?_
         with_reducible refine (whole_Mul.calls kj4 _ _ y503 t506 t507 _ ?side1 ?side2 A37.out).mono ?_
         (case side1 => exact kc_ (Kd.N_reads' HO505.out).2.2)
         (case side2 => exact (Kd.N_reads' HO505.out).2.1)
         rintro e w64 ⟨v508, rfl, ho0, hb⟩
         refine ⟨_, rfl, ?_⟩
         have n0_ := Aside0.mk (Kd.V_elder' (by (with_reducible repeat (first | apply Kd.V_alloc | apply Kd.V_drewN | apply Kd.V_drew)); exact HO_484001.out) (Kd.R_base ho0) hb)
         have n1_ := Aside0.mk (Kd.V_elder' (by (with_reducible repeat (first | apply Kd.V_alloc | apply Kd.V_drewN | apply Kd.V_drew)); exact HO_485001.out) (Kd.R_base ho0) hb)
         have n2_ := Aside0.mk (Kd.V_elder' (by (with_reducible repeat (first | apply Kd.V_alloc | apply Kd.V_drewN | apply Kd.V_drew)); exact HO_486001.out) (Kd.R_base ho0) hb)
         have n3_ := Aside0.mk (Kd.R_elder' (kr_ HO492.out) (Kd.R_base ho0) hb)
         have n4_ := Aside0.mk (Kd.R_elder' (kr_ HO497.out) (Kd.R_base ho0) hb)
         have n5_ := Aside0.mk (Kd.R_elder' (kr_ HO501.out) (Kd.R_base ho0) hb)
         have n6_ := Aside0.mk (Kd.N_elder' (by (with_reducible repeat (first | apply Kd.N_alloc | apply Kd.N_drewN | apply Kd.N_drew)); exact HO512.out) (Kd.R_base ho0) hb)
         have n7_ := Aside0.mk (Kd.N_elder' (by (with_reducible repeat (first | apply Kd.N_alloc | apply Kd.N_drewN | apply Kd.N_drew)); exact HO505.out) (Kd.R_base ho0) hb)
         have n8_ := Aside0.mk (Kd.R_lower (Kd.R_new' (Kd.R_new' (Kd.R_new' (Kd.R_newM (M := fun k_ => (w.heap.size ≤ k_)) ho0 (below_size (bw_ HB.out)) (fun k_ h_ => h_)) (Kd.R_lt (kr_ HO492.out))) (Kd.R_lt (kr_ HO497.out))) (Kd.R_lt (kr_ HO501.out))) (below_size (bw_ HB.out)))
         have n9_ := kq_ BK483 hb
         have n10_ := kq_ BK484 hb
         have n11_ := kq_ BK485 hb
         have n12_ := bq_ HB hb
         clear HO_484001
         clear HO_485001
         clear HO_486001
         clear HO492
         clear HO497
         clear HO501
         clear HO512
         clear HO505
         clear BK483
         clear BK484
         clear BK485
         clear HB
         have HO_484001 := n0_
         have HO_485001 := n1_
         have HO_486001 := n2_
         have HO492 := n3_
         have HO497 := n4_
         have HO501 := n5_
         have HO512 := n6_
         have HO505 := n7_
         have HO509 := n8_
         have BK483 := n9_
         have BK484 := n10_
         have BK485 := n11_
         have HB := n12_
         clear n0_ n1_ n2_ n3_ n4_ n5_ n6_ n7_ n8_ n9_ n10_ n11_ n12_
         (try clear hb)
         (try clear hb2)
         (try clear hk)
         (try clear hi)
         (try clear ho0)
         refine hK.out _ _ ⟨(blk_cell BK483.out 0).trans rfl, (blk_cell BK483.out 1).trans rfl, (blk_cell BK484.out 0).trans rfl, (blk_cell BK484.out 1).trans rfl, (blk_cell BK485.out 0).trans rfl, (blk_cell BK485.out 1).trans rfl⟩ (fun hHeld => ?_)
         clear hK K
         refine norm_ (a' := ?_) ?_ ?_
         rotate_left
         ·show Act.put _ (some 58) _ = _
          exact pt_
         exact norm_ (by simp only [putAll, Act.put, List.setIfInBounds_toArray, List.set_cons_zero, List.set_cons_succ]) (hCont (.slice Ao63 y503.length co63, v508, v511) _ ⟨hHeld, (kr_ (Kd.R_mono HO492.out (fun _ hk => by first | exact ⟨hk.1.1.1.1, ⟨hk.1.1.2, ⟨hk.1.2, hk.2⟩⟩⟩ | simp [hk]))), (kr_ (Kd.R_mono HO497.out (fun _ hk => by first | exact ⟨hk.1.1.1.1, ⟨hk.1.1.2, ⟨hk.1.2, hk.2⟩⟩⟩ | simp [hk]))), (kr_ (Kd.R_mono HO501.out (fun _ hk => by first | exact ⟨hk.1.1.1.1, ⟨hk.1.1.2, ⟨hk.1.2, hk.2⟩⟩⟩ | simp [hk]))), (by (with_reducible repeat (first | apply Kd.N_alloc | apply Kd.N_drewN | apply Kd.N_drew)); exact Kd.N_mono HO505.out (fun _ hk => by first | exact ⟨hk.1.1, ⟨hk.1.2.1, ⟨hk.1.2.2.1, ⟨hk.1.2.2.2.1, ⟨hk.2, ⟨hk.1.2.2.2.2.1, ⟨hk.1.2.2.2.2.2.1, ⟨hk.1.2.2.2.2.2.2.1, hk.1.2.2.2.2.2.2.2⟩⟩⟩⟩⟩⟩⟩⟩ | simp [hk])), (kr_ (Kd.R_mono HO509.out (fun _ hk => by first | exact ⟨hk.1.1.1.1, ⟨hk.1.1.2, ⟨hk.1.2, hk.2⟩⟩⟩ | simp [hk]))), (by (with_reducible repeat (first | apply Kd.N_alloc | apply Kd.N_drewN | apply Kd.N_drew)); exact Kd.N_mono HO512.out (fun _ hk => by first | exact ⟨hk.1.1.1, ⟨hk.1.1.2.1, ⟨hk.1.1.2.2.1, ⟨hk.1.1.2.2.2.1, ⟨hk.1.2, ⟨hk.2, ⟨hk.1.1.2.2.2.2.1, ⟨hk.1.1.2.2.2.2.2.1, hk.1.1.2.2.2.2.2.2⟩⟩⟩⟩⟩⟩⟩⟩ | simp [hk])), (by (with_reducible repeat (first | apply Kd.V_alloc | apply Kd.V_drewN | apply Kd.V_drew)); exact Kd.V_mono HO_484001.out (fun _ hk => by first | exact ⟨hk.1.1.1.1.1.1.1, ⟨hk.1.1.1.1.1.2, ⟨hk.1.1.1.1.2, ⟨hk.1.1.1.2, ⟨hk.1.2, ⟨hk.2, ⟨hk.1.1.2, ⟨hk.1.1.1.1.1.1.2.1, ⟨hk.1.1.1.1.1.1.2.2.1, hk.1.1.1.1.1.1.2.2.2⟩⟩⟩⟩⟩⟩⟩⟩⟩ | simp [hk])), (by (with_reducible repeat (first | apply Kd.V_alloc | apply Kd.V_drewN | apply Kd.V_drew)); exact Kd.V_mono HO_485001.out (fun _ hk => by first | exact ⟨hk.1.1.1.1.1.1.1, ⟨hk.1.1.1.1.1.2, ⟨hk.1.1.1.1.2, ⟨hk.1.1.1.2, ⟨hk.1.2, ⟨hk.2, ⟨hk.1.1.2, ⟨hk.1.1.1.1.1.1.2.1, ⟨hk.1.1.1.1.1.1.2.2.1, hk.1.1.1.1.1.1.2.2.2⟩⟩⟩⟩⟩⟩⟩⟩⟩ | simp [hk])), (by (with_reducible repeat (first | apply Kd.V_alloc | apply Kd.V_drewN | apply Kd.V_drew)); exact Kd.V_mono HO_486001.out (fun _ hk => by first | exact ⟨hk.1.1.1.1.1.1.1, ⟨hk.1.1.1.1.1.2, ⟨hk.1.1.1.1.2, ⟨hk.1.1.1.2, ⟨hk.1.2, ⟨hk.2, ⟨hk.1.1.2, ⟨hk.1.1.1.1.1.1.2.1, ⟨hk.1.1.1.1.1.1.2.2.1, hk.1.1.1.1.1.1.2.2.2⟩⟩⟩⟩⟩⟩⟩⟩⟩ | simp [hk])), (kb_ BK483.out), (kb_ BK484.out), (kb_ BK485.out), (bw_ HB.out)⟩)
       rintro ⟨v504, v508, v511⟩ w65 ⟨hS_, h0_, h1_, h2_, h3_, h4_, h5_, h6_, h7_, h8_, h9_, h10_, h11_, h12_⟩
       have HO492 := Aside0.mk h0_
       have HO497 := Aside0.mk h1_
       have HO501 := Aside0.mk h2_
       have HO505 := Aside0.mk h3_
       have HO509 := Aside0.mk h4_
       have HO512 := Aside0.mk h5_
       replace HO_484001 := Aside0.mk h6_
       replace HO_485001 := Aside0.mk h7_
       replace HO_486001 := Aside0.mk h8_
       replace BK483 := Aside0.mk h9_
       replace BK484 := Aside0.mk h10_
       replace BK485 := Aside0.mk h11_
       replace HB := Aside0.mk h12_
       clear h0_ h1_ h2_ h3_ h4_ h5_ h6_ h7_ h8_ h9_ h10_ h11_ h12_
       have hHeld : w65.cell? ⟨gb483, 0, none⟩ = some (.bool a0_0) ∧ w65.cell? ⟨gb483, 1, none⟩ = some (.slice A0_1 l0_1.length c0_1) ∧ w65.cell? ⟨gb484, 0, none⟩ = some (.bool a1_0) ∧ w65.cell? ⟨gb484, 1, none⟩ = some (.slice A1_1 l1_1.length c1_1) ∧ w65.cell? ⟨gb485, 0, none⟩ = some (.bool a2_0) ∧ w65.cell? ⟨gb485, 1, none⟩ = some (.slice A2_1 l2_1.length c2_1) := hS_
       obtain ⟨Ao66, co66, eo66⟩ := Kd.N_slice HO512.out
       (first | subst eo66 | (injection eo66 with f1_ f2_ f3_; have f4_ := f1_.symm; have f5_ := f3_.symm; clear f1_ f2_ f3_; subst f4_; subst f5_))
       refine norm_ (a' := ?_) ?_ ?_
       rotate_left
       ·simp only [putAll, Act.put, List.setIfInBounds_toArray, List.set_cons_zero, List.set_cons_succ]
        rfl
       refine one_ (i := 25) (N := some 62) #[true, true, true, true, true, true, true, true, true, true, true, true, true, true, true, true, true, true, true, true, true, true, true, true, true, true, false, true, true, true, false, false, false, false, false, false, false, false, false, false, false] rfl rfl (one_of HT_.out (by kernel_rfl)) (by decide) (fun K hK => ?_)
       refine gs_ Try.func14 #[.slice Ao66 y510.length co66] ?_
       with_reducible refine (whole_Mul.calls kj4 _ _ y510 t513 t514 _ ?side1 ?side2 A38.out).mono ?_
       (case side1 => exact kc_ (Kd.N_reads' HO512.out).2.2)
       (case side2 => exact (Kd.N_reads' HO512.out).2.1)
       rintro e w67 ⟨v515, rfl, ho0, hb⟩
       refine ⟨_, rfl, ?_⟩
       have n0_ := Aside0.mk (Kd.V_elder' (by (with_reducible repeat (first | apply Kd.V_alloc | apply Kd.V_drewN | apply Kd.V_drew)); exact HO_484001.out) (Kd.R_base ho0) hb)
       have n1_ := Aside0.mk (Kd.V_elder' (by (with_reducible repeat (first | apply Kd.V_alloc | apply Kd.V_drewN | apply Kd.V_drew)); exact HO_485001.out) (Kd.R_base ho0) hb)
       have n2_ := Aside0.mk (Kd.V_elder' (by (with_reducible repeat (first | apply Kd.V_alloc | apply Kd.V_drewN | apply Kd.V_drew)); exact HO_486001.out) (Kd.R_base ho0) hb)
       have n3_ := Aside0.mk (Kd.R_elder' (kr_ HO492.out) (Kd.R_base ho0) hb)
       have n4_ := Aside0.mk (Kd.R_elder' (kr_ HO497.out) (Kd.R_base ho0) hb)
       have n5_ := Aside0.mk (Kd.R_elder' (kr_ HO501.out) (Kd.R_base ho0) hb)
       have n6_ := Aside0.mk (Kd.N_elder' (by (with_reducible repeat (first | apply Kd.N_alloc | apply Kd.N_drewN | apply Kd.N_drew)); exact HO505.out) (Kd.R_base ho0) hb)
       have n7_ := Aside0.mk (Kd.R_elder' (kr_ HO509.out) (Kd.R_base ho0) hb)
       have n8_ := Aside0.mk (Kd.N_elder' (by (with_reducible repeat (first | apply Kd.N_alloc | apply Kd.N_drewN | apply Kd.N_drew)); exact HO512.out) (Kd.R_base ho0) hb)
       have n9_ := Aside0.mk (Kd.R_lower (Kd.R_new' (Kd.R_new' (Kd.R_new' (Kd.R_new' (Kd.R_newM (M := fun k_ => (w.heap.size ≤ k_)) ho0 (below_size (bw_ HB.out)) (fun k_ h_ => h_)) (Kd.R_lt (kr_ HO492.out))) (Kd.R_lt (kr_ HO497.out))) (Kd.R_lt (kr_ HO501.out))) (Kd.R_lt (kr_ HO509.out))) (below_size (bw_ HB.out)))
       have n10_ := kq_ BK483 hb
       have n11_ := kq_ BK484 hb
       have n12_ := kq_ BK485 hb
       have n13_ := bq_ HB hb
       clear HO_484001
       clear HO_485001
       clear HO_486001
       clear HO492
       clear HO497
       clear HO501
       clear HO505
       clear HO509
       clear HO512
       clear BK483
       clear BK484
       clear BK485
       clear HB
       have HO_484001 := n0_
       have HO_485001 := n1_
       have HO_486001 := n2_
       have HO492 := n3_
       have HO497 := n4_
       have HO501 := n5_
       have HO505 := n6_
       have HO509 := n7_
       have HO512 := n8_
       have HO516 := n9_
       have BK483 := n10_
       have BK484 := n11_
       have BK485 := n12_
       have HB := n13_
       clear n0_ n1_ n2_ n3_ n4_ n5_ n6_ n7_ n8_ n9_ n10_ n11_ n12_ n13_
       (try clear hb)
       (try clear hb2)
       (try clear hk)
       (try clear hi)
       (try clear ho0)
       obtain ⟨Ao68, co68, eo68⟩ := Kd.R_slice HO509.out
       (first | subst eo68 | (injection eo68 with f1_ f2_ f3_; have f4_ := f1_.symm; have f5_ := f3_.symm; clear f1_ f2_ f3_; subst f4_; subst f5_))
       obtain ⟨Ao69, co69, eo69⟩ := Kd.R_slice HO516.out
       (first | subst eo69 | (injection eo69 with f1_ f2_ f3_; have f4_ := f1_.symm; have f5_ := f3_.symm; clear f1_ f2_ f3_; subst f4_; subst f5_))
       refine hK.out _ _ ⟨(blk_cell BK483.out 0).trans rfl, (blk_cell BK483.out 1).trans rfl, (blk_cell BK484.out 0).trans rfl, (blk_cell BK484.out 1).trans rfl, (blk_cell BK485.out 0).trans rfl, (blk_cell BK485.out 1).trans rfl⟩ (fun hHeld => ?_)
       clear hK K
       refine norm_ (a' := ?_) ?_ ?_
       rotate_left
       ·show Act.put _ (some 62) _ = _
        exact pt_
       refine one_ (i := 26) (N := some 63) #[true, true, true, true, true, true, true, true, true, true, true, true, true, true, true, true, true, true, true, true, true, true, true, true, true, true, true, true, true, true, false, false, false, false, false, false, false, false, false, false, false] rfl rfl (one_of HT_.out (by kernel_rfl)) (by decide) (fun K hK => ?_)
       refine gs_ Try.func25 #[.agg #[.bool t506, .slice Ao68 t507.length co68], .agg #[.bool t513, .slice Ao69 t514.length co69]] ?_
       with_reducible refine (whole_Cmp.calls kj4 t506 _ _ t507 t513 _ _ t514 t517 _ ?side1 ?side2 ?side3 ?side4 A39.out).mono ?_
       (case side1 => exact kc_ (Kd.R_reads' HO509.out).2.2)
       (case side2 => exact (Kd.R_reads' HO509.out).2.1)
       (case side3 => exact kc_ (Kd.R_reads' HO516.out).2.2)
       (case side4 => exact (Kd.R_reads' HO516.out).2.1)
       rintro e w70 ⟨rfl, hb⟩
       refine ⟨_, rfl, ?_⟩
       have n0_ := Aside0.mk (Kd.V_below (by (with_reducible repeat (first | apply Kd.V_alloc | apply Kd.V_drewN | apply Kd.V_drew)); exact HO_484001.out) hb)
       have n1_ := Aside0.mk (Kd.V_below (by (with_reducible repeat (first | apply Kd.V_alloc | apply Kd.V_drewN | apply Kd.V_drew)); exact HO_485001.out) hb)
       have n2_ := Aside0.mk (Kd.V_below (by (with_reducible repeat (first | apply Kd.V_alloc | apply Kd.V_drewN | apply Kd.V_drew)); exact HO_486001.out) hb)
       have n3_ := Aside0.mk (Kd.R_below (kr_ HO492.out) hb)
       have n4_ := Aside0.mk (Kd.R_below (kr_ HO497.out) hb)
       have n5_ := Aside0.mk (Kd.R_below (kr_ HO501.out) hb)
       have n6_ := Aside0.mk (Kd.N_below (by (with_reducible repeat (first | apply Kd.N_alloc | apply Kd.N_drewN | apply Kd.N_drew)); exact HO505.out) hb)
       have n7_ := Aside0.mk (Kd.R_below (kr_ HO509.out) hb)
       have n8_ := Aside0.mk (Kd.N_below (by (with_reducible repeat (first | apply Kd.N_alloc | apply Kd.N_drewN | apply Kd.N_drew)); exact HO512.out) hb)
       have n9_ := Aside0.mk (Kd.R_below (kr_ HO516.out) hb)
       have n10_ := kq_ BK483 hb
       have n11_ := kq_ BK484 hb
       have n12_ := kq_ BK485 hb
       have n13_ := bq_ HB hb
       clear HO_484001
       clear HO_485001
       clear HO_486001
       clear HO492
       clear HO497
       clear HO501
       clear HO505
       clear HO509
       clear HO512
       clear HO516
       clear BK483
       clear BK484
       clear BK485
       clear HB
       have HO_484001 := n0_
       have HO_485001 := n1_
       have HO_486001 := n2_
       have HO492 := n3_
       have HO497 := n4_
       have HO501 := n5_
       have HO505 := n6_
       have HO509 := n7_
       have HO512 := n8_
       have HO516 := n9_
       have BK483 := n10_
       have BK484 := n11_
       have BK485 := n12_
       have HB := n13_
       clear n0_ n1_ n2_ n3_ n4_ n5_ n6_ n7_ n8_ n9_ n10_ n11_ n12_ n13_
       (try clear hb)
       (try clear hb2)
       (try clear hk)
       (try clear hi)
       refine hK.out _ _ ⟨(blk_cell BK483.out 0).trans rfl, (blk_cell BK483.out 1).trans rfl, (blk_cell BK484.out 0).trans rfl, (blk_cell BK484.out 1).trans rfl, (blk_cell BK485.out 0).trans rfl, (blk_cell BK485.out 1).trans rfl⟩ (fun hHeld => ?_)
       clear hK K
       refine norm_ (a' := ?_) ?_ ?_
       rotate_left
       ·show Act.put _ (some 63) _ = _
        exact pt_
       refine pure_ (i := 30) (N := some 67) (v := ?_) (a' := ?_) #[true, true, true, true, true, true, true, true, true, true, true, true, true, true, true, true, true, true, true, true, true, true, true, true, true, true, true, true, true, true, true, false, false, false, false, false, false, false, false, false, false] rfl rfl (any_of HT_.out (by kernel_rfl)) (fun _ _ _ h => h) (Or.inl ⟨by rfl, ?_⟩) ?_ ?_
       rotate_left
       ·intro w'
        go_simp
        with_reducible rfl
       rotate_left
       ·exact pt_
       refine pure_ (i := 31) (N := some 68) (v := ?_) (a' := ?_) #[true, true, true, true, true, true, true, true, true, true, true, true, true, true, true, true, true, true, true, true, true, true, true, true, true, true, true, true, true, true, true, true, false, false, false, false, false, false, false, false, false] rfl rfl (any_of HT_.out (by kernel_rfl)) (fun _ _ _ h => h) (Or.inl ⟨by rfl, ?_⟩) ?_ ?_
       rotate_left
       ·intro w'
        go_simp
        with_reducible rfl
       rotate_left
       ·exact pt_
       refine pure_ (i := 32) (N := some 69) (v := ?_) (a' := ?_) #[true, true, true, true, true, true, true, true, true, true, true, true, true, true, true, true, true, true, true, true, true, true, true, true, true, true, true, true, true, true, true, true, true, false, false, false, false, false, false, false, false] rfl rfl (any_of HT_.out (by kernel_rfl)) (fun _ _ _ h => h) (Or.inl ⟨by rfl, ?_⟩) ?_ ?_
       rotate_left
       ·intro w'
        go_simp
        with_reducible rfl
       rotate_left
       ·exact pt_
       refine pure_ (i := 36) (N := some 73) (v := ?_) (a' := ?_) #[true, true, true, true, true, true, true, true, true, true, true, true, true, true, true, true, true, true, true, true, true, true, true, true, true, true, true, true, true, true, true, true, true, false, false, false, true, false, false, false, false] rfl rfl (any_of HT_.out (by kernel_rfl)) (fun _ _ _ h => h) (Or.inl ⟨by rfl, ?_⟩) ?_ ?_
       rotate_left
       ·intro w'
        go_simp
        with_reducible rfl
       rotate_left
       ·exact pt_
       refine pure_ (i := 37) (N := some 74) (v := ?_) (a' := ?_) #[true, true, true, true, true, true, true, true, true, true, true, true, true, true, true, true, true, true, true, true, true, true, true, true, true, true, true, true, true, true, true, true, true, false, false, false, true, true, false, false, false] rfl rfl (any_of HT_.out (by kernel_rfl)) (fun _ _ _ h => h) (Or.inl ⟨by rfl, ?_⟩) ?_ ?_
       rotate_left
       ·intro w'
        go_simp
        with_reducible rfl
       rotate_left
       ·exact pt_
       refine take_ (i := 33) (N := some 70) (v := ?_) (a' := ?_) #[true, true, true, true, true, true, true, true, true, true, true, true, true, true, true, true, true, true, true, true, true, true, true, true, true, true, true, true, true, true, true, true, true, true, false, false, true, true, false, false, false] rfl rfl (take_ofW HT_.out HW_.out (by kernel_rfl)) (fun _ _ _ h => h) (Or.inl ⟨by rfl, ?_⟩) hHeld ?_ ?_
       rotate_left
       ·rintro w' ⟨s0, s1, s2, s3, s4, s5⟩
        go_simp
        with_reducible rfl
       rotate_left
       ·exact pt_
       refine take_ (i := 34) (N := some 71) (v := ?_) (a' := ?_) #[true, true, true, true, true, true, true, true, true, true, true, true, true, true, true, true, true, true, true, true, true, true, true, true, true, true, true, true, true, true, true, true, true, true, true, false, true, true, false, false, false] rfl rfl (take_ofW HT_.out HW_.out (by kernel_rfl)) (fun _ _ _ h => h) (Or.inl ⟨by rfl, ?_⟩) hHeld ?_ ?_
       rotate_left
       ·rintro w' ⟨s0, s1, s2, s3, s4, s5⟩
        go_simp
        with_reducible rfl
       rotate_left
       ·exact pt_
       refine one_ (i := 35) (N := some 72) #[true, true, true, true, true, true, true, true, true, true, true, true, true, true, true, true, true, true, true, true, true, true, true, true, true, true, true, true, true, true, true, true, true, true, true, true, true, true, false, false, false] rfl rfl (one_of HT_.out (by kernel_rfl)) (by decide) (fun K hK => ?_)
       refine gs_ Try.func25 #[.agg #[.bool a1_0, .slice A1_1 l1_1.length c1_1], .agg #[.bool a0_0, .slice A0_1 l0_1.length c0_1]] ?_
       with_reducible refine (whole_Cmp.calls kj4 a1_0 _ _ l1_1 a0_0 _ _ l0_1 t518 _ ?side1 ?side2 ?side3 ?side4 A41.out).mono ?_
       (case side1 => exact kc_ (Kd.V_reads' HO_485001.out).2.2)
       (case side2 => exact (Kd.V_reads' HO_485001.out).2.1)
       (case side3 => exact kc_ (Kd.V_reads' HO_484001.out).2.2)
       (case side4 => exact (Kd.V_reads' HO_484001.out).2.1)
       rintro e w71 ⟨rfl, hb⟩
       refine ⟨_, rfl, ?_⟩
       have n0_ := Aside0.mk (Kd.V_below (by (with_reducible repeat (first | apply Kd.V_alloc | apply Kd.V_drewN | apply Kd.V_drew)); exact HO_484001.out) hb)
       have n1_ := Aside0.mk (Kd.V_below (by (with_reducible repeat (first | apply Kd.V_alloc | apply Kd.V_drewN | apply Kd.V_drew)); exact HO_485001.out) hb)
       have n2_ := Aside0.mk (Kd.V_below (by (with_reducible repeat (first | apply Kd.V_alloc | apply Kd.V_drewN | apply Kd.V_drew)); exact HO_486001.out) hb)
       have n3_ := Aside0.mk (Kd.R_below (kr_ HO492.out) hb)
       have n4_ := Aside0.mk (Kd.R_below (kr_ HO497.out) hb)
       have n5_ := Aside0.mk (Kd.R_below (kr_ HO501.out) hb)
       have n6_ := Aside0.mk (Kd.N_below (by (with_reducible repeat (first | apply Kd.N_alloc | apply Kd.N_drewN | apply Kd.N_drew)); exact HO505.out) hb)
       have n7_ := Aside0.mk (Kd.R_below (kr_ HO509.out) hb)
       have n8_ := Aside0.mk (Kd.N_below (by (with_reducible repeat (first | apply Kd.N_alloc | apply Kd.N_drewN | apply Kd.N_drew)); exact HO512.out) hb)
       have n9_ := Aside0.mk (Kd.R_below (kr_ HO516.out) hb)
       have n10_ := kq_ BK483 hb
       have n11_ := kq_ BK484 hb
       have n12_ := kq_ BK485 hb
       have n13_ := bq_ HB hb
       clear HO_484001
       clear HO_485001
       clear HO_486001
       clear HO492
       clear HO497
       clear HO501
       clear HO505
       clear HO509
       clear HO512
       clear HO516
       clear BK483
       clear BK484
       clear BK485
       clear HB
       have HO_484001 := n0_
       have HO_485001 := n1_
       have HO_486001 := n2_
       have HO492 := n3_
       have HO497 := n4_
       have HO501 := n5_
       have HO505 := n6_
       have HO509 := n7_
       have HO512 := n8_
       have HO516 := n9_
       have BK483 := n10_
       have BK484 := n11_
       have BK485 := n12_
       have HB := n13_
       clear n0_ n1_ n2_ n3_ n4_ n5_ n6_ n7_ n8_ n9_ n10_ n11_ n12_ n13_
       (try clear hb)
       (try clear hb2)
       (try clear hk)
       (try clear hi)
       refine hK.out _ _ ⟨(blk_cell BK483.out 0).trans rfl, (blk_cell BK483.out 1).trans rfl, (blk_cell BK484.out 0).trans rfl, (blk_cell BK484.out 1).trans rfl, (blk_cell BK485.out 0).trans rfl, (blk_cell BK485.out 1).trans rfl⟩ (fun hHeld => ?_)
       clear hK K
       refine norm_ (a' := ?_) ?_ ?_
       rotate_left
       ·show Act.put _ (some 72) _ = _
        exact pt_
       refine pure_ (i := 38) (N := some 75) (v := ?_) (a' := ?_) #[true, true, true, true, true, true, true, true, true, true, true, true, true, true, true, true, true, true, true, true, true, true, true, true, true, true, true, true, true, true, true, true, true, true, true, true, true, true, true, false, false] rfl rfl (any_of HT_.out (by kernel_rfl)) (fun _ _ _ h => h) (Or.inl ⟨by rfl, ?_⟩) ?_ ?_
       rotate_left
       ·intro w'
        go_simp
        with_reducible rfl
       rotate_left
       ·exact pt_
       refine pure_ (i := 39) (N := some 76) (v := ?_) (a' := ?_) #[true, true, true, true, true, true, true, true, true, true, true, true, true, true, true, true, true, true, true, true, true, true, true, true, true, true, true, true, true, true, true, true, true, true, true, true, true, true, true, true, false] rfl rfl (any_of HT_.out (by kernel_rfl)) (fun _ _ _ h => h) (Or.inl ⟨by rfl, ?_⟩) ?_ ?_
       rotate_left
       ·intro w'
        go_simp
        with_reducible rfl
       rotate_left
       ·exact pt_
       refine pure_ (i := 40) (N := some 6) (v := ?_) (a' := ?_) #[true, true, true, true, true, true, true, true, true, true, true, true, true, true, true, true, true, true, true, true, true, true, true, true, true, true, true, true, true, true, true, true, true, true, true, true, true, true, true, true, true] rfl rfl (any_of HT_.out (by kernel_rfl)) (fun _ _ _ h => h) (Or.inl ⟨by rfl, ?_⟩) ?_ ?_
       rotate_left
       ·intro w'
        go_simp
        with_reducible rfl
       rotate_left
       ·exact pt_
       refine done_ (done_of HT_.out (by kernel_rfl)) ?_
       try go_wp2
       go_ret
       exact ⟨rf_, bw_ HB.out⟩
      ·rw [if_neg c40] at H
       have c40b0 : (t517 == (wrap64 (t487 * t488))) = false := beq_eq_false_iff_ne.mpr c40
       have c40b1 : (t517 != (wrap64 (t487 * t488))) = true := bne_iff_ne.mpr c40
       exact absurd ((Option.some.inj H).trans HRT_.out) (by simp)
     ·rw [if_neg c36] at H
      have c36b0 : (t502 == t487) = false := beq_eq_false_iff_ne.mpr c36
      have c36b1 : (t502 != t487) = true := bne_iff_ne.mpr c36
      exact absurd ((Option.some.inj H).trans HRT_.out) (by simp)
    ·rw [if_neg c32] at H
     have c32b0 : (t493 == t487) = false := beq_eq_false_iff_ne.mpr c32
     have c32b1 : (t493 != t487) = true := bne_iff_ne.mpr c32
     exact absurd ((Option.some.inj H).trans HRT_.out) (by simp)


end Go.Proofs.Ytbejmpocgnldnaa.PZ
