-- Laid by this work's own program; Lean checks it.
import Derived.Test.YtaookeneeemfbaaDoorPAx0
import Derived.Test.YtaookeneeemfbaaDoorPAx1
import Derived.Test.YtaookeneeemfbaaDoorPAx7
import Derived.Test.YtaookeneeemfbaaDoorPAx8
import Derived.Test.YtaookeneeemfbaaDoorPAx9
import Derived.Test.YtaookeneeemfbaaDoorPAx13
import Derived.Test.YtaookeneeemfbaaDoorPAx21
namespace Go.Proofs.YtaookeneeemfbaaDoor.PA
open Go.RowKit Go.Proofs.YtaookeneeemfbaaDoorW.PrintWords Go.Proofs.YtaookeneeemfbaaDoorW.PrintLast Go.Proofs.YtaookeneeemfbaaDoorW.PrintMore
attribute [local go_sem] max2_int min2_int max_two min_two max_three min_three max_four min_four   -- for this text's walks alone
set_option linter.unusedVariables false
set_option linter.unusedSimpArgs false

attribute [local go_sem ↓ high] isSome_set_
/-! ### peloruslaw03_DyMoves: function 4 -/
theorem peloruslaw03_DyMoves.tab7 : rtab .any (opsOf Tryd.f4 7) = peloruslaw03_DyMoves.T7 := by kernel_rfl
theorem peloruslaw03_DyMoves.bits7 : waitsOk peloruslaw03_DyMoves.T7.2 peloruslaw03_DyMoves.B7 = true := by kernel_rfl
set_option maxHeartbeats 8000000 in
set_option maxRecDepth 100000 in
theorem peloruslaw03_DyMoves.calls (k : Nat) (a0_0 : Bool) (P0_1_ : Nat → Prop) (A0_1 : Option Addr) (c0_1 : Nat) (l0_1 : List Int) (a0_2 : Int) (a1_0 : Bool) (A1_1 : Option Addr) (c1_1 : Nat) (l1_1 : List Int) (a1_2 : Int) (a2 : Int) (a3 : Int) (r : Bool) (w : World) (hs0_1 : Kd.V (Kd.int .u32) 51 w w.heap.size (fun k_ => P0_1_ k_) (.slice A0_1 l0_1.length c0_1) l0_1) (hr1_1 : Kd.C (Kd.int .u32) w A1_1 l1_1.length l1_1) (hc1_1 : l1_1.length ≤ c1_1) (hr_ : r = true) (haw_ : ∀ r, peloruslaw03_awake.f k = some r → r = true) (h : peloruslaw03_DyMoves.f k a0_0 l0_1 a0_2 a1_0 l1_1 a1_2 a2 a3 = some r) (htab_ : Kd.C (Kd.int .u8) w (some ⟨0, 0, none⟩) 32 tz32tab) :
  Calls Tryd.prog 4 #[.agg #[.bool a0_0, .slice A0_1 l0_1.length c0_1, .int .i64 a0_2], .agg #[.bool a1_0, .slice A1_1 l1_1.length c1_1, .int .i64 a1_2], .int .i64 a2, .int .i64 a3] w fun e w' => e = .returned (.bool r) ∧ Below w.heap.size w w' := by
 have HTAB := Aside0.mk htab_
 clear htab_
 have HRT_ := Aside0.mk hr_
 clear hr_
 have HAW_ := Aside0.mk haw_
 clear haw_
 have hu27 := Tryd.underlying27
 have HO0_1 := Aside0.mk (show Kd.V (Kd.int .u32) 51 w w.heap.size (fun k_ => (P0_1_ k_ ∨ w.heap.size ≤ k_)) (.slice A0_1 l0_1.length c0_1) l0_1 from Kd.V_mono hs0_1 (fun k_ hk => .inl hk))
 have HR1_1 := Aside0.mk hr1_1
 have HC1_1 := Aside0.mk hc1_1
 clear hr1_1 hc1_1
 have HB := Aside0.mk (Below.refl w.heap.size w)
 have H : ((peloruslaw03_awake.f k).bind fun t683 => ((peloruslaw03_Few.f a0_0 l0_1 a0_2).bind fun t684 => ((peloruslaw03_Few.f a1_0 l1_1 a1_2).bind fun t685 => (if t683 = true then (if t684 = true then (if t685 = true then (if a2 > 1000 then (peloruslaw03_DyMoves.j0 k a2 a3 t683 true a0_0 l0_1 a0_2 a1_0 l1_1 a1_2) else (if a2 < (-1000) then (peloruslaw03_DyMoves.j0 k a2 a3 t683 true a0_0 l0_1 a0_2 a1_0 l1_1 a1_2) else (if a3 > 1000 then (peloruslaw03_DyMoves.j0 k a2 a3 t683 true a0_0 l0_1 a0_2 a1_0 l1_1 a1_2) else (peloruslaw03_DyMoves.j0 k a2 a3 t683 (decide (a3 < (-1000))) a0_0 l0_1 a0_2 a1_0 l1_1 a1_2)))) else (peloruslaw03_DyMoves.j0 k a2 a3 t683 true a0_0 l0_1 a0_2 a1_0 l1_1 a1_2)) else (peloruslaw03_DyMoves.j0 k a2 a3 t683 true a0_0 l0_1 a0_2 a1_0 l1_1 a1_2)) else (peloruslaw03_DyMoves.j0 k a2 a3 t683 true a0_0 l0_1 a0_2 a1_0 l1_1 a1_2))))) = some r := h
 clear h
 replace H := Option.bind_eq_some_iff.mp H
 obtain ⟨t683, A50, H⟩ := H
 (try dsimp only at H)
 have A5 := Aside0.mk A50
 clear A50
 replace H := Option.bind_eq_some_iff.mp H
 obtain ⟨t684, A60, H⟩ := H
 (try dsimp only at H)
 have A6 := Aside0.mk A60
 clear A60
 replace H := Option.bind_eq_some_iff.mp H
 obtain ⟨t685, A70, H⟩ := H
 (try dsimp only at H)
 have A7 := Aside0.mk A70
 clear A70
 have HC8 := Aside0.mk H
 clear H
 go_enter Tryd.func4, Tryd.ntmps4
 go_upto_region 4 with (first | ((with_reducible refine gate_dst (N := 4) rfl ?_); (try (refine gate_guard (by rfl) ?_; dsimp only)); refine bx_ 4 #[.bool a0_0, .slice A0_1 l0_1.length c0_1, .int .i64 a0_2] 27 ?_; intro gb681 hg w9 hbox hb; have n0_ := Aside0.mk (Kd.V_below (Kd.V_elderB (by (with_reducible repeat (first | apply Kd.V_alloc | apply Kd.V_drewN | apply Kd.V_drew)); exact HO0_1.out) gb681 (Nat.le_of_eq hg.symm)) hb); have n1_ := bq_ HB hb; have n2_ := Aside0.mk (hbox); have n3_ := ge_ hg HB; have n4_ := ge_ hg HB; clear HO0_1; clear HB; have HO0_1 := n0_; have HB := n1_; have BK681 := n2_; have GW681 := n3_; have GE681 := n4_; clear n0_ n1_ n2_ n3_ n4_; clear hb hbox hg) | ((with_reducible refine gate_dst (N := 5) rfl ?_); (try (refine gate_guard (by rfl) ?_; dsimp only)); refine bx_ 5 #[.bool a1_0, .slice A1_1 l1_1.length c1_1, .int .i64 a1_2] 27 ?_; intro gb682 hg w10 hbox hb; have n0_ := Aside0.mk (Kd.V_below (Kd.V_elderB (by (with_reducible repeat (first | apply Kd.V_alloc | apply Kd.V_drewN | apply Kd.V_drew)); exact HO0_1.out) gb682 (Nat.le_of_eq hg.symm)) hb); have n1_ := kq_ BK681 hb; have n2_ := bq_ HB hb; have n3_ := Aside0.mk (hbox); have n4_ := ge_ hg HB; have n5_ := ge_ hg HB; have n6_ := nb_ hg BK681; have n7_ := nc_ hg BK681; clear HO0_1; clear BK681; clear HB; have HO0_1 := n0_; have BK681 := n1_; have HB := n2_; have BK682 := n3_; have GW682 := n4_; have GE682 := n5_; have NB681_682 := n6_; have NB682_681 := n7_; clear n0_ n1_ n2_ n3_ n4_ n5_ n6_ n7_; clear hb hbox hg) | ((with_reducible refine gate_callee (f := 9) rfl ?_); refine gl_ (some 13) Tryd.func9 #[] ?_; (with_reducible refine (peloruslaw03_awake.calls k  t683 _ (HAW_.out _ A5.out) A5.out ?sidet).mono ?_); (case sidet => exact Kd.C_below HTAB.out (bw_ HB.out)); rintro e w11 ⟨rfl, hb⟩; refine ⟨_, rfl, ?_⟩; have n0_ := Aside0.mk (Kd.V_below (by (with_reducible repeat (first | apply Kd.V_alloc | apply Kd.V_drewN | apply Kd.V_drew)); exact HO0_1.out) hb); have n1_ := kq_ BK681 hb; have n2_ := kq_ BK682 hb; have n3_ := bq_ HB hb; clear HO0_1; clear BK681; clear BK682; clear HB; have HO0_1 := n0_; have BK681 := n1_; have BK682 := n2_; have HB := n3_; clear n0_ n1_ n2_ n3_; (try clear hb); (try clear hb2); (try clear hk); (try clear hi); have hnb12 := NB681_682.out; have hnc12 := NB682_681.out; obtain ⟨hcz13_0, hcz13_1, hcz13_2, hfz13_0, hfz13_1, hfz13_2⟩ := c3_ BK681) | ((with_reducible refine gate_callee (f := 19) rfl ?_); refine gl_ (some 15) Tryd.func19 #[.agg #[.bool a0_0, .slice A0_1 l0_1.length c0_1, .int .i64 a0_2]] ?_; (with_reducible refine (peloruslaw03_Few.calls a0_0 _ _ l0_1 a0_2 t684 _ ?side1 ?side2 A6.out).mono ?_); (case side1 => exact kc_ (Kd.V_reads' HO0_1.out).2.2); (case side2 => exact (Kd.V_reads' HO0_1.out).2.1); rintro e w14 ⟨rfl, hb⟩; refine ⟨_, rfl, ?_⟩; have n0_ := Aside0.mk (Kd.V_below (by (with_reducible repeat (first | apply Kd.V_alloc | apply Kd.V_drewN | apply Kd.V_drew)); exact HO0_1.out) hb); have n1_ := kq_ BK681 hb; have n2_ := kq_ BK682 hb; have n3_ := bq_ HB hb; clear HO0_1; clear BK681; clear BK682; clear HB; have HO0_1 := n0_; have BK681 := n1_; have BK682 := n2_; have HB := n3_; clear n0_ n1_ n2_ n3_; (try clear hb); (try clear hb2); (try clear hk); (try clear hi); obtain ⟨hcz15_0, hcz15_1, hcz15_2, hfz15_0, hfz15_1, hfz15_2⟩ := c3_ BK682) | ((with_reducible refine gate_callee (f := 19) rfl ?_); refine gl_ (some 17) Tryd.func19 #[.agg #[.bool a1_0, .slice A1_1 l1_1.length c1_1, .int .i64 a1_2]] ?_; (with_reducible refine (peloruslaw03_Few.calls a1_0 _ _ l1_1 a1_2 t685 _ ?side1 ?side2 A7.out).mono ?_); (case side1 => exact kc_ (Kd.C_below HR1_1.out HB.out)); (case side2 => exact HC1_1.out); rintro e w16 ⟨rfl, hb⟩; refine ⟨_, rfl, ?_⟩; have n0_ := Aside0.mk (Kd.V_below (by (with_reducible repeat (first | apply Kd.V_alloc | apply Kd.V_drewN | apply Kd.V_drew)); exact HO0_1.out) hb); have n1_ := kq_ BK681 hb; have n2_ := kq_ BK682 hb; have n3_ := bq_ HB hb; clear HO0_1; clear BK681; clear BK682; clear HB; have HO0_1 := n0_; have BK681 := n1_; have BK682 := n2_; have HB := n3_; clear n0_ n1_ n2_ n3_; (try clear hb); (try clear hb2); (try clear hk); (try clear hi)))
 (try simp only [Act.put, List.setIfInBounds_toArray, List.set_cons_zero, List.set_cons_succ])
 go_cut [43] (fun v43 wc => ∃ (kq : Nat) (x43_7 : Bool), v43 = .bool x43_7 ∧ Aside0 (peloruslaw03_DyMoves.j0 kq a2 a3 t683 x43_7 a0_0 l0_1 a0_2 a1_0 l1_1 a1_2 = some r) ∧ Aside0 (kq ≤ k) ∧ Aside0 (Kd.V (Kd.int .u32) 51 wc w.heap.size (fun k_ => (P0_1_ k_ ∨ w.heap.size ≤ k_) ∧ k_ ≠ gb681 ∧ k_ ≠ gb682) (.slice A0_1 l0_1.length c0_1) l0_1) ∧ Aside0 (wc.heap[gb681]? = some (.cells #[.bool a0_0, (.slice A0_1 l0_1.length c0_1), .int .i64 a0_2] 27 (0, 0))) ∧ Aside0 (wc.heap[gb682]? = some (.cells #[.bool a1_0, (.slice A1_1 l1_1.length c1_1), .int .i64 a1_2] 27 (0, 0))) ∧ Aside0 (Below w.heap.size w wc))
 case first =>
  have H := HC8.out
  clear HC8
  by_cases c17 : t683 = true
  ·subst c17
   have H1 : (if t684 = true then (if t685 = true then (if a2 > 1000 then (peloruslaw03_DyMoves.j0 k a2 a3 true true a0_0 l0_1 a0_2 a1_0 l1_1 a1_2) else (if a2 < (-1000) then (peloruslaw03_DyMoves.j0 k a2 a3 true true a0_0 l0_1 a0_2 a1_0 l1_1 a1_2) else (if a3 > 1000 then (peloruslaw03_DyMoves.j0 k a2 a3 true true a0_0 l0_1 a0_2 a1_0 l1_1 a1_2) else (peloruslaw03_DyMoves.j0 k a2 a3 true (decide (a3 < (-1000))) a0_0 l0_1 a0_2 a1_0 l1_1 a1_2)))) else (peloruslaw03_DyMoves.j0 k a2 a3 true true a0_0 l0_1 a0_2 a1_0 l1_1 a1_2)) else (peloruslaw03_DyMoves.j0 k a2 a3 true true a0_0 l0_1 a0_2 a1_0 l1_1 a1_2)) = some r := by rw [if_pos rfl] at H; exact H
   clear H
   have H := H1
   clear H1
   by_cases c18 : t684 = true
   ·subst c18
    have H1 : (if t685 = true then (if a2 > 1000 then (peloruslaw03_DyMoves.j0 k a2 a3 true true a0_0 l0_1 a0_2 a1_0 l1_1 a1_2) else (if a2 < (-1000) then (peloruslaw03_DyMoves.j0 k a2 a3 true true a0_0 l0_1 a0_2 a1_0 l1_1 a1_2) else (if a3 > 1000 then (peloruslaw03_DyMoves.j0 k a2 a3 true true a0_0 l0_1 a0_2 a1_0 l1_1 a1_2) else (peloruslaw03_DyMoves.j0 k a2 a3 true (decide (a3 < (-1000))) a0_0 l0_1 a0_2 a1_0 l1_1 a1_2)))) else (peloruslaw03_DyMoves.j0 k a2 a3 true true a0_0 l0_1 a0_2 a1_0 l1_1 a1_2)) = some r := by rw [if_pos rfl] at H; exact H
    clear H
    have H := H1
    clear H1
    by_cases c19 : t685 = true
    ·subst c19
     have H1 : (if a2 > 1000 then (peloruslaw03_DyMoves.j0 k a2 a3 true true a0_0 l0_1 a0_2 a1_0 l1_1 a1_2) else (if a2 < (-1000) then (peloruslaw03_DyMoves.j0 k a2 a3 true true a0_0 l0_1 a0_2 a1_0 l1_1 a1_2) else (if a3 > 1000 then (peloruslaw03_DyMoves.j0 k a2 a3 true true a0_0 l0_1 a0_2 a1_0 l1_1 a1_2) else (peloruslaw03_DyMoves.j0 k a2 a3 true (decide (a3 < (-1000))) a0_0 l0_1 a0_2 a1_0 l1_1 a1_2)))) = some r := by rw [if_pos rfl] at H; exact H
     clear H
     have H := H1
     clear H1
     by_cases c20 : a2 > 1000
     ·rw [if_pos c20] at H
      have c20b0 : decide (1000 < a2) = true := decide_eq_true c20
      clear c20
      (first | rw [c20b0] | (simp only [i64_w, i32_w]; rw [c20b0]) | skip)
      have H' := Aside0.mk H
      clear H
      go_wp2
      go_meet
      case rel => exact ⟨_, (true), (by first | rfl | (simp; done) | (simp [*]; done)), H', ⟨by first | omega | exact Nat.le_refl _⟩, ⟨by (with_reducible repeat (first | apply Kd.V_alloc | apply Kd.V_drewN | apply Kd.V_drew)); exact Kd.V_mono HO0_1.out (fun _ hk => ⟨hk.1.1, ⟨hk.1.2, hk.2⟩⟩)⟩, ⟨kb_ BK681.out⟩, ⟨kb_ BK682.out⟩, ⟨bw_ HB.out⟩⟩
     ·rw [if_neg c20] at H
      have c20b0 : decide (1000 < a2) = false := decide_eq_false c20
      clear c20
      (first | rw [c20b0] | (simp only [i64_w, i32_w]; rw [c20b0]) | skip)
      by_cases c21 : a2 < (-1000)
      ·rw [if_pos c21] at H
       have c21b0 : decide (a2 < (-1000)) = true := decide_eq_true c21
       clear c21
       have H' := Aside0.mk H
       clear H
       go_wp2
       go_meet
       case rel => exact ⟨_, (true), (by first | rfl | (simp; done) | (simp [*]; done)), H', ⟨by first | omega | exact Nat.le_refl _⟩, ⟨by (with_reducible repeat (first | apply Kd.V_alloc | apply Kd.V_drewN | apply Kd.V_drew)); exact Kd.V_mono HO0_1.out (fun _ hk => ⟨hk.1.1, ⟨hk.1.2, hk.2⟩⟩)⟩, ⟨kb_ BK681.out⟩, ⟨kb_ BK682.out⟩, ⟨bw_ HB.out⟩⟩
      ·rw [if_neg c21] at H
       have c21b0 : decide (a2 < (-1000)) = false := decide_eq_false c21
       clear c21
       by_cases c22 : a3 > 1000
       ·rw [if_pos c22] at H
        have c22b0 : decide (1000 < a3) = true := decide_eq_true c22
        clear c22
        have H' := Aside0.mk H
        clear H
        go_wp2
        go_meet
        case rel => exact ⟨_, (true), (by first | rfl | (simp; done) | (simp [*]; done)), H', ⟨by first | omega | exact Nat.le_refl _⟩, ⟨by (with_reducible repeat (first | apply Kd.V_alloc | apply Kd.V_drewN | apply Kd.V_drew)); exact Kd.V_mono HO0_1.out (fun _ hk => ⟨hk.1.1, ⟨hk.1.2, hk.2⟩⟩)⟩, ⟨kb_ BK681.out⟩, ⟨kb_ BK682.out⟩, ⟨bw_ HB.out⟩⟩
       ·rw [if_neg c22] at H
        have c22b0 : decide (1000 < a3) = false := decide_eq_false c22
        clear c22
        have H' := Aside0.mk H
        clear H
        go_wp2
        go_meet
        case rel => exact ⟨_, (decide (a3 < (-1000))), (by first | rfl | (simp; done) | (simp [*]; done)), H', ⟨by first | omega | exact Nat.le_refl _⟩, ⟨by (with_reducible repeat (first | apply Kd.V_alloc | apply Kd.V_drewN | apply Kd.V_drew)); exact Kd.V_mono HO0_1.out (fun _ hk => ⟨hk.1.1, ⟨hk.1.2, hk.2⟩⟩)⟩, ⟨kb_ BK681.out⟩, ⟨kb_ BK682.out⟩, ⟨bw_ HB.out⟩⟩
    ·replace c19 := Bool.eq_false_iff.mpr c19
     subst c19
     have H1 : (peloruslaw03_DyMoves.j0 k a2 a3 true true a0_0 l0_1 a0_2 a1_0 l1_1 a1_2) = some r := by rw [if_neg (show ¬ (false = true) by decide)] at H; exact H
     clear H
     have H := H1
     clear H1
     have H' := Aside0.mk H
     clear H
     go_wp2
     go_meet
     case rel => exact ⟨_, (true), (by first | rfl | (simp; done) | (simp [*]; done)), H', ⟨by first | omega | exact Nat.le_refl _⟩, ⟨by (with_reducible repeat (first | apply Kd.V_alloc | apply Kd.V_drewN | apply Kd.V_drew)); exact Kd.V_mono HO0_1.out (fun _ hk => ⟨hk.1.1, ⟨hk.1.2, hk.2⟩⟩)⟩, ⟨kb_ BK681.out⟩, ⟨kb_ BK682.out⟩, ⟨bw_ HB.out⟩⟩
   ·replace c18 := Bool.eq_false_iff.mpr c18
    subst c18
    have H1 : (peloruslaw03_DyMoves.j0 k a2 a3 true true a0_0 l0_1 a0_2 a1_0 l1_1 a1_2) = some r := by rw [if_neg (show ¬ (false = true) by decide)] at H; exact H
    clear H
    have H := H1
    clear H1
    have H' := Aside0.mk H
    clear H
    go_wp2
    go_meet
    case rel => exact ⟨_, (true), (by first | rfl | (simp; done) | (simp [*]; done)), H', ⟨by first | omega | exact Nat.le_refl _⟩, ⟨by (with_reducible repeat (first | apply Kd.V_alloc | apply Kd.V_drewN | apply Kd.V_drew)); exact Kd.V_mono HO0_1.out (fun _ hk => ⟨hk.1.1, ⟨hk.1.2, hk.2⟩⟩)⟩, ⟨kb_ BK681.out⟩, ⟨kb_ BK682.out⟩, ⟨bw_ HB.out⟩⟩
  ·replace c17 := Bool.eq_false_iff.mpr c17
   subst c17
   have H1 : (peloruslaw03_DyMoves.j0 k a2 a3 false true a0_0 l0_1 a0_2 a1_0 l1_1 a1_2) = some r := by rw [if_neg (show ¬ (false = true) by decide)] at H; exact H
   clear H
   have H := H1
   clear H1
   have H' := Aside0.mk H
   clear H
   go_wp2
   go_meet
   case rel => exact ⟨_, (true), (by first | rfl | (simp; done) | (simp [*]; done)), H', ⟨by first | omega | exact Nat.le_refl _⟩, ⟨by (with_reducible repeat (first | apply Kd.V_alloc | apply Kd.V_drewN | apply Kd.V_drew)); exact Kd.V_mono HO0_1.out (fun _ hk => ⟨hk.1.1, ⟨hk.1.2, hk.2⟩⟩)⟩, ⟨kb_ BK681.out⟩, ⟨kb_ BK682.out⟩, ⟨bw_ HB.out⟩⟩
 case rest =>
  clear HC8
  try clear c1
  try clear c2
  try clear p2
  try clear c4
  try clear c9
  try clear c12
  try clear c17
  try clear c18
  try clear c19
  try clear c20
  try clear c20b0
  try clear c21
  try clear c21b0
  try clear c22
  try clear c22b0
  try clear hcz13_0 hcz13_1 hcz13_2
  try clear hcz15_0 hcz15_1 hcz15_2
  try clear hfz13_0 hfz13_1 hfz13_2
  try clear hfz15_0 hfz15_1 hfz15_2
  obtain ⟨kq, x43_7, rfl, HA, HJ7, HO_682001, BK681, BK682, HB⟩ := hcut
  cases kq with
  | zero => exact absurd HA.out (by simp [peloruslaw03_DyMoves.j0])
  | succ kj7 =>
   have H := HA.out
   clear HA
   simp only [peloruslaw03_DyMoves.j0] at H
   by_cases c23 : x43_7 = true
   ·subst c23
    have H1 : (some t683) = some r := by rw [if_pos rfl] at H; exact H
    clear H
    have H := H1
    clear H1
    obtain rfl := Option.some.inj H
    go_wp2
    go_ret
    exact ⟨rf_, bw_ HB.out⟩
   ·replace c23 := Bool.eq_false_iff.mpr c23
    subst c23
    have H1 : ((dy_Move.f kj7 a0_0 l0_1 a0_2 a2).bind fun bt686 => ((dy_Move.f kj7 bt686.1 bt686.2.1 bt686.2.2 a3).bind fun bt691 => ((dy_Move.f kj7 a0_0 l0_1 a0_2 (wrap64 (a2 + a3))).bind fun bt697 => ((dy_Cmp.f kj7 bt691.1 bt691.2.1 bt691.2.2 bt697.1 bt697.2.1 bt697.2.2).bind fun t702 => (if t702 = 0 then ((dy_Sign.f kj7 bt691.1 bt691.2.1 bt691.2.2).bind fun t703 => ((dy_Sign.f kj7 a0_0 l0_1 a0_2).bind fun t704 => (if t703 = t704 then ((dy_Move.f kj7 a0_0 l0_1 a0_2 a2).bind fun bt705 => ((dy_Move.f kj7 a1_0 l1_1 a1_2 a2).bind fun bt710 => ((dy_Cmp.f kj7 bt705.1 bt705.2.1 bt705.2.2 bt710.1 bt710.2.1 bt710.2.2).bind fun t715 => ((dy_Cmp.f kj7 a0_0 l0_1 a0_2 a1_0 l1_1 a1_2).bind fun t716 => (if t715 = t716 then ((dy_Add.f kj7 (([(⟨(⟨a0_0, l0_1⟩ : S24), a0_2⟩ : S27), (⟨(⟨a0_0, l0_1⟩ : S24), a0_2⟩ : S27)] : List (S27)))).bind fun bt720 => ((dy_Move.f kj7 a0_0 l0_1 a0_2 1).bind fun bt725 => ((dy_Cmp.f kj7 bt720.1 bt720.2.1 bt720.2.2 bt725.1 bt725.2.1 bt725.2.2).bind fun t730 => (some (t730 == 0))))) else (some false)))))) else (some false)))) else (some false)))))) = some r := by rw [if_neg (show ¬ (false = true) by decide)] at H; exact H
    clear H
    have H := H1
    clear H1
    replace H := Option.bind_eq_some_iff.mp H
    obtain ⟨⟨t686, t687, t690⟩, A240, H⟩ := H
    (try dsimp only at H)
    have A24 := Aside0.mk A240
    clear A240
    replace H := Option.bind_eq_some_iff.mp H
    obtain ⟨⟨t691, t692, t695⟩, A250, H⟩ := H
    (try dsimp only at H)
    have A25 := Aside0.mk A250
    clear A250
    replace H := Option.bind_eq_some_iff.mp H
    obtain ⟨⟨t697, t698, t701⟩, A260, H⟩ := H
    (try dsimp only at H)
    have A26 := Aside0.mk A260
    clear A260
    replace H := Option.bind_eq_some_iff.mp H
    obtain ⟨t702, A270, H⟩ := H
    (try dsimp only at H)
    have A27 := Aside0.mk A270
    clear A270
    by_cases c28 : t702 = 0
    ·rw [if_pos c28] at H
     have c28b0 : (t702 == 0) = true := beq_iff_eq.mpr c28
     have c28b1 : (t702 != 0) = false := bne_eq_false_iff_eq.mpr c28
     clear c28
     replace H := Option.bind_eq_some_iff.mp H
     obtain ⟨t703, A290, H⟩ := H
     (try dsimp only at H)
     have A29 := Aside0.mk A290
     clear A290
     replace H := Option.bind_eq_some_iff.mp H
     obtain ⟨t704, A300, H⟩ := H
     (try dsimp only at H)
     have A30 := Aside0.mk A300
     clear A300
     by_cases c31 : t703 = t704
     ·rw [if_pos c31] at H
      have c31b0 : (t703 == t704) = true := beq_iff_eq.mpr c31
      have c31b1 : (t703 != t704) = false := bne_eq_false_iff_eq.mpr c31
      clear c31
      replace H := Option.bind_eq_some_iff.mp H
      obtain ⟨⟨t705, t706, t709⟩, A320, H⟩ := H
      (try dsimp only at H)
      have A32 := Aside0.mk A320
      clear A320
      replace H := Option.bind_eq_some_iff.mp H
      obtain ⟨⟨t710, t711, t714⟩, A330, H⟩ := H
      (try dsimp only at H)
      have A33 := Aside0.mk A330
      clear A330
      replace H := Option.bind_eq_some_iff.mp H
      obtain ⟨t715, A340, H⟩ := H
      (try dsimp only at H)
      have A34 := Aside0.mk A340
      clear A340
      replace H := Option.bind_eq_some_iff.mp H
      obtain ⟨t716, A350, H⟩ := H
      (try dsimp only at H)
      have A35 := Aside0.mk A350
      clear A350
      by_cases c36 : t715 = t716
      ·rw [if_pos c36] at H
       have c36b0 : (t715 == t716) = true := beq_iff_eq.mpr c36
       have c36b1 : (t715 != t716) = false := bne_eq_false_iff_eq.mpr c36
       clear c36
       obtain ⟨y717, hy717⟩ : ∃ y_ : List (S27), y_ = (([(⟨(⟨a0_0, l0_1⟩ : S24), a0_2⟩ : S27), (⟨(⟨a0_0, l0_1⟩ : S24), a0_2⟩ : S27)] : List (S27))) := ⟨_, rfl⟩
       replace H : ((dy_Add.f kj7 y717).bind fun bt720 => ((dy_Move.f kj7 a0_0 l0_1 a0_2 1).bind fun bt725 => ((dy_Cmp.f kj7 bt720.1 bt720.2.1 bt720.2.2 bt725.1 bt725.2.1 bt725.2.2).bind fun t730 => (some (t730 == 0))))) = some r := by first | (rw [hy717]; with_reducible exact H) | (have H2_ := (Option.bind_some _ _).symm.trans H; rw [hy717]; with_reducible exact H2_) | (have H2_ := (Option.bind_some _ _).symm.trans H; with_reducible exact H2_) | with_reducible exact H | (rw [hy717]; exact H) | exact H
       have Ny717 := Aside0.mk hy717
       clear hy717
       replace H := Option.bind_eq_some_iff.mp H
       obtain ⟨⟨t720, t721, t724⟩, A370, H⟩ := H
       (try dsimp only at H)
       have A37 := Aside0.mk A370
       clear A370
       replace H := Option.bind_eq_some_iff.mp H
       obtain ⟨⟨t725, t726, t729⟩, A380, H⟩ := H
       (try dsimp only at H)
       have A38 := Aside0.mk A380
       clear A380
       replace H := Option.bind_eq_some_iff.mp H
       obtain ⟨t730, A390, H⟩ := H
       (try dsimp only at H)
       have A39 := Aside0.mk A390
       clear A390
       obtain rfl := Option.some.inj H
       have hnb40 := NB681_682.out
       have hnc40 := NB682_681.out
       obtain ⟨hcz41_0, hcz41_1, hcz41_2, hfz41_0, hfz41_1, hfz41_2⟩ := c3_ BK681
       try go_wp2_with (first | ((with_reducible refine gate_callee (f := 13) rfl ?_); refine gl_ (some 47) Tryd.func13 #[.agg #[.bool a0_0, .slice A0_1 l0_1.length c0_1, .int .i64 a0_2], .int .i64 a2] ?_; (with_reducible refine (dy_Move.calls kj7 a0_0 _ _ l0_1 a0_2 a2 t686 t687 t690 _ ?side1 ?side2 A24.out ?sidet).mono ?_); (case sidet => exact Kd.C_below HTAB.out (bw_ HB.out)); (case side1 => exact kc_ (Kd.V_reads' HO_682001.out).2.2); (case side2 => exact (Kd.V_reads' HO_682001.out).2.1); rintro e w42 ⟨v688, rfl, ho0, hb⟩; refine ⟨_, rfl, ?_⟩; have n0_ := Aside0.mk (Kd.V_elder' (by (with_reducible repeat (first | apply Kd.V_alloc | apply Kd.V_drewN | apply Kd.V_drew)); exact HO_682001.out) (Kd.R_base ho0) hb); have n1_ := Aside0.mk (Kd.R_lower (Kd.R_newM (M := fun k_ => (w.heap.size ≤ k_)) ho0 (below_size (bw_ HB.out)) (fun k_ h_ => h_)) (below_size (bw_ HB.out))); have n2_ := kq_ BK681 hb; have n3_ := kq_ BK682 hb; have n4_ := bq_ HB hb; clear HO_682001; clear BK681; clear BK682; clear HB; have HO_682001 := n0_; have HO689 := n1_; have BK681 := n2_; have BK682 := n3_; have HB := n4_; clear n0_ n1_ n2_ n3_ n4_; (try clear hb); (try clear hb2); (try clear hk); (try clear hi); (try clear ho0); obtain ⟨Ao43, co43, eo43⟩ := Kd.R_slice HO689.out; subst eo43) | ((with_reducible refine gate_callee (f := 13) rfl ?_); refine gl_ (some 49) Tryd.func13 #[.agg #[.bool t686, .slice Ao43 t687.length co43, .int .i64 t690], .int .i64 a3] ?_; (with_reducible refine (dy_Move.calls kj7 t686 _ _ t687 t690 a3 t691 t692 t695 _ ?side1 ?side2 A25.out ?sidet).mono ?_); (case sidet => exact Kd.C_below HTAB.out (bw_ HB.out)); (case side1 => exact kc_ (Kd.R_reads' HO689.out).2.2); (case side2 => exact (Kd.R_reads' HO689.out).2.1); rintro e w44 ⟨v693, rfl, ho0, hb⟩; refine ⟨_, rfl, ?_⟩; have n0_ := Aside0.mk (Kd.V_elder' (by (with_reducible repeat (first | apply Kd.V_alloc | apply Kd.V_drewN | apply Kd.V_drew)); exact HO_682001.out) (Kd.R_base ho0) hb); have n1_ := Aside0.mk (Kd.R_elder' (kr_ HO689.out) (Kd.R_base ho0) hb); have n2_ := Aside0.mk (Kd.R_lower (Kd.R_new' (Kd.R_newM (M := fun k_ => (w.heap.size ≤ k_)) ho0 (below_size (bw_ HB.out)) (fun k_ h_ => h_)) (Kd.R_lt (kr_ HO689.out))) (below_size (bw_ HB.out))); have n3_ := kq_ BK681 hb; have n4_ := kq_ BK682 hb; have n5_ := bq_ HB hb; clear HO_682001; clear HO689; clear BK681; clear BK682; clear HB; have HO_682001 := n0_; have HO689 := n1_; have HO694 := n2_; have BK681 := n3_; have BK682 := n4_; have HB := n5_; clear n0_ n1_ n2_ n3_ n4_ n5_; (try clear hb); (try clear hb2); (try clear hk); (try clear hi); (try clear ho0)) | ((with_reducible refine gate_dst (N := 12) rfl ?_); (try (refine gate_guard (by rfl) ?_; dsimp only)); refine bx_ 12 #[.bool false, .slice none 0 0, .int .i64 0] 27 ?_; intro gb696 hg w45 hbox hb; have n0_ := Aside0.mk (Kd.V_below (Kd.V_elderB (by (with_reducible repeat (first | apply Kd.V_alloc | apply Kd.V_drewN | apply Kd.V_drew)); exact HO_682001.out) gb696 (Nat.le_of_eq hg.symm)) hb); have n1_ := Aside0.mk (Kd.R_below (kr_ HO689.out) hb); have n2_ := Aside0.mk (Kd.R_below (kr_ HO694.out) hb); have n3_ := kq_ BK681 hb; have n4_ := kq_ BK682 hb; have n5_ := bq_ HB hb; have n6_ := Aside0.mk (hbox); have n7_ := ge_ hg HB; have n8_ := ge_ hg HB; have n9_ := nb_ hg BK681; have n10_ := nc_ hg BK681; have n11_ := nb_ hg BK682; have n12_ := nc_ hg BK682; clear HO_682001; clear HO689; clear HO694; clear BK681; clear BK682; clear HB; have HO_682001 := n0_; have HO689 := n1_; have HO694 := n2_; have BK681 := n3_; have BK682 := n4_; have HB := n5_; have BK696 := n6_; have GW696 := n7_; have GE696 := n8_; have NB681_696 := n9_; have NB696_681 := n10_; have NB682_696 := n11_; have NB696_682 := n12_; clear n0_ n1_ n2_ n3_ n4_ n5_ n6_ n7_ n8_ n9_ n10_ n11_ n12_; clear hb hbox hg; have hnb46 := NB696_681.out; have hnc46 := NB681_696.out; have hnb47 := NB696_682.out; have hnc47 := NB682_696.out; obtain ⟨hcz48_0, hcz48_1, hcz48_2, hfz48_0, hfz48_1, hfz48_2⟩ := c3_ BK696; obtain ⟨Ao49, co49, eo49⟩ := Kd.R_slice HO694.out; subst eo49))
       have n0_ : Aside0 (Kd.V (Kd.int .u32) 51 (((w45.setCell ⟨gb696, 0, none⟩ (.bool t691)).setCell ⟨gb696, 1, none⟩ (.slice Ao49 t692.length co49)).setCell ⟨gb696, 2, none⟩ (.int .i64 t695)) w.heap.size (fun k_ => (P0_1_ k_ ∨ w.heap.size ≤ k_) ∧ some k_ ≠ (.slice Ao43 t687.length co43 : Value).ownBlock ∧ some k_ ≠ (.slice Ao49 t692.length co49 : Value).ownBlock ∧ k_ ≠ gb681 ∧ k_ ≠ gb682 ∧ k_ ≠ gb696) (.slice A0_1 l0_1.length c0_1) l0_1) := ⟨by (with_reducible repeat (first | apply Kd.V_alloc | apply Kd.V_drewN | apply Kd.V_drew)); exact Kd.V_mono (Kd.V_far (p := ⟨gb696, 2, none⟩) (Kd.V_far (p := ⟨gb696, 1, none⟩) (Kd.V_far (p := ⟨gb696, 0, none⟩) (Kd.V_mono HO_682001.out (fun k_ hk => (⟨hk, hk.2⟩ : _ ∧ k_ ≠ gb696))) (fun _ hk => hk.2) (.bool t691)) (fun _ hk => hk.2) (.slice Ao49 t692.length co49)) (fun _ hk => hk.2) (.int .i64 t695)) (fun _ hk => ⟨hk.1.1.1.1.1, ⟨hk.1.1.1.2, ⟨hk.1.1.2, ⟨hk.1.1.1.1.2.1, ⟨hk.1.1.1.1.2.2, hk.1.2⟩⟩⟩⟩⟩)⟩
       have n1_ : Aside0 (Kd.R (Kd.int .u32) 51 (((w45.setCell ⟨gb696, 0, none⟩ (.bool t691)).setCell ⟨gb696, 1, none⟩ (.slice Ao49 t692.length co49)).setCell ⟨gb696, 2, none⟩ (.int .i64 t695)) w.heap.size (fun k_ => (w.heap.size ≤ k_) ∧ some k_ ≠ (.slice Ao49 t692.length co49 : Value).ownBlock) (.slice Ao43 t687.length co43) t687) := ⟨by (with_reducible repeat (first | apply Kd.R_alloc | apply Kd.R_drewN | apply Kd.R_drew)); exact Kd.R_mono (Kd.R_far (p := ⟨gb696, 2, none⟩) (Kd.R_far (p := ⟨gb696, 1, none⟩) (Kd.R_far (p := ⟨gb696, 0, none⟩) (Kd.R_types HO689.out BK696.out (by decide)) (fun _ hk => hk.2) (.bool t691)) (fun _ hk => hk.2) (.slice Ao49 t692.length co49)) (fun _ hk => hk.2) (.int .i64 t695)) (fun _ hk => by first | exact ⟨hk.1.1.1, hk.1.2⟩ | (simp only [ob_map] at hk ⊢; exact ⟨hk.1.1.1, hk.1.2⟩))⟩
       have n2_ : Aside0 (Kd.R (Kd.int .u32) 51 (((w45.setCell ⟨gb696, 0, none⟩ (.bool t691)).setCell ⟨gb696, 1, none⟩ (.slice Ao49 t692.length co49)).setCell ⟨gb696, 2, none⟩ (.int .i64 t695)) w.heap.size (fun k_ => (w.heap.size ≤ k_) ∧ some k_ ≠ (.slice Ao43 t687.length co43 : Value).ownBlock) (.slice Ao49 t692.length co49) t692) := ⟨by (with_reducible repeat (first | apply Kd.R_alloc | apply Kd.R_drewN | apply Kd.R_drew)); exact Kd.R_mono (Kd.R_far (p := ⟨gb696, 2, none⟩) (Kd.R_far (p := ⟨gb696, 1, none⟩) (Kd.R_far (p := ⟨gb696, 0, none⟩) (Kd.R_types HO694.out BK696.out (by decide)) (fun _ hk => hk.2) (.bool t691)) (fun _ hk => hk.2) (.slice Ao49 t692.length co49)) (fun _ hk => hk.2) (.int .i64 t695)) (fun _ hk => by first | exact ⟨hk.1.1.1, hk.1.2⟩ | (simp only [ob_map] at hk ⊢; exact ⟨hk.1.1.1, hk.1.2⟩))⟩
       have n3_ : Aside0 ((((w45.setCell ⟨gb696, 0, none⟩ (.bool t691)).setCell ⟨gb696, 1, none⟩ (.slice Ao49 t692.length co49)).setCell ⟨gb696, 2, none⟩ (.int .i64 t695)).heap[gb681]? = some (.cells #[.bool a0_0, .slice A0_1 l0_1.length c0_1, .int .i64 a0_2] 27 (0, 0))) := ⟨by refine kb_ ?_; refine bf_ NB681_696 ?_; refine bf_ NB681_696 ?_; refine bf_ NB681_696 ?_; exact BK681.out⟩
       have n4_ : Aside0 ((((w45.setCell ⟨gb696, 0, none⟩ (.bool t691)).setCell ⟨gb696, 1, none⟩ (.slice Ao49 t692.length co49)).setCell ⟨gb696, 2, none⟩ (.int .i64 t695)).heap[gb682]? = some (.cells #[.bool a1_0, .slice A1_1 l1_1.length c1_1, .int .i64 a1_2] 27 (0, 0))) := ⟨by refine kb_ ?_; refine bf_ NB682_696 ?_; refine bf_ NB682_696 ?_; refine bf_ NB682_696 ?_; exact BK682.out⟩
       have n5_ : Aside0 ((((w45.setCell ⟨gb696, 0, none⟩ (.bool t691)).setCell ⟨gb696, 1, none⟩ (.slice Ao49 t692.length co49)).setCell ⟨gb696, 2, none⟩ (.int .i64 t695)).heap[gb696]? = some (.cells #[.bool t691, .slice Ao49 t692.length co49, .int .i64 t695] 27 (0, 0))) := ⟨by refine kb_ ?_; refine bp_ #[.bool t691, .slice Ao49 t692.length co49, .int .i64 0] 2 ?_; refine bp_ #[.bool t691, .slice none 0 0, .int .i64 0] 1 ?_; refine bp_ #[.bool false, .slice none 0 0, .int .i64 0] 0 ?_; exact BK696.out⟩
       have n6_ : Aside0 (Below w.heap.size w (((w45.setCell ⟨gb696, 0, none⟩ (.bool t691)).setCell ⟨gb696, 1, none⟩ (.slice Ao49 t692.length co49)).setCell ⟨gb696, 2, none⟩ (.int .i64 t695))) := ⟨bw_ HB.out⟩
       (try clear HO_682001)
       (try clear HO689)
       (try clear HO694)
       (try clear BK681)
       (try clear BK682)
       (try clear BK696)
       (try clear HB)
       generalize (((w45.setCell ⟨gb696, 0, none⟩ (.bool t691)).setCell ⟨gb696, 1, none⟩ (.slice Ao49 t692.length co49)).setCell ⟨gb696, 2, none⟩ (.int .i64 t695)) = w50 at n0_ n1_ n2_ n3_ n4_ n5_ n6_ ⊢
       have HO_682001 := n0_
       have HO689 := n1_
       have HO694 := n2_
       have BK681 := n3_
       have BK682 := n4_
       have BK696 := n5_
       have HB := n6_
       clear n0_ n1_ n2_ n3_ n4_ n5_ n6_
       replace HO_682001 := Aside0.mk (Kd.V_drew HO_682001.out)
       replace HO689 := Aside0.mk (Kd.R_drew HO689.out)
       replace HO694 := Aside0.mk (Kd.R_drew HO694.out)
       replace BK681 := Aside0.mk (blk_drew BK681.out)
       replace BK682 := Aside0.mk (blk_drew BK682.out)
       replace BK696 := Aside0.mk (blk_drew BK696.out)
       replace HB := Aside0.mk (below_drew1 HB.out)
       refine start_ (n := 39) (S := fun w' => w'.cell? ⟨gb696, 0, none⟩ = some (.bool t691) ∧ w'.cell? ⟨gb696, 1, none⟩ = some (.slice Ao49 t692.length co49) ∧ w'.cell? ⟨gb696, 2, none⟩ = some (.int .i64 t695) ∧ w'.cell? ⟨gb681, 0, none⟩ = some (.bool a0_0) ∧ w'.cell? ⟨gb681, 1, none⟩ = some (.slice A0_1 l0_1.length c0_1) ∧ w'.cell? ⟨gb681, 2, none⟩ = some (.int .i64 a0_2) ∧ w'.cell? ⟨gb682, 0, none⟩ = some (.bool a1_0) ∧ w'.cell? ⟨gb682, 1, none⟩ = some (.slice A1_1 l1_1.length c1_1) ∧ w'.cell? ⟨gb682, 2, none⟩ = some (.int .i64 a1_2)) (ds := []) #[false, false, false, false, false, false, false, false, false, false, false, false, false, false, false, false, false, false, false, false, false, false, false, false, false, false, false, false, false, false, false, false, false, false, false, false, false, false, false] (by kernel_rfl) rfl rfl ⟨(blk_cell BK696.out 0).trans rfl, (blk_cell BK696.out 1).trans rfl, (blk_cell BK696.out 2).trans rfl, (blk_cell BK681.out 0).trans rfl, (blk_cell BK681.out 1).trans rfl, (blk_cell BK681.out 2).trans rfl, (blk_cell BK682.out 0).trans rfl, (blk_cell BK682.out 1).trans rfl, (blk_cell BK682.out 2).trans rfl⟩ (fun hHeld => ?_); refine with_tabW peloruslaw03_DyMoves.tab7 peloruslaw03_DyMoves.bits7 (fun HT_ HW_ => ?_)
       generalize w50.drew = w51 at HO_682001 HO689 HO694 BK681 BK682 BK696 HB hHeld ⊢
       refine pure_ (i := 2) (N := some 52) (v := ?_) (a' := ?_) #[false, false, true, false, false, false, false, false, false, false, false, false, false, false, false, false, false, false, false, false, false, false, false, false, false, false, false, false, false, false, false, false, false, false, false, false, false, false, false] rfl rfl (any_of HT_.out (by kernel_rfl)) (fun _ _ _ h => h) (Or.inl ⟨by rfl, ?_⟩) ?_ ?_
       rotate_left
       ·intro w'
        go_simp
        with_reducible rfl
       rotate_left
       ·exact pt_
       refine pure_ (i := 3) (N := some 53) (v := ?_) (a' := ?_) #[false, false, true, true, false, false, false, false, false, false, false, false, false, false, false, false, false, false, false, false, false, false, false, false, false, false, false, false, false, false, false, false, false, false, false, false, false, false, false] rfl rfl (any_of HT_.out (by kernel_rfl)) (fun _ _ _ h => h) (Or.inl ⟨by rfl, ?_⟩) ?_ ?_
       rotate_left
       ·intro w'
        go_simp
        with_reducible rfl
       rotate_left
       ·exact pt_
       refine pure_ (i := 4) (N := some 54) (v := ?_) (a' := ?_) #[false, false, true, true, true, false, false, false, false, false, false, false, false, false, false, false, false, false, false, false, false, false, false, false, false, false, false, false, false, false, false, false, false, false, false, false, false, false, false] rfl rfl (any_of HT_.out (by kernel_rfl)) (fun _ _ _ h => h) (Or.inl ⟨by rfl, ?_⟩) ?_ ?_
       rotate_left
       ·intro w'
        go_simp
        with_reducible rfl
       rotate_left
       ·exact pt_
       refine take_ (i := 0) (N := some 50) (v := ?_) (a' := ?_) #[true, false, true, true, true, false, false, false, false, false, false, false, false, false, false, false, false, false, false, false, false, false, false, false, false, false, false, false, false, false, false, false, false, false, false, false, false, false, false] rfl rfl (take_ofW HT_.out HW_.out (by kernel_rfl)) (fun _ _ _ h => h) (Or.inl ⟨by rfl, ?_⟩) hHeld ?_ ?_
       rotate_left
       ·rintro w' ⟨s0, s1, s2, s3, s4, s5, s6, s7, s8⟩
        go_simp
        with_reducible rfl
       rotate_left
       ·exact pt_
       refine take_ (i := 1) (N := some 51) (v := ?_) (a' := ?_) #[true, true, true, true, true, false, false, false, false, false, false, false, false, false, false, false, false, false, false, false, false, false, false, false, false, false, false, false, false, false, false, false, false, false, false, false, false, false, false] rfl rfl (take_ofW HT_.out HW_.out (by kernel_rfl)) (fun _ _ _ h => h) (Or.inl ⟨by rfl, ?_⟩) hHeld ?_ ?_
       rotate_left
       ·rintro w' ⟨s0, s1, s2, s3, s4, s5, s6, s7, s8⟩
        go_simp
        with_reducible rfl
       rotate_left
       ·exact pt_
       refine one_ (i := 5) (N := some 55) #[true, true, true, true, true, true, false, false, false, false, false, false, false, false, false, false, false, false, false, false, false, false, false, false, false, false, false, false, false, false, false, false, false, false, false, false, false, false, false] rfl rfl (one_of HT_.out (by kernel_rfl)) (by decide) (fun K hK => ?_)
       refine gs_ Tryd.func13 #[.agg #[.bool a0_0, .slice A0_1 l0_1.length c0_1, .int .i64 a0_2], .int .i64 (wrap64 (a2 + a3))] ?_
       with_reducible refine (dy_Move.calls kj7 a0_0 _ _ l0_1 a0_2 (wrap64 (a2 + a3)) t697 t698 t701 _ ?side1 ?side2 A26.out ?sidet).mono ?_
       (case sidet => exact Kd.C_below HTAB.out (bw_ HB.out))
       (case side1 => exact kc_ (Kd.V_reads' HO_682001.out).2.2)
       (case side2 => exact (Kd.V_reads' HO_682001.out).2.1)
       rintro e w52 ⟨v699, rfl, ho0, hb⟩
       refine ⟨_, rfl, ?_⟩
       have n0_ := Aside0.mk (Kd.V_elder' (by (with_reducible repeat (first | apply Kd.V_alloc | apply Kd.V_drewN | apply Kd.V_drew)); exact HO_682001.out) (Kd.R_base ho0) hb)
       have n1_ := Aside0.mk (Kd.R_elder' (kr_ HO689.out) (Kd.R_base ho0) hb)
       have n2_ := Aside0.mk (Kd.R_elder' (kr_ HO694.out) (Kd.R_base ho0) hb)
       have n3_ := Aside0.mk (Kd.R_lower (Kd.R_new' (Kd.R_new' (Kd.R_newM (M := fun k_ => (w.heap.size ≤ k_)) ho0 (below_size (bw_ HB.out)) (fun k_ h_ => h_)) (Kd.R_lt (kr_ HO689.out))) (Kd.R_lt (kr_ HO694.out))) (below_size (bw_ HB.out)))
       have n4_ := kq_ BK681 hb
       have n5_ := kq_ BK682 hb
       have n6_ := kq_ BK696 hb
       have n7_ := bq_ HB hb
       clear HO_682001
       clear HO689
       clear HO694
       clear BK681
       clear BK682
       clear BK696
       clear HB
       have HO_682001 := n0_
       have HO689 := n1_
       have HO694 := n2_
       have HO700 := n3_
       have BK681 := n4_
       have BK682 := n5_
       have BK696 := n6_
       have HB := n7_
       clear n0_ n1_ n2_ n3_ n4_ n5_ n6_ n7_
       (try clear hb)
       (try clear hb2)
       (try clear hk)
       (try clear hi)
       (try clear ho0)
       obtain ⟨Ao53, co53, eo53⟩ := Kd.R_slice HO700.out
       (first | subst eo53 | (injection eo53 with f1_ f2_ f3_; have f4_ := f1_.symm; have f5_ := f3_.symm; clear f1_ f2_ f3_; subst f4_; subst f5_))
       refine hK.out _ _ ⟨(blk_cell BK696.out 0).trans rfl, (blk_cell BK696.out 1).trans rfl, (blk_cell BK696.out 2).trans rfl, (blk_cell BK681.out 0).trans rfl, (blk_cell BK681.out 1).trans rfl, (blk_cell BK681.out 2).trans rfl, (blk_cell BK682.out 0).trans rfl, (blk_cell BK682.out 1).trans rfl, (blk_cell BK682.out 2).trans rfl⟩ (fun hHeld => ?_)
       clear hK K
       refine norm_ (a' := ?_) ?_ ?_
       rotate_left
       ·show Act.put _ (some 55) _ = _
        exact pt_
       refine one_ (i := 6) (N := some 56) #[true, true, true, true, true, true, true, false, false, false, false, false, false, false, false, false, false, false, false, false, false, false, false, false, false, false, false, false, false, false, false, false, false, false, false, false, false, false, false] rfl rfl (one_of HT_.out (by kernel_rfl)) (by decide) (fun K hK => ?_)
       refine gs_ Tryd.func20 #[.agg #[.bool t691, .slice Ao49 t692.length co49, .int .i64 t695], .agg #[.bool t697, .slice Ao53 t698.length co53, .int .i64 t701]] ?_
       with_reducible refine (dy_Cmp.calls kj7 t691 _ _ t692 t695 t697 _ _ t698 t701 t702 _ ?side1 ?side2 ?side3 ?side4 A27.out ?sidet).mono ?_
       (case sidet => exact Kd.C_below HTAB.out (bw_ HB.out))
       (case side1 => exact kc_ (Kd.R_reads' HO694.out).2.2)
       (case side2 => exact (Kd.R_reads' HO694.out).2.1)
       (case side3 => exact kc_ (Kd.R_reads' HO700.out).2.2)
       (case side4 => exact (Kd.R_reads' HO700.out).2.1)
       rintro e w54 ⟨rfl, hb⟩
       refine ⟨_, rfl, ?_⟩
       have n0_ := Aside0.mk (Kd.V_below (by (with_reducible repeat (first | apply Kd.V_alloc | apply Kd.V_drewN | apply Kd.V_drew)); exact HO_682001.out) hb)
       have n1_ := Aside0.mk (Kd.R_below (kr_ HO689.out) hb)
       have n2_ := Aside0.mk (Kd.R_below (kr_ HO694.out) hb)
       have n3_ := Aside0.mk (Kd.R_below (kr_ HO700.out) hb)
       have n4_ := kq_ BK681 hb
       have n5_ := kq_ BK682 hb
       have n6_ := kq_ BK696 hb
       have n7_ := bq_ HB hb
       clear HO_682001
       clear HO689
       clear HO694
       clear HO700
       clear BK681
       clear BK682
       clear BK696
       clear HB
       have HO_682001 := n0_
       have HO689 := n1_
       have HO694 := n2_
       have HO700 := n3_
       have BK681 := n4_
       have BK682 := n5_
       have BK696 := n6_
       have HB := n7_
       clear n0_ n1_ n2_ n3_ n4_ n5_ n6_ n7_
       (try clear hb)
       (try clear hb2)
       (try clear hk)
       (try clear hi)
       refine hK.out _ _ ⟨(blk_cell BK696.out 0).trans rfl, (blk_cell BK696.out 1).trans rfl, (blk_cell BK696.out 2).trans rfl, (blk_cell BK681.out 0).trans rfl, (blk_cell BK681.out 1).trans rfl, (blk_cell BK681.out 2).trans rfl, (blk_cell BK682.out 0).trans rfl, (blk_cell BK682.out 1).trans rfl, (blk_cell BK682.out 2).trans rfl⟩ (fun hHeld => ?_)
       clear hK K
       refine norm_ (a' := ?_) ?_ ?_
       rotate_left
       ·show Act.put _ (some 56) _ = _
        exact pt_
       refine pure_ (i := 7) (N := some 57) (v := ?_) (a' := ?_) #[true, true, true, true, true, true, true, true, false, false, false, false, false, false, false, false, false, false, false, false, false, false, false, false, false, false, false, false, false, false, false, false, false, false, false, false, false, false, false] rfl rfl (any_of HT_.out (by kernel_rfl)) (fun _ _ _ h => h) (Or.inl ⟨by rfl, ?_⟩) ?_ ?_
       rotate_left
       ·intro w'
        go_simp
        with_reducible rfl
       rotate_left
       ·exact pt_
       refine pure_ (i := 8) (N := some 58) (v := ?_) (a' := ?_) #[true, true, true, true, true, true, true, true, true, false, false, false, false, false, false, false, false, false, false, false, false, false, false, false, false, false, false, false, false, false, false, false, false, false, false, false, false, false, false] rfl rfl (any_of HT_.out (by kernel_rfl)) (fun _ _ _ h => h) (Or.inl ⟨by rfl, ?_⟩) ?_ ?_
       rotate_left
       ·intro w'
        go_simp
        with_reducible rfl
       rotate_left
       ·exact pt_
       refine take_ (i := 9) (N := some 59) (v := ?_) (a' := ?_) #[true, true, true, true, true, true, true, true, true, true, false, false, false, false, false, false, false, false, false, false, false, false, false, false, false, false, false, false, false, false, false, false, false, false, false, false, false, false, false] rfl rfl (take_ofW HT_.out HW_.out (by kernel_rfl)) (fun _ _ _ h => h) (Or.inl ⟨by rfl, ?_⟩) hHeld ?_ ?_
       rotate_left
       ·rintro w' ⟨s0, s1, s2, s3, s4, s5, s6, s7, s8⟩
        go_simp
        with_reducible rfl
       rotate_left
       ·exact pt_
       refine take_ (i := 11) (N := some 61) (v := ?_) (a' := ?_) #[true, true, true, true, true, true, true, true, true, true, false, true, false, false, false, false, false, false, false, false, false, false, false, false, false, false, false, false, false, false, false, false, false, false, false, false, false, false, false] rfl rfl (take_ofW HT_.out HW_.out (by kernel_rfl)) (fun _ _ _ h => h) (Or.inl ⟨by rfl, ?_⟩) hHeld ?_ ?_
       rotate_left
       ·rintro w' ⟨s0, s1, s2, s3, s4, s5, s6, s7, s8⟩
        go_simp
        with_reducible rfl
       rotate_left
       ·exact pt_
       refine one_ (i := 10) (N := some 60) #[true, true, true, true, true, true, true, true, true, true, true, true, false, false, false, false, false, false, false, false, false, false, false, false, false, false, false, false, false, false, false, false, false, false, false, false, false, false, false] rfl rfl (one_of HT_.out (by kernel_rfl)) (by decide) (fun K hK => ?_)
       refine gs_ Tryd.func17 #[.agg #[.bool t691, .slice Ao49 t692.length co49, .int .i64 t695]] ?_
       with_reducible refine (dy_Sign.calls kj7 t691 _ _ t692 t695 t703 _ ?side1 ?side2 A29.out ?sidet).mono ?_
       (case sidet => exact Kd.C_below HTAB.out (bw_ HB.out))
       (case side1 => exact kc_ (Kd.R_reads' HO694.out).2.2)
       (case side2 => exact (Kd.R_reads' HO694.out).2.1)
       rintro e w55 ⟨rfl, hb⟩
       refine ⟨_, rfl, ?_⟩
       have n0_ := Aside0.mk (Kd.V_below (by (with_reducible repeat (first | apply Kd.V_alloc | apply Kd.V_drewN | apply Kd.V_drew)); exact HO_682001.out) hb)
       have n1_ := Aside0.mk (Kd.R_below (kr_ HO689.out) hb)
       have n2_ := Aside0.mk (Kd.R_below (kr_ HO694.out) hb)
       have n3_ := Aside0.mk (Kd.R_below (kr_ HO700.out) hb)
       have n4_ := kq_ BK681 hb
       have n5_ := kq_ BK682 hb
       have n6_ := kq_ BK696 hb
       have n7_ := bq_ HB hb
       clear HO_682001
       clear HO689
       clear HO694
       clear HO700
       clear BK681
       clear BK682
       clear BK696
       clear HB
       have HO_682001 := n0_
       have HO689 := n1_
       have HO694 := n2_
       have HO700 := n3_
       have BK681 := n4_
       have BK682 := n5_
       have BK696 := n6_
       have HB := n7_
       clear n0_ n1_ n2_ n3_ n4_ n5_ n6_ n7_
       (try clear hb)
       (try clear hb2)
       (try clear hk)
       (try clear hi)
       refine hK.out _ _ ⟨(blk_cell BK696.out 0).trans rfl, (blk_cell BK696.out 1).trans rfl, (blk_cell BK696.out 2).trans rfl, (blk_cell BK681.out 0).trans rfl, (blk_cell BK681.out 1).trans rfl, (blk_cell BK681.out 2).trans rfl, (blk_cell BK682.out 0).trans rfl, (blk_cell BK682.out 1).trans rfl, (blk_cell BK682.out 2).trans rfl⟩ (fun hHeld => ?_)
       clear hK K
       refine norm_ (a' := ?_) ?_ ?_
       rotate_left
       ·show Act.put _ (some 60) _ = _
        exact pt_
       refine one_ (i := 12) (N := some 62) #[true, true, true, true, true, true, true, true, true, true, true, true, true, false, false, false, false, false, false, false, false, false, false, false, false, false, false, false, false, false, false, false, false, false, false, false, false, false, false] rfl rfl (one_of HT_.out (by kernel_rfl)) (by decide) (fun K hK => ?_)
       refine gs_ Tryd.func17 #[.agg #[.bool a0_0, .slice A0_1 l0_1.length c0_1, .int .i64 a0_2]] ?_
       with_reducible refine (dy_Sign.calls kj7 a0_0 _ _ l0_1 a0_2 t704 _ ?side1 ?side2 A30.out ?sidet).mono ?_
       (case sidet => exact Kd.C_below HTAB.out (bw_ HB.out))
       (case side1 => exact kc_ (Kd.V_reads' HO_682001.out).2.2)
       (case side2 => exact (Kd.V_reads' HO_682001.out).2.1)
       rintro e w56 ⟨rfl, hb⟩
       refine ⟨_, rfl, ?_⟩
       have n0_ := Aside0.mk (Kd.V_below (by (with_reducible repeat (first | apply Kd.V_alloc | apply Kd.V_drewN | apply Kd.V_drew)); exact HO_682001.out) hb)
       have n1_ := Aside0.mk (Kd.R_below (kr_ HO689.out) hb)
       have n2_ := Aside0.mk (Kd.R_below (kr_ HO694.out) hb)
       have n3_ := Aside0.mk (Kd.R_below (kr_ HO700.out) hb)
       have n4_ := kq_ BK681 hb
       have n5_ := kq_ BK682 hb
       have n6_ := kq_ BK696 hb
       have n7_ := bq_ HB hb
       clear HO_682001
       clear HO689
       clear HO694
       clear HO700
       clear BK681
       clear BK682
       clear BK696
       clear HB
       have HO_682001 := n0_
       have HO689 := n1_
       have HO694 := n2_
       have HO700 := n3_
       have BK681 := n4_
       have BK682 := n5_
       have BK696 := n6_
       have HB := n7_
       clear n0_ n1_ n2_ n3_ n4_ n5_ n6_ n7_
       (try clear hb)
       (try clear hb2)
       (try clear hk)
       (try clear hi)
       refine hK.out _ _ ⟨(blk_cell BK696.out 0).trans rfl, (blk_cell BK696.out 1).trans rfl, (blk_cell BK696.out 2).trans rfl, (blk_cell BK681.out 0).trans rfl, (blk_cell BK681.out 1).trans rfl, (blk_cell BK681.out 2).trans rfl, (blk_cell BK682.out 0).trans rfl, (blk_cell BK682.out 1).trans rfl, (blk_cell BK682.out 2).trans rfl⟩ (fun hHeld => ?_)
       clear hK K
       refine norm_ (a' := ?_) ?_ ?_
       rotate_left
       ·show Act.put _ (some 62) _ = _
        exact pt_
       refine pure_ (i := 13) (N := some 63) (v := ?_) (a' := ?_) #[true, true, true, true, true, true, true, true, true, true, true, true, true, true, false, false, false, false, false, false, false, false, false, false, false, false, false, false, false, false, false, false, false, false, false, false, false, false, false] rfl rfl (any_of HT_.out (by kernel_rfl)) (fun _ _ _ h => h) (Or.inl ⟨by rfl, ?_⟩) ?_ ?_
       rotate_left
       ·intro w'
        go_simp
        with_reducible rfl
       rotate_left
       ·exact pt_
       refine pure_ (i := 14) (N := some 64) (v := ?_) (a' := ?_) #[true, true, true, true, true, true, true, true, true, true, true, true, true, true, true, false, false, false, false, false, false, false, false, false, false, false, false, false, false, false, false, false, false, false, false, false, false, false, false] rfl rfl (any_of HT_.out (by kernel_rfl)) (fun _ _ _ h => h) (Or.inl ⟨by rfl, ?_⟩) ?_ ?_
       rotate_left
       ·intro w'
        go_simp
        with_reducible rfl
       rotate_left
       ·exact pt_
       refine pure_ (i := 15) (N := some 65) (v := ?_) (a' := ?_) #[true, true, true, true, true, true, true, true, true, true, true, true, true, true, true, true, false, false, false, false, false, false, false, false, false, false, false, false, false, false, false, false, false, false, false, false, false, false, false] rfl rfl (any_of HT_.out (by kernel_rfl)) (fun _ _ _ h => h) (Or.inl ⟨by rfl, ?_⟩) ?_ ?_
       rotate_left
       ·intro w'
        go_simp
        with_reducible rfl
       rotate_left
       ·exact pt_
       refine pure_ (i := 17) (N := some 67) (v := ?_) (a' := ?_) #[true, true, true, true, true, true, true, true, true, true, true, true, true, true, true, true, false, true, false, false, false, false, false, false, false, false, false, false, false, false, false, false, false, false, false, false, false, false, false] rfl rfl (any_of HT_.out (by kernel_rfl)) (fun _ _ _ h => h) (Or.inl ⟨by rfl, ?_⟩) ?_ ?_
       rotate_left
       ·intro w'
        go_simp
        with_reducible rfl
       rotate_left
       ·exact pt_
       refine pure_ (i := 20) (N := some 70) (v := ?_) (a' := ?_) #[true, true, true, true, true, true, true, true, true, true, true, true, true, true, true, true, false, true, false, false, true, false, false, false, false, false, false, false, false, false, false, false, false, false, false, false, false, false, false] rfl rfl (any_of HT_.out (by kernel_rfl)) (fun _ _ _ h => h) (Or.inl ⟨by rfl, ?_⟩) ?_ ?_
       rotate_left
       ·intro w'
        go_simp
        with_reducible rfl
       rotate_left
       ·exact pt_
       refine take_ (i := 16) (N := some 66) (v := ?_) (a' := ?_) #[true, true, true, true, true, true, true, true, true, true, true, true, true, true, true, true, true, true, false, false, true, false, false, false, false, false, false, false, false, false, false, false, false, false, false, false, false, false, false] rfl rfl (take_ofW HT_.out HW_.out (by kernel_rfl)) (fun _ _ _ h => h) (Or.inl ⟨by rfl, ?_⟩) hHeld ?_ ?_
       rotate_left
       ·rintro w' ⟨s0, s1, s2, s3, s4, s5, s6, s7, s8⟩
        go_simp
        with_reducible rfl
       rotate_left
       ·exact pt_
       refine take_ (i := 19) (N := some 69) (v := ?_) (a' := ?_) #[true, true, true, true, true, true, true, true, true, true, true, true, true, true, true, true, true, true, false, true, true, false, false, false, false, false, false, false, false, false, false, false, false, false, false, false, false, false, false] rfl rfl (take_ofW HT_.out HW_.out (by kernel_rfl)) (fun _ _ _ h => h) (Or.inl ⟨by rfl, ?_⟩) hHeld ?_ ?_
       rotate_left
       ·rintro w' ⟨s0, s1, s2, s3, s4, s5, s6, s7, s8⟩
        go_simp
        with_reducible rfl
       rotate_left
       ·exact pt_
       refine take_ (i := 23) (N := some 73) (v := ?_) (a' := ?_) #[true, true, true, true, true, true, true, true, true, true, true, true, true, true, true, true, true, true, false, true, true, false, false, true, false, false, false, false, false, false, false, false, false, false, false, false, false, false, false] rfl rfl (take_ofW HT_.out HW_.out (by kernel_rfl)) (fun _ _ _ h => h) (Or.inl ⟨by rfl, ?_⟩) hHeld ?_ ?_
       rotate_left
       ·rintro w' ⟨s0, s1, s2, s3, s4, s5, s6, s7, s8⟩
        go_simp
        with_reducible rfl
       rotate_left
       ·exact pt_
       refine take_ (i := 24) (N := some 74) (v := ?_) (a' := ?_) #[true, true, true, true, true, true, true, true, true, true, true, true, true, true, true, true, true, true, false, true, true, false, false, true, true, false, false, false, false, false, false, false, false, false, false, false, false, false, false] rfl rfl (take_ofW HT_.out HW_.out (by kernel_rfl)) (fun _ _ _ h => h) (Or.inl ⟨by rfl, ?_⟩) hHeld ?_ ?_
       rotate_left
       ·rintro w' ⟨s0, s1, s2, s3, s4, s5, s6, s7, s8⟩
        go_simp
        with_reducible rfl
       rotate_left
       ·exact pt_
       refine one_ (i := 18) (N := some 68) #[true, true, true, true, true, true, true, true, true, true, true, true, true, true, true, true, true, true, true, true, true, false, false, true, true, false, false, false, false, false, false, false, false, false, false, false, false, false, false] rfl rfl (one_of HT_.out (by kernel_rfl)) (by decide) (fun K hK => ?_)
       refine gs_ Tryd.func13 #[.agg #[.bool a0_0, .slice A0_1 l0_1.length c0_1, .int .i64 a0_2], .int .i64 a2] ?_
       with_reducible refine (dy_Move.calls kj7 a0_0 _ _ l0_1 a0_2 a2 t705 t706 t709 _ ?side1 ?side2 A32.out ?sidet).mono ?_
       (case sidet => exact Kd.C_below HTAB.out (bw_ HB.out))
       (case side1 => exact kc_ (Kd.V_reads' HO_682001.out).2.2)
       (case side2 => exact (Kd.V_reads' HO_682001.out).2.1)
       rintro e w57 ⟨v707, rfl, ho0, hb⟩
       refine ⟨_, rfl, ?_⟩
       have n0_ := Aside0.mk (Kd.V_elder' (by (with_reducible repeat (first | apply Kd.V_alloc | apply Kd.V_drewN | apply Kd.V_drew)); exact HO_682001.out) (Kd.R_base ho0) hb)
       have n1_ := Aside0.mk (Kd.R_elder' (kr_ HO689.out) (Kd.R_base ho0) hb)
       have n2_ := Aside0.mk (Kd.R_elder' (kr_ HO694.out) (Kd.R_base ho0) hb)
       have n3_ := Aside0.mk (Kd.R_elder' (kr_ HO700.out) (Kd.R_base ho0) hb)
       have n4_ := Aside0.mk (Kd.R_lower (Kd.R_new' (Kd.R_new' (Kd.R_new' (Kd.R_newM (M := fun k_ => (w.heap.size ≤ k_)) ho0 (below_size (bw_ HB.out)) (fun k_ h_ => h_)) (Kd.R_lt (kr_ HO689.out))) (Kd.R_lt (kr_ HO694.out))) (Kd.R_lt (kr_ HO700.out))) (below_size (bw_ HB.out)))
       have n5_ := kq_ BK681 hb
       have n6_ := kq_ BK682 hb
       have n7_ := kq_ BK696 hb
       have n8_ := bq_ HB hb
       clear HO_682001
       clear HO689
       clear HO694
       clear HO700
       clear BK681
       clear BK682
       clear BK696
       clear HB
       have HO_682001 := n0_
       have HO689 := n1_
       have HO694 := n2_
       have HO700 := n3_
       have HO708 := n4_
       have BK681 := n5_
       have BK682 := n6_
       have BK696 := n7_
       have HB := n8_
       clear n0_ n1_ n2_ n3_ n4_ n5_ n6_ n7_ n8_
       (try clear hb)
       (try clear hb2)
       (try clear hk)
       (try clear hi)
       (try clear ho0)
       refine hK.out _ _ ⟨(blk_cell BK696.out 0).trans rfl, (blk_cell BK696.out 1).trans rfl, (blk_cell BK696.out 2).trans rfl, (blk_cell BK681.out 0).trans rfl, (blk_cell BK681.out 1).trans rfl, (blk_cell BK681.out 2).trans rfl, (blk_cell BK682.out 0).trans rfl, (blk_cell BK682.out 1).trans rfl, (blk_cell BK682.out 2).trans rfl⟩ (fun hHeld => ?_)
       clear hK K
       refine norm_ (a' := ?_) ?_ ?_
       rotate_left
       ·show Act.put _ (some 68) _ = _
        exact pt_
       refine one_ (i := 21) (N := some 71) #[true, true, true, true, true, true, true, true, true, true, true, true, true, true, true, true, true, true, true, true, true, true, false, true, true, false, false, false, false, false, false, false, false, false, false, false, false, false, false] rfl rfl (one_of HT_.out (by kernel_rfl)) (by decide) (fun K hK => ?_)
       refine gs_ Tryd.func13 #[.agg #[.bool a1_0, .slice A1_1 l1_1.length c1_1, .int .i64 a1_2], .int .i64 a2] ?_
       with_reducible refine (dy_Move.calls kj7 a1_0 _ _ l1_1 a1_2 a2 t710 t711 t714 _ ?side1 ?side2 A33.out ?sidet).mono ?_
       (case sidet => exact Kd.C_below HTAB.out (bw_ HB.out))
       (case side1 => exact kc_ (Kd.C_below HR1_1.out HB.out))
       (case side2 => exact HC1_1.out)
       rintro e w58 ⟨v712, rfl, ho0, hb⟩
       refine ⟨_, rfl, ?_⟩
       have n0_ := Aside0.mk (Kd.V_elder' (by (with_reducible repeat (first | apply Kd.V_alloc | apply Kd.V_drewN | apply Kd.V_drew)); exact HO_682001.out) (Kd.R_base ho0) hb)
       have n1_ := Aside0.mk (Kd.R_elder' (kr_ HO689.out) (Kd.R_base ho0) hb)
       have n2_ := Aside0.mk (Kd.R_elder' (kr_ HO694.out) (Kd.R_base ho0) hb)
       have n3_ := Aside0.mk (Kd.R_elder' (kr_ HO700.out) (Kd.R_base ho0) hb)
       have n4_ := Aside0.mk (Kd.R_elder' (kr_ HO708.out) (Kd.R_base ho0) hb)
       have n5_ := Aside0.mk (Kd.R_lower (Kd.R_new' (Kd.R_new' (Kd.R_new' (Kd.R_new' (Kd.R_newM (M := fun k_ => (w.heap.size ≤ k_)) ho0 (below_size (bw_ HB.out)) (fun k_ h_ => h_)) (Kd.R_lt (kr_ HO689.out))) (Kd.R_lt (kr_ HO694.out))) (Kd.R_lt (kr_ HO700.out))) (Kd.R_lt (kr_ HO708.out))) (below_size (bw_ HB.out)))
       have n6_ := kq_ BK681 hb
       have n7_ := kq_ BK682 hb
       have n8_ := kq_ BK696 hb
       have n9_ := bq_ HB hb
       clear HO_682001
       clear HO689
       clear HO694
       clear HO700
       clear HO708
       clear BK681
       clear BK682
       clear BK696
       clear HB
       have HO_682001 := n0_
       have HO689 := n1_
       have HO694 := n2_
       have HO700 := n3_
       have HO708 := n4_
       have HO713 := n5_
       have BK681 := n6_
       have BK682 := n7_
       have BK696 := n8_
       have HB := n9_
       clear n0_ n1_ n2_ n3_ n4_ n5_ n6_ n7_ n8_ n9_
       (try clear hb)
       (try clear hb2)
       (try clear hk)
       (try clear hi)
       (try clear ho0)
       obtain ⟨Ao59, co59, eo59⟩ := Kd.R_slice HO708.out
       (first | subst eo59 | (injection eo59 with f1_ f2_ f3_; have f4_ := f1_.symm; have f5_ := f3_.symm; clear f1_ f2_ f3_; subst f4_; subst f5_))
       obtain ⟨Ao60, co60, eo60⟩ := Kd.R_slice HO713.out
       (first | subst eo60 | (injection eo60 with f1_ f2_ f3_; have f4_ := f1_.symm; have f5_ := f3_.symm; clear f1_ f2_ f3_; subst f4_; subst f5_))
       refine hK.out _ _ ⟨(blk_cell BK696.out 0).trans rfl, (blk_cell BK696.out 1).trans rfl, (blk_cell BK696.out 2).trans rfl, (blk_cell BK681.out 0).trans rfl, (blk_cell BK681.out 1).trans rfl, (blk_cell BK681.out 2).trans rfl, (blk_cell BK682.out 0).trans rfl, (blk_cell BK682.out 1).trans rfl, (blk_cell BK682.out 2).trans rfl⟩ (fun hHeld => ?_)
       clear hK K
       refine norm_ (a' := ?_) ?_ ?_
       rotate_left
       ·show Act.put _ (some 71) _ = _
        exact pt_
       refine one_ (i := 22) (N := some 72) #[true, true, true, true, true, true, true, true, true, true, true, true, true, true, true, true, true, true, true, true, true, true, true, true, true, false, false, false, false, false, false, false, false, false, false, false, false, false, false] rfl rfl (one_of HT_.out (by kernel_rfl)) (by decide) (fun K hK => ?_)
       refine gs_ Tryd.func20 #[.agg #[.bool t705, .slice Ao59 t706.length co59, .int .i64 t709], .agg #[.bool t710, .slice Ao60 t711.length co60, .int .i64 t714]] ?_
       with_reducible refine (dy_Cmp.calls kj7 t705 _ _ t706 t709 t710 _ _ t711 t714 t715 _ ?side1 ?side2 ?side3 ?side4 A34.out ?sidet).mono ?_
       (case sidet => exact Kd.C_below HTAB.out (bw_ HB.out))
       (case side1 => exact kc_ (Kd.R_reads' HO708.out).2.2)
       (case side2 => exact (Kd.R_reads' HO708.out).2.1)
       (case side3 => exact kc_ (Kd.R_reads' HO713.out).2.2)
       (case side4 => exact (Kd.R_reads' HO713.out).2.1)
       rintro e w61 ⟨rfl, hb⟩
       refine ⟨_, rfl, ?_⟩
       have n0_ := Aside0.mk (Kd.V_below (by (with_reducible repeat (first | apply Kd.V_alloc | apply Kd.V_drewN | apply Kd.V_drew)); exact HO_682001.out) hb)
       have n1_ := Aside0.mk (Kd.R_below (kr_ HO689.out) hb)
       have n2_ := Aside0.mk (Kd.R_below (kr_ HO694.out) hb)
       have n3_ := Aside0.mk (Kd.R_below (kr_ HO700.out) hb)
       have n4_ := Aside0.mk (Kd.R_below (kr_ HO708.out) hb)
       have n5_ := Aside0.mk (Kd.R_below (kr_ HO713.out) hb)
       have n6_ := kq_ BK681 hb
       have n7_ := kq_ BK682 hb
       have n8_ := kq_ BK696 hb
       have n9_ := bq_ HB hb
       clear HO_682001
       clear HO689
       clear HO694
       clear HO700
       clear HO708
       clear HO713
       clear BK681
       clear BK682
       clear BK696
       clear HB
       have HO_682001 := n0_
       have HO689 := n1_
       have HO694 := n2_
       have HO700 := n3_
       have HO708 := n4_
       have HO713 := n5_
       have BK681 := n6_
       have BK682 := n7_
       have BK696 := n8_
       have HB := n9_
       clear n0_ n1_ n2_ n3_ n4_ n5_ n6_ n7_ n8_ n9_
       (try clear hb)
       (try clear hb2)
       (try clear hk)
       (try clear hi)
       refine hK.out _ _ ⟨(blk_cell BK696.out 0).trans rfl, (blk_cell BK696.out 1).trans rfl, (blk_cell BK696.out 2).trans rfl, (blk_cell BK681.out 0).trans rfl, (blk_cell BK681.out 1).trans rfl, (blk_cell BK681.out 2).trans rfl, (blk_cell BK682.out 0).trans rfl, (blk_cell BK682.out 1).trans rfl, (blk_cell BK682.out 2).trans rfl⟩ (fun hHeld => ?_)
       clear hK K
       refine norm_ (a' := ?_) ?_ ?_
       rotate_left
       ·show Act.put _ (some 72) _ = _
        exact pt_
       refine one_ (i := 25) (N := some 75) #[true, true, true, true, true, true, true, true, true, true, true, true, true, true, true, true, true, true, true, true, true, true, true, true, true, true, false, false, false, false, false, false, false, false, false, false, false, false, false] rfl rfl (one_of HT_.out (by kernel_rfl)) (by decide) (fun K hK => ?_)
       refine gs_ Tryd.func20 #[.agg #[.bool a0_0, .slice A0_1 l0_1.length c0_1, .int .i64 a0_2], .agg #[.bool a1_0, .slice A1_1 l1_1.length c1_1, .int .i64 a1_2]] ?_
       with_reducible refine (dy_Cmp.calls kj7 a0_0 _ _ l0_1 a0_2 a1_0 _ _ l1_1 a1_2 t716 _ ?side1 ?side2 ?side3 ?side4 A35.out ?sidet).mono ?_
       (case sidet => exact Kd.C_below HTAB.out (bw_ HB.out))
       (case side1 => exact kc_ (Kd.V_reads' HO_682001.out).2.2)
       (case side2 => exact (Kd.V_reads' HO_682001.out).2.1)
       (case side3 => exact kc_ (Kd.C_below HR1_1.out HB.out))
       (case side4 => exact HC1_1.out)
       rintro e w62 ⟨rfl, hb⟩
       refine ⟨_, rfl, ?_⟩
       have n0_ := Aside0.mk (Kd.V_below (by (with_reducible repeat (first | apply Kd.V_alloc | apply Kd.V_drewN | apply Kd.V_drew)); exact HO_682001.out) hb)
       have n1_ := Aside0.mk (Kd.R_below (kr_ HO689.out) hb)
       have n2_ := Aside0.mk (Kd.R_below (kr_ HO694.out) hb)
       have n3_ := Aside0.mk (Kd.R_below (kr_ HO700.out) hb)
       have n4_ := Aside0.mk (Kd.R_below (kr_ HO708.out) hb)
       have n5_ := Aside0.mk (Kd.R_below (kr_ HO713.out) hb)
       have n6_ := kq_ BK681 hb
       have n7_ := kq_ BK682 hb
       have n8_ := kq_ BK696 hb
       have n9_ := bq_ HB hb
       clear HO_682001
       clear HO689
       clear HO694
       clear HO700
       clear HO708
       clear HO713
       clear BK681
       clear BK682
       clear BK696
       clear HB
       have HO_682001 := n0_
       have HO689 := n1_
       have HO694 := n2_
       have HO700 := n3_
       have HO708 := n4_
       have HO713 := n5_
       have BK681 := n6_
       have BK682 := n7_
       have BK696 := n8_
       have HB := n9_
       clear n0_ n1_ n2_ n3_ n4_ n5_ n6_ n7_ n8_ n9_
       (try clear hb)
       (try clear hb2)
       (try clear hk)
       (try clear hi)
       refine hK.out _ _ ⟨(blk_cell BK696.out 0).trans rfl, (blk_cell BK696.out 1).trans rfl, (blk_cell BK696.out 2).trans rfl, (blk_cell BK681.out 0).trans rfl, (blk_cell BK681.out 1).trans rfl, (blk_cell BK681.out 2).trans rfl, (blk_cell BK682.out 0).trans rfl, (blk_cell BK682.out 1).trans rfl, (blk_cell BK682.out 2).trans rfl⟩ (fun hHeld => ?_)
       clear hK K
       refine norm_ (a' := ?_) ?_ ?_
       rotate_left
       ·show Act.put _ (some 75) _ = _
        exact pt_
       refine pure_ (i := 26) (N := some 76) (v := ?_) (a' := ?_) #[true, true, true, true, true, true, true, true, true, true, true, true, true, true, true, true, true, true, true, true, true, true, true, true, true, true, true, false, false, false, false, false, false, false, false, false, false, false, false] rfl rfl (any_of HT_.out (by kernel_rfl)) (fun _ _ _ h => h) (Or.inl ⟨by rfl, ?_⟩) ?_ ?_
       rotate_left
       ·intro w'
        go_simp
        with_reducible rfl
       rotate_left
       ·exact pt_
       refine pure_ (i := 27) (N := some 77) (v := ?_) (a' := ?_) #[true, true, true, true, true, true, true, true, true, true, true, true, true, true, true, true, true, true, true, true, true, true, true, true, true, true, true, true, false, false, false, false, false, false, false, false, false, false, false] rfl rfl (any_of HT_.out (by kernel_rfl)) (fun _ _ _ h => h) (Or.inl ⟨by rfl, ?_⟩) ?_ ?_
       rotate_left
       ·intro w'
        go_simp
        with_reducible rfl
       rotate_left
       ·exact pt_
       refine pure_ (i := 28) (N := some 78) (v := ?_) (a' := ?_) #[true, true, true, true, true, true, true, true, true, true, true, true, true, true, true, true, true, true, true, true, true, true, true, true, true, true, true, true, true, false, false, false, false, false, false, false, false, false, false] rfl rfl (any_of HT_.out (by kernel_rfl)) (fun _ _ _ h => h) (Or.inl ⟨by rfl, ?_⟩) ?_ ?_
       rotate_left
       ·intro w'
        go_simp
        with_reducible rfl
       rotate_left
       ·exact pt_
       refine take_ (i := 29) (N := some 79) (v := ?_) (a' := ?_) #[true, true, true, true, true, true, true, true, true, true, true, true, true, true, true, true, true, true, true, true, true, true, true, true, true, true, true, true, true, true, false, false, false, false, false, false, false, false, false] rfl rfl (take_ofW HT_.out HW_.out (by kernel_rfl)) (fun _ _ _ h => h) (Or.inl ⟨by rfl, ?_⟩) hHeld ?_ ?_
       rotate_left
       ·rintro w' ⟨s0, s1, s2, s3, s4, s5, s6, s7, s8⟩
        go_simp
        with_reducible rfl
       rotate_left
       ·exact pt_
       refine take_ (i := 30) (N := some 80) (v := ?_) (a' := ?_) #[true, true, true, true, true, true, true, true, true, true, true, true, true, true, true, true, true, true, true, true, true, true, true, true, true, true, true, true, true, true, true, false, false, false, false, false, false, false, false] rfl rfl (take_ofW HT_.out HW_.out (by kernel_rfl)) (fun _ _ _ h => h) (Or.inl ⟨by rfl, ?_⟩) hHeld ?_ ?_
       rotate_left
       ·rintro w' ⟨s0, s1, s2, s3, s4, s5, s6, s7, s8⟩
        go_simp
        with_reducible rfl
       rotate_left
       ·exact pt_
       refine take_ (i := 33) (N := some 83) (v := ?_) (a' := ?_) #[true, true, true, true, true, true, true, true, true, true, true, true, true, true, true, true, true, true, true, true, true, true, true, true, true, true, true, true, true, true, true, false, false, true, false, false, false, false, false] rfl rfl (take_ofW HT_.out HW_.out (by kernel_rfl)) (fun _ _ _ h => h) (Or.inl ⟨by rfl, ?_⟩) hHeld ?_ ?_
       rotate_left
       ·rintro w' ⟨s0, s1, s2, s3, s4, s5, s6, s7, s8⟩
        go_simp
        with_reducible rfl
       rotate_left
       ·exact pt_
       refine one_ (i := 31) (N := some 81) #[true, true, true, true, true, true, true, true, true, true, true, true, true, true, true, true, true, true, true, true, true, true, true, true, true, true, true, true, true, true, true, true, false, true, false, false, false, false, false] rfl rfl (one_of HT_.out (by kernel_rfl)) (by decide) (fun K hK => ?_)
       refine Kd.N_lit_step k27 _ 27 ?hg (N' := 81) ?hd (xs := ([(⟨(⟨a0_0, l0_1⟩ : S24), a0_2⟩ : S27), (⟨(⟨a0_0, l0_1⟩ : S24), a0_2⟩ : S27)] : List (S27))) (inner := [.bool a0_0, .slice A0_1 l0_1.length c0_1, .int .i64 a0_2, .bool a0_0, .slice A0_1 l0_1.length c0_1, .int .i64 a0_2]) (ok := (fun k_ => (P0_1_ k_ ∨ w.heap.size ≤ k_) ∧ some k_ ≠ (.slice Ao43 t687.length co43 : Value).ownBlock ∧ some k_ ≠ (.slice Ao49 t692.length co49 : Value).ownBlock ∧ some k_ ≠ (.slice Ao53 t698.length co53 : Value).ownBlock ∧ some k_ ≠ (.slice Ao59 t706.length co59 : Value).ownBlock ∧ some k_ ≠ (.slice Ao60 t711.length co60 : Value).ownBlock ∧ k_ ≠ gb681 ∧ k_ ≠ gb682 ∧ k_ ≠ gb696)) (okp := (fun k_ => (P0_1_ k_ ∨ w.heap.size ≤ k_) ∧ some k_ ≠ (.slice Ao43 t687.length co43 : Value).ownBlock ∧ some k_ ≠ (.slice Ao49 t692.length co49 : Value).ownBlock ∧ some k_ ≠ (.slice Ao53 t698.length co53 : Value).ownBlock ∧ some k_ ≠ (.slice Ao59 t706.length co59 : Value).ownBlock ∧ some k_ ≠ (.slice Ao60 t711.length co60 : Value).ownBlock ∧ k_ ≠ gb681 ∧ k_ ≠ gb682 ∧ k_ ≠ gb696)) ?hr ?hp (fun _ hk => hk) ((show ∀ k_, w62.heap.size ≤ k_ → (fun k_ => (P0_1_ k_ ∨ w.heap.size ≤ k_) ∧ some k_ ≠ (.slice Ao43 t687.length co43 : Value).ownBlock ∧ some k_ ≠ (.slice Ao49 t692.length co49 : Value).ownBlock ∧ some k_ ≠ (.slice Ao53 t698.length co53 : Value).ownBlock ∧ some k_ ≠ (.slice Ao59 t706.length co59 : Value).ownBlock ∧ some k_ ≠ (.slice Ao60 t711.length co60 : Value).ownBlock ∧ k_ ≠ gb681 ∧ k_ ≠ gb682 ∧ k_ ≠ gb696) k_ from fun k_ hk => ⟨(.inr (Nat.le_trans (below_size (bw_ HB.out)) hk)), Kd.fresh' (Kd.R_lt (kr_ HO689.out)) k_ hk, Kd.fresh' (Kd.R_lt (kr_ HO694.out)) k_ hk, Kd.fresh' (Kd.R_lt (kr_ HO700.out)) k_ hk, Kd.fresh' (Kd.R_lt (kr_ HO708.out)) k_ hk, Kd.fresh' (Kd.R_lt (kr_ HO713.out)) k_ hk, Kd.freshB (g := gb681) (o := .cells #[.bool a0_0, .slice A0_1 l0_1.length c0_1, .int .i64 a0_2] 27 (0, 0)) (kb_ BK681.out) k_ hk, Kd.freshB (g := gb682) (o := .cells #[.bool a1_0, .slice A1_1 l1_1.length c1_1, .int .i64 a1_2] 27 (0, 0)) (kb_ BK682.out) k_ hk, Kd.freshB (g := gb696) (o := .cells #[.bool t691, .slice Ao49 t692.length co49, .int .i64 t695] 27 (0, 0)) (kb_ BK696.out) k_ hk⟩) _ (Nat.le_refl _)) (Below.refl _ _) (Nat.le_refl _) (by simp) ?_; (case hd => rfl); (case hg => rfl); (case hr => first | (go_simp; done) | (go_simp; rfl)); (case hp => exact (Reps.c3 (show Kd.FK k27 _ _ (⟨(⟨a0_0, l0_1⟩ : S24), a0_2⟩ : S27) [.bool a0_0, .slice A0_1 l0_1.length c0_1, .int .i64 a0_2] from (k27_mkF _ _ (⟨(⟨a0_0, l0_1⟩ : S24), a0_2⟩ : S27) (Kd.V_reads' (Kd.V_mono (ok' := (fun k_ => (P0_1_ k_ ∨ w.heap.size ≤ k_) ∧ some k_ ≠ (.slice Ao43 t687.length co43 : Value).ownBlock ∧ some k_ ≠ (.slice Ao49 t692.length co49 : Value).ownBlock ∧ some k_ ≠ (.slice Ao53 t698.length co53 : Value).ownBlock ∧ some k_ ≠ (.slice Ao59 t706.length co59 : Value).ownBlock ∧ some k_ ≠ (.slice Ao60 t711.length co60 : Value).ownBlock ∧ k_ ≠ gb681 ∧ k_ ≠ gb682 ∧ k_ ≠ gb696)) (HO_682001.out) (fun k_ hk => ⟨hk.1.1.1.1, ⟨hk.1.1.1.2.1, ⟨hk.1.1.1.2.2.1, ⟨hk.1.1.2, ⟨hk.1.2, ⟨hk.2, ⟨hk.1.1.1.2.2.2.1, ⟨hk.1.1.1.2.2.2.2.1, hk.1.1.1.2.2.2.2.2⟩⟩⟩⟩⟩⟩⟩⟩))).2.1 (Kd.V_F (Kd.V_mono (ok' := (fun k_ => (P0_1_ k_ ∨ w.heap.size ≤ k_) ∧ some k_ ≠ (.slice Ao43 t687.length co43 : Value).ownBlock ∧ some k_ ≠ (.slice Ao49 t692.length co49 : Value).ownBlock ∧ some k_ ≠ (.slice Ao53 t698.length co53 : Value).ownBlock ∧ some k_ ≠ (.slice Ao59 t706.length co59 : Value).ownBlock ∧ some k_ ≠ (.slice Ao60 t711.length co60 : Value).ownBlock ∧ k_ ≠ gb681 ∧ k_ ≠ gb682 ∧ k_ ≠ gb696)) (HO_682001.out) (fun k_ hk => ⟨hk.1.1.1.1, ⟨hk.1.1.1.2.1, ⟨hk.1.1.1.2.2.1, ⟨hk.1.1.2, ⟨hk.1.2, ⟨hk.2, ⟨hk.1.1.1.2.2.2.1, ⟨hk.1.1.1.2.2.2.2.1, hk.1.1.1.2.2.2.2.2⟩⟩⟩⟩⟩⟩⟩⟩))))) (Reps.c3 (show Kd.FK k27 _ _ (⟨(⟨a0_0, l0_1⟩ : S24), a0_2⟩ : S27) [.bool a0_0, .slice A0_1 l0_1.length c0_1, .int .i64 a0_2] from (k27_mkF _ _ (⟨(⟨a0_0, l0_1⟩ : S24), a0_2⟩ : S27) (Kd.V_reads' (Kd.V_mono (ok' := (fun k_ => (P0_1_ k_ ∨ w.heap.size ≤ k_) ∧ some k_ ≠ (.slice Ao43 t687.length co43 : Value).ownBlock ∧ some k_ ≠ (.slice Ao49 t692.length co49 : Value).ownBlock ∧ some k_ ≠ (.slice Ao53 t698.length co53 : Value).ownBlock ∧ some k_ ≠ (.slice Ao59 t706.length co59 : Value).ownBlock ∧ some k_ ≠ (.slice Ao60 t711.length co60 : Value).ownBlock ∧ k_ ≠ gb681 ∧ k_ ≠ gb682 ∧ k_ ≠ gb696)) (HO_682001.out) (fun k_ hk => ⟨hk.1.1.1.1, ⟨hk.1.1.1.2.1, ⟨hk.1.1.1.2.2.1, ⟨hk.1.1.2, ⟨hk.1.2, ⟨hk.2, ⟨hk.1.1.1.2.2.2.1, ⟨hk.1.1.1.2.2.2.2.1, hk.1.1.1.2.2.2.2.2⟩⟩⟩⟩⟩⟩⟩⟩))).2.1 (Kd.V_F (Kd.V_mono (ok' := (fun k_ => (P0_1_ k_ ∨ w.heap.size ≤ k_) ∧ some k_ ≠ (.slice Ao43 t687.length co43 : Value).ownBlock ∧ some k_ ≠ (.slice Ao49 t692.length co49 : Value).ownBlock ∧ some k_ ≠ (.slice Ao53 t698.length co53 : Value).ownBlock ∧ some k_ ≠ (.slice Ao59 t706.length co59 : Value).ownBlock ∧ some k_ ≠ (.slice Ao60 t711.length co60 : Value).ownBlock ∧ k_ ≠ gb681 ∧ k_ ≠ gb682 ∧ k_ ≠ gb696)) (HO_682001.out) (fun k_ hk => ⟨hk.1.1.1.1, ⟨hk.1.1.1.2.1, ⟨hk.1.1.1.2.2.1, ⟨hk.1.1.2, ⟨hk.1.2, ⟨hk.2, ⟨hk.1.1.1.2.2.2.1, ⟨hk.1.1.1.2.2.2.2.1, hk.1.1.1.2.2.2.2.2⟩⟩⟩⟩⟩⟩⟩⟩))))) (Reps.none _ _))))
       intro v718 w63 ho64 hb hg_ hnew_
       clear hg_ hnew_
       (first | rw [← Ny717.out] at ho64 | (simp only [Int.reduceToNat] at ho64; rw [← Ny717.out] at ho64))
       have n0_ := Aside0.mk (Kd.V_elder' (by (with_reducible repeat (first | apply Kd.V_alloc | apply Kd.V_drewN | apply Kd.V_drew)); exact HO_682001.out) (Kd.N_base ho64) hb)
       have n1_ := Aside0.mk (Kd.R_below (kr_ HO689.out) hb)
       have n2_ := Aside0.mk (Kd.R_below (kr_ HO694.out) hb)
       have n3_ := Aside0.mk (Kd.R_below (kr_ HO700.out) hb)
       have n4_ := Aside0.mk (Kd.R_below (kr_ HO708.out) hb)
       have n5_ := Aside0.mk (Kd.R_below (kr_ HO713.out) hb)
       have n6_ := Aside0.mk (Kd.N_lower ho64 (below_size (bw_ HB.out)))
       have n7_ := kq_ BK681 hb
       have n8_ := kq_ BK682 hb
       have n9_ := kq_ BK696 hb
       have n10_ := bq_ HB hb
       clear HO_682001
       clear HO689
       clear HO694
       clear HO700
       clear HO708
       clear HO713
       clear BK681
       clear BK682
       clear BK696
       clear HB
       have HO_682001 := n0_
       have HO689 := n1_
       have HO694 := n2_
       have HO700 := n3_
       have HO708 := n4_
       have HO713 := n5_
       have HO719 := n6_
       have BK681 := n7_
       have BK682 := n8_
       have BK696 := n9_
       have HB := n10_
       clear n0_ n1_ n2_ n3_ n4_ n5_ n6_ n7_ n8_ n9_ n10_
       clear hb ho64
       obtain ⟨Ao65, co65, eo65⟩ := Kd.N_slice HO719.out
       (first | subst eo65 | (injection eo65 with f1_ f2_ f3_; have f4_ := f1_.symm; have f5_ := f3_.symm; clear f1_ f2_ f3_; subst f4_; subst f5_))
       refine hK.out _ _ ⟨(blk_cell BK696.out 0).trans rfl, (blk_cell BK696.out 1).trans rfl, (blk_cell BK696.out 2).trans rfl, (blk_cell BK681.out 0).trans rfl, (blk_cell BK681.out 1).trans rfl, (blk_cell BK681.out 2).trans rfl, (blk_cell BK682.out 0).trans rfl, (blk_cell BK682.out 1).trans rfl, (blk_cell BK682.out 2).trans rfl⟩ (fun hHeld => ?_)
       clear hK K
       refine norm_ (a' := ?_) ?_ ?_
       rotate_left
       ·show Act.put _ (some 81) _ = _
        exact pt_
       refine one_ (i := 32) (N := some 82) #[true, true, true, true, true, true, true, true, true, true, true, true, true, true, true, true, true, true, true, true, true, true, true, true, true, true, true, true, true, true, true, true, true, true, false, false, false, false, false] rfl rfl (one_of HT_.out (by kernel_rfl)) (by decide) (fun K hK => ?_)
       refine gs_ Tryd.func21 #[.slice Ao65 y717.length co65] ?_
       with_reducible refine (dy_Add.calls kj7 _ _ y717 t720 t721 t724 _ ?side1 ?side2 A37.out ?sidet).mono ?_
       (case sidet => exact Kd.C_below HTAB.out (bw_ HB.out))
       (case side1 => exact kc_ (Kd.N_reads' HO719.out).2.2)
       (case side2 => exact (Kd.N_reads' HO719.out).2.1)
       rintro e w66 ⟨v722, rfl, ho0, hb⟩
       refine ⟨_, rfl, ?_⟩
       have n0_ := Aside0.mk (Kd.V_elder' (by (with_reducible repeat (first | apply Kd.V_alloc | apply Kd.V_drewN | apply Kd.V_drew)); exact HO_682001.out) (Kd.R_base ho0) hb)
       have n1_ := Aside0.mk (Kd.R_elder' (kr_ HO689.out) (Kd.R_base ho0) hb)
       have n2_ := Aside0.mk (Kd.R_elder' (kr_ HO694.out) (Kd.R_base ho0) hb)
       have n3_ := Aside0.mk (Kd.R_elder' (kr_ HO700.out) (Kd.R_base ho0) hb)
       have n4_ := Aside0.mk (Kd.R_elder' (kr_ HO708.out) (Kd.R_base ho0) hb)
       have n5_ := Aside0.mk (Kd.R_elder' (kr_ HO713.out) (Kd.R_base ho0) hb)
       have n6_ := Aside0.mk (Kd.N_elder' (by (with_reducible repeat (first | apply Kd.N_alloc | apply Kd.N_drewN | apply Kd.N_drew)); exact HO719.out) (Kd.R_base ho0) hb)
       have n7_ := Aside0.mk (Kd.R_lower (Kd.R_new' (Kd.R_new' (Kd.R_new' (Kd.R_new' (Kd.R_new' (Kd.R_newM (M := fun k_ => (w.heap.size ≤ k_)) ho0 (below_size (bw_ HB.out)) (fun k_ h_ => h_)) (Kd.R_lt (kr_ HO689.out))) (Kd.R_lt (kr_ HO694.out))) (Kd.R_lt (kr_ HO700.out))) (Kd.R_lt (kr_ HO708.out))) (Kd.R_lt (kr_ HO713.out))) (below_size (bw_ HB.out)))
       have n8_ := kq_ BK681 hb
       have n9_ := kq_ BK682 hb
       have n10_ := kq_ BK696 hb
       have n11_ := bq_ HB hb
       clear HO_682001
       clear HO689
       clear HO694
       clear HO700
       clear HO708
       clear HO713
       clear HO719
       clear BK681
       clear BK682
       clear BK696
       clear HB
       have HO_682001 := n0_
       have HO689 := n1_
       have HO694 := n2_
       have HO700 := n3_
       have HO708 := n4_
       have HO713 := n5_
       have HO719 := n6_
       have HO723 := n7_
       have BK681 := n8_
       have BK682 := n9_
       have BK696 := n10_
       have HB := n11_
       clear n0_ n1_ n2_ n3_ n4_ n5_ n6_ n7_ n8_ n9_ n10_ n11_
       (try clear hb)
       (try clear hb2)
       (try clear hk)
       (try clear hi)
       (try clear ho0)
       refine hK.out _ _ ⟨(blk_cell BK696.out 0).trans rfl, (blk_cell BK696.out 1).trans rfl, (blk_cell BK696.out 2).trans rfl, (blk_cell BK681.out 0).trans rfl, (blk_cell BK681.out 1).trans rfl, (blk_cell BK681.out 2).trans rfl, (blk_cell BK682.out 0).trans rfl, (blk_cell BK682.out 1).trans rfl, (blk_cell BK682.out 2).trans rfl⟩ (fun hHeld => ?_)
       clear hK K
       refine norm_ (a' := ?_) ?_ ?_
       rotate_left
       ·show Act.put _ (some 82) _ = _
        exact pt_
       refine one_ (i := 34) (N := some 84) #[true, true, true, true, true, true, true, true, true, true, true, true, true, true, true, true, true, true, true, true, true, true, true, true, true, true, true, true, true, true, true, true, true, true, true, false, false, false, false] rfl rfl (one_of HT_.out (by kernel_rfl)) (by decide) (fun K hK => ?_)
       refine gs_ Tryd.func13 #[.agg #[.bool a0_0, .slice A0_1 l0_1.length c0_1, .int .i64 a0_2], .int .i64 1] ?_
       with_reducible refine (dy_Move.calls kj7 a0_0 _ _ l0_1 a0_2 1 t725 t726 t729 _ ?side1 ?side2 A38.out ?sidet).mono ?_
       (case sidet => exact Kd.C_below HTAB.out (bw_ HB.out))
       (case side1 => exact kc_ (Kd.V_reads' HO_682001.out).2.2)
       (case side2 => exact (Kd.V_reads' HO_682001.out).2.1)
       rintro e w67 ⟨v727, rfl, ho0, hb⟩
       refine ⟨_, rfl, ?_⟩
       have n0_ := Aside0.mk (Kd.V_elder' (by (with_reducible repeat (first | apply Kd.V_alloc | apply Kd.V_drewN | apply Kd.V_drew)); exact HO_682001.out) (Kd.R_base ho0) hb)
       have n1_ := Aside0.mk (Kd.R_elder' (kr_ HO689.out) (Kd.R_base ho0) hb)
       have n2_ := Aside0.mk (Kd.R_elder' (kr_ HO694.out) (Kd.R_base ho0) hb)
       have n3_ := Aside0.mk (Kd.R_elder' (kr_ HO700.out) (Kd.R_base ho0) hb)
       have n4_ := Aside0.mk (Kd.R_elder' (kr_ HO708.out) (Kd.R_base ho0) hb)
       have n5_ := Aside0.mk (Kd.R_elder' (kr_ HO713.out) (Kd.R_base ho0) hb)
       have n6_ := Aside0.mk (Kd.N_elder' (by (with_reducible repeat (first | apply Kd.N_alloc | apply Kd.N_drewN | apply Kd.N_drew)); exact HO719.out) (Kd.R_base ho0) hb)
       have n7_ := Aside0.mk (Kd.R_elder' (kr_ HO723.out) (Kd.R_base ho0) hb)
       have n8_ := Aside0.mk (Kd.R_lower (Kd.R_new' (Kd.R_new' (Kd.R_new' (Kd.R_new' (Kd.R_new' (Kd.R_new' (Kd.R_newM (M := fun k_ => (w.heap.size ≤ k_)) ho0 (below_size (bw_ HB.out)) (fun k_ h_ => h_)) (Kd.R_lt (kr_ HO689.out))) (Kd.R_lt (kr_ HO694.out))) (Kd.R_lt (kr_ HO700.out))) (Kd.R_lt (kr_ HO708.out))) (Kd.R_lt (kr_ HO713.out))) (Kd.R_lt (kr_ HO723.out))) (below_size (bw_ HB.out)))
       have n9_ := kq_ BK681 hb
       have n10_ := kq_ BK682 hb
       have n11_ := kq_ BK696 hb
       have n12_ := bq_ HB hb
       clear HO_682001
       clear HO689
       clear HO694
       clear HO700
       clear HO708
       clear HO713
       clear HO719
       clear HO723
       clear BK681
       clear BK682
       clear BK696
       clear HB
       have HO_682001 := n0_
       have HO689 := n1_
       have HO694 := n2_
       have HO700 := n3_
       have HO708 := n4_
       have HO713 := n5_
       have HO719 := n6_
       have HO723 := n7_
       have HO728 := n8_
       have BK681 := n9_
       have BK682 := n10_
       have BK696 := n11_
       have HB := n12_
       clear n0_ n1_ n2_ n3_ n4_ n5_ n6_ n7_ n8_ n9_ n10_ n11_ n12_
       (try clear hb)
       (try clear hb2)
       (try clear hk)
       (try clear hi)
       (try clear ho0)
       obtain ⟨Ao68, co68, eo68⟩ := Kd.R_slice HO723.out
       (first | subst eo68 | (injection eo68 with f1_ f2_ f3_; have f4_ := f1_.symm; have f5_ := f3_.symm; clear f1_ f2_ f3_; subst f4_; subst f5_))
       obtain ⟨Ao69, co69, eo69⟩ := Kd.R_slice HO728.out
       (first | subst eo69 | (injection eo69 with f1_ f2_ f3_; have f4_ := f1_.symm; have f5_ := f3_.symm; clear f1_ f2_ f3_; subst f4_; subst f5_))
       refine hK.out _ _ ⟨(blk_cell BK696.out 0).trans rfl, (blk_cell BK696.out 1).trans rfl, (blk_cell BK696.out 2).trans rfl, (blk_cell BK681.out 0).trans rfl, (blk_cell BK681.out 1).trans rfl, (blk_cell BK681.out 2).trans rfl, (blk_cell BK682.out 0).trans rfl, (blk_cell BK682.out 1).trans rfl, (blk_cell BK682.out 2).trans rfl⟩ (fun hHeld => ?_)
       clear hK K
       refine norm_ (a' := ?_) ?_ ?_
       rotate_left
       ·show Act.put _ (some 84) _ = _
        exact pt_
       refine one_ (i := 35) (N := some 85) #[true, true, true, true, true, true, true, true, true, true, true, true, true, true, true, true, true, true, true, true, true, true, true, true, true, true, true, true, true, true, true, true, true, true, true, true, false, false, false] rfl rfl (one_of HT_.out (by kernel_rfl)) (by decide) (fun K hK => ?_)
       refine gs_ Tryd.func20 #[.agg #[.bool t720, .slice Ao68 t721.length co68, .int .i64 t724], .agg #[.bool t725, .slice Ao69 t726.length co69, .int .i64 t729]] ?_
       with_reducible refine (dy_Cmp.calls kj7 t720 _ _ t721 t724 t725 _ _ t726 t729 t730 _ ?side1 ?side2 ?side3 ?side4 A39.out ?sidet).mono ?_
       (case sidet => exact Kd.C_below HTAB.out (bw_ HB.out))
       (case side1 => exact kc_ (Kd.R_reads' HO723.out).2.2)
       (case side2 => exact (Kd.R_reads' HO723.out).2.1)
       (case side3 => exact kc_ (Kd.R_reads' HO728.out).2.2)
       (case side4 => exact (Kd.R_reads' HO728.out).2.1)
       rintro e w70 ⟨rfl, hb⟩
       refine ⟨_, rfl, ?_⟩
       have n0_ := Aside0.mk (Kd.V_below (by (with_reducible repeat (first | apply Kd.V_alloc | apply Kd.V_drewN | apply Kd.V_drew)); exact HO_682001.out) hb)
       have n1_ := Aside0.mk (Kd.R_below (kr_ HO689.out) hb)
       have n2_ := Aside0.mk (Kd.R_below (kr_ HO694.out) hb)
       have n3_ := Aside0.mk (Kd.R_below (kr_ HO700.out) hb)
       have n4_ := Aside0.mk (Kd.R_below (kr_ HO708.out) hb)
       have n5_ := Aside0.mk (Kd.R_below (kr_ HO713.out) hb)
       have n6_ := Aside0.mk (Kd.N_below (by (with_reducible repeat (first | apply Kd.N_alloc | apply Kd.N_drewN | apply Kd.N_drew)); exact HO719.out) hb)
       have n7_ := Aside0.mk (Kd.R_below (kr_ HO723.out) hb)
       have n8_ := Aside0.mk (Kd.R_below (kr_ HO728.out) hb)
       have n9_ := kq_ BK681 hb
       have n10_ := kq_ BK682 hb
       have n11_ := kq_ BK696 hb
       have n12_ := bq_ HB hb
       clear HO_682001
       clear HO689
       clear HO694
       clear HO700
       clear HO708
       clear HO713
       clear HO719
       clear HO723
       clear HO728
       clear BK681
       clear BK682
       clear BK696
       clear HB
       have HO_682001 := n0_
       have HO689 := n1_
       have HO694 := n2_
       have HO700 := n3_
       have HO708 := n4_
       have HO713 := n5_
       have HO719 := n6_
       have HO723 := n7_
       have HO728 := n8_
       have BK681 := n9_
       have BK682 := n10_
       have BK696 := n11_
       have HB := n12_
       clear n0_ n1_ n2_ n3_ n4_ n5_ n6_ n7_ n8_ n9_ n10_ n11_ n12_
       (try clear hb)
       (try clear hb2)
       (try clear hk)
       (try clear hi)
       refine hK.out _ _ ⟨(blk_cell BK696.out 0).trans rfl, (blk_cell BK696.out 1).trans rfl, (blk_cell BK696.out 2).trans rfl, (blk_cell BK681.out 0).trans rfl, (blk_cell BK681.out 1).trans rfl, (blk_cell BK681.out 2).trans rfl, (blk_cell BK682.out 0).trans rfl, (blk_cell BK682.out 1).trans rfl, (blk_cell BK682.out 2).trans rfl⟩ (fun hHeld => ?_)
       clear hK K
       refine norm_ (a' := ?_) ?_ ?_
       rotate_left
       ·show Act.put _ (some 85) _ = _
        exact pt_
       refine pure_ (i := 36) (N := some 86) (v := ?_) (a' := ?_) #[true, true, true, true, true, true, true, true, true, true, true, true, true, true, true, true, true, true, true, true, true, true, true, true, true, true, true, true, true, true, true, true, true, true, true, true, true, false, false] rfl rfl (any_of HT_.out (by kernel_rfl)) (fun _ _ _ h => h) (Or.inl ⟨by rfl, ?_⟩) ?_ ?_
       rotate_left
       ·intro w'
        go_simp
        with_reducible rfl
       rotate_left
       ·exact pt_
       refine pure_ (i := 37) (N := some 87) (v := ?_) (a' := ?_) #[true, true, true, true, true, true, true, true, true, true, true, true, true, true, true, true, true, true, true, true, true, true, true, true, true, true, true, true, true, true, true, true, true, true, true, true, true, true, false] rfl rfl (any_of HT_.out (by kernel_rfl)) (fun _ _ _ h => h) (Or.inl ⟨by rfl, ?_⟩) ?_ ?_
       rotate_left
       ·intro w'
        go_simp
        with_reducible rfl
       rotate_left
       ·exact pt_
       refine pure_ (i := 38) (N := some 8) (v := ?_) (a' := ?_) #[true, true, true, true, true, true, true, true, true, true, true, true, true, true, true, true, true, true, true, true, true, true, true, true, true, true, true, true, true, true, true, true, true, true, true, true, true, true, true] rfl rfl (any_of HT_.out (by kernel_rfl)) (fun _ _ _ h => h) (Or.inl ⟨by rfl, ?_⟩) ?_ ?_
       rotate_left
       ·intro w'
        go_simp
        with_reducible rfl
       rotate_left
       ·exact pt_
       refine done_ (done_of HT_.out (by kernel_rfl)) ?_
       try go_wp2
       go_ret
       exact ⟨rf_, bw_ HB.out⟩
      ·rw [if_neg c36] at H
       have c36b0 : (t715 == t716) = false := beq_eq_false_iff_ne.mpr c36
       have c36b1 : (t715 != t716) = true := bne_iff_ne.mpr c36
       exact absurd ((Option.some.inj H).trans HRT_.out) (by simp)
     ·rw [if_neg c31] at H
      have c31b0 : (t703 == t704) = false := beq_eq_false_iff_ne.mpr c31
      have c31b1 : (t703 != t704) = true := bne_iff_ne.mpr c31
      exact absurd ((Option.some.inj H).trans HRT_.out) (by simp)
    ·rw [if_neg c28] at H
     have c28b0 : (t702 == 0) = false := beq_eq_false_iff_ne.mpr c28
     have c28b1 : (t702 != 0) = true := bne_iff_ne.mpr c28
     exact absurd ((Option.some.inj H).trans HRT_.out) (by simp)


end Go.Proofs.YtaookeneeemfbaaDoor.PA
