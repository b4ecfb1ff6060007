-- Laid by this work's own program; Lean checks it.
import Derived.Test.YtaookeneeemfbaaDoorPAx0
import Derived.Test.YtaookeneeemfbaaDoorPAx1
import Derived.Test.YtaookeneeemfbaaDoorPAx3
import Derived.Test.YtaookeneeemfbaaDoorPAx5
namespace Go.Proofs.YtaookeneeemfbaaDoor.PA
open Go.RowKit Go.Proofs.YtaookeneeemfbaaDoorW.PrintWords Go.Proofs.YtaookeneeemfbaaDoorW.PrintLast Go.Proofs.YtaookeneeemfbaaDoorW.PrintMore
attribute [local go_sem] max2_int min2_int max_two min_two max_three min_three max_four min_four   -- for this text's walks alone
set_option linter.unusedVariables false
set_option linter.unusedSimpArgs false

attribute [local go_sem ↓ high] isSome_set_
/-! ### dy_add: function 50 -/
theorem dy_add.tab7 : rtab .any (opsOf Tryd.f50 7) = dy_add.T7 := by kernel_rfl
theorem dy_add.bits7 : waitsOk dy_add.T7.2 dy_add.B7 = true := by kernel_rfl
def dy_add.T8 : Bool × List (List Nat × List Nat) := (true, [([], []), ([0], [0]), ([], []), ([1, 2], [1, 2]), ([], []), ([4], [4]), ([3, 5, 3], [3, 5]), ([6, 6, 0, 1, 2, 3, 4, 5, 6], [6])])
def dy_add.B8 : List Nat := [0, 1, 0, 7, 0, 16, 63, 127]
theorem dy_add.tab8 : rtab .any (opsOf Tryd.f50 8) = dy_add.T8 := by kernel_rfl
theorem dy_add.bits8 : waitsOk dy_add.T8.2 dy_add.B8 = true := by kernel_rfl
set_option maxHeartbeats 8000000 in
set_option maxRecDepth 100000 in
theorem dy_add.calls (k : Nat) (a0_0 : Bool) (P0_1_ : Nat → Prop) (A0_1 : Option Addr) (c0_1 : Nat) (l0_1 : List Int) (a0_2 : Int) (a1_0 : Bool) (P1_1_ : Nat → Prop) (A1_1 : Option Addr) (c1_1 : Nat) (l1_1 : List Int) (a1_2 : Int) (r1 : Bool) (r2 : List Int) (r3 : Int) (w : World) (hs0_1 : Kd.V (Kd.int .u32) 51 w w.heap.size (fun k_ => P0_1_ k_) (.slice A0_1 l0_1.length c0_1) l0_1) (hs1_1 : Kd.V (Kd.int .u32) 51 w w.heap.size (fun k_ => P1_1_ k_) (.slice A1_1 l1_1.length c1_1) l1_1) (h : dy_add.f k a0_0 l0_1 a0_2 a1_0 l1_1 a1_2 = some (r1, r2, r3)) (htab_ : Kd.C (Kd.int .u8) w (some ⟨0, 0, none⟩) 32 tz32tab) :
  Calls Tryd.prog 50 #[.agg #[.bool a0_0, .slice A0_1 l0_1.length c0_1, .int .i64 a0_2], .agg #[.bool a1_0, .slice A1_1 l1_1.length c1_1, .int .i64 a1_2]] w fun e w' => ∃ v1_ : Value, e = .returned (.agg #[.bool r1, v1_, .int .i64 r3]) ∧ Kd.V (Kd.int .u32) 51 w' w.heap.size (fun k_ => ((P0_1_ k_ ∨ P1_1_ k_) ∨ w.heap.size ≤ k_)) v1_ r2 ∧ Below w.heap.size w w' := by
 have HTAB := Aside0.mk htab_
 clear htab_
 have hu27 := Tryd.underlying27
 have hu24 := Tryd.underlying24
 have HO0_1 := Aside0.mk (show Kd.V (Kd.int .u32) 51 w w.heap.size (fun k_ => ((P0_1_ k_ ∨ P1_1_ k_) ∨ w.heap.size ≤ k_)) (.slice A0_1 l0_1.length c0_1) l0_1 from Kd.V_mono hs0_1 (fun k_ hk => .inl (.inl hk)))
 have HO1_1 := Aside0.mk (show Kd.V (Kd.int .u32) 51 w w.heap.size (fun k_ => ((P0_1_ k_ ∨ P1_1_ k_) ∨ w.heap.size ≤ k_)) (.slice A1_1 l1_1.length c1_1) l1_1 from Kd.V_mono hs1_1 (fun k_ hk => .inl (.inr hk)))
 have HB := Aside0.mk (Below.refl w.heap.size w)
 have H : (if (l0_1.length : Int) = 0 then (some (a1_0, l1_1, a1_2)) else (if (l1_1.length : Int) = 0 then (some (a0_0, l0_1, a0_2)) else (if a0_2 > a1_2 then ((nat_Shl.f k l0_1 (wrap64 (a0_2 - a1_2))).bind fun t283 => ((whole_Add.f k a1_0 l1_1 a0_0 t283).bind fun bt287 => ((dy_Make.f k bt287.1 bt287.2 a1_2).bind fun bt291 => (some (bt291.1, bt291.2.1, bt291.2.2))))) else ((nat_Shl.f k l1_1 (wrap64 (a1_2 - a0_2))).bind fun t296 => ((whole_Add.f k a0_0 l0_1 a1_0 t296).bind fun bt300 => ((dy_Make.f k bt300.1 bt300.2 a0_2).bind fun bt304 => (some (bt304.1, bt304.2.1, bt304.2.2)))))))) = some (r1, r2, r3) := h
 clear h
 by_cases c3 : (l0_1.length : Int) = 0
 ·rw [if_pos c3] at H
  have c3b0 : ((l0_1.length : Int) == 0) = true := beq_iff_eq.mpr c3
  have c3b1 : ((l0_1.length : Int) != 0) = false := bne_eq_false_iff_eq.mpr c3
  clear c3
  simp only [Option.some.injEq, Prod.mk.injEq] at H
  obtain ⟨rfl, rfl, rfl⟩ := H
  go_enter Tryd.func50, Tryd.ntmps50
  go_wp2_with (first | ((with_reducible refine gate_dst (N := 2) rfl ?_); refine bx_ 2 #[.bool a0_0, .slice A0_1 l0_1.length c0_1, .int .i64 a0_2] 27 ?_; intro gb280 hg w4 hbox hb; have n0_ := Aside0.mk (Kd.V_below (Kd.V_elderB (by (with_reducible repeat (first | apply Kd.V_alloc | apply Kd.V_drewN | apply Kd.V_drew)); exact HO0_1.out) gb280 (Nat.le_of_eq hg.symm)) hb); have n1_ := Aside0.mk (Kd.V_below (Kd.V_elderB (by (with_reducible repeat (first | apply Kd.V_alloc | apply Kd.V_drewN | apply Kd.V_drew)); exact HO1_1.out) gb280 (Nat.le_of_eq hg.symm)) hb); have n2_ := bq_ HB hb; have n3_ := Aside0.mk (hbox); have n4_ := ge_ hg HB; have n5_ := ge_ hg HB; clear HO0_1; clear HO1_1; clear HB; have HO0_1 := n0_; have HO1_1 := n1_; have HB := n2_; have BK280 := n3_; have GW280 := n4_; have GE280 := n5_; clear n0_ n1_ n2_ n3_ n4_ n5_; clear hb hbox hg) | ((with_reducible refine gate_dst (N := 3) rfl ?_); refine bx_ 3 #[.bool a1_0, .slice A1_1 l1_1.length c1_1, .int .i64 a1_2] 27 ?_; intro gb281 hg w5 hbox hb; have n0_ := Aside0.mk (Kd.V_below (Kd.V_elderB (by (with_reducible repeat (first | apply Kd.V_alloc | apply Kd.V_drewN | apply Kd.V_drew)); exact HO0_1.out) gb281 (Nat.le_of_eq hg.symm)) hb); have n1_ := Aside0.mk (Kd.V_below (Kd.V_elderB (by (with_reducible repeat (first | apply Kd.V_alloc | apply Kd.V_drewN | apply Kd.V_drew)); exact HO1_1.out) gb281 (Nat.le_of_eq hg.symm)) hb); have n2_ := kq_ BK280 hb; have n3_ := bq_ HB hb; have n4_ := Aside0.mk (hbox); have n5_ := ge_ hg HB; have n6_ := ge_ hg HB; have n7_ := nb_ hg BK280; have n8_ := nc_ hg BK280; clear HO0_1; clear HO1_1; clear BK280; clear HB; have HO0_1 := n0_; have HO1_1 := n1_; have BK280 := n2_; have HB := n3_; have BK281 := n4_; have GW281 := n5_; have GE281 := n6_; have NB280_281 := n7_; have NB281_280 := n8_; clear n0_ n1_ n2_ n3_ n4_ n5_ n6_ n7_ n8_; clear hb hbox hg) | ((with_reducible refine gate_dst (N := 4) rfl ?_); refine bx_ 4 #[.bool false, .slice none 0 0, .int .i64 0] 27 ?_; intro gb282 hg w6 hbox hb; have n0_ := Aside0.mk (Kd.V_below (Kd.V_elderB (by (with_reducible repeat (first | apply Kd.V_alloc | apply Kd.V_drewN | apply Kd.V_drew)); exact HO0_1.out) gb282 (Nat.le_of_eq hg.symm)) hb); have n1_ := Aside0.mk (Kd.V_below (Kd.V_elderB (by (with_reducible repeat (first | apply Kd.V_alloc | apply Kd.V_drewN | apply Kd.V_drew)); exact HO1_1.out) gb282 (Nat.le_of_eq hg.symm)) hb); have n2_ := kq_ BK280 hb; have n3_ := kq_ BK281 hb; have n4_ := bq_ HB hb; have n5_ := Aside0.mk (hbox); have n6_ := ge_ hg HB; have n7_ := ge_ hg HB; have n8_ := nb_ hg BK280; have n9_ := nc_ hg BK280; have n10_ := nb_ hg BK281; have n11_ := nc_ hg BK281; clear HO0_1; clear HO1_1; clear BK280; clear BK281; clear HB; have HO0_1 := n0_; have HO1_1 := n1_; have BK280 := n2_; have BK281 := n3_; have HB := n4_; have BK282 := n5_; have GW282 := n6_; have GE282 := n7_; have NB280_282 := n8_; have NB282_280 := n9_; have NB281_282 := n10_; have NB282_281 := n11_; clear n0_ n1_ n2_ n3_ n4_ n5_ n6_ n7_ n8_ n9_ n10_ n11_; clear hb hbox hg; have hnb7 := NB280_281.out; have hnc7 := NB281_280.out; have hnb8 := NB280_282.out; have hnc8 := NB282_280.out; obtain ⟨hcz9_0, hcz9_1, hcz9_2, hfz9_0, hfz9_1, hfz9_2⟩ := c3_ BK280; have hnb10 := NB281_282.out; have hnc10 := NB282_281.out; obtain ⟨hcz11_0, hcz11_1, hcz11_2, hfz11_0, hfz11_1, hfz11_2⟩ := c3_ BK281; obtain ⟨hcz12_0, hcz12_1, hcz12_2, hfz12_0, hfz12_1, hfz12_2⟩ := c3_ BK282))
  refine bodyPost_ret (results_cell_row rfl _ _ gb282 27 #[.bool a1_0, .slice A1_1 l1_1.length c1_1, .int .i64 a1_2] (0, 0) _ rfl (by refine kb_ ?_; refine bp_ #[.bool a1_0, .slice A1_1 l1_1.length c1_1, .int .i64 0] 2 ?_; refine bp_ #[.bool a1_0, .slice none 0 0, .int .i64 0] 1 ?_; refine bp_ #[.bool false, .slice none 0 0, .int .i64 0] 0 ?_; exact BK282.out) Tryd.underlying27 rfl (by kernel_rfl)) rfl ?_
  exact ⟨_, rf_, by (with_reducible repeat (first | apply Kd.V_alloc | apply Kd.V_drewN | apply Kd.V_drew)); exact Kd.V_mono (Kd.V_far (p := ⟨gb282, 2, none⟩) (Kd.V_far (p := ⟨gb282, 1, none⟩) (Kd.V_far (p := ⟨gb282, 0, none⟩) (Kd.V_mono HO1_1.out (fun k_ hk => (⟨hk, hk.2⟩ : _ ∧ k_ ≠ gb282))) (fun _ hk => hk.2) (.bool a1_0)) (fun _ hk => hk.2) (.slice A1_1 l1_1.length c1_1)) (fun _ hk => hk.2) (.int .i64 a1_2)) (fun _ hk => hk.1.1.1.1), bw_ HB.out⟩
 ·rw [if_neg c3] at H
  have c3b0 : ((l0_1.length : Int) == 0) = false := beq_eq_false_iff_ne.mpr c3
  have c3b1 : ((l0_1.length : Int) != 0) = true := bne_iff_ne.mpr c3
  have c3b2 : ¬ (l0_1 = []) := fun h_ => c3 (by rw [h_]; rfl)
  by_cases c13 : (l1_1.length : Int) = 0
  ·rw [if_pos c13] at H
   have c13b0 : ((l1_1.length : Int) == 0) = true := beq_iff_eq.mpr c13
   have c13b1 : ((l1_1.length : Int) != 0) = false := bne_eq_false_iff_eq.mpr c13
   clear c13
   simp only [Option.some.injEq, Prod.mk.injEq] at H
   obtain ⟨rfl, rfl, rfl⟩ := H
   go_enter Tryd.func50, Tryd.ntmps50
   go_wp2_with (first | ((with_reducible refine gate_dst (N := 2) rfl ?_); refine bx_ 2 #[.bool a0_0, .slice A0_1 l0_1.length c0_1, .int .i64 a0_2] 27 ?_; intro gb280 hg w14 hbox hb; have n0_ := Aside0.mk (Kd.V_below (Kd.V_elderB (by (with_reducible repeat (first | apply Kd.V_alloc | apply Kd.V_drewN | apply Kd.V_drew)); exact HO0_1.out) gb280 (Nat.le_of_eq hg.symm)) hb); have n1_ := Aside0.mk (Kd.V_below (Kd.V_elderB (by (with_reducible repeat (first | apply Kd.V_alloc | apply Kd.V_drewN | apply Kd.V_drew)); exact HO1_1.out) gb280 (Nat.le_of_eq hg.symm)) hb); have n2_ := bq_ HB hb; have n3_ := Aside0.mk (hbox); have n4_ := ge_ hg HB; have n5_ := ge_ hg HB; clear HO0_1; clear HO1_1; clear HB; have HO0_1 := n0_; have HO1_1 := n1_; have HB := n2_; have BK280 := n3_; have GW280 := n4_; have GE280 := n5_; clear n0_ n1_ n2_ n3_ n4_ n5_; clear hb hbox hg) | ((with_reducible refine gate_dst (N := 3) rfl ?_); refine bx_ 3 #[.bool a1_0, .slice A1_1 l1_1.length c1_1, .int .i64 a1_2] 27 ?_; intro gb281 hg w15 hbox hb; have n0_ := Aside0.mk (Kd.V_below (Kd.V_elderB (by (with_reducible repeat (first | apply Kd.V_alloc | apply Kd.V_drewN | apply Kd.V_drew)); exact HO0_1.out) gb281 (Nat.le_of_eq hg.symm)) hb); have n1_ := Aside0.mk (Kd.V_below (Kd.V_elderB (by (with_reducible repeat (first | apply Kd.V_alloc | apply Kd.V_drewN | apply Kd.V_drew)); exact HO1_1.out) gb281 (Nat.le_of_eq hg.symm)) hb); have n2_ := kq_ BK280 hb; have n3_ := bq_ HB hb; have n4_ := Aside0.mk (hbox); have n5_ := ge_ hg HB; have n6_ := ge_ hg HB; have n7_ := nb_ hg BK280; have n8_ := nc_ hg BK280; clear HO0_1; clear HO1_1; clear BK280; clear HB; have HO0_1 := n0_; have HO1_1 := n1_; have BK280 := n2_; have HB := n3_; have BK281 := n4_; have GW281 := n5_; have GE281 := n6_; have NB280_281 := n7_; have NB281_280 := n8_; clear n0_ n1_ n2_ n3_ n4_ n5_ n6_ n7_ n8_; clear hb hbox hg) | ((with_reducible refine gate_dst (N := 4) rfl ?_); refine bx_ 4 #[.bool false, .slice none 0 0, .int .i64 0] 27 ?_; intro gb282 hg w16 hbox hb; have n0_ := Aside0.mk (Kd.V_below (Kd.V_elderB (by (with_reducible repeat (first | apply Kd.V_alloc | apply Kd.V_drewN | apply Kd.V_drew)); exact HO0_1.out) gb282 (Nat.le_of_eq hg.symm)) hb); have n1_ := Aside0.mk (Kd.V_below (Kd.V_elderB (by (with_reducible repeat (first | apply Kd.V_alloc | apply Kd.V_drewN | apply Kd.V_drew)); exact HO1_1.out) gb282 (Nat.le_of_eq hg.symm)) hb); have n2_ := kq_ BK280 hb; have n3_ := kq_ BK281 hb; have n4_ := bq_ HB hb; have n5_ := Aside0.mk (hbox); have n6_ := ge_ hg HB; have n7_ := ge_ hg HB; have n8_ := nb_ hg BK280; have n9_ := nc_ hg BK280; have n10_ := nb_ hg BK281; have n11_ := nc_ hg BK281; clear HO0_1; clear HO1_1; clear BK280; clear BK281; clear HB; have HO0_1 := n0_; have HO1_1 := n1_; have BK280 := n2_; have BK281 := n3_; have HB := n4_; have BK282 := n5_; have GW282 := n6_; have GE282 := n7_; have NB280_282 := n8_; have NB282_280 := n9_; have NB281_282 := n10_; have NB282_281 := n11_; clear n0_ n1_ n2_ n3_ n4_ n5_ n6_ n7_ n8_ n9_ n10_ n11_; clear hb hbox hg; have hnb17 := NB280_281.out; have hnc17 := NB281_280.out; have hnb18 := NB280_282.out; have hnc18 := NB282_280.out; obtain ⟨hcz19_0, hcz19_1, hcz19_2, hfz19_0, hfz19_1, hfz19_2⟩ := c3_ BK280; have hnb20 := NB281_282.out; have hnc20 := NB282_281.out; obtain ⟨hcz21_0, hcz21_1, hcz21_2, hfz21_0, hfz21_1, hfz21_2⟩ := c3_ BK281; obtain ⟨hcz22_0, hcz22_1, hcz22_2, hfz22_0, hfz22_1, hfz22_2⟩ := c3_ BK282))
   refine bodyPost_ret (results_cell_row rfl _ _ gb282 27 #[.bool a0_0, .slice A0_1 l0_1.length c0_1, .int .i64 a0_2] (0, 0) _ rfl (by refine kb_ ?_; refine bp_ #[.bool a0_0, .slice A0_1 l0_1.length c0_1, .int .i64 0] 2 ?_; refine bp_ #[.bool a0_0, .slice none 0 0, .int .i64 0] 1 ?_; refine bp_ #[.bool false, .slice none 0 0, .int .i64 0] 0 ?_; exact BK282.out) Tryd.underlying27 rfl (by kernel_rfl)) rfl ?_
   exact ⟨_, rf_, by (with_reducible repeat (first | apply Kd.V_alloc | apply Kd.V_drewN | apply Kd.V_drew)); exact Kd.V_mono (Kd.V_far (p := ⟨gb282, 2, none⟩) (Kd.V_far (p := ⟨gb282, 1, none⟩) (Kd.V_far (p := ⟨gb282, 0, none⟩) (Kd.V_mono HO0_1.out (fun k_ hk => (⟨hk, hk.2⟩ : _ ∧ k_ ≠ gb282))) (fun _ hk => hk.2) (.bool a0_0)) (fun _ hk => hk.2) (.slice A0_1 l0_1.length c0_1)) (fun _ hk => hk.2) (.int .i64 a0_2)) (fun _ hk => hk.1.1.1.1), bw_ HB.out⟩
  ·rw [if_neg c13] at H
   have c13b0 : ((l1_1.length : Int) == 0) = false := beq_eq_false_iff_ne.mpr c13
   have c13b1 : ((l1_1.length : Int) != 0) = true := bne_iff_ne.mpr c13
   have c13b2 : ¬ (l1_1 = []) := fun h_ => c13 (by rw [h_]; rfl)
   by_cases c23 : a0_2 > a1_2
   ·rw [if_pos c23] at H
    have c23b0 : decide (a1_2 < a0_2) = true := decide_eq_true c23
    clear c23
    replace H := Option.bind_eq_some_iff.mp H
    obtain ⟨t283, A240, H⟩ := H
    (try dsimp only at H)
    have A24 := Aside0.mk A240
    clear A240
    replace H := Option.bind_eq_some_iff.mp H
    obtain ⟨⟨t287, t288⟩, A250, H⟩ := H
    (try dsimp only at H)
    have A25 := Aside0.mk A250
    clear A250
    replace H := Option.bind_eq_some_iff.mp H
    obtain ⟨⟨t291, t292, t295⟩, A260, H⟩ := H
    (try dsimp only at H)
    have A26 := Aside0.mk A260
    clear A260
    simp only [Option.some.injEq, Prod.mk.injEq] at H
    obtain ⟨rfl, rfl, rfl⟩ := H
    go_enter Tryd.func50, Tryd.ntmps50
    try go_wp2_with (first | ((with_reducible refine gate_dst (N := 2) rfl ?_); refine bx_ 2 #[.bool a0_0, .slice A0_1 l0_1.length c0_1, .int .i64 a0_2] 27 ?_; intro gb280 hg w27 hbox hb; have n0_ := Aside0.mk (Kd.V_below (Kd.V_elderB (by (with_reducible repeat (first | apply Kd.V_alloc | apply Kd.V_drewN | apply Kd.V_drew)); exact HO0_1.out) gb280 (Nat.le_of_eq hg.symm)) hb); have n1_ := Aside0.mk (Kd.V_below (Kd.V_elderB (by (with_reducible repeat (first | apply Kd.V_alloc | apply Kd.V_drewN | apply Kd.V_drew)); exact HO1_1.out) gb280 (Nat.le_of_eq hg.symm)) hb); have n2_ := bq_ HB hb; have n3_ := Aside0.mk (hbox); have n4_ := ge_ hg HB; have n5_ := ge_ hg HB; clear HO0_1; clear HO1_1; clear HB; have HO0_1 := n0_; have HO1_1 := n1_; have HB := n2_; have BK280 := n3_; have GW280 := n4_; have GE280 := n5_; clear n0_ n1_ n2_ n3_ n4_ n5_; clear hb hbox hg) | ((with_reducible refine gate_dst (N := 3) rfl ?_); refine bx_ 3 #[.bool a1_0, .slice A1_1 l1_1.length c1_1, .int .i64 a1_2] 27 ?_; intro gb281 hg w28 hbox hb; have n0_ := Aside0.mk (Kd.V_below (Kd.V_elderB (by (with_reducible repeat (first | apply Kd.V_alloc | apply Kd.V_drewN | apply Kd.V_drew)); exact HO0_1.out) gb281 (Nat.le_of_eq hg.symm)) hb); have n1_ := Aside0.mk (Kd.V_below (Kd.V_elderB (by (with_reducible repeat (first | apply Kd.V_alloc | apply Kd.V_drewN | apply Kd.V_drew)); exact HO1_1.out) gb281 (Nat.le_of_eq hg.symm)) hb); have n2_ := kq_ BK280 hb; have n3_ := bq_ HB hb; have n4_ := Aside0.mk (hbox); have n5_ := ge_ hg HB; have n6_ := ge_ hg HB; have n7_ := nb_ hg BK280; have n8_ := nc_ hg BK280; clear HO0_1; clear HO1_1; clear BK280; clear HB; have HO0_1 := n0_; have HO1_1 := n1_; have BK280 := n2_; have HB := n3_; have BK281 := n4_; have GW281 := n5_; have GE281 := n6_; have NB280_281 := n7_; have NB281_280 := n8_; clear n0_ n1_ n2_ n3_ n4_ n5_ n6_ n7_ n8_; clear hb hbox hg) | ((with_reducible refine gate_dst (N := 4) rfl ?_); refine bx_ 4 #[.bool false, .slice none 0 0, .int .i64 0] 27 ?_; intro gb282 hg w29 hbox hb; have n0_ := Aside0.mk (Kd.V_below (Kd.V_elderB (by (with_reducible repeat (first | apply Kd.V_alloc | apply Kd.V_drewN | apply Kd.V_drew)); exact HO0_1.out) gb282 (Nat.le_of_eq hg.symm)) hb); have n1_ := Aside0.mk (Kd.V_below (Kd.V_elderB (by (with_reducible repeat (first | apply Kd.V_alloc | apply Kd.V_drewN | apply Kd.V_drew)); exact HO1_1.out) gb282 (Nat.le_of_eq hg.symm)) hb); have n2_ := kq_ BK280 hb; have n3_ := kq_ BK281 hb; have n4_ := bq_ HB hb; have n5_ := Aside0.mk (hbox); have n6_ := ge_ hg HB; have n7_ := ge_ hg HB; have n8_ := nb_ hg BK280; have n9_ := nc_ hg BK280; have n10_ := nb_ hg BK281; have n11_ := nc_ hg BK281; clear HO0_1; clear HO1_1; clear BK280; clear BK281; clear HB; have HO0_1 := n0_; have HO1_1 := n1_; have BK280 := n2_; have BK281 := n3_; have HB := n4_; have BK282 := n5_; have GW282 := n6_; have GE282 := n7_; have NB280_282 := n8_; have NB282_280 := n9_; have NB281_282 := n10_; have NB282_281 := n11_; clear n0_ n1_ n2_ n3_ n4_ n5_ n6_ n7_ n8_ n9_ n10_ n11_; clear hb hbox hg; have hnb30 := NB280_281.out; have hnc30 := NB281_280.out; have hnb31 := NB280_282.out; have hnc31 := NB282_280.out; obtain ⟨hcz32_0, hcz32_1, hcz32_2, hfz32_0, hfz32_1, hfz32_2⟩ := c3_ BK280; have hnb33 := NB281_282.out; have hnc33 := NB282_281.out; obtain ⟨hcz34_0, hcz34_1, hcz34_2, hfz34_0, hfz34_1, hfz34_2⟩ := c3_ BK281))
    have n0_ : Aside0 (Kd.V (Kd.int .u32) 51 ((((((w29.setCell ⟨gb280, 0, none⟩ (.bool a1_0)).setCell ⟨gb280, 1, none⟩ (.slice A1_1 l1_1.length c1_1)).setCell ⟨gb280, 2, none⟩ (.int .i64 a1_2)).setCell ⟨gb281, 0, none⟩ (.bool a0_0)).setCell ⟨gb281, 1, none⟩ (.slice A0_1 l0_1.length c0_1)).setCell ⟨gb281, 2, none⟩ (.int .i64 a0_2)) w.heap.size (fun k_ => ((P0_1_ k_ ∨ P1_1_ k_) ∨ w.heap.size ≤ k_) ∧ k_ ≠ gb280 ∧ k_ ≠ gb281 ∧ k_ ≠ gb282) (.slice A0_1 l0_1.length c0_1) l0_1) := ⟨by (with_reducible repeat (first | apply Kd.V_alloc | apply Kd.V_drewN | apply Kd.V_drew)); exact Kd.V_mono (Kd.V_far (p := ⟨gb281, 2, none⟩) (Kd.V_far (p := ⟨gb281, 1, none⟩) (Kd.V_far (p := ⟨gb281, 0, none⟩) (Kd.V_far (p := ⟨gb280, 2, none⟩) (Kd.V_far (p := ⟨gb280, 1, none⟩) (Kd.V_far (p := ⟨gb280, 0, none⟩) (Kd.V_mono (Kd.V_mono HO0_1.out (fun k_ hk => (⟨hk, hk.1.1.2⟩ : _ ∧ k_ ≠ gb280))) (fun k_ hk => (⟨hk, hk.1.1.2⟩ : _ ∧ k_ ≠ gb281))) (fun _ hk => hk.1.2) (.bool a1_0)) (fun _ hk => hk.1.2) (.slice A1_1 l1_1.length c1_1)) (fun _ hk => hk.1.2) (.int .i64 a1_2)) (fun _ hk => hk.2) (.bool a0_0)) (fun _ hk => hk.2) (.slice A0_1 l0_1.length c0_1)) (fun _ hk => hk.2) (.int .i64 a0_2)) (fun _ hk => by first | exact ⟨hk.1.1.1.1.1, ⟨hk.1.1.1.1.2, ⟨hk.1.1.1.2, hk.1.1.2⟩⟩⟩ | simp [hk])⟩
    have n1_ : Aside0 (Kd.V (Kd.int .u32) 51 ((((((w29.setCell ⟨gb280, 0, none⟩ (.bool a1_0)).setCell ⟨gb280, 1, none⟩ (.slice A1_1 l1_1.length c1_1)).setCell ⟨gb280, 2, none⟩ (.int .i64 a1_2)).setCell ⟨gb281, 0, none⟩ (.bool a0_0)).setCell ⟨gb281, 1, none⟩ (.slice A0_1 l0_1.length c0_1)).setCell ⟨gb281, 2, none⟩ (.int .i64 a0_2)) w.heap.size (fun k_ => ((P0_1_ k_ ∨ P1_1_ k_) ∨ w.heap.size ≤ k_) ∧ k_ ≠ gb280 ∧ k_ ≠ gb281 ∧ k_ ≠ gb282) (.slice A1_1 l1_1.length c1_1) l1_1) := ⟨by (with_reducible repeat (first | apply Kd.V_alloc | apply Kd.V_drewN | apply Kd.V_drew)); exact Kd.V_mono (Kd.V_far (p := ⟨gb281, 2, none⟩) (Kd.V_far (p := ⟨gb281, 1, none⟩) (Kd.V_far (p := ⟨gb281, 0, none⟩) (Kd.V_far (p := ⟨gb280, 2, none⟩) (Kd.V_far (p := ⟨gb280, 1, none⟩) (Kd.V_far (p := ⟨gb280, 0, none⟩) (Kd.V_mono (Kd.V_mono HO1_1.out (fun k_ hk => (⟨hk, hk.1.1.2⟩ : _ ∧ k_ ≠ gb280))) (fun k_ hk => (⟨hk, hk.1.1.2⟩ : _ ∧ k_ ≠ gb281))) (fun _ hk => hk.1.2) (.bool a1_0)) (fun _ hk => hk.1.2) (.slice A1_1 l1_1.length c1_1)) (fun _ hk => hk.1.2) (.int .i64 a1_2)) (fun _ hk => hk.2) (.bool a0_0)) (fun _ hk => hk.2) (.slice A0_1 l0_1.length c0_1)) (fun _ hk => hk.2) (.int .i64 a0_2)) (fun _ hk => by first | exact ⟨hk.1.1.1.1.1, ⟨hk.1.1.1.1.2, ⟨hk.1.1.1.2, hk.1.1.2⟩⟩⟩ | simp [hk])⟩
    have n2_ : Aside0 (((((((w29.setCell ⟨gb280, 0, none⟩ (.bool a1_0)).setCell ⟨gb280, 1, none⟩ (.slice A1_1 l1_1.length c1_1)).setCell ⟨gb280, 2, none⟩ (.int .i64 a1_2)).setCell ⟨gb281, 0, none⟩ (.bool a0_0)).setCell ⟨gb281, 1, none⟩ (.slice A0_1 l0_1.length c0_1)).setCell ⟨gb281, 2, none⟩ (.int .i64 a0_2)).heap[gb280]? = some (.cells #[.bool a1_0, .slice A1_1 l1_1.length c1_1, .int .i64 a1_2] 27 (0, 0))) := ⟨by refine kb_ ?_; refine bf_ NB280_281 ?_; refine bf_ NB280_281 ?_; refine bf_ NB280_281 ?_; refine bp_ #[.bool a1_0, .slice A1_1 l1_1.length c1_1, .int .i64 a0_2] 2 ?_; refine bp_ #[.bool a1_0, .slice A0_1 l0_1.length c0_1, .int .i64 a0_2] 1 ?_; refine bp_ #[.bool a0_0, .slice A0_1 l0_1.length c0_1, .int .i64 a0_2] 0 ?_; exact BK280.out⟩
    have n3_ : Aside0 (((((((w29.setCell ⟨gb280, 0, none⟩ (.bool a1_0)).setCell ⟨gb280, 1, none⟩ (.slice A1_1 l1_1.length c1_1)).setCell ⟨gb280, 2, none⟩ (.int .i64 a1_2)).setCell ⟨gb281, 0, none⟩ (.bool a0_0)).setCell ⟨gb281, 1, none⟩ (.slice A0_1 l0_1.length c0_1)).setCell ⟨gb281, 2, none⟩ (.int .i64 a0_2)).heap[gb281]? = some (.cells #[.bool a0_0, .slice A0_1 l0_1.length c0_1, .int .i64 a0_2] 27 (0, 0))) := ⟨by refine kb_ ?_; refine bp_ #[.bool a0_0, .slice A0_1 l0_1.length c0_1, .int .i64 a1_2] 2 ?_; refine bp_ #[.bool a0_0, .slice A1_1 l1_1.length c1_1, .int .i64 a1_2] 1 ?_; refine bp_ #[.bool a1_0, .slice A1_1 l1_1.length c1_1, .int .i64 a1_2] 0 ?_; refine bf_ NB281_280 ?_; refine bf_ NB281_280 ?_; refine bf_ NB281_280 ?_; exact BK281.out⟩
    have n4_ : Aside0 (((((((w29.setCell ⟨gb280, 0, none⟩ (.bool a1_0)).setCell ⟨gb280, 1, none⟩ (.slice A1_1 l1_1.length c1_1)).setCell ⟨gb280, 2, none⟩ (.int .i64 a1_2)).setCell ⟨gb281, 0, none⟩ (.bool a0_0)).setCell ⟨gb281, 1, none⟩ (.slice A0_1 l0_1.length c0_1)).setCell ⟨gb281, 2, none⟩ (.int .i64 a0_2)).heap[gb282]? = some (.cells #[.bool false, .slice none 0 0, .int .i64 0] 27 (0, 0))) := ⟨by refine kb_ ?_; refine bf_ NB282_281 ?_; refine bf_ NB282_281 ?_; refine bf_ NB282_281 ?_; refine bf_ NB282_280 ?_; refine bf_ NB282_280 ?_; refine bf_ NB282_280 ?_; exact BK282.out⟩
    have n5_ : Aside0 (Below w.heap.size w ((((((w29.setCell ⟨gb280, 0, none⟩ (.bool a1_0)).setCell ⟨gb280, 1, none⟩ (.slice A1_1 l1_1.length c1_1)).setCell ⟨gb280, 2, none⟩ (.int .i64 a1_2)).setCell ⟨gb281, 0, none⟩ (.bool a0_0)).setCell ⟨gb281, 1, none⟩ (.slice A0_1 l0_1.length c0_1)).setCell ⟨gb281, 2, none⟩ (.int .i64 a0_2))) := ⟨bw_ HB.out⟩
    (try clear HO0_1)
    (try clear HO1_1)
    (try clear BK280)
    (try clear BK281)
    (try clear BK282)
    (try clear HB)
    generalize ((((((w29.setCell ⟨gb280, 0, none⟩ (.bool a1_0)).setCell ⟨gb280, 1, none⟩ (.slice A1_1 l1_1.length c1_1)).setCell ⟨gb280, 2, none⟩ (.int .i64 a1_2)).setCell ⟨gb281, 0, none⟩ (.bool a0_0)).setCell ⟨gb281, 1, none⟩ (.slice A0_1 l0_1.length c0_1)).setCell ⟨gb281, 2, none⟩ (.int .i64 a0_2)) = w35 at n0_ n1_ n2_ n3_ n4_ n5_ ⊢
    have HO0_1 := n0_
    have HO1_1 := n1_
    have BK280 := n2_
    have BK281 := n3_
    have BK282 := n4_
    have HB := n5_
    clear n0_ n1_ n2_ n3_ n4_ n5_
    replace HO0_1 := Aside0.mk (Kd.V_drew HO0_1.out)
    replace HO1_1 := Aside0.mk (Kd.V_drew HO1_1.out)
    replace BK280 := Aside0.mk (blk_drew BK280.out)
    replace BK281 := Aside0.mk (blk_drew BK281.out)
    replace BK282 := Aside0.mk (blk_drew BK282.out)
    replace HB := Aside0.mk (below_drew1 HB.out)
    refine start_ (n := 15) (S := fun w' => w'.cell? ⟨gb281, 0, none⟩ = some (.bool a0_0) ∧ w'.cell? ⟨gb281, 1, none⟩ = some (.slice A0_1 l0_1.length c0_1) ∧ w'.cell? ⟨gb281, 2, none⟩ = some (.int .i64 a0_2) ∧ w'.cell? ⟨gb280, 0, none⟩ = some (.bool a1_0) ∧ w'.cell? ⟨gb280, 1, none⟩ = some (.slice A1_1 l1_1.length c1_1) ∧ w'.cell? ⟨gb280, 2, none⟩ = some (.int .i64 a1_2)) (ds := []) #[false, false, false, false, false, false, false, false, false, false, false, false, false, false, false] (by kernel_rfl) rfl rfl ⟨(blk_cell BK281.out 0).trans rfl, (blk_cell BK281.out 1).trans rfl, (blk_cell BK281.out 2).trans rfl, (blk_cell BK280.out 0).trans rfl, (blk_cell BK280.out 1).trans rfl, (blk_cell BK280.out 2).trans rfl⟩ (fun hHeld => ?_); refine with_tabW dy_add.tab7 dy_add.bits7 (fun HT_ HW_ => ?_)
    generalize w35.drew = w36 at HO0_1 HO1_1 BK280 BK281 BK282 HB hHeld ⊢
    refine pure_ (i := 0) (N := some 28) (v := ?_) (a' := ?_) #[true, false, false, false, false, false, false, false, false, false, false, false, false, false, false] rfl rfl (any_of HT_.out (by kernel_rfl)) (fun _ _ _ h => h) (Or.inl ⟨by rfl, ?_⟩) ?_ ?_
    rotate_left
    ·intro w'
     go_simp
     with_reducible rfl
    rotate_left
    ·exact pt_
    refine pure_ (i := 1) (N := some 29) (v := ?_) (a' := ?_) #[true, true, false, false, false, false, false, false, false, false, false, false, false, false, false] rfl rfl (any_of HT_.out (by kernel_rfl)) (fun _ _ _ h => h) (Or.inl ⟨by rfl, ?_⟩) ?_ ?_
    rotate_left
    ·intro w'
     go_simp
     with_reducible rfl
    rotate_left
    ·exact pt_
    refine pure_ (i := 3) (N := some 31) (v := ?_) (a' := ?_) #[true, true, false, true, false, false, false, false, false, false, false, false, false, false, false] rfl rfl (any_of HT_.out (by kernel_rfl)) (fun _ _ _ h => h) (Or.inl ⟨by rfl, ?_⟩) ?_ ?_
    rotate_left
    ·intro w'
     go_simp
     with_reducible rfl
    rotate_left
    ·exact pt_
    refine pure_ (i := 4) (N := some 32) (v := ?_) (a' := ?_) #[true, true, false, true, true, false, false, false, false, false, false, false, false, false, false] rfl rfl (any_of HT_.out (by kernel_rfl)) (fun _ _ _ h => h) (Or.inl ⟨by rfl, ?_⟩) ?_ ?_
    rotate_left
    ·intro w'
     go_simp
     with_reducible rfl
    rotate_left
    ·exact pt_
    refine pure_ (i := 6) (N := some 34) (v := ?_) (a' := ?_) #[true, true, false, true, true, false, true, false, false, false, false, false, false, false, false] rfl rfl (any_of HT_.out (by kernel_rfl)) (fun _ _ _ h => h) (Or.inl ⟨by rfl, ?_⟩) ?_ ?_
    rotate_left
    ·intro w'
     go_simp
     with_reducible rfl
    rotate_left
    ·exact pt_
    refine pure_ (i := 8) (N := some 36) (v := ?_) (a' := ?_) #[true, true, false, true, true, false, true, false, true, false, false, false, false, false, false] rfl rfl (any_of HT_.out (by kernel_rfl)) (fun _ _ _ h => h) (Or.inl ⟨by rfl, ?_⟩) ?_ ?_
    rotate_left
    ·intro w'
     go_simp
     with_reducible rfl
    rotate_left
    ·exact pt_
    refine take_ (i := 2) (N := some 30) (v := ?_) (a' := ?_) #[true, true, true, true, true, false, true, false, true, false, false, false, false, false, false] rfl rfl (take_ofW HT_.out HW_.out (by kernel_rfl)) (fun _ _ _ h => h) (Or.inl ⟨by rfl, ?_⟩) hHeld ?_ ?_
    rotate_left
    ·rintro w' ⟨s0, s1, s2, s3, s4, s5⟩
     go_simp
     with_reducible rfl
    rotate_left
    ·exact pt_
    refine take_ (i := 5) (N := some 33) (v := ?_) (a' := ?_) #[true, true, true, true, true, true, true, false, true, false, false, false, false, false, false] rfl rfl (take_ofW HT_.out HW_.out (by kernel_rfl)) (fun _ _ _ h => h) (Or.inl ⟨by rfl, ?_⟩) hHeld ?_ ?_
    rotate_left
    ·rintro w' ⟨s0, s1, s2, s3, s4, s5⟩
     go_simp
     with_reducible rfl
    rotate_left
    ·exact pt_
    refine take_ (i := 7) (N := some 35) (v := ?_) (a' := ?_) #[true, true, true, true, true, true, true, true, true, false, false, false, false, false, false] rfl rfl (take_ofW HT_.out HW_.out (by kernel_rfl)) (fun _ _ _ h => h) (Or.inl ⟨by rfl, ?_⟩) hHeld ?_ ?_
    rotate_left
    ·rintro w' ⟨s0, s1, s2, s3, s4, s5⟩
     go_simp
     with_reducible rfl
    rotate_left
    ·exact pt_
    refine take_ (i := 9) (N := some 37) (v := ?_) (a' := ?_) #[true, true, true, true, true, true, true, true, true, true, false, false, false, false, false] rfl rfl (take_ofW HT_.out HW_.out (by kernel_rfl)) (fun _ _ _ h => h) (Or.inl ⟨by rfl, ?_⟩) hHeld ?_ ?_
    rotate_left
    ·rintro w' ⟨s0, s1, s2, s3, s4, s5⟩
     go_simp
     with_reducible rfl
    rotate_left
    ·exact pt_
    refine pure_ (i := 10) (N := some 38) (v := ?_) (a' := ?_) #[true, true, true, true, true, true, true, true, true, true, true, false, false, false, false] rfl rfl (any_of HT_.out (by kernel_rfl)) (fun _ _ _ h => h) (Or.inl ⟨by rfl, ?_⟩) ?_ ?_
    rotate_left
    ·intro w'
     go_simp
     with_reducible rfl
    rotate_left
    ·exact pt_
    refine join_ (σ := Value × Nat) 1 #[true, true, true, true, true, true, true, true, true, true, true, true, true, true, false] (fun s_ => [(39, s_.1), (5, .pointer (some ⟨s_.2, 0, none⟩)), (40, .agg #[.bool a0_0, s_.1])]) (fun s_ w' => (w'.cell? ⟨gb281, 0, none⟩ = some (.bool a0_0) ∧ w'.cell? ⟨gb281, 1, none⟩ = some (.slice A0_1 l0_1.length c0_1) ∧ w'.cell? ⟨gb281, 2, none⟩ = some (.int .i64 a0_2) ∧ w'.cell? ⟨gb280, 0, none⟩ = some (.bool a1_0) ∧ w'.cell? ⟨gb280, 1, none⟩ = some (.slice A1_1 l1_1.length c1_1) ∧ w'.cell? ⟨gb280, 2, none⟩ = some (.int .i64 a1_2)) ∧ (Kd.V (Kd.int .u32) 51 w' w.heap.size (fun k_ => ((P0_1_ k_ ∨ P1_1_ k_) ∨ w.heap.size ≤ k_) ∧ some k_ ≠ (s_.1 : Value).ownBlock ∧ k_ ≠ gb280 ∧ k_ ≠ gb281 ∧ k_ ≠ gb282 ∧ k_ ≠ s_.2) (.slice A0_1 l0_1.length c0_1) l0_1) ∧ (Kd.V (Kd.int .u32) 51 w' w.heap.size (fun k_ => ((P0_1_ k_ ∨ P1_1_ k_) ∨ w.heap.size ≤ k_) ∧ some k_ ≠ (s_.1 : Value).ownBlock ∧ k_ ≠ gb280 ∧ k_ ≠ gb281 ∧ k_ ≠ gb282 ∧ k_ ≠ s_.2) (.slice A1_1 l1_1.length c1_1) l1_1) ∧ (Kd.R (Kd.int .u32) 51 w' w.heap.size (fun k_ => (w.heap.size ≤ k_)) s_.1 t283) ∧ (w'.heap[gb280]? = some (.cells #[.bool a1_0, .slice A1_1 l1_1.length c1_1, .int .i64 a1_2] 27 (0, 0))) ∧ (w'.heap[gb281]? = some (.cells #[.bool a0_0, .slice A0_1 l0_1.length c0_1, .int .i64 a0_2] 27 (0, 0))) ∧ (w'.heap[gb282]? = some (.cells #[.bool false, .slice none 0 0, .int .i64 0] 27 (0, 0))) ∧ (w'.heap[s_.2]? = some (.cells #[.bool false, .slice none 0 0] 24 (0, 0))) ∧ (w.heap.size ≤ s_.2) ∧ (w.heap.size ≤ s_.2) ∧ (gb280 ≠ s_.2) ∧ (s_.2 ≠ gb280) ∧ (gb281 ≠ s_.2) ∧ (s_.2 ≠ gb281) ∧ (gb282 ≠ s_.2) ∧ (s_.2 ≠ gb282) ∧ (Below w.heap.size w w')) ?_ ?_
    rotate_left
    ·intro hCont
     refine two_ (i := 11) (j := 13) (Ni := some 39) (Nj := some 5) #[true, true, true, true, true, true, true, true, true, true, true, true, false, false, false] #[true, true, true, true, true, true, true, true, true, true, true, false, false, true, false] rfl rfl rfl rfl (two_of HT_.out (by kernel_rfl)) (by decide) (by decide) (fun K hK => ?_) (fun K hK => ?_)
     ·skip
      refine gs_ Tryd.func52 #[.slice A0_1 l0_1.length c0_1, .int .i64 (wrap64 (a0_2 - a1_2))] ?_
      with_reducible refine (nat_Shl.calls k _ _ l0_1 (wrap64 (a0_2 - a1_2)) t283 _ ?side1 ?side2 A24.out).mono ?_
      (case side1 => exact kc_ (Kd.V_reads' HO0_1.out).2.2)
      (case side2 => exact (Kd.V_reads' HO0_1.out).2.1)
      rintro e w37 ⟨v284, rfl, ho0, hb⟩
      refine ⟨_, rfl, ?_⟩
      have n0_ := Aside0.mk (Kd.V_elder' (by (with_reducible repeat (first | apply Kd.V_alloc | apply Kd.V_drewN | apply Kd.V_drew)); exact HO0_1.out) (Kd.R_base ho0) hb)
      have n1_ := Aside0.mk (Kd.V_elder' (by (with_reducible repeat (first | apply Kd.V_alloc | apply Kd.V_drewN | apply Kd.V_drew)); exact HO1_1.out) (Kd.R_base ho0) hb)
      have n2_ := Aside0.mk (Kd.R_lower (Kd.R_newM (M := fun k_ => (w.heap.size ≤ k_)) ho0 (below_size (bw_ HB.out)) (fun k_ h_ => h_)) (below_size (bw_ HB.out)))
      have n3_ := kq_ BK280 hb
      have n4_ := kq_ BK281 hb
      have n5_ := kq_ BK282 hb
      have n6_ := bq_ HB hb
      clear HO0_1
      clear HO1_1
      clear BK280
      clear BK281
      clear BK282
      clear HB
      have HO0_1 := n0_
      have HO1_1 := n1_
      have HO285 := n2_
      have BK280 := n3_
      have BK281 := n4_
      have BK282 := n5_
      have HB := n6_
      clear n0_ n1_ n2_ n3_ n4_ n5_ n6_
      (try clear hb)
      (try clear hb2)
      (try clear hk)
      (try clear hi)
      (try clear ho0)
      obtain ⟨Ao38, co38, eo38⟩ := Kd.R_slice HO285.out
      (first | subst eo38 | (injection eo38 with f1_ f2_ f3_; have f4_ := f1_.symm; have f5_ := f3_.symm; clear f1_ f2_ f3_; subst f4_; subst f5_))
      refine hK.out _ _ ⟨(blk_cell BK281.out 0).trans rfl, (blk_cell BK281.out 1).trans rfl, (blk_cell BK281.out 2).trans rfl, (blk_cell BK280.out 0).trans rfl, (blk_cell BK280.out 1).trans rfl, (blk_cell BK280.out 2).trans rfl⟩ (fun hHeld => ?_)
      clear hK K
      refine norm_ (a' := ?_) ?_ ?_
      rotate_left
      ·show Act.put _ (some 39) _ = _
       exact pt_
      refine pure_ (i := 12) (N := some 40) (v := ?_) (a' := ?_) #[true, true, true, true, true, true, true, true, true, true, true, true, true, false, false] rfl rfl (any_of HT_.out (by kernel_rfl)) (fun _ _ _ h => h) (Or.inl ⟨by rfl, ?_⟩) ?_ ?_
      rotate_left
      ·intro w'
       go_simp
       with_reducible rfl
      rotate_left
      ·exact pt_
      refine one_ (i := 13) (N := some 5) #[true, true, true, true, true, true, true, true, true, true, true, true, true, true, false] rfl rfl (one_of HT_.out (by kernel_rfl)) (by decide) (fun K hK => ?_)
      refine box_step ?hg (N := 5) ?hd (cs := #[.bool false, .slice none 0 0]) (t := 24) ?hr ?_; (case hd => rfl); (case hg => rfl); (case hr => first | (go_simp; done) | (go_simp; rfl))
      intro gb286 hg w39 hbox hb
      have n0_ := Aside0.mk (Kd.V_below (Kd.V_elderB (by (with_reducible repeat (first | apply Kd.V_alloc | apply Kd.V_drewN | apply Kd.V_drew)); exact HO0_1.out) gb286 (Nat.le_of_eq hg.symm)) hb)
      have n1_ := Aside0.mk (Kd.V_below (Kd.V_elderB (by (with_reducible repeat (first | apply Kd.V_alloc | apply Kd.V_drewN | apply Kd.V_drew)); exact HO1_1.out) gb286 (Nat.le_of_eq hg.symm)) hb)
      have n2_ := Aside0.mk (Kd.R_below (kr_ HO285.out) hb)
      have n3_ := kq_ BK280 hb
      have n4_ := kq_ BK281 hb
      have n5_ := kq_ BK282 hb
      have n6_ := bq_ HB hb
      have n7_ := Aside0.mk (hbox)
      have n8_ := ge_ hg HB
      have n9_ := ge_ hg HB
      have n10_ := nb_ hg BK280
      have n11_ := nc_ hg BK280
      have n12_ := nb_ hg BK281
      have n13_ := nc_ hg BK281
      have n14_ := nb_ hg BK282
      have n15_ := nc_ hg BK282
      clear HO0_1
      clear HO1_1
      clear HO285
      clear BK280
      clear BK281
      clear BK282
      clear HB
      have HO0_1 := n0_
      have HO1_1 := n1_
      have HO285 := n2_
      have BK280 := n3_
      have BK281 := n4_
      have BK282 := n5_
      have HB := n6_
      have BK286 := n7_
      have GW286 := n8_
      have GE286 := n9_
      have NB280_286 := n10_
      have NB286_280 := n11_
      have NB281_286 := n12_
      have NB286_281 := n13_
      have NB282_286 := n14_
      have NB286_282 := n15_
      clear n0_ n1_ n2_ n3_ n4_ n5_ n6_ n7_ n8_ n9_ n10_ n11_ n12_ n13_ n14_ n15_
      clear hb hbox hg
      refine hK.out _ _ ⟨(blk_cell BK281.out 0).trans rfl, (blk_cell BK281.out 1).trans rfl, (blk_cell BK281.out 2).trans rfl, (blk_cell BK280.out 0).trans rfl, (blk_cell BK280.out 1).trans rfl, (blk_cell BK280.out 2).trans rfl⟩ (fun hHeld => ?_)
      clear hK K
      refine norm_ (a' := ?_) ?_ ?_
      rotate_left
      ·show Act.put _ (some 5) _ = _
       exact pt_
      exact norm_ (by simp only [putAll, Act.put, List.setIfInBounds_toArray, List.set_cons_zero, List.set_cons_succ]) (hCont (.slice Ao38 t283.length co38, gb286) _ ⟨hHeld, (by (with_reducible repeat (first | apply Kd.V_alloc | apply Kd.V_drewN | apply Kd.V_drew)); exact Kd.V_mono HO0_1.out (fun _ hk => by first | exact ⟨hk.1.1.1, ⟨hk.1.2, ⟨hk.1.1.2.1, ⟨hk.1.1.2.2.1, ⟨hk.1.1.2.2.2, hk.2⟩⟩⟩⟩⟩ | simp [hk])), (by (with_reducible repeat (first | apply Kd.V_alloc | apply Kd.V_drewN | apply Kd.V_drew)); exact Kd.V_mono HO1_1.out (fun _ hk => by first | exact ⟨hk.1.1.1, ⟨hk.1.2, ⟨hk.1.1.2.1, ⟨hk.1.1.2.2.1, ⟨hk.1.1.2.2.2, hk.2⟩⟩⟩⟩⟩ | simp [hk])), (kr_ (Kd.R_mono HO285.out (fun _ hk => hk.1))), (kb_ BK280.out), (kb_ BK281.out), (kb_ BK282.out), (kb_ BK286.out), GW286.out, GE286.out, NB280_286.out, NB286_280.out, NB281_286.out, NB286_281.out, NB282_286.out, NB286_282.out, (bw_ HB.out)⟩)
     ·skip
      refine box_step ?hg (N := 5) ?hd (cs := #[.bool false, .slice none 0 0]) (t := 24) ?hr ?_; (case hd => rfl); (case hg => rfl); (case hr => first | (go_simp; done) | (go_simp; rfl))
      intro gb286 hg w37 hbox hb
      have n0_ := Aside0.mk (Kd.V_below (Kd.V_elderB (by (with_reducible repeat (first | apply Kd.V_alloc | apply Kd.V_drewN | apply Kd.V_drew)); exact HO0_1.out) gb286 (Nat.le_of_eq hg.symm)) hb)
      have n1_ := Aside0.mk (Kd.V_below (Kd.V_elderB (by (with_reducible repeat (first | apply Kd.V_alloc | apply Kd.V_drewN | apply Kd.V_drew)); exact HO1_1.out) gb286 (Nat.le_of_eq hg.symm)) hb)
      have n2_ := kq_ BK280 hb
      have n3_ := kq_ BK281 hb
      have n4_ := kq_ BK282 hb
      have n5_ := bq_ HB hb
      have n6_ := Aside0.mk (hbox)
      have n7_ := ge_ hg HB
      have n8_ := ge_ hg HB
      have n9_ := nb_ hg BK280
      have n10_ := nc_ hg BK280
      have n11_ := nb_ hg BK281
      have n12_ := nc_ hg BK281
      have n13_ := nb_ hg BK282
      have n14_ := nc_ hg BK282
      clear HO0_1
      clear HO1_1
      clear BK280
      clear BK281
      clear BK282
      clear HB
      have HO0_1 := n0_
      have HO1_1 := n1_
      have BK280 := n2_
      have BK281 := n3_
      have BK282 := n4_
      have HB := n5_
      have BK286 := n6_
      have GW286 := n7_
      have GE286 := n8_
      have NB280_286 := n9_
      have NB286_280 := n10_
      have NB281_286 := n11_
      have NB286_281 := n12_
      have NB282_286 := n13_
      have NB286_282 := n14_
      clear n0_ n1_ n2_ n3_ n4_ n5_ n6_ n7_ n8_ n9_ n10_ n11_ n12_ n13_ n14_
      clear hb hbox hg
      refine hK.out _ _ ⟨(blk_cell BK281.out 0).trans rfl, (blk_cell BK281.out 1).trans rfl, (blk_cell BK281.out 2).trans rfl, (blk_cell BK280.out 0).trans rfl, (blk_cell BK280.out 1).trans rfl, (blk_cell BK280.out 2).trans rfl⟩ (fun hHeld => ?_)
      clear hK K
      refine norm_ (a' := ?_) ?_ ?_
      rotate_left
      ·show Act.put _ (some 5) _ = _
       exact pt_
      refine one_ (i := 11) (N := some 39) #[true, true, true, true, true, true, true, true, true, true, true, true, false, true, false] rfl rfl (one_of HT_.out (by kernel_rfl)) (by decide) (fun K hK => ?_)
      refine gs_ Tryd.func52 #[.slice A0_1 l0_1.length c0_1, .int .i64 (wrap64 (a0_2 - a1_2))] ?_
      with_reducible refine (nat_Shl.calls k _ _ l0_1 (wrap64 (a0_2 - a1_2)) t283 _ ?side1 ?side2 A24.out).mono ?_
      (case side1 => exact kc_ (Kd.V_reads' HO0_1.out).2.2)
      (case side2 => exact (Kd.V_reads' HO0_1.out).2.1)
      rintro e w38 ⟨v284, rfl, ho0, hb⟩
      refine ⟨_, rfl, ?_⟩
      have n0_ := Aside0.mk (Kd.V_elder' (by (with_reducible repeat (first | apply Kd.V_alloc | apply Kd.V_drewN | apply Kd.V_drew)); exact HO0_1.out) (Kd.R_base ho0) hb)
      have n1_ := Aside0.mk (Kd.V_elder' (by (with_reducible repeat (first | apply Kd.V_alloc | apply Kd.V_drewN | apply Kd.V_drew)); exact HO1_1.out) (Kd.R_base ho0) hb)
      have n2_ := Aside0.mk (Kd.R_lower (Kd.R_newM (M := fun k_ => (w.heap.size ≤ k_)) ho0 (below_size (bw_ HB.out)) (fun k_ h_ => h_)) (below_size (bw_ HB.out)))
      have n3_ := kq_ BK280 hb
      have n4_ := kq_ BK281 hb
      have n5_ := kq_ BK282 hb
      have n6_ := kq_ BK286 hb
      have n7_ := bq_ HB hb
      clear HO0_1
      clear HO1_1
      clear BK280
      clear BK281
      clear BK282
      clear BK286
      clear HB
      have HO0_1 := n0_
      have HO1_1 := n1_
      have HO285 := n2_
      have BK280 := n3_
      have BK281 := n4_
      have BK282 := n5_
      have BK286 := n6_
      have HB := n7_
      clear n0_ n1_ n2_ n3_ n4_ n5_ n6_ n7_
      (try clear hb)
      (try clear hb2)
      (try clear hk)
      (try clear hi)
      (try clear ho0)
      obtain ⟨Ao39, co39, eo39⟩ := Kd.R_slice HO285.out
      (first | subst eo39 | (injection eo39 with f1_ f2_ f3_; have f4_ := f1_.symm; have f5_ := f3_.symm; clear f1_ f2_ f3_; subst f4_; subst f5_))
      refine hK.out _ _ ⟨(blk_cell BK281.out 0).trans rfl, (blk_cell BK281.out 1).trans rfl, (blk_cell BK281.out 2).trans rfl, (blk_cell BK280.out 0).trans rfl, (blk_cell BK280.out 1).trans rfl, (blk_cell BK280.out 2).trans rfl⟩ (fun hHeld => ?_)
      clear hK K
      refine norm_ (a' := ?_) ?_ ?_
      rotate_left
      ·show Act.put _ (some 39) _ = _
       exact pt_
      refine pure_ (i := 12) (N := some 40) (v := ?_) (a' := ?_) #[true, true, true, true, true, true, true, true, true, true, true, true, true, true, false] rfl rfl (any_of HT_.out (by kernel_rfl)) (fun _ _ _ h => h) (Or.inl ⟨by rfl, ?_⟩) ?_ ?_
      rotate_left
      ·intro w'
       go_simp
       with_reducible rfl
      rotate_left
      ·exact pt_
      exact norm_ (by simp only [putAll, Act.put, List.setIfInBounds_toArray, List.set_cons_zero, List.set_cons_succ]) (hCont (.slice Ao39 t283.length co39, gb286) _ ⟨hHeld, (by (with_reducible repeat (first | apply Kd.V_alloc | apply Kd.V_drewN | apply Kd.V_drew)); exact Kd.V_mono HO0_1.out (fun _ hk => by first | exact ⟨hk.1.1.1, ⟨hk.2, ⟨hk.1.1.2.1, ⟨hk.1.1.2.2.1, ⟨hk.1.1.2.2.2, hk.1.2⟩⟩⟩⟩⟩ | simp [hk])), (by (with_reducible repeat (first | apply Kd.V_alloc | apply Kd.V_drewN | apply Kd.V_drew)); exact Kd.V_mono HO1_1.out (fun _ hk => by first | exact ⟨hk.1.1.1, ⟨hk.2, ⟨hk.1.1.2.1, ⟨hk.1.1.2.2.1, ⟨hk.1.1.2.2.2, hk.1.2⟩⟩⟩⟩⟩ | simp [hk])), (kr_ (Kd.R_mono HO285.out (fun _ hk => hk.1))), (kb_ BK280.out), (kb_ BK281.out), (kb_ BK282.out), (kb_ BK286.out), GW286.out, GE286.out, NB280_286.out, NB286_280.out, NB281_286.out, NB286_281.out, NB282_286.out, NB286_282.out, (bw_ HB.out)⟩)
    rintro ⟨v284, gb286⟩ w40 ⟨hS_, h0_, h1_, h2_, h3_, h4_, h5_, h6_, h7_, h8_, h9_, h10_, h11_, h12_, h13_, h14_, h15_⟩
    have HO285 := Aside0.mk h2_
    have BK286 := Aside0.mk h6_
    have GW286 := Aside0.mk h7_
    have GE286 := Aside0.mk h8_
    have NB280_286 := Aside0.mk h9_
    have NB286_280 := Aside0.mk h10_
    have NB281_286 := Aside0.mk h11_
    have NB286_281 := Aside0.mk h12_
    have NB282_286 := Aside0.mk h13_
    have NB286_282 := Aside0.mk h14_
    replace HO0_1 := Aside0.mk h0_
    replace HO1_1 := Aside0.mk h1_
    replace BK280 := Aside0.mk h3_
    replace BK281 := Aside0.mk h4_
    replace BK282 := Aside0.mk h5_
    replace HB := Aside0.mk h15_
    clear h0_ h1_ h2_ h3_ h4_ h5_ h6_ h7_ h8_ h9_ h10_ h11_ h12_ h13_ h14_ h15_
    have hHeld : w40.cell? ⟨gb281, 0, none⟩ = some (.bool a0_0) ∧ w40.cell? ⟨gb281, 1, none⟩ = some (.slice A0_1 l0_1.length c0_1) ∧ w40.cell? ⟨gb281, 2, none⟩ = some (.int .i64 a0_2) ∧ w40.cell? ⟨gb280, 0, none⟩ = some (.bool a1_0) ∧ w40.cell? ⟨gb280, 1, none⟩ = some (.slice A1_1 l1_1.length c1_1) ∧ w40.cell? ⟨gb280, 2, none⟩ = some (.int .i64 a1_2) := hS_
    obtain ⟨Ao41, co41, eo41⟩ := Kd.R_slice HO285.out
    (first | subst eo41 | (injection eo41 with f1_ f2_ f3_; have f4_ := f1_.symm; have f5_ := f3_.symm; clear f1_ f2_ f3_; subst f4_; subst f5_))
    refine norm_ (a' := ?_) ?_ ?_
    rotate_left
    ·simp only [putAll, Act.put, List.setIfInBounds_toArray, List.set_cons_zero, List.set_cons_succ]
     rfl
    refine one_ (i := 14) (N := none) #[true, true, true, true, true, true, true, true, true, true, true, true, true, true, true] rfl rfl (one_of HT_.out (by kernel_rfl)) (by decide) (fun K hK => ?_)
    have hs42 : w40.cell? ⟨gb286, 0, none⟩ = some (.bool false) := (blk_cell BK286.out 0).trans rfl
    have hfs42 := fz_ BK286 0
    have hns42_0 := NB280_286.out
    have hns42_1 := NB281_286.out
    have hns42_2 := NB282_286.out
    have hms42_0 := NB286_280.out
    have hms42_1 := NB286_281.out
    have hms42_2 := NB286_282.out
    have hs43 : w40.cell? ⟨gb286, 1, none⟩ = some (.slice none 0 0) := (blk_cell BK286.out 1).trans rfl
    have hfs43 := fz_ BK286 1
    have hns43_0 := NB280_286.out
    have hns43_1 := NB281_286.out
    have hns43_2 := NB282_286.out
    have hms43_0 := NB286_280.out
    have hms43_1 := NB286_281.out
    have hms43_2 := NB286_282.out
    refine skip_ (w1 := ?_) (by rfl) rfl ?_ ?_
    rotate_left
    ·go_simp
     rfl
    refine hK.out _ _ ⟨((cell_far (p := ⟨gb286, _, none⟩) NB281_286.out _).trans (((cell_far (p := ⟨gb286, _, none⟩) NB281_286.out _).trans (hHeld.1)))), ((cell_far (p := ⟨gb286, _, none⟩) NB281_286.out _).trans (((cell_far (p := ⟨gb286, _, none⟩) NB281_286.out _).trans (hHeld.2.1)))), ((cell_far (p := ⟨gb286, _, none⟩) NB281_286.out _).trans (((cell_far (p := ⟨gb286, _, none⟩) NB281_286.out _).trans (hHeld.2.2.1)))), ((cell_far (p := ⟨gb286, _, none⟩) NB280_286.out _).trans (((cell_far (p := ⟨gb286, _, none⟩) NB280_286.out _).trans (hHeld.2.2.2.1)))), ((cell_far (p := ⟨gb286, _, none⟩) NB280_286.out _).trans (((cell_far (p := ⟨gb286, _, none⟩) NB280_286.out _).trans (hHeld.2.2.2.2.1)))), ((cell_far (p := ⟨gb286, _, none⟩) NB280_286.out _).trans (((cell_far (p := ⟨gb286, _, none⟩) NB280_286.out _).trans (hHeld.2.2.2.2.2))))⟩ (fun hHeld => ?_)
    clear hK K
    refine done_ (done_of HT_.out (by kernel_rfl)) ?_
    try go_wp2
    have n0_ : Aside0 (Kd.V (Kd.int .u32) 51 ((w40.setCell ⟨gb286, 0, none⟩ (.bool a0_0)).setCell ⟨gb286, 1, none⟩ (.slice Ao41 t283.length co41)) w.heap.size (fun k_ => ((P0_1_ k_ ∨ P1_1_ k_) ∨ w.heap.size ≤ k_) ∧ some k_ ≠ (.slice Ao41 t283.length co41 : Value).ownBlock ∧ k_ ≠ gb280 ∧ k_ ≠ gb281 ∧ k_ ≠ gb282 ∧ k_ ≠ gb286) (.slice A0_1 l0_1.length c0_1) l0_1) := ⟨by (with_reducible repeat (first | apply Kd.V_alloc | apply Kd.V_drewN | apply Kd.V_drew)); exact Kd.V_mono (Kd.V_far (p := ⟨gb286, 1, none⟩) (Kd.V_far (p := ⟨gb286, 0, none⟩) (Kd.V_mono HO0_1.out (fun k_ hk => (⟨hk, hk.2.2.2.2.2⟩ : _ ∧ k_ ≠ gb286))) (fun _ hk => hk.2) (.bool a0_0)) (fun _ hk => hk.2) (.slice Ao41 t283.length co41)) (fun _ hk => by first | exact ⟨hk.1.1, ⟨hk.1.2.1, ⟨hk.1.2.2.1, ⟨hk.1.2.2.2.1, ⟨hk.1.2.2.2.2.1, hk.1.2.2.2.2.2⟩⟩⟩⟩⟩ | simp [hk])⟩
    have n1_ : Aside0 (Kd.V (Kd.int .u32) 51 ((w40.setCell ⟨gb286, 0, none⟩ (.bool a0_0)).setCell ⟨gb286, 1, none⟩ (.slice Ao41 t283.length co41)) w.heap.size (fun k_ => ((P0_1_ k_ ∨ P1_1_ k_) ∨ w.heap.size ≤ k_) ∧ some k_ ≠ (.slice Ao41 t283.length co41 : Value).ownBlock ∧ k_ ≠ gb280 ∧ k_ ≠ gb281 ∧ k_ ≠ gb282 ∧ k_ ≠ gb286) (.slice A1_1 l1_1.length c1_1) l1_1) := ⟨by (with_reducible repeat (first | apply Kd.V_alloc | apply Kd.V_drewN | apply Kd.V_drew)); exact Kd.V_mono (Kd.V_far (p := ⟨gb286, 1, none⟩) (Kd.V_far (p := ⟨gb286, 0, none⟩) (Kd.V_mono HO1_1.out (fun k_ hk => (⟨hk, hk.2.2.2.2.2⟩ : _ ∧ k_ ≠ gb286))) (fun _ hk => hk.2) (.bool a0_0)) (fun _ hk => hk.2) (.slice Ao41 t283.length co41)) (fun _ hk => by first | exact ⟨hk.1.1, ⟨hk.1.2.1, ⟨hk.1.2.2.1, ⟨hk.1.2.2.2.1, ⟨hk.1.2.2.2.2.1, hk.1.2.2.2.2.2⟩⟩⟩⟩⟩ | simp [hk])⟩
    have n2_ : Aside0 (Kd.R (Kd.int .u32) 51 ((w40.setCell ⟨gb286, 0, none⟩ (.bool a0_0)).setCell ⟨gb286, 1, none⟩ (.slice Ao41 t283.length co41)) w.heap.size (fun k_ => (w.heap.size ≤ k_)) (.slice Ao41 t283.length co41) t283) := ⟨by (with_reducible repeat (first | apply Kd.R_alloc | apply Kd.R_drewN | apply Kd.R_drew)); exact Kd.R_mono (Kd.R_far (p := ⟨gb286, 1, none⟩) (Kd.R_far (p := ⟨gb286, 0, none⟩) (Kd.R_types HO285.out BK286.out (by decide)) (fun _ hk => hk.2) (.bool a0_0)) (fun _ hk => hk.2) (.slice Ao41 t283.length co41)) (fun _ hk => hk.1)⟩
    have n3_ : Aside0 (((w40.setCell ⟨gb286, 0, none⟩ (.bool a0_0)).setCell ⟨gb286, 1, none⟩ (.slice Ao41 t283.length co41)).heap[gb280]? = some (.cells #[.bool a1_0, .slice A1_1 l1_1.length c1_1, .int .i64 a1_2] 27 (0, 0))) := ⟨by refine kb_ ?_; refine bf_ NB280_286 ?_; refine bf_ NB280_286 ?_; exact BK280.out⟩
    have n4_ : Aside0 (((w40.setCell ⟨gb286, 0, none⟩ (.bool a0_0)).setCell ⟨gb286, 1, none⟩ (.slice Ao41 t283.length co41)).heap[gb281]? = some (.cells #[.bool a0_0, .slice A0_1 l0_1.length c0_1, .int .i64 a0_2] 27 (0, 0))) := ⟨by refine kb_ ?_; refine bf_ NB281_286 ?_; refine bf_ NB281_286 ?_; exact BK281.out⟩
    have n5_ : Aside0 (((w40.setCell ⟨gb286, 0, none⟩ (.bool a0_0)).setCell ⟨gb286, 1, none⟩ (.slice Ao41 t283.length co41)).heap[gb282]? = some (.cells #[.bool false, .slice none 0 0, .int .i64 0] 27 (0, 0))) := ⟨by refine kb_ ?_; refine bf_ NB282_286 ?_; refine bf_ NB282_286 ?_; exact BK282.out⟩
    have n6_ : Aside0 (((w40.setCell ⟨gb286, 0, none⟩ (.bool a0_0)).setCell ⟨gb286, 1, none⟩ (.slice Ao41 t283.length co41)).heap[gb286]? = some (.cells #[.bool a0_0, .slice Ao41 t283.length co41] 24 (0, 0))) := ⟨by refine kb_ ?_; refine bp_ #[.bool a0_0, .slice none 0 0] 1 ?_; refine bp_ #[.bool false, .slice none 0 0] 0 ?_; exact BK286.out⟩
    have n7_ : Aside0 (Below w.heap.size w ((w40.setCell ⟨gb286, 0, none⟩ (.bool a0_0)).setCell ⟨gb286, 1, none⟩ (.slice Ao41 t283.length co41))) := ⟨bw_ HB.out⟩
    (try clear HO0_1)
    (try clear HO1_1)
    (try clear HO285)
    (try clear BK280)
    (try clear BK281)
    (try clear BK282)
    (try clear BK286)
    (try clear HB)
    generalize ((w40.setCell ⟨gb286, 0, none⟩ (.bool a0_0)).setCell ⟨gb286, 1, none⟩ (.slice Ao41 t283.length co41)) = w44 at n0_ n1_ n2_ n3_ n4_ n5_ n6_ n7_ ⊢
    have HO0_1 := n0_
    have HO1_1 := n1_
    have HO285 := n2_
    have BK280 := n3_
    have BK281 := n4_
    have BK282 := n5_
    have BK286 := n6_
    have HB := n7_
    clear n0_ n1_ n2_ n3_ n4_ n5_ n6_ n7_
    replace HO0_1 := Aside0.mk (Kd.V_drew HO0_1.out)
    replace HO1_1 := Aside0.mk (Kd.V_drew HO1_1.out)
    replace HO285 := Aside0.mk (Kd.R_drew HO285.out)
    replace BK280 := Aside0.mk (blk_drew BK280.out)
    replace BK281 := Aside0.mk (blk_drew BK281.out)
    replace BK282 := Aside0.mk (blk_drew BK282.out)
    replace BK286 := Aside0.mk (blk_drew BK286.out)
    replace HB := Aside0.mk (below_drew1 HB.out)
    refine start_ (n := 8) (S := fun w' => w'.cell? ⟨gb280, 0, none⟩ = some (.bool a1_0) ∧ w'.cell? ⟨gb280, 1, none⟩ = some (.slice A1_1 l1_1.length c1_1) ∧ w'.cell? ⟨gb280, 2, none⟩ = some (.int .i64 a1_2) ∧ w'.cell? ⟨gb286, 0, none⟩ = some (.bool a0_0) ∧ w'.cell? ⟨gb286, 1, none⟩ = some (.slice Ao41 t283.length co41)) (ds := []) #[false, false, false, false, false, false, false, false] (by kernel_rfl) rfl rfl ⟨(blk_cell BK280.out 0).trans rfl, (blk_cell BK280.out 1).trans rfl, (blk_cell BK280.out 2).trans rfl, (blk_cell BK286.out 0).trans rfl, (blk_cell BK286.out 1).trans rfl⟩ (fun hHeld => ?_); refine with_tabW dy_add.tab8 dy_add.bits8 (fun HT_ HW_ => ?_)
    generalize w44.drew = w45 at HO0_1 HO1_1 HO285 BK280 BK281 BK282 BK286 HB hHeld ⊢
    refine pure_ (i := 0) (N := some 41) (v := ?_) (a' := ?_) #[true, false, false, false, false, false, false, false] rfl rfl (any_of HT_.out (by kernel_rfl)) (fun _ _ _ h => h) (Or.inl ⟨by rfl, ?_⟩) ?_ ?_
    rotate_left
    ·intro w'
     go_simp
     with_reducible rfl
    rotate_left
    ·exact pt_
    refine pure_ (i := 4) (N := some 45) (v := ?_) (a' := ?_) #[true, false, false, false, true, false, false, false] rfl rfl (any_of HT_.out (by kernel_rfl)) (fun _ _ _ h => h) (Or.inl ⟨by rfl, ?_⟩) ?_ ?_
    rotate_left
    ·intro w'
     go_simp
     with_reducible rfl
    rotate_left
    ·exact pt_
    refine take_ (i := 1) (N := some 42) (v := ?_) (a' := ?_) #[true, true, false, false, true, false, false, false] rfl rfl (take_ofW HT_.out HW_.out (by kernel_rfl)) (fun _ _ _ h => h) (Or.inl ⟨by rfl, ?_⟩) hHeld ?_ ?_
    rotate_left
    ·rintro w' ⟨s0, s1, s2, s3, s4⟩
     go_simp
     with_reducible rfl
    rotate_left
    ·exact pt_
    refine take_ (i := 2) (N := some 43) (v := ?_) (a' := ?_) #[true, true, true, false, true, false, false, false] rfl rfl (take_ofW HT_.out HW_.out (by kernel_rfl)) (fun _ _ _ h => h) (Or.inl ⟨by rfl, ?_⟩) hHeld ?_ ?_
    rotate_left
    ·rintro w' ⟨s0, s1, s2, s3, s4⟩
     go_simp
     with_reducible rfl
    rotate_left
    ·exact pt_
    refine take_ (i := 5) (N := some 46) (v := ?_) (a' := ?_) #[true, true, true, false, true, true, false, false] rfl rfl (take_ofW HT_.out HW_.out (by kernel_rfl)) (fun _ _ _ h => h) (Or.inl ⟨by rfl, ?_⟩) hHeld ?_ ?_
    rotate_left
    ·rintro w' ⟨s0, s1, s2, s3, s4⟩
     go_simp
     with_reducible rfl
    rotate_left
    ·exact pt_
    refine one_ (i := 3) (N := some 44) #[true, true, true, true, true, true, false, false] rfl rfl (one_of HT_.out (by kernel_rfl)) (by decide) (fun K hK => ?_)
    refine gs_ Tryd.func24 #[.agg #[.bool a1_0, .slice A1_1 l1_1.length c1_1], .agg #[.bool a0_0, .slice Ao41 t283.length co41]] ?_
    with_reducible refine (whole_Add.calls k a1_0 _ _ l1_1 a0_0 _ _ t283 t287 t288 _ ?side1 ?side2 ?side3 ?side4 A25.out).mono ?_
    (case side1 => exact kc_ (Kd.V_reads' HO1_1.out).2.2)
    (case side2 => exact (Kd.V_reads' HO1_1.out).2.1)
    (case side3 => exact kc_ (Kd.R_reads' HO285.out).2.2)
    (case side4 => exact (Kd.R_reads' HO285.out).2.1)
    rintro e w46 ⟨v289, rfl, ho0, hb⟩
    refine ⟨_, rfl, ?_⟩
    have n0_ := Aside0.mk (Kd.V_elder' (by (with_reducible repeat (first | apply Kd.V_alloc | apply Kd.V_drewN | apply Kd.V_drew)); exact HO0_1.out) (Kd.R_base ho0) hb)
    have n1_ := Aside0.mk (Kd.V_elder' (by (with_reducible repeat (first | apply Kd.V_alloc | apply Kd.V_drewN | apply Kd.V_drew)); exact HO1_1.out) (Kd.R_base ho0) hb)
    have n2_ := Aside0.mk (Kd.R_elder' (kr_ HO285.out) (Kd.R_base ho0) hb)
    have n3_ := Aside0.mk (Kd.R_lower (Kd.R_new' (Kd.R_newM (M := fun k_ => (w.heap.size ≤ k_)) ho0 (below_size (bw_ HB.out)) (fun k_ h_ => h_)) (Kd.R_lt (kr_ HO285.out))) (below_size (bw_ HB.out)))
    have n4_ := kq_ BK280 hb
    have n5_ := kq_ BK281 hb
    have n6_ := kq_ BK282 hb
    have n7_ := kq_ BK286 hb
    have n8_ := bq_ HB hb
    clear HO0_1
    clear HO1_1
    clear HO285
    clear BK280
    clear BK281
    clear BK282
    clear BK286
    clear HB
    have HO0_1 := n0_
    have HO1_1 := n1_
    have HO285 := n2_
    have HO290 := n3_
    have BK280 := n4_
    have BK281 := n5_
    have BK282 := n6_
    have BK286 := n7_
    have HB := n8_
    clear n0_ n1_ n2_ n3_ n4_ n5_ n6_ n7_ n8_
    (try clear hb)
    (try clear hb2)
    (try clear hk)
    (try clear hi)
    (try clear ho0)
    obtain ⟨Ao47, co47, eo47⟩ := Kd.R_slice HO290.out
    (first | subst eo47 | (injection eo47 with f1_ f2_ f3_; have f4_ := f1_.symm; have f5_ := f3_.symm; clear f1_ f2_ f3_; subst f4_; subst f5_))
    refine hK.out _ _ ⟨(blk_cell BK280.out 0).trans rfl, (blk_cell BK280.out 1).trans rfl, (blk_cell BK280.out 2).trans rfl, (blk_cell BK286.out 0).trans rfl, (blk_cell BK286.out 1).trans rfl⟩ (fun hHeld => ?_)
    clear hK K
    refine norm_ (a' := ?_) ?_ ?_
    rotate_left
    ·show Act.put _ (some 44) _ = _
     exact pt_
    refine one_ (i := 6) (N := some 47) #[true, true, true, true, true, true, true, false] rfl rfl (one_of HT_.out (by kernel_rfl)) (by decide) (fun K hK => ?_)
    refine gs_ Tryd.func10 #[.agg #[.bool t287, .slice Ao47 t288.length co47], .int .i64 a1_2] ?_
    with_reducible refine (dy_Make.calls k t287 _ _ t288 a1_2 t291 t292 t295 _ ?side1 ?side2 A26.out ?sidet).mono ?_
    (case sidet => exact Kd.C_below HTAB.out (bw_ HB.out))
    (case side1 => exact kc_ (Kd.R_reads' HO290.out).2.2)
    (case side2 => exact (Kd.R_reads' HO290.out).2.1)
    rintro e w48 ⟨v293, rfl, ho0, hb⟩
    refine ⟨_, rfl, ?_⟩
    have n0_ := Aside0.mk (Kd.V_elder' (by (with_reducible repeat (first | apply Kd.V_alloc | apply Kd.V_drewN | apply Kd.V_drew)); exact HO0_1.out) (Kd.R_base ho0) hb)
    have n1_ := Aside0.mk (Kd.V_elder' (by (with_reducible repeat (first | apply Kd.V_alloc | apply Kd.V_drewN | apply Kd.V_drew)); exact HO1_1.out) (Kd.R_base ho0) hb)
    have n2_ := Aside0.mk (Kd.R_elder' (kr_ HO285.out) (Kd.R_base ho0) hb)
    have n3_ := Aside0.mk (Kd.R_elder' (kr_ HO290.out) (Kd.R_base ho0) hb)
    have n4_ := Aside0.mk (Kd.R_lower (Kd.R_new' (Kd.R_new' (Kd.R_newM (M := fun k_ => (w.heap.size ≤ k_)) ho0 (below_size (bw_ HB.out)) (fun k_ h_ => h_)) (Kd.R_lt (kr_ HO285.out))) (Kd.R_lt (kr_ HO290.out))) (below_size (bw_ HB.out)))
    have n5_ := kq_ BK280 hb
    have n6_ := kq_ BK281 hb
    have n7_ := kq_ BK282 hb
    have n8_ := kq_ BK286 hb
    have n9_ := bq_ HB hb
    clear HO0_1
    clear HO1_1
    clear HO285
    clear HO290
    clear BK280
    clear BK281
    clear BK282
    clear BK286
    clear HB
    have HO0_1 := n0_
    have HO1_1 := n1_
    have HO285 := n2_
    have HO290 := n3_
    have HO294 := n4_
    have BK280 := n5_
    have BK281 := n6_
    have BK282 := n7_
    have BK286 := n8_
    have HB := n9_
    clear n0_ n1_ n2_ n3_ n4_ n5_ n6_ n7_ n8_ n9_
    (try clear hb)
    (try clear hb2)
    (try clear hk)
    (try clear hi)
    (try clear ho0)
    obtain ⟨Ao50, co50, eo50⟩ := Kd.R_slice HO294.out
    (first | subst eo50 | (injection eo50 with f1_ f2_ f3_; have f4_ := f1_.symm; have f5_ := f3_.symm; clear f1_ f2_ f3_; subst f4_; subst f5_))
    refine hK.out _ _ ⟨(blk_cell BK280.out 0).trans rfl, (blk_cell BK280.out 1).trans rfl, (blk_cell BK280.out 2).trans rfl, (blk_cell BK286.out 0).trans rfl, (blk_cell BK286.out 1).trans rfl⟩ (fun hHeld => ?_)
    clear hK K
    refine norm_ (a' := ?_) ?_ ?_
    rotate_left
    ·show Act.put _ (some 47) _ = _
     exact pt_
    refine one_ (i := 7) (N := none) #[true, true, true, true, true, true, true, true] rfl rfl (one_of HT_.out (by kernel_rfl)) (by decide) (fun K hK => ?_)
    have hs49 : w48.cell? ⟨gb282, 0, none⟩ = some (.bool false) := (blk_cell BK282.out 0).trans rfl
    have hfs49 := fz_ BK282 0
    have hns49_0 := NB280_282.out
    have hns49_1 := NB281_282.out
    have hns49_3 := NB286_282.out
    have hms49_0 := NB282_280.out
    have hms49_1 := NB282_281.out
    have hms49_3 := NB282_286.out
    have hs51 : w48.cell? ⟨gb282, 1, none⟩ = some (.slice none 0 0) := (blk_cell BK282.out 1).trans rfl
    have hfs51 := fz_ BK282 1
    have hns51_0 := NB280_282.out
    have hns51_1 := NB281_282.out
    have hns51_3 := NB286_282.out
    have hms51_0 := NB282_280.out
    have hms51_1 := NB282_281.out
    have hms51_3 := NB282_286.out
    have hs52 : w48.cell? ⟨gb282, 2, none⟩ = some (.int .i64 0) := (blk_cell BK282.out 2).trans rfl
    have hfs52 := fz_ BK282 2
    have hns52_0 := NB280_282.out
    have hns52_1 := NB281_282.out
    have hns52_3 := NB286_282.out
    have hms52_0 := NB282_280.out
    have hms52_1 := NB282_281.out
    have hms52_3 := NB282_286.out
    refine skip_ (w1 := ?_) (by rfl) rfl ?_ ?_
    rotate_left
    ·go_simp
     rfl
    refine hK.out _ _ ⟨((cell_far (p := ⟨gb282, _, none⟩) NB280_282.out _).trans (((cell_far (p := ⟨gb282, _, none⟩) NB280_282.out _).trans (((cell_far (p := ⟨gb282, _, none⟩) NB280_282.out _).trans (hHeld.1)))))), ((cell_far (p := ⟨gb282, _, none⟩) NB280_282.out _).trans (((cell_far (p := ⟨gb282, _, none⟩) NB280_282.out _).trans (((cell_far (p := ⟨gb282, _, none⟩) NB280_282.out _).trans (hHeld.2.1)))))), ((cell_far (p := ⟨gb282, _, none⟩) NB280_282.out _).trans (((cell_far (p := ⟨gb282, _, none⟩) NB280_282.out _).trans (((cell_far (p := ⟨gb282, _, none⟩) NB280_282.out _).trans (hHeld.2.2.1)))))), ((cell_far (p := ⟨gb282, _, none⟩) NB286_282.out _).trans (((cell_far (p := ⟨gb282, _, none⟩) NB286_282.out _).trans (((cell_far (p := ⟨gb282, _, none⟩) NB286_282.out _).trans (hHeld.2.2.2.1)))))), ((cell_far (p := ⟨gb282, _, none⟩) NB286_282.out _).trans (((cell_far (p := ⟨gb282, _, none⟩) NB286_282.out _).trans (((cell_far (p := ⟨gb282, _, none⟩) NB286_282.out _).trans (hHeld.2.2.2.2))))))⟩ (fun hHeld => ?_)
    clear hK K
    refine done_ (done_of HT_.out (by kernel_rfl)) ?_
    try go_wp2
    refine bodyPost_ret (results_cell_row rfl _ _ gb282 27 #[.bool t291, .slice Ao50 t292.length co50, .int .i64 t295] (0, 0) _ rfl (by refine kb_ ?_; refine bp_ #[.bool t291, .slice Ao50 t292.length co50, .int .i64 0] 2 ?_; refine bp_ #[.bool t291, .slice none 0 0, .int .i64 0] 1 ?_; refine bp_ #[.bool false, .slice none 0 0, .int .i64 0] 0 ?_; exact BK282.out) Tryd.underlying27 rfl (by kernel_rfl)) rfl ?_
    exact ⟨_, rf_, Kd.V_mono (Kd.R_V (kr_ (Kd.R_mono (Kd.R_far (p := ⟨gb282, 2, none⟩) (Kd.R_far (p := ⟨gb282, 1, none⟩) (Kd.R_far (p := ⟨gb282, 0, none⟩) (Kd.R_types HO294.out BK282.out (by decide)) (fun _ hk => hk.2) (.bool t291)) (fun _ hk => hk.2) (.slice Ao50 t292.length co50)) (fun _ hk => hk.2) (.int .i64 t295)) (fun _ hk => hk.1.1.1.1)))) (fun k_ hk => by first | exact ⟨(.inr (hk.1)), hk.2⟩ | exact (.inr (hk))), bw_ HB.out⟩
   ·rw [if_neg c23] at H
    have c23b0 : decide (a1_2 < a0_2) = false := decide_eq_false c23
    clear c23
    replace H := Option.bind_eq_some_iff.mp H
    obtain ⟨t296, A530, H⟩ := H
    (try dsimp only at H)
    have A53 := Aside0.mk A530
    clear A530
    replace H := Option.bind_eq_some_iff.mp H
    obtain ⟨⟨t300, t301⟩, A540, H⟩ := H
    (try dsimp only at H)
    have A54 := Aside0.mk A540
    clear A540
    replace H := Option.bind_eq_some_iff.mp H
    obtain ⟨⟨t304, t305, t308⟩, A550, H⟩ := H
    (try dsimp only at H)
    have A55 := Aside0.mk A550
    clear A550
    simp only [Option.some.injEq, Prod.mk.injEq] at H
    obtain ⟨rfl, rfl, rfl⟩ := H
    go_enter Tryd.func50, Tryd.ntmps50
    try go_wp2_with (first | ((with_reducible refine gate_dst (N := 2) rfl ?_); refine bx_ 2 #[.bool a0_0, .slice A0_1 l0_1.length c0_1, .int .i64 a0_2] 27 ?_; intro gb280 hg w56 hbox hb; have n0_ := Aside0.mk (Kd.V_below (Kd.V_elderB (by (with_reducible repeat (first | apply Kd.V_alloc | apply Kd.V_drewN | apply Kd.V_drew)); exact HO0_1.out) gb280 (Nat.le_of_eq hg.symm)) hb); have n1_ := Aside0.mk (Kd.V_below (Kd.V_elderB (by (with_reducible repeat (first | apply Kd.V_alloc | apply Kd.V_drewN | apply Kd.V_drew)); exact HO1_1.out) gb280 (Nat.le_of_eq hg.symm)) hb); have n2_ := bq_ HB hb; have n3_ := Aside0.mk (hbox); have n4_ := ge_ hg HB; have n5_ := ge_ hg HB; clear HO0_1; clear HO1_1; clear HB; have HO0_1 := n0_; have HO1_1 := n1_; have HB := n2_; have BK280 := n3_; have GW280 := n4_; have GE280 := n5_; clear n0_ n1_ n2_ n3_ n4_ n5_; clear hb hbox hg) | ((with_reducible refine gate_dst (N := 3) rfl ?_); refine bx_ 3 #[.bool a1_0, .slice A1_1 l1_1.length c1_1, .int .i64 a1_2] 27 ?_; intro gb281 hg w57 hbox hb; have n0_ := Aside0.mk (Kd.V_below (Kd.V_elderB (by (with_reducible repeat (first | apply Kd.V_alloc | apply Kd.V_drewN | apply Kd.V_drew)); exact HO0_1.out) gb281 (Nat.le_of_eq hg.symm)) hb); have n1_ := Aside0.mk (Kd.V_below (Kd.V_elderB (by (with_reducible repeat (first | apply Kd.V_alloc | apply Kd.V_drewN | apply Kd.V_drew)); exact HO1_1.out) gb281 (Nat.le_of_eq hg.symm)) hb); have n2_ := kq_ BK280 hb; have n3_ := bq_ HB hb; have n4_ := Aside0.mk (hbox); have n5_ := ge_ hg HB; have n6_ := ge_ hg HB; have n7_ := nb_ hg BK280; have n8_ := nc_ hg BK280; clear HO0_1; clear HO1_1; clear BK280; clear HB; have HO0_1 := n0_; have HO1_1 := n1_; have BK280 := n2_; have HB := n3_; have BK281 := n4_; have GW281 := n5_; have GE281 := n6_; have NB280_281 := n7_; have NB281_280 := n8_; clear n0_ n1_ n2_ n3_ n4_ n5_ n6_ n7_ n8_; clear hb hbox hg) | ((with_reducible refine gate_dst (N := 4) rfl ?_); refine bx_ 4 #[.bool false, .slice none 0 0, .int .i64 0] 27 ?_; intro gb282 hg w58 hbox hb; have n0_ := Aside0.mk (Kd.V_below (Kd.V_elderB (by (with_reducible repeat (first | apply Kd.V_alloc | apply Kd.V_drewN | apply Kd.V_drew)); exact HO0_1.out) gb282 (Nat.le_of_eq hg.symm)) hb); have n1_ := Aside0.mk (Kd.V_below (Kd.V_elderB (by (with_reducible repeat (first | apply Kd.V_alloc | apply Kd.V_drewN | apply Kd.V_drew)); exact HO1_1.out) gb282 (Nat.le_of_eq hg.symm)) hb); have n2_ := kq_ BK280 hb; have n3_ := kq_ BK281 hb; have n4_ := bq_ HB hb; have n5_ := Aside0.mk (hbox); have n6_ := ge_ hg HB; have n7_ := ge_ hg HB; have n8_ := nb_ hg BK280; have n9_ := nc_ hg BK280; have n10_ := nb_ hg BK281; have n11_ := nc_ hg BK281; clear HO0_1; clear HO1_1; clear BK280; clear BK281; clear HB; have HO0_1 := n0_; have HO1_1 := n1_; have BK280 := n2_; have BK281 := n3_; have HB := n4_; have BK282 := n5_; have GW282 := n6_; have GE282 := n7_; have NB280_282 := n8_; have NB282_280 := n9_; have NB281_282 := n10_; have NB282_281 := n11_; clear n0_ n1_ n2_ n3_ n4_ n5_ n6_ n7_ n8_ n9_ n10_ n11_; clear hb hbox hg; have hnb59 := NB280_281.out; have hnc59 := NB281_280.out; have hnb60 := NB280_282.out; have hnc60 := NB282_280.out; obtain ⟨hcz61_0, hcz61_1, hcz61_2, hfz61_0, hfz61_1, hfz61_2⟩ := c3_ BK280; have hnb62 := NB281_282.out; have hnc62 := NB282_281.out; obtain ⟨hcz63_0, hcz63_1, hcz63_2, hfz63_0, hfz63_1, hfz63_2⟩ := c3_ BK281))
    replace HO0_1 := Aside0.mk (Kd.V_drew HO0_1.out)
    replace HO1_1 := Aside0.mk (Kd.V_drew HO1_1.out)
    replace BK280 := Aside0.mk (blk_drew BK280.out)
    replace BK281 := Aside0.mk (blk_drew BK281.out)
    replace BK282 := Aside0.mk (blk_drew BK282.out)
    replace HB := Aside0.mk (below_drew1 HB.out)
    refine start_ (n := 15) (S := fun w' => w'.cell? ⟨gb281, 0, none⟩ = some (.bool a1_0) ∧ w'.cell? ⟨gb281, 1, none⟩ = some (.slice A1_1 l1_1.length c1_1) ∧ w'.cell? ⟨gb281, 2, none⟩ = some (.int .i64 a1_2) ∧ w'.cell? ⟨gb280, 0, none⟩ = some (.bool a0_0) ∧ w'.cell? ⟨gb280, 1, none⟩ = some (.slice A0_1 l0_1.length c0_1) ∧ w'.cell? ⟨gb280, 2, none⟩ = some (.int .i64 a0_2)) (ds := []) #[false, false, false, false, false, false, false, false, false, false, false, false, false, false, false] (by kernel_rfl) rfl rfl ⟨(blk_cell BK281.out 0).trans rfl, (blk_cell BK281.out 1).trans rfl, (blk_cell BK281.out 2).trans rfl, (blk_cell BK280.out 0).trans rfl, (blk_cell BK280.out 1).trans rfl, (blk_cell BK280.out 2).trans rfl⟩ (fun hHeld => ?_); refine with_tabW dy_add.tab7 dy_add.bits7 (fun HT_ HW_ => ?_)
    generalize w58.drew = w64 at HO0_1 HO1_1 BK280 BK281 BK282 HB hHeld ⊢
    refine pure_ (i := 0) (N := some 28) (v := ?_) (a' := ?_) #[true, false, false, false, false, false, false, false, false, false, false, false, false, false, false] rfl rfl (any_of HT_.out (by kernel_rfl)) (fun _ _ _ h => h) (Or.inl ⟨by rfl, ?_⟩) ?_ ?_
    rotate_left
    ·intro w'
     go_simp
     with_reducible rfl
    rotate_left
    ·exact pt_
    refine pure_ (i := 1) (N := some 29) (v := ?_) (a' := ?_) #[true, true, false, false, false, false, false, false, false, false, false, false, false, false, false] rfl rfl (any_of HT_.out (by kernel_rfl)) (fun _ _ _ h => h) (Or.inl ⟨by rfl, ?_⟩) ?_ ?_
    rotate_left
    ·intro w'
     go_simp
     with_reducible rfl
    rotate_left
    ·exact pt_
    refine pure_ (i := 3) (N := some 31) (v := ?_) (a' := ?_) #[true, true, false, true, false, false, false, false, false, false, false, false, false, false, false] rfl rfl (any_of HT_.out (by kernel_rfl)) (fun _ _ _ h => h) (Or.inl ⟨by rfl, ?_⟩) ?_ ?_
    rotate_left
    ·intro w'
     go_simp
     with_reducible rfl
    rotate_left
    ·exact pt_
    refine pure_ (i := 4) (N := some 32) (v := ?_) (a' := ?_) #[true, true, false, true, true, false, false, false, false, false, false, false, false, false, false] rfl rfl (any_of HT_.out (by kernel_rfl)) (fun _ _ _ h => h) (Or.inl ⟨by rfl, ?_⟩) ?_ ?_
    rotate_left
    ·intro w'
     go_simp
     with_reducible rfl
    rotate_left
    ·exact pt_
    refine pure_ (i := 6) (N := some 34) (v := ?_) (a' := ?_) #[true, true, false, true, true, false, true, false, false, false, false, false, false, false, false] rfl rfl (any_of HT_.out (by kernel_rfl)) (fun _ _ _ h => h) (Or.inl ⟨by rfl, ?_⟩) ?_ ?_
    rotate_left
    ·intro w'
     go_simp
     with_reducible rfl
    rotate_left
    ·exact pt_
    refine pure_ (i := 8) (N := some 36) (v := ?_) (a' := ?_) #[true, true, false, true, true, false, true, false, true, false, false, false, false, false, false] rfl rfl (any_of HT_.out (by kernel_rfl)) (fun _ _ _ h => h) (Or.inl ⟨by rfl, ?_⟩) ?_ ?_
    rotate_left
    ·intro w'
     go_simp
     with_reducible rfl
    rotate_left
    ·exact pt_
    refine take_ (i := 2) (N := some 30) (v := ?_) (a' := ?_) #[true, true, true, true, true, false, true, false, true, false, false, false, false, false, false] rfl rfl (take_ofW HT_.out HW_.out (by kernel_rfl)) (fun _ _ _ h => h) (Or.inl ⟨by rfl, ?_⟩) hHeld ?_ ?_
    rotate_left
    ·rintro w' ⟨s0, s1, s2, s3, s4, s5⟩
     go_simp
     with_reducible rfl
    rotate_left
    ·exact pt_
    refine take_ (i := 5) (N := some 33) (v := ?_) (a' := ?_) #[true, true, true, true, true, true, true, false, true, false, false, false, false, false, false] rfl rfl (take_ofW HT_.out HW_.out (by kernel_rfl)) (fun _ _ _ h => h) (Or.inl ⟨by rfl, ?_⟩) hHeld ?_ ?_
    rotate_left
    ·rintro w' ⟨s0, s1, s2, s3, s4, s5⟩
     go_simp
     with_reducible rfl
    rotate_left
    ·exact pt_
    refine take_ (i := 7) (N := some 35) (v := ?_) (a' := ?_) #[true, true, true, true, true, true, true, true, true, false, false, false, false, false, false] rfl rfl (take_ofW HT_.out HW_.out (by kernel_rfl)) (fun _ _ _ h => h) (Or.inl ⟨by rfl, ?_⟩) hHeld ?_ ?_
    rotate_left
    ·rintro w' ⟨s0, s1, s2, s3, s4, s5⟩
     go_simp
     with_reducible rfl
    rotate_left
    ·exact pt_
    refine take_ (i := 9) (N := some 37) (v := ?_) (a' := ?_) #[true, true, true, true, true, true, true, true, true, true, false, false, false, false, false] rfl rfl (take_ofW HT_.out HW_.out (by kernel_rfl)) (fun _ _ _ h => h) (Or.inl ⟨by rfl, ?_⟩) hHeld ?_ ?_
    rotate_left
    ·rintro w' ⟨s0, s1, s2, s3, s4, s5⟩
     go_simp
     with_reducible rfl
    rotate_left
    ·exact pt_
    refine pure_ (i := 10) (N := some 38) (v := ?_) (a' := ?_) #[true, true, true, true, true, true, true, true, true, true, true, false, false, false, false] rfl rfl (any_of HT_.out (by kernel_rfl)) (fun _ _ _ h => h) (Or.inl ⟨by rfl, ?_⟩) ?_ ?_
    rotate_left
    ·intro w'
     go_simp
     with_reducible rfl
    rotate_left
    ·exact pt_
    refine join_ (σ := Value × Nat) 1 #[true, true, true, true, true, true, true, true, true, true, true, true, true, true, false] (fun s_ => [(39, s_.1), (5, .pointer (some ⟨s_.2, 0, none⟩)), (40, .agg #[.bool a1_0, s_.1])]) (fun s_ w' => (w'.cell? ⟨gb281, 0, none⟩ = some (.bool a1_0) ∧ w'.cell? ⟨gb281, 1, none⟩ = some (.slice A1_1 l1_1.length c1_1) ∧ w'.cell? ⟨gb281, 2, none⟩ = some (.int .i64 a1_2) ∧ w'.cell? ⟨gb280, 0, none⟩ = some (.bool a0_0) ∧ w'.cell? ⟨gb280, 1, none⟩ = some (.slice A0_1 l0_1.length c0_1) ∧ w'.cell? ⟨gb280, 2, none⟩ = some (.int .i64 a0_2)) ∧ (Kd.V (Kd.int .u32) 51 w' w.heap.size (fun k_ => ((P0_1_ k_ ∨ P1_1_ k_) ∨ w.heap.size ≤ k_) ∧ some k_ ≠ (s_.1 : Value).ownBlock ∧ k_ ≠ gb280 ∧ k_ ≠ gb281 ∧ k_ ≠ gb282 ∧ k_ ≠ s_.2) (.slice A0_1 l0_1.length c0_1) l0_1) ∧ (Kd.V (Kd.int .u32) 51 w' w.heap.size (fun k_ => ((P0_1_ k_ ∨ P1_1_ k_) ∨ w.heap.size ≤ k_) ∧ some k_ ≠ (s_.1 : Value).ownBlock ∧ k_ ≠ gb280 ∧ k_ ≠ gb281 ∧ k_ ≠ gb282 ∧ k_ ≠ s_.2) (.slice A1_1 l1_1.length c1_1) l1_1) ∧ (Kd.R (Kd.int .u32) 51 w' w.heap.size (fun k_ => (w.heap.size ≤ k_)) s_.1 t296) ∧ (w'.heap[gb280]? = some (.cells #[.bool a0_0, .slice A0_1 l0_1.length c0_1, .int .i64 a0_2] 27 (0, 0))) ∧ (w'.heap[gb281]? = some (.cells #[.bool a1_0, .slice A1_1 l1_1.length c1_1, .int .i64 a1_2] 27 (0, 0))) ∧ (w'.heap[gb282]? = some (.cells #[.bool false, .slice none 0 0, .int .i64 0] 27 (0, 0))) ∧ (w'.heap[s_.2]? = some (.cells #[.bool false, .slice none 0 0] 24 (0, 0))) ∧ (w.heap.size ≤ s_.2) ∧ (w.heap.size ≤ s_.2) ∧ (gb280 ≠ s_.2) ∧ (s_.2 ≠ gb280) ∧ (gb281 ≠ s_.2) ∧ (s_.2 ≠ gb281) ∧ (gb282 ≠ s_.2) ∧ (s_.2 ≠ gb282) ∧ (Below w.heap.size w w')) ?_ ?_
    rotate_left
    ·intro hCont
     refine two_ (i := 11) (j := 13) (Ni := some 39) (Nj := some 5) #[true, true, true, true, true, true, true, true, true, true, true, true, false, false, false] #[true, true, true, true, true, true, true, true, true, true, true, false, false, true, false] rfl rfl rfl rfl (two_of HT_.out (by kernel_rfl)) (by decide) (by decide) (fun K hK => ?_) (fun K hK => ?_)
     ·skip
      refine gs_ Tryd.func52 #[.slice A1_1 l1_1.length c1_1, .int .i64 (wrap64 (a1_2 - a0_2))] ?_
      with_reducible refine (nat_Shl.calls k _ _ l1_1 (wrap64 (a1_2 - a0_2)) t296 _ ?side1 ?side2 A53.out).mono ?_
      (case side1 => exact kc_ (Kd.V_reads' HO1_1.out).2.2)
      (case side2 => exact (Kd.V_reads' HO1_1.out).2.1)
      rintro e w65 ⟨v297, rfl, ho0, hb⟩
      refine ⟨_, rfl, ?_⟩
      have n0_ := Aside0.mk (Kd.V_elder' (by (with_reducible repeat (first | apply Kd.V_alloc | apply Kd.V_drewN | apply Kd.V_drew)); exact HO0_1.out) (Kd.R_base ho0) hb)
      have n1_ := Aside0.mk (Kd.V_elder' (by (with_reducible repeat (first | apply Kd.V_alloc | apply Kd.V_drewN | apply Kd.V_drew)); exact HO1_1.out) (Kd.R_base ho0) hb)
      have n2_ := Aside0.mk (Kd.R_lower (Kd.R_newM (M := fun k_ => (w.heap.size ≤ k_)) ho0 (below_size (bw_ HB.out)) (fun k_ h_ => h_)) (below_size (bw_ HB.out)))
      have n3_ := kq_ BK280 hb
      have n4_ := kq_ BK281 hb
      have n5_ := kq_ BK282 hb
      have n6_ := bq_ HB hb
      clear HO0_1
      clear HO1_1
      clear BK280
      clear BK281
      clear BK282
      clear HB
      have HO0_1 := n0_
      have HO1_1 := n1_
      have HO298 := n2_
      have BK280 := n3_
      have BK281 := n4_
      have BK282 := n5_
      have HB := n6_
      clear n0_ n1_ n2_ n3_ n4_ n5_ n6_
      (try clear hb)
      (try clear hb2)
      (try clear hk)
      (try clear hi)
      (try clear ho0)
      obtain ⟨Ao66, co66, eo66⟩ := Kd.R_slice HO298.out
      (first | subst eo66 | (injection eo66 with f1_ f2_ f3_; have f4_ := f1_.symm; have f5_ := f3_.symm; clear f1_ f2_ f3_; subst f4_; subst f5_))
      refine hK.out _ _ ⟨(blk_cell BK281.out 0).trans rfl, (blk_cell BK281.out 1).trans rfl, (blk_cell BK281.out 2).trans rfl, (blk_cell BK280.out 0).trans rfl, (blk_cell BK280.out 1).trans rfl, (blk_cell BK280.out 2).trans rfl⟩ (fun hHeld => ?_)
      clear hK K
      refine norm_ (a' := ?_) ?_ ?_
      rotate_left
      ·show Act.put _ (some 39) _ = _
       exact pt_
      refine pure_ (i := 12) (N := some 40) (v := ?_) (a' := ?_) #[true, true, true, true, true, true, true, true, true, true, true, true, true, false, false] rfl rfl (any_of HT_.out (by kernel_rfl)) (fun _ _ _ h => h) (Or.inl ⟨by rfl, ?_⟩) ?_ ?_
      rotate_left
      ·intro w'
       go_simp
       with_reducible rfl
      rotate_left
      ·exact pt_
      refine one_ (i := 13) (N := some 5) #[true, true, true, true, true, true, true, true, true, true, true, true, true, true, false] rfl rfl (one_of HT_.out (by kernel_rfl)) (by decide) (fun K hK => ?_)
      refine box_step ?hg (N := 5) ?hd (cs := #[.bool false, .slice none 0 0]) (t := 24) ?hr ?_; (case hd => rfl); (case hg => rfl); (case hr => first | (go_simp; done) | (go_simp; rfl))
      intro gb299 hg w67 hbox hb
      have n0_ := Aside0.mk (Kd.V_below (Kd.V_elderB (by (with_reducible repeat (first | apply Kd.V_alloc | apply Kd.V_drewN | apply Kd.V_drew)); exact HO0_1.out) gb299 (Nat.le_of_eq hg.symm)) hb)
      have n1_ := Aside0.mk (Kd.V_below (Kd.V_elderB (by (with_reducible repeat (first | apply Kd.V_alloc | apply Kd.V_drewN | apply Kd.V_drew)); exact HO1_1.out) gb299 (Nat.le_of_eq hg.symm)) hb)
      have n2_ := Aside0.mk (Kd.R_below (kr_ HO298.out) hb)
      have n3_ := kq_ BK280 hb
      have n4_ := kq_ BK281 hb
      have n5_ := kq_ BK282 hb
      have n6_ := bq_ HB hb
      have n7_ := Aside0.mk (hbox)
      have n8_ := ge_ hg HB
      have n9_ := ge_ hg HB
      have n10_ := nb_ hg BK280
      have n11_ := nc_ hg BK280
      have n12_ := nb_ hg BK281
      have n13_ := nc_ hg BK281
      have n14_ := nb_ hg BK282
      have n15_ := nc_ hg BK282
      clear HO0_1
      clear HO1_1
      clear HO298
      clear BK280
      clear BK281
      clear BK282
      clear HB
      have HO0_1 := n0_
      have HO1_1 := n1_
      have HO298 := n2_
      have BK280 := n3_
      have BK281 := n4_
      have BK282 := n5_
      have HB := n6_
      have BK299 := n7_
      have GW299 := n8_
      have GE299 := n9_
      have NB280_299 := n10_
      have NB299_280 := n11_
      have NB281_299 := n12_
      have NB299_281 := n13_
      have NB282_299 := n14_
      have NB299_282 := n15_
      clear n0_ n1_ n2_ n3_ n4_ n5_ n6_ n7_ n8_ n9_ n10_ n11_ n12_ n13_ n14_ n15_
      clear hb hbox hg
      refine hK.out _ _ ⟨(blk_cell BK281.out 0).trans rfl, (blk_cell BK281.out 1).trans rfl, (blk_cell BK281.out 2).trans rfl, (blk_cell BK280.out 0).trans rfl, (blk_cell BK280.out 1).trans rfl, (blk_cell BK280.out 2).trans rfl⟩ (fun hHeld => ?_)
      clear hK K
      refine norm_ (a' := ?_) ?_ ?_
      rotate_left
      ·show Act.put _ (some 5) _ = _
       exact pt_
      exact norm_ (by simp only [putAll, Act.put, List.setIfInBounds_toArray, List.set_cons_zero, List.set_cons_succ]) (hCont (.slice Ao66 t296.length co66, gb299) _ ⟨hHeld, (by (with_reducible repeat (first | apply Kd.V_alloc | apply Kd.V_drewN | apply Kd.V_drew)); exact Kd.V_mono HO0_1.out (fun _ hk => by first | exact ⟨hk.1.1.1.1.1, ⟨hk.1.2, ⟨hk.1.1.1.1.2, ⟨hk.1.1.1.2, ⟨hk.1.1.2, hk.2⟩⟩⟩⟩⟩ | simp [hk])), (by (with_reducible repeat (first | apply Kd.V_alloc | apply Kd.V_drewN | apply Kd.V_drew)); exact Kd.V_mono HO1_1.out (fun _ hk => by first | exact ⟨hk.1.1.1.1.1, ⟨hk.1.2, ⟨hk.1.1.1.1.2, ⟨hk.1.1.1.2, ⟨hk.1.1.2, hk.2⟩⟩⟩⟩⟩ | simp [hk])), (kr_ (Kd.R_mono HO298.out (fun _ hk => hk.1))), (kb_ BK280.out), (kb_ BK281.out), (kb_ BK282.out), (kb_ BK299.out), GW299.out, GE299.out, NB280_299.out, NB299_280.out, NB281_299.out, NB299_281.out, NB282_299.out, NB299_282.out, (bw_ HB.out)⟩)
     ·skip
      refine box_step ?hg (N := 5) ?hd (cs := #[.bool false, .slice none 0 0]) (t := 24) ?hr ?_; (case hd => rfl); (case hg => rfl); (case hr => first | (go_simp; done) | (go_simp; rfl))
      intro gb299 hg w65 hbox hb
      have n0_ := Aside0.mk (Kd.V_below (Kd.V_elderB (by (with_reducible repeat (first | apply Kd.V_alloc | apply Kd.V_drewN | apply Kd.V_drew)); exact HO0_1.out) gb299 (Nat.le_of_eq hg.symm)) hb)
      have n1_ := Aside0.mk (Kd.V_below (Kd.V_elderB (by (with_reducible repeat (first | apply Kd.V_alloc | apply Kd.V_drewN | apply Kd.V_drew)); exact HO1_1.out) gb299 (Nat.le_of_eq hg.symm)) hb)
      have n2_ := kq_ BK280 hb
      have n3_ := kq_ BK281 hb
      have n4_ := kq_ BK282 hb
      have n5_ := bq_ HB hb
      have n6_ := Aside0.mk (hbox)
      have n7_ := ge_ hg HB
      have n8_ := ge_ hg HB
      have n9_ := nb_ hg BK280
      have n10_ := nc_ hg BK280
      have n11_ := nb_ hg BK281
      have n12_ := nc_ hg BK281
      have n13_ := nb_ hg BK282
      have n14_ := nc_ hg BK282
      clear HO0_1
      clear HO1_1
      clear BK280
      clear BK281
      clear BK282
      clear HB
      have HO0_1 := n0_
      have HO1_1 := n1_
      have BK280 := n2_
      have BK281 := n3_
      have BK282 := n4_
      have HB := n5_
      have BK299 := n6_
      have GW299 := n7_
      have GE299 := n8_
      have NB280_299 := n9_
      have NB299_280 := n10_
      have NB281_299 := n11_
      have NB299_281 := n12_
      have NB282_299 := n13_
      have NB299_282 := n14_
      clear n0_ n1_ n2_ n3_ n4_ n5_ n6_ n7_ n8_ n9_ n10_ n11_ n12_ n13_ n14_
      clear hb hbox hg
      refine hK.out _ _ ⟨(blk_cell BK281.out 0).trans rfl, (blk_cell BK281.out 1).trans rfl, (blk_cell BK281.out 2).trans rfl, (blk_cell BK280.out 0).trans rfl, (blk_cell BK280.out 1).trans rfl, (blk_cell BK280.out 2).trans rfl⟩ (fun hHeld => ?_)
      clear hK K
      refine norm_ (a' := ?_) ?_ ?_
      rotate_left
      ·show Act.put _ (some 5) _ = _
       exact pt_
      refine one_ (i := 11) (N := some 39) #[true, true, true, true, true, true, true, true, true, true, true, true, false, true, false] rfl rfl (one_of HT_.out (by kernel_rfl)) (by decide) (fun K hK => ?_)
      refine gs_ Tryd.func52 #[.slice A1_1 l1_1.length c1_1, .int .i64 (wrap64 (a1_2 - a0_2))] ?_
      with_reducible refine (nat_Shl.calls k _ _ l1_1 (wrap64 (a1_2 - a0_2)) t296 _ ?side1 ?side2 A53.out).mono ?_
      (case side1 => exact kc_ (Kd.V_reads' HO1_1.out).2.2)
      (case side2 => exact (Kd.V_reads' HO1_1.out).2.1)
      rintro e w66 ⟨v297, rfl, ho0, hb⟩
      refine ⟨_, rfl, ?_⟩
      have n0_ := Aside0.mk (Kd.V_elder' (by (with_reducible repeat (first | apply Kd.V_alloc | apply Kd.V_drewN | apply Kd.V_drew)); exact HO0_1.out) (Kd.R_base ho0) hb)
      have n1_ := Aside0.mk (Kd.V_elder' (by (with_reducible repeat (first | apply Kd.V_alloc | apply Kd.V_drewN | apply Kd.V_drew)); exact HO1_1.out) (Kd.R_base ho0) hb)
      have n2_ := Aside0.mk (Kd.R_lower (Kd.R_newM (M := fun k_ => (w.heap.size ≤ k_)) ho0 (below_size (bw_ HB.out)) (fun k_ h_ => h_)) (below_size (bw_ HB.out)))
      have n3_ := kq_ BK280 hb
      have n4_ := kq_ BK281 hb
      have n5_ := kq_ BK282 hb
      have n6_ := kq_ BK299 hb
      have n7_ := bq_ HB hb
      clear HO0_1
      clear HO1_1
      clear BK280
      clear BK281
      clear BK282
      clear BK299
      clear HB
      have HO0_1 := n0_
      have HO1_1 := n1_
      have HO298 := n2_
      have BK280 := n3_
      have BK281 := n4_
      have BK282 := n5_
      have BK299 := n6_
      have HB := n7_
      clear n0_ n1_ n2_ n3_ n4_ n5_ n6_ n7_
      (try clear hb)
      (try clear hb2)
      (try clear hk)
      (try clear hi)
      (try clear ho0)
      obtain ⟨Ao67, co67, eo67⟩ := Kd.R_slice HO298.out
      (first | subst eo67 | (injection eo67 with f1_ f2_ f3_; have f4_ := f1_.symm; have f5_ := f3_.symm; clear f1_ f2_ f3_; subst f4_; subst f5_))
      refine hK.out _ _ ⟨(blk_cell BK281.out 0).trans rfl, (blk_cell BK281.out 1).trans rfl, (blk_cell BK281.out 2).trans rfl, (blk_cell BK280.out 0).trans rfl, (blk_cell BK280.out 1).trans rfl, (blk_cell BK280.out 2).trans rfl⟩ (fun hHeld => ?_)
      clear hK K
      refine norm_ (a' := ?_) ?_ ?_
      rotate_left
      ·show Act.put _ (some 39) _ = _
       exact pt_
      refine pure_ (i := 12) (N := some 40) (v := ?_) (a' := ?_) #[true, true, true, true, true, true, true, true, true, true, true, true, true, true, false] rfl rfl (any_of HT_.out (by kernel_rfl)) (fun _ _ _ h => h) (Or.inl ⟨by rfl, ?_⟩) ?_ ?_
      rotate_left
      ·intro w'
       go_simp
       with_reducible rfl
      rotate_left
      ·exact pt_
      exact norm_ (by simp only [putAll, Act.put, List.setIfInBounds_toArray, List.set_cons_zero, List.set_cons_succ]) (hCont (.slice Ao67 t296.length co67, gb299) _ ⟨hHeld, (by (with_reducible repeat (first | apply Kd.V_alloc | apply Kd.V_drewN | apply Kd.V_drew)); exact Kd.V_mono HO0_1.out (fun _ hk => by first | exact ⟨hk.1.1.1.1.1, ⟨hk.2, ⟨hk.1.1.1.1.2, ⟨hk.1.1.1.2, ⟨hk.1.1.2, hk.1.2⟩⟩⟩⟩⟩ | simp [hk])), (by (with_reducible repeat (first | apply Kd.V_alloc | apply Kd.V_drewN | apply Kd.V_drew)); exact Kd.V_mono HO1_1.out (fun _ hk => by first | exact ⟨hk.1.1.1.1.1, ⟨hk.2, ⟨hk.1.1.1.1.2, ⟨hk.1.1.1.2, ⟨hk.1.1.2, hk.1.2⟩⟩⟩⟩⟩ | simp [hk])), (kr_ (Kd.R_mono HO298.out (fun _ hk => hk.1))), (kb_ BK280.out), (kb_ BK281.out), (kb_ BK282.out), (kb_ BK299.out), GW299.out, GE299.out, NB280_299.out, NB299_280.out, NB281_299.out, NB299_281.out, NB282_299.out, NB299_282.out, (bw_ HB.out)⟩)
    rintro ⟨v297, gb299⟩ w68 ⟨hS_, h0_, h1_, h2_, h3_, h4_, h5_, h6_, h7_, h8_, h9_, h10_, h11_, h12_, h13_, h14_, h15_⟩
    have HO298 := Aside0.mk h2_
    have BK299 := Aside0.mk h6_
    have GW299 := Aside0.mk h7_
    have GE299 := Aside0.mk h8_
    have NB280_299 := Aside0.mk h9_
    have NB299_280 := Aside0.mk h10_
    have NB281_299 := Aside0.mk h11_
    have NB299_281 := Aside0.mk h12_
    have NB282_299 := Aside0.mk h13_
    have NB299_282 := Aside0.mk h14_
    replace HO0_1 := Aside0.mk h0_
    replace HO1_1 := Aside0.mk h1_
    replace BK280 := Aside0.mk h3_
    replace BK281 := Aside0.mk h4_
    replace BK282 := Aside0.mk h5_
    replace HB := Aside0.mk h15_
    clear h0_ h1_ h2_ h3_ h4_ h5_ h6_ h7_ h8_ h9_ h10_ h11_ h12_ h13_ h14_ h15_
    have hHeld : w68.cell? ⟨gb281, 0, none⟩ = some (.bool a1_0) ∧ w68.cell? ⟨gb281, 1, none⟩ = some (.slice A1_1 l1_1.length c1_1) ∧ w68.cell? ⟨gb281, 2, none⟩ = some (.int .i64 a1_2) ∧ w68.cell? ⟨gb280, 0, none⟩ = some (.bool a0_0) ∧ w68.cell? ⟨gb280, 1, none⟩ = some (.slice A0_1 l0_1.length c0_1) ∧ w68.cell? ⟨gb280, 2, none⟩ = some (.int .i64 a0_2) := hS_
    obtain ⟨Ao69, co69, eo69⟩ := Kd.R_slice HO298.out
    (first | subst eo69 | (injection eo69 with f1_ f2_ f3_; have f4_ := f1_.symm; have f5_ := f3_.symm; clear f1_ f2_ f3_; subst f4_; subst f5_))
    refine norm_ (a' := ?_) ?_ ?_
    rotate_left
    ·simp only [putAll, Act.put, List.setIfInBounds_toArray, List.set_cons_zero, List.set_cons_succ]
     rfl
    refine one_ (i := 14) (N := none) #[true, true, true, true, true, true, true, true, true, true, true, true, true, true, true] rfl rfl (one_of HT_.out (by kernel_rfl)) (by decide) (fun K hK => ?_)
    have hs70 : w68.cell? ⟨gb299, 0, none⟩ = some (.bool false) := (blk_cell BK299.out 0).trans rfl
    have hfs70 := fz_ BK299 0
    have hns70_0 := NB280_299.out
    have hns70_1 := NB281_299.out
    have hns70_2 := NB282_299.out
    have hms70_0 := NB299_280.out
    have hms70_1 := NB299_281.out
    have hms70_2 := NB299_282.out
    have hs71 : w68.cell? ⟨gb299, 1, none⟩ = some (.slice none 0 0) := (blk_cell BK299.out 1).trans rfl
    have hfs71 := fz_ BK299 1
    have hns71_0 := NB280_299.out
    have hns71_1 := NB281_299.out
    have hns71_2 := NB282_299.out
    have hms71_0 := NB299_280.out
    have hms71_1 := NB299_281.out
    have hms71_2 := NB299_282.out
    refine skip_ (w1 := ?_) (by rfl) rfl ?_ ?_
    rotate_left
    ·go_simp
     rfl
    refine hK.out _ _ ⟨((cell_far (p := ⟨gb299, _, none⟩) NB281_299.out _).trans (((cell_far (p := ⟨gb299, _, none⟩) NB281_299.out _).trans (hHeld.1)))), ((cell_far (p := ⟨gb299, _, none⟩) NB281_299.out _).trans (((cell_far (p := ⟨gb299, _, none⟩) NB281_299.out _).trans (hHeld.2.1)))), ((cell_far (p := ⟨gb299, _, none⟩) NB281_299.out _).trans (((cell_far (p := ⟨gb299, _, none⟩) NB281_299.out _).trans (hHeld.2.2.1)))), ((cell_far (p := ⟨gb299, _, none⟩) NB280_299.out _).trans (((cell_far (p := ⟨gb299, _, none⟩) NB280_299.out _).trans (hHeld.2.2.2.1)))), ((cell_far (p := ⟨gb299, _, none⟩) NB280_299.out _).trans (((cell_far (p := ⟨gb299, _, none⟩) NB280_299.out _).trans (hHeld.2.2.2.2.1)))), ((cell_far (p := ⟨gb299, _, none⟩) NB280_299.out _).trans (((cell_far (p := ⟨gb299, _, none⟩) NB280_299.out _).trans (hHeld.2.2.2.2.2))))⟩ (fun hHeld => ?_)
    clear hK K
    refine done_ (done_of HT_.out (by kernel_rfl)) ?_
    try go_wp2
    have n0_ : Aside0 (Kd.V (Kd.int .u32) 51 ((w68.setCell ⟨gb299, 0, none⟩ (.bool a1_0)).setCell ⟨gb299, 1, none⟩ (.slice Ao69 t296.length co69)) w.heap.size (fun k_ => ((P0_1_ k_ ∨ P1_1_ k_) ∨ w.heap.size ≤ k_) ∧ some k_ ≠ (.slice Ao69 t296.length co69 : Value).ownBlock ∧ k_ ≠ gb280 ∧ k_ ≠ gb281 ∧ k_ ≠ gb282 ∧ k_ ≠ gb299) (.slice A0_1 l0_1.length c0_1) l0_1) := ⟨by (with_reducible repeat (first | apply Kd.V_alloc | apply Kd.V_drewN | apply Kd.V_drew)); exact Kd.V_mono (Kd.V_far (p := ⟨gb299, 1, none⟩) (Kd.V_far (p := ⟨gb299, 0, none⟩) (Kd.V_mono HO0_1.out (fun k_ hk => (⟨hk, hk.2.2.2.2.2⟩ : _ ∧ k_ ≠ gb299))) (fun _ hk => hk.2) (.bool a1_0)) (fun _ hk => hk.2) (.slice Ao69 t296.length co69)) (fun _ hk => by first | exact ⟨hk.1.1, ⟨hk.1.2.1, ⟨hk.1.2.2.1, ⟨hk.1.2.2.2.1, ⟨hk.1.2.2.2.2.1, hk.1.2.2.2.2.2⟩⟩⟩⟩⟩ | simp [hk])⟩
    have n1_ : Aside0 (Kd.V (Kd.int .u32) 51 ((w68.setCell ⟨gb299, 0, none⟩ (.bool a1_0)).setCell ⟨gb299, 1, none⟩ (.slice Ao69 t296.length co69)) w.heap.size (fun k_ => ((P0_1_ k_ ∨ P1_1_ k_) ∨ w.heap.size ≤ k_) ∧ some k_ ≠ (.slice Ao69 t296.length co69 : Value).ownBlock ∧ k_ ≠ gb280 ∧ k_ ≠ gb281 ∧ k_ ≠ gb282 ∧ k_ ≠ gb299) (.slice A1_1 l1_1.length c1_1) l1_1) := ⟨by (with_reducible repeat (first | apply Kd.V_alloc | apply Kd.V_drewN | apply Kd.V_drew)); exact Kd.V_mono (Kd.V_far (p := ⟨gb299, 1, none⟩) (Kd.V_far (p := ⟨gb299, 0, none⟩) (Kd.V_mono HO1_1.out (fun k_ hk => (⟨hk, hk.2.2.2.2.2⟩ : _ ∧ k_ ≠ gb299))) (fun _ hk => hk.2) (.bool a1_0)) (fun _ hk => hk.2) (.slice Ao69 t296.length co69)) (fun _ hk => by first | exact ⟨hk.1.1, ⟨hk.1.2.1, ⟨hk.1.2.2.1, ⟨hk.1.2.2.2.1, ⟨hk.1.2.2.2.2.1, hk.1.2.2.2.2.2⟩⟩⟩⟩⟩ | simp [hk])⟩
    have n2_ : Aside0 (Kd.R (Kd.int .u32) 51 ((w68.setCell ⟨gb299, 0, none⟩ (.bool a1_0)).setCell ⟨gb299, 1, none⟩ (.slice Ao69 t296.length co69)) w.heap.size (fun k_ => (w.heap.size ≤ k_)) (.slice Ao69 t296.length co69) t296) := ⟨by (with_reducible repeat (first | apply Kd.R_alloc | apply Kd.R_drewN | apply Kd.R_drew)); exact Kd.R_mono (Kd.R_far (p := ⟨gb299, 1, none⟩) (Kd.R_far (p := ⟨gb299, 0, none⟩) (Kd.R_types HO298.out BK299.out (by decide)) (fun _ hk => hk.2) (.bool a1_0)) (fun _ hk => hk.2) (.slice Ao69 t296.length co69)) (fun _ hk => hk.1)⟩
    have n3_ : Aside0 (((w68.setCell ⟨gb299, 0, none⟩ (.bool a1_0)).setCell ⟨gb299, 1, none⟩ (.slice Ao69 t296.length co69)).heap[gb280]? = some (.cells #[.bool a0_0, .slice A0_1 l0_1.length c0_1, .int .i64 a0_2] 27 (0, 0))) := ⟨by refine kb_ ?_; refine bf_ NB280_299 ?_; refine bf_ NB280_299 ?_; exact BK280.out⟩
    have n4_ : Aside0 (((w68.setCell ⟨gb299, 0, none⟩ (.bool a1_0)).setCell ⟨gb299, 1, none⟩ (.slice Ao69 t296.length co69)).heap[gb281]? = some (.cells #[.bool a1_0, .slice A1_1 l1_1.length c1_1, .int .i64 a1_2] 27 (0, 0))) := ⟨by refine kb_ ?_; refine bf_ NB281_299 ?_; refine bf_ NB281_299 ?_; exact BK281.out⟩
    have n5_ : Aside0 (((w68.setCell ⟨gb299, 0, none⟩ (.bool a1_0)).setCell ⟨gb299, 1, none⟩ (.slice Ao69 t296.length co69)).heap[gb282]? = some (.cells #[.bool false, .slice none 0 0, .int .i64 0] 27 (0, 0))) := ⟨by refine kb_ ?_; refine bf_ NB282_299 ?_; refine bf_ NB282_299 ?_; exact BK282.out⟩
    have n6_ : Aside0 (((w68.setCell ⟨gb299, 0, none⟩ (.bool a1_0)).setCell ⟨gb299, 1, none⟩ (.slice Ao69 t296.length co69)).heap[gb299]? = some (.cells #[.bool a1_0, .slice Ao69 t296.length co69] 24 (0, 0))) := ⟨by refine kb_ ?_; refine bp_ #[.bool a1_0, .slice none 0 0] 1 ?_; refine bp_ #[.bool false, .slice none 0 0] 0 ?_; exact BK299.out⟩
    have n7_ : Aside0 (Below w.heap.size w ((w68.setCell ⟨gb299, 0, none⟩ (.bool a1_0)).setCell ⟨gb299, 1, none⟩ (.slice Ao69 t296.length co69))) := ⟨bw_ HB.out⟩
    (try clear HO0_1)
    (try clear HO1_1)
    (try clear HO298)
    (try clear BK280)
    (try clear BK281)
    (try clear BK282)
    (try clear BK299)
    (try clear HB)
    generalize ((w68.setCell ⟨gb299, 0, none⟩ (.bool a1_0)).setCell ⟨gb299, 1, none⟩ (.slice Ao69 t296.length co69)) = w72 at n0_ n1_ n2_ n3_ n4_ n5_ n6_ n7_ ⊢
    have HO0_1 := n0_
    have HO1_1 := n1_
    have HO298 := n2_
    have BK280 := n3_
    have BK281 := n4_
    have BK282 := n5_
    have BK299 := n6_
    have HB := n7_
    clear n0_ n1_ n2_ n3_ n4_ n5_ n6_ n7_
    replace HO0_1 := Aside0.mk (Kd.V_drew HO0_1.out)
    replace HO1_1 := Aside0.mk (Kd.V_drew HO1_1.out)
    replace HO298 := Aside0.mk (Kd.R_drew HO298.out)
    replace BK280 := Aside0.mk (blk_drew BK280.out)
    replace BK281 := Aside0.mk (blk_drew BK281.out)
    replace BK282 := Aside0.mk (blk_drew BK282.out)
    replace BK299 := Aside0.mk (blk_drew BK299.out)
    replace HB := Aside0.mk (below_drew1 HB.out)
    refine start_ (n := 8) (S := fun w' => w'.cell? ⟨gb280, 0, none⟩ = some (.bool a0_0) ∧ w'.cell? ⟨gb280, 1, none⟩ = some (.slice A0_1 l0_1.length c0_1) ∧ w'.cell? ⟨gb280, 2, none⟩ = some (.int .i64 a0_2) ∧ w'.cell? ⟨gb299, 0, none⟩ = some (.bool a1_0) ∧ w'.cell? ⟨gb299, 1, none⟩ = some (.slice Ao69 t296.length co69)) (ds := []) #[false, false, false, false, false, false, false, false] (by kernel_rfl) rfl rfl ⟨(blk_cell BK280.out 0).trans rfl, (blk_cell BK280.out 1).trans rfl, (blk_cell BK280.out 2).trans rfl, (blk_cell BK299.out 0).trans rfl, (blk_cell BK299.out 1).trans rfl⟩ (fun hHeld => ?_); refine with_tabW dy_add.tab8 dy_add.bits8 (fun HT_ HW_ => ?_)
    generalize w72.drew = w73 at HO0_1 HO1_1 HO298 BK280 BK281 BK282 BK299 HB hHeld ⊢
    refine pure_ (i := 0) (N := some 41) (v := ?_) (a' := ?_) #[true, false, false, false, false, false, false, false] rfl rfl (any_of HT_.out (by kernel_rfl)) (fun _ _ _ h => h) (Or.inl ⟨by rfl, ?_⟩) ?_ ?_
    rotate_left
    ·intro w'
     go_simp
     with_reducible rfl
    rotate_left
    ·exact pt_
    refine pure_ (i := 4) (N := some 45) (v := ?_) (a' := ?_) #[true, false, false, false, true, false, false, false] rfl rfl (any_of HT_.out (by kernel_rfl)) (fun _ _ _ h => h) (Or.inl ⟨by rfl, ?_⟩) ?_ ?_
    rotate_left
    ·intro w'
     go_simp
     with_reducible rfl
    rotate_left
    ·exact pt_
    refine take_ (i := 1) (N := some 42) (v := ?_) (a' := ?_) #[true, true, false, false, true, false, false, false] rfl rfl (take_ofW HT_.out HW_.out (by kernel_rfl)) (fun _ _ _ h => h) (Or.inl ⟨by rfl, ?_⟩) hHeld ?_ ?_
    rotate_left
    ·rintro w' ⟨s0, s1, s2, s3, s4⟩
     go_simp
     with_reducible rfl
    rotate_left
    ·exact pt_
    refine take_ (i := 2) (N := some 43) (v := ?_) (a' := ?_) #[true, true, true, false, true, false, false, false] rfl rfl (take_ofW HT_.out HW_.out (by kernel_rfl)) (fun _ _ _ h => h) (Or.inl ⟨by rfl, ?_⟩) hHeld ?_ ?_
    rotate_left
    ·rintro w' ⟨s0, s1, s2, s3, s4⟩
     go_simp
     with_reducible rfl
    rotate_left
    ·exact pt_
    refine take_ (i := 5) (N := some 46) (v := ?_) (a' := ?_) #[true, true, true, false, true, true, false, false] rfl rfl (take_ofW HT_.out HW_.out (by kernel_rfl)) (fun _ _ _ h => h) (Or.inl ⟨by rfl, ?_⟩) hHeld ?_ ?_
    rotate_left
    ·rintro w' ⟨s0, s1, s2, s3, s4⟩
     go_simp
     with_reducible rfl
    rotate_left
    ·exact pt_
    refine one_ (i := 3) (N := some 44) #[true, true, true, true, true, true, false, false] rfl rfl (one_of HT_.out (by kernel_rfl)) (by decide) (fun K hK => ?_)
    refine gs_ Tryd.func24 #[.agg #[.bool a0_0, .slice A0_1 l0_1.length c0_1], .agg #[.bool a1_0, .slice Ao69 t296.length co69]] ?_
    with_reducible refine (whole_Add.calls k a0_0 _ _ l0_1 a1_0 _ _ t296 t300 t301 _ ?side1 ?side2 ?side3 ?side4 A54.out).mono ?_
    (case side1 => exact kc_ (Kd.V_reads' HO0_1.out).2.2)
    (case side2 => exact (Kd.V_reads' HO0_1.out).2.1)
    (case side3 => exact kc_ (Kd.R_reads' HO298.out).2.2)
    (case side4 => exact (Kd.R_reads' HO298.out).2.1)
    rintro e w74 ⟨v302, rfl, ho0, hb⟩
    refine ⟨_, rfl, ?_⟩
    have n0_ := Aside0.mk (Kd.V_elder' (by (with_reducible repeat (first | apply Kd.V_alloc | apply Kd.V_drewN | apply Kd.V_drew)); exact HO0_1.out) (Kd.R_base ho0) hb)
    have n1_ := Aside0.mk (Kd.V_elder' (by (with_reducible repeat (first | apply Kd.V_alloc | apply Kd.V_drewN | apply Kd.V_drew)); exact HO1_1.out) (Kd.R_base ho0) hb)
    have n2_ := Aside0.mk (Kd.R_elder' (kr_ HO298.out) (Kd.R_base ho0) hb)
    have n3_ := Aside0.mk (Kd.R_lower (Kd.R_new' (Kd.R_newM (M := fun k_ => (w.heap.size ≤ k_)) ho0 (below_size (bw_ HB.out)) (fun k_ h_ => h_)) (Kd.R_lt (kr_ HO298.out))) (below_size (bw_ HB.out)))
    have n4_ := kq_ BK280 hb
    have n5_ := kq_ BK281 hb
    have n6_ := kq_ BK282 hb
    have n7_ := kq_ BK299 hb
    have n8_ := bq_ HB hb
    clear HO0_1
    clear HO1_1
    clear HO298
    clear BK280
    clear BK281
    clear BK282
    clear BK299
    clear HB
    have HO0_1 := n0_
    have HO1_1 := n1_
    have HO298 := n2_
    have HO303 := n3_
    have BK280 := n4_
    have BK281 := n5_
    have BK282 := n6_
    have BK299 := n7_
    have HB := n8_
    clear n0_ n1_ n2_ n3_ n4_ n5_ n6_ n7_ n8_
    (try clear hb)
    (try clear hb2)
    (try clear hk)
    (try clear hi)
    (try clear ho0)
    obtain ⟨Ao75, co75, eo75⟩ := Kd.R_slice HO303.out
    (first | subst eo75 | (injection eo75 with f1_ f2_ f3_; have f4_ := f1_.symm; have f5_ := f3_.symm; clear f1_ f2_ f3_; subst f4_; subst f5_))
    refine hK.out _ _ ⟨(blk_cell BK280.out 0).trans rfl, (blk_cell BK280.out 1).trans rfl, (blk_cell BK280.out 2).trans rfl, (blk_cell BK299.out 0).trans rfl, (blk_cell BK299.out 1).trans rfl⟩ (fun hHeld => ?_)
    clear hK K
    refine norm_ (a' := ?_) ?_ ?_
    rotate_left
    ·show Act.put _ (some 44) _ = _
     exact pt_
    refine one_ (i := 6) (N := some 47) #[true, true, true, true, true, true, true, false] rfl rfl (one_of HT_.out (by kernel_rfl)) (by decide) (fun K hK => ?_)
    refine gs_ Tryd.func10 #[.agg #[.bool t300, .slice Ao75 t301.length co75], .int .i64 a0_2] ?_
    with_reducible refine (dy_Make.calls k t300 _ _ t301 a0_2 t304 t305 t308 _ ?side1 ?side2 A55.out ?sidet).mono ?_
    (case sidet => exact Kd.C_below HTAB.out (bw_ HB.out))
    (case side1 => exact kc_ (Kd.R_reads' HO303.out).2.2)
    (case side2 => exact (Kd.R_reads' HO303.out).2.1)
    rintro e w76 ⟨v306, rfl, ho0, hb⟩
    refine ⟨_, rfl, ?_⟩
    have n0_ := Aside0.mk (Kd.V_elder' (by (with_reducible repeat (first | apply Kd.V_alloc | apply Kd.V_drewN | apply Kd.V_drew)); exact HO0_1.out) (Kd.R_base ho0) hb)
    have n1_ := Aside0.mk (Kd.V_elder' (by (with_reducible repeat (first | apply Kd.V_alloc | apply Kd.V_drewN | apply Kd.V_drew)); exact HO1_1.out) (Kd.R_base ho0) hb)
    have n2_ := Aside0.mk (Kd.R_elder' (kr_ HO298.out) (Kd.R_base ho0) hb)
    have n3_ := Aside0.mk (Kd.R_elder' (kr_ HO303.out) (Kd.R_base ho0) hb)
    have n4_ := Aside0.mk (Kd.R_lower (Kd.R_new' (Kd.R_new' (Kd.R_newM (M := fun k_ => (w.heap.size ≤ k_)) ho0 (below_size (bw_ HB.out)) (fun k_ h_ => h_)) (Kd.R_lt (kr_ HO298.out))) (Kd.R_lt (kr_ HO303.out))) (below_size (bw_ HB.out)))
    have n5_ := kq_ BK280 hb
    have n6_ := kq_ BK281 hb
    have n7_ := kq_ BK282 hb
    have n8_ := kq_ BK299 hb
    have n9_ := bq_ HB hb
    clear HO0_1
    clear HO1_1
    clear HO298
    clear HO303
    clear BK280
    clear BK281
    clear BK282
    clear BK299
    clear HB
    have HO0_1 := n0_
    have HO1_1 := n1_
    have HO298 := n2_
    have HO303 := n3_
    have HO307 := n4_
    have BK280 := n5_
    have BK281 := n6_
    have BK282 := n7_
    have BK299 := n8_
    have HB := n9_
    clear n0_ n1_ n2_ n3_ n4_ n5_ n6_ n7_ n8_ n9_
    (try clear hb)
    (try clear hb2)
    (try clear hk)
    (try clear hi)
    (try clear ho0)
    obtain ⟨Ao78, co78, eo78⟩ := Kd.R_slice HO307.out
    (first | subst eo78 | (injection eo78 with f1_ f2_ f3_; have f4_ := f1_.symm; have f5_ := f3_.symm; clear f1_ f2_ f3_; subst f4_; subst f5_))
    refine hK.out _ _ ⟨(blk_cell BK280.out 0).trans rfl, (blk_cell BK280.out 1).trans rfl, (blk_cell BK280.out 2).trans rfl, (blk_cell BK299.out 0).trans rfl, (blk_cell BK299.out 1).trans rfl⟩ (fun hHeld => ?_)
    clear hK K
    refine norm_ (a' := ?_) ?_ ?_
    rotate_left
    ·show Act.put _ (some 47) _ = _
     exact pt_
    refine one_ (i := 7) (N := none) #[true, true, true, true, true, true, true, true] rfl rfl (one_of HT_.out (by kernel_rfl)) (by decide) (fun K hK => ?_)
    have hs77 : w76.cell? ⟨gb282, 0, none⟩ = some (.bool false) := (blk_cell BK282.out 0).trans rfl
    have hfs77 := fz_ BK282 0
    have hns77_0 := NB280_282.out
    have hns77_1 := NB281_282.out
    have hns77_3 := NB299_282.out
    have hms77_0 := NB282_280.out
    have hms77_1 := NB282_281.out
    have hms77_3 := NB282_299.out
    have hs79 : w76.cell? ⟨gb282, 1, none⟩ = some (.slice none 0 0) := (blk_cell BK282.out 1).trans rfl
    have hfs79 := fz_ BK282 1
    have hns79_0 := NB280_282.out
    have hns79_1 := NB281_282.out
    have hns79_3 := NB299_282.out
    have hms79_0 := NB282_280.out
    have hms79_1 := NB282_281.out
    have hms79_3 := NB282_299.out
    have hs80 : w76.cell? ⟨gb282, 2, none⟩ = some (.int .i64 0) := (blk_cell BK282.out 2).trans rfl
    have hfs80 := fz_ BK282 2
    have hns80_0 := NB280_282.out
    have hns80_1 := NB281_282.out
    have hns80_3 := NB299_282.out
    have hms80_0 := NB282_280.out
    have hms80_1 := NB282_281.out
    have hms80_3 := NB282_299.out
    refine skip_ (w1 := ?_) (by rfl) rfl ?_ ?_
    rotate_left
    ·go_simp
     rfl
    refine hK.out _ _ ⟨((cell_far (p := ⟨gb282, _, none⟩) NB280_282.out _).trans (((cell_far (p := ⟨gb282, _, none⟩) NB280_282.out _).trans (((cell_far (p := ⟨gb282, _, none⟩) NB280_282.out _).trans (hHeld.1)))))), ((cell_far (p := ⟨gb282, _, none⟩) NB280_282.out _).trans (((cell_far (p := ⟨gb282, _, none⟩) NB280_282.out _).trans (((cell_far (p := ⟨gb282, _, none⟩) NB280_282.out _).trans (hHeld.2.1)))))), ((cell_far (p := ⟨gb282, _, none⟩) NB280_282.out _).trans (((cell_far (p := ⟨gb282, _, none⟩) NB280_282.out _).trans (((cell_far (p := ⟨gb282, _, none⟩) NB280_282.out _).trans (hHeld.2.2.1)))))), ((cell_far (p := ⟨gb282, _, none⟩) NB299_282.out _).trans (((cell_far (p := ⟨gb282, _, none⟩) NB299_282.out _).trans (((cell_far (p := ⟨gb282, _, none⟩) NB299_282.out _).trans (hHeld.2.2.2.1)))))), ((cell_far (p := ⟨gb282, _, none⟩) NB299_282.out _).trans (((cell_far (p := ⟨gb282, _, none⟩) NB299_282.out _).trans (((cell_far (p := ⟨gb282, _, none⟩) NB299_282.out _).trans (hHeld.2.2.2.2))))))⟩ (fun hHeld => ?_)
    clear hK K
    refine done_ (done_of HT_.out (by kernel_rfl)) ?_
    try go_wp2
    refine bodyPost_ret (results_cell_row rfl _ _ gb282 27 #[.bool t304, .slice Ao78 t305.length co78, .int .i64 t308] (0, 0) _ rfl (by refine kb_ ?_; refine bp_ #[.bool t304, .slice Ao78 t305.length co78, .int .i64 0] 2 ?_; refine bp_ #[.bool t304, .slice none 0 0, .int .i64 0] 1 ?_; refine bp_ #[.bool false, .slice none 0 0, .int .i64 0] 0 ?_; exact BK282.out) Tryd.underlying27 rfl (by kernel_rfl)) rfl ?_
    exact ⟨_, rf_, Kd.V_mono (Kd.R_V (kr_ (Kd.R_mono (Kd.R_far (p := ⟨gb282, 2, none⟩) (Kd.R_far (p := ⟨gb282, 1, none⟩) (Kd.R_far (p := ⟨gb282, 0, none⟩) (Kd.R_types HO307.out BK282.out (by decide)) (fun _ hk => hk.2) (.bool t304)) (fun _ hk => hk.2) (.slice Ao78 t305.length co78)) (fun _ hk => hk.2) (.int .i64 t308)) (fun _ hk => hk.1.1.1.1)))) (fun k_ hk => by first | exact ⟨(.inr (hk.1)), hk.2⟩ | exact (.inr (hk))), bw_ HB.out⟩

end Go.Proofs.YtaookeneeemfbaaDoor.PA
