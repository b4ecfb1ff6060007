-- Laid by this work's own program; Lean checks it.
import Derived.Test.YtkemnoejpbknhaaDoorPAx0
import Derived.Test.YtkemnoejpbknhaaDoorPAx2
import Derived.Test.YtkemnoejpbknhaaDoorPAx4
import Derived.Test.YtkemnoejpbknhaaDoorPAx5
import Derived.Test.YtkemnoejpbknhaaDoorPAx21
namespace Go.Proofs.YtkemnoejpbknhaaDoor.PA
open Go.RowKit Go.Proofs.YtkemnoejpbknhaaDoorW.PrintWords Go.Proofs.YtkemnoejpbknhaaDoorW.PrintLast Go.Proofs.YtkemnoejpbknhaaDoorW.PrintMore
attribute [local go_sem] max2_int min2_int max_two min_two max_three min_three max_four min_four   -- for this text's walks alone
set_option linter.unusedVariables false
set_option linter.unusedSimpArgs false

attribute [local go_sem ↓ high] isSome_set_
/-! ### dy_add: function 87 -/
theorem dy_add.tab7 : rtab .any (opsOf Tryd.f87 7) = dy_add.T7 := by kernel_rfl
theorem dy_add.bits7 : waitsOk dy_add.T7.2 dy_add.B7 = true := by kernel_rfl
def dy_add.T8 : Bool × List (List Nat × List Nat) := (true, [([], []), ([0], [0]), ([], []), ([1, 2], [1, 2]), ([], []), ([4], [4]), ([3, 5, 3], [3, 5]), ([6, 6, 0, 1, 2, 3, 4, 5, 6], [6])])
def dy_add.B8 : List Nat := [0, 1, 0, 7, 0, 16, 63, 127]
theorem dy_add.tab8 : rtab .any (opsOf Tryd.f87 8) = dy_add.T8 := by kernel_rfl
theorem dy_add.bits8 : waitsOk dy_add.T8.2 dy_add.B8 = true := by kernel_rfl
set_option maxHeartbeats 8000000 in
set_option maxRecDepth 100000 in
theorem dy_add.calls (k : Nat) (a0_0 : Bool) (P0_1_ : Nat → Prop) (A0_1 : Option Addr) (c0_1 : Nat) (l0_1 : List Int) (a0_2 : Int) (a1_0 : Bool) (P1_1_ : Nat → Prop) (A1_1 : Option Addr) (c1_1 : Nat) (l1_1 : List Int) (a1_2 : Int) (r1 : Bool) (r2 : List Int) (r3 : Int) (w : World) (hs0_1 : Kd.V (Kd.int .u32) 53 w w.heap.size (fun k_ => P0_1_ k_) (.slice A0_1 l0_1.length c0_1) l0_1) (hs1_1 : Kd.V (Kd.int .u32) 53 w w.heap.size (fun k_ => P1_1_ k_) (.slice A1_1 l1_1.length c1_1) l1_1) (h : dy_add.f k a0_0 l0_1 a0_2 a1_0 l1_1 a1_2 = some (r1, r2, r3)) (htab_ : Kd.C (Kd.int .u8) w (some ⟨0, 0, none⟩) 32 tz32tab) :
  Calls Tryd.prog 87 #[.agg #[.bool a0_0, .slice A0_1 l0_1.length c0_1, .int .i64 a0_2], .agg #[.bool a1_0, .slice A1_1 l1_1.length c1_1, .int .i64 a1_2]] w fun e w' => ∃ v1_ : Value, e = .returned (.agg #[.bool r1, v1_, .int .i64 r3]) ∧ Kd.V (Kd.int .u32) 53 w' w.heap.size (fun k_ => ((P0_1_ k_ ∨ P1_1_ k_) ∨ w.heap.size ≤ k_)) v1_ r2 ∧ Below w.heap.size w w' := by
 have HTAB := Aside0.mk htab_
 clear htab_
 have hu26 := Tryd.underlying26
 have hu24 := Tryd.underlying24
 have HO0_1 := Aside0.mk (show Kd.V (Kd.int .u32) 53 w w.heap.size (fun k_ => ((P0_1_ k_ ∨ P1_1_ k_) ∨ w.heap.size ≤ k_)) (.slice A0_1 l0_1.length c0_1) l0_1 from Kd.V_mono hs0_1 (fun k_ hk => .inl (.inl hk)))
 have HO1_1 := Aside0.mk (show Kd.V (Kd.int .u32) 53 w w.heap.size (fun k_ => ((P0_1_ k_ ∨ P1_1_ k_) ∨ w.heap.size ≤ k_)) (.slice A1_1 l1_1.length c1_1) l1_1 from Kd.V_mono hs1_1 (fun k_ hk => .inl (.inr hk)))
 have HB := Aside0.mk (Below.refl w.heap.size w)
 have H : (if (l0_1.length : Int) = 0 then (some (a1_0, l1_1, a1_2)) else (if (l1_1.length : Int) = 0 then (some (a0_0, l0_1, a0_2)) else (if a0_2 > a1_2 then ((nat_Shl.f k l0_1 (wrap64 (a0_2 - a1_2))).bind fun t1027 => ((whole_Add.f k a1_0 l1_1 a0_0 t1027).bind fun bt1031 => ((dy_Make.f k bt1031.1 bt1031.2 a1_2).bind fun bt1035 => (some (bt1035.1, bt1035.2.1, bt1035.2.2))))) else ((nat_Shl.f k l1_1 (wrap64 (a1_2 - a0_2))).bind fun t1040 => ((whole_Add.f k a0_0 l0_1 a1_0 t1040).bind fun bt1044 => ((dy_Make.f k bt1044.1 bt1044.2 a0_2).bind fun bt1048 => (some (bt1048.1, bt1048.2.1, bt1048.2.2)))))))) = some (r1, r2, r3) := h
 clear h
 by_cases c3 : (l0_1.length : Int) = 0
 ·rw [if_pos c3] at H
  have c3b0 : ((l0_1.length : Int) == 0) = true := beq_iff_eq.mpr c3
  have c3b1 : ((l0_1.length : Int) != 0) = false := bne_eq_false_iff_eq.mpr c3
  clear c3
  simp only [Option.some.injEq, Prod.mk.injEq] at H
  obtain ⟨rfl, rfl, rfl⟩ := H
  go_enter Tryd.func87, Tryd.ntmps87
  go_wp2_with (first | ((with_reducible refine gate_dst (N := 2) rfl ?_); refine bx_ 2 #[.bool a0_0, .slice A0_1 l0_1.length c0_1, .int .i64 a0_2] 26 ?_; intro gb1024 hg w4 hbox hb; have n0_ := Aside0.mk (Kd.V_below (Kd.V_elderB (by (with_reducible repeat (first | apply Kd.V_alloc | apply Kd.V_drewN | apply Kd.V_drew)); exact HO0_1.out) gb1024 (Nat.le_of_eq hg.symm)) hb); have n1_ := Aside0.mk (Kd.V_below (Kd.V_elderB (by (with_reducible repeat (first | apply Kd.V_alloc | apply Kd.V_drewN | apply Kd.V_drew)); exact HO1_1.out) gb1024 (Nat.le_of_eq hg.symm)) hb); have n2_ := bq_ HB hb; have n3_ := Aside0.mk (hbox); have n4_ := ge_ hg HB; have n5_ := ge_ hg HB; clear HO0_1; clear HO1_1; clear HB; have HO0_1 := n0_; have HO1_1 := n1_; have HB := n2_; have BK1024 := n3_; have GW1024 := n4_; have GE1024 := n5_; clear n0_ n1_ n2_ n3_ n4_ n5_; clear hb hbox hg) | ((with_reducible refine gate_dst (N := 3) rfl ?_); refine bx_ 3 #[.bool a1_0, .slice A1_1 l1_1.length c1_1, .int .i64 a1_2] 26 ?_; intro gb1025 hg w5 hbox hb; have n0_ := Aside0.mk (Kd.V_below (Kd.V_elderB (by (with_reducible repeat (first | apply Kd.V_alloc | apply Kd.V_drewN | apply Kd.V_drew)); exact HO0_1.out) gb1025 (Nat.le_of_eq hg.symm)) hb); have n1_ := Aside0.mk (Kd.V_below (Kd.V_elderB (by (with_reducible repeat (first | apply Kd.V_alloc | apply Kd.V_drewN | apply Kd.V_drew)); exact HO1_1.out) gb1025 (Nat.le_of_eq hg.symm)) hb); have n2_ := kq_ BK1024 hb; have n3_ := bq_ HB hb; have n4_ := Aside0.mk (hbox); have n5_ := ge_ hg HB; have n6_ := ge_ hg HB; have n7_ := nb_ hg BK1024; have n8_ := nc_ hg BK1024; clear HO0_1; clear HO1_1; clear BK1024; clear HB; have HO0_1 := n0_; have HO1_1 := n1_; have BK1024 := n2_; have HB := n3_; have BK1025 := n4_; have GW1025 := n5_; have GE1025 := n6_; have NB1024_1025 := n7_; have NB1025_1024 := n8_; clear n0_ n1_ n2_ n3_ n4_ n5_ n6_ n7_ n8_; clear hb hbox hg) | ((with_reducible refine gate_dst (N := 4) rfl ?_); refine bx_ 4 #[.bool false, .slice none 0 0, .int .i64 0] 26 ?_; intro gb1026 hg w6 hbox hb; have n0_ := Aside0.mk (Kd.V_below (Kd.V_elderB (by (with_reducible repeat (first | apply Kd.V_alloc | apply Kd.V_drewN | apply Kd.V_drew)); exact HO0_1.out) gb1026 (Nat.le_of_eq hg.symm)) hb); have n1_ := Aside0.mk (Kd.V_below (Kd.V_elderB (by (with_reducible repeat (first | apply Kd.V_alloc | apply Kd.V_drewN | apply Kd.V_drew)); exact HO1_1.out) gb1026 (Nat.le_of_eq hg.symm)) hb); have n2_ := kq_ BK1024 hb; have n3_ := kq_ BK1025 hb; have n4_ := bq_ HB hb; have n5_ := Aside0.mk (hbox); have n6_ := ge_ hg HB; have n7_ := ge_ hg HB; have n8_ := nb_ hg BK1024; have n9_ := nc_ hg BK1024; have n10_ := nb_ hg BK1025; have n11_ := nc_ hg BK1025; clear HO0_1; clear HO1_1; clear BK1024; clear BK1025; clear HB; have HO0_1 := n0_; have HO1_1 := n1_; have BK1024 := n2_; have BK1025 := n3_; have HB := n4_; have BK1026 := n5_; have GW1026 := n6_; have GE1026 := n7_; have NB1024_1026 := n8_; have NB1026_1024 := n9_; have NB1025_1026 := n10_; have NB1026_1025 := n11_; clear n0_ n1_ n2_ n3_ n4_ n5_ n6_ n7_ n8_ n9_ n10_ n11_; clear hb hbox hg; have hnb7 := NB1024_1025.out; have hnc7 := NB1025_1024.out; have hnb8 := NB1024_1026.out; have hnc8 := NB1026_1024.out; obtain ⟨hcz9_0, hcz9_1, hcz9_2, hfz9_0, hfz9_1, hfz9_2⟩ := c3_ BK1024; have hnb10 := NB1025_1026.out; have hnc10 := NB1026_1025.out; obtain ⟨hcz11_0, hcz11_1, hcz11_2, hfz11_0, hfz11_1, hfz11_2⟩ := c3_ BK1025; obtain ⟨hcz12_0, hcz12_1, hcz12_2, hfz12_0, hfz12_1, hfz12_2⟩ := c3_ BK1026))
  refine bodyPost_ret (results_cell_row rfl _ _ gb1026 26 #[.bool a1_0, .slice A1_1 l1_1.length c1_1, .int .i64 a1_2] (0, 0) _ rfl (by refine kb_ ?_; refine bp_ #[.bool a1_0, .slice A1_1 l1_1.length c1_1, .int .i64 0] 2 ?_; refine bp_ #[.bool a1_0, .slice none 0 0, .int .i64 0] 1 ?_; refine bp_ #[.bool false, .slice none 0 0, .int .i64 0] 0 ?_; exact BK1026.out) Tryd.underlying26 rfl (by kernel_rfl)) rfl ?_
  exact ⟨_, rf_, by (with_reducible repeat (first | apply Kd.V_alloc | apply Kd.V_drewN | apply Kd.V_drew)); exact Kd.V_mono (Kd.V_far (p := ⟨gb1026, 2, none⟩) (Kd.V_far (p := ⟨gb1026, 1, none⟩) (Kd.V_far (p := ⟨gb1026, 0, none⟩) (Kd.V_mono HO1_1.out (fun k_ hk => (⟨hk, hk.2⟩ : _ ∧ k_ ≠ gb1026))) (fun _ hk => hk.2) (.bool a1_0)) (fun _ hk => hk.2) (.slice A1_1 l1_1.length c1_1)) (fun _ hk => hk.2) (.int .i64 a1_2)) (fun _ hk => hk.1.1.1.1), bw_ HB.out⟩
 ·rw [if_neg c3] at H
  have c3b0 : ((l0_1.length : Int) == 0) = false := beq_eq_false_iff_ne.mpr c3
  have c3b1 : ((l0_1.length : Int) != 0) = true := bne_iff_ne.mpr c3
  have c3b2 : ¬ (l0_1 = []) := fun h_ => c3 (by rw [h_]; rfl)
  by_cases c13 : (l1_1.length : Int) = 0
  ·rw [if_pos c13] at H
   have c13b0 : ((l1_1.length : Int) == 0) = true := beq_iff_eq.mpr c13
   have c13b1 : ((l1_1.length : Int) != 0) = false := bne_eq_false_iff_eq.mpr c13
   clear c13
   simp only [Option.some.injEq, Prod.mk.injEq] at H
   obtain ⟨rfl, rfl, rfl⟩ := H
   go_enter Tryd.func87, Tryd.ntmps87
   go_wp2_with (first | ((with_reducible refine gate_dst (N := 2) rfl ?_); refine bx_ 2 #[.bool a0_0, .slice A0_1 l0_1.length c0_1, .int .i64 a0_2] 26 ?_; intro gb1024 hg w14 hbox hb; have n0_ := Aside0.mk (Kd.V_below (Kd.V_elderB (by (with_reducible repeat (first | apply Kd.V_alloc | apply Kd.V_drewN | apply Kd.V_drew)); exact HO0_1.out) gb1024 (Nat.le_of_eq hg.symm)) hb); have n1_ := Aside0.mk (Kd.V_below (Kd.V_elderB (by (with_reducible repeat (first | apply Kd.V_alloc | apply Kd.V_drewN | apply Kd.V_drew)); exact HO1_1.out) gb1024 (Nat.le_of_eq hg.symm)) hb); have n2_ := bq_ HB hb; have n3_ := Aside0.mk (hbox); have n4_ := ge_ hg HB; have n5_ := ge_ hg HB; clear HO0_1; clear HO1_1; clear HB; have HO0_1 := n0_; have HO1_1 := n1_; have HB := n2_; have BK1024 := n3_; have GW1024 := n4_; have GE1024 := n5_; clear n0_ n1_ n2_ n3_ n4_ n5_; clear hb hbox hg) | ((with_reducible refine gate_dst (N := 3) rfl ?_); refine bx_ 3 #[.bool a1_0, .slice A1_1 l1_1.length c1_1, .int .i64 a1_2] 26 ?_; intro gb1025 hg w15 hbox hb; have n0_ := Aside0.mk (Kd.V_below (Kd.V_elderB (by (with_reducible repeat (first | apply Kd.V_alloc | apply Kd.V_drewN | apply Kd.V_drew)); exact HO0_1.out) gb1025 (Nat.le_of_eq hg.symm)) hb); have n1_ := Aside0.mk (Kd.V_below (Kd.V_elderB (by (with_reducible repeat (first | apply Kd.V_alloc | apply Kd.V_drewN | apply Kd.V_drew)); exact HO1_1.out) gb1025 (Nat.le_of_eq hg.symm)) hb); have n2_ := kq_ BK1024 hb; have n3_ := bq_ HB hb; have n4_ := Aside0.mk (hbox); have n5_ := ge_ hg HB; have n6_ := ge_ hg HB; have n7_ := nb_ hg BK1024; have n8_ := nc_ hg BK1024; clear HO0_1; clear HO1_1; clear BK1024; clear HB; have HO0_1 := n0_; have HO1_1 := n1_; have BK1024 := n2_; have HB := n3_; have BK1025 := n4_; have GW1025 := n5_; have GE1025 := n6_; have NB1024_1025 := n7_; have NB1025_1024 := n8_; clear n0_ n1_ n2_ n3_ n4_ n5_ n6_ n7_ n8_; clear hb hbox hg) | ((with_reducible refine gate_dst (N := 4) rfl ?_); refine bx_ 4 #[.bool false, .slice none 0 0, .int .i64 0] 26 ?_; intro gb1026 hg w16 hbox hb; have n0_ := Aside0.mk (Kd.V_below (Kd.V_elderB (by (with_reducible repeat (first | apply Kd.V_alloc | apply Kd.V_drewN | apply Kd.V_drew)); exact HO0_1.out) gb1026 (Nat.le_of_eq hg.symm)) hb); have n1_ := Aside0.mk (Kd.V_below (Kd.V_elderB (by (with_reducible repeat (first | apply Kd.V_alloc | apply Kd.V_drewN | apply Kd.V_drew)); exact HO1_1.out) gb1026 (Nat.le_of_eq hg.symm)) hb); have n2_ := kq_ BK1024 hb; have n3_ := kq_ BK1025 hb; have n4_ := bq_ HB hb; have n5_ := Aside0.mk (hbox); have n6_ := ge_ hg HB; have n7_ := ge_ hg HB; have n8_ := nb_ hg BK1024; have n9_ := nc_ hg BK1024; have n10_ := nb_ hg BK1025; have n11_ := nc_ hg BK1025; clear HO0_1; clear HO1_1; clear BK1024; clear BK1025; clear HB; have HO0_1 := n0_; have HO1_1 := n1_; have BK1024 := n2_; have BK1025 := n3_; have HB := n4_; have BK1026 := n5_; have GW1026 := n6_; have GE1026 := n7_; have NB1024_1026 := n8_; have NB1026_1024 := n9_; have NB1025_1026 := n10_; have NB1026_1025 := n11_; clear n0_ n1_ n2_ n3_ n4_ n5_ n6_ n7_ n8_ n9_ n10_ n11_; clear hb hbox hg; have hnb17 := NB1024_1025.out; have hnc17 := NB1025_1024.out; have hnb18 := NB1024_1026.out; have hnc18 := NB1026_1024.out; obtain ⟨hcz19_0, hcz19_1, hcz19_2, hfz19_0, hfz19_1, hfz19_2⟩ := c3_ BK1024; have hnb20 := NB1025_1026.out; have hnc20 := NB1026_1025.out; obtain ⟨hcz21_0, hcz21_1, hcz21_2, hfz21_0, hfz21_1, hfz21_2⟩ := c3_ BK1025; obtain ⟨hcz22_0, hcz22_1, hcz22_2, hfz22_0, hfz22_1, hfz22_2⟩ := c3_ BK1026))
   refine bodyPost_ret (results_cell_row rfl _ _ gb1026 26 #[.bool a0_0, .slice A0_1 l0_1.length c0_1, .int .i64 a0_2] (0, 0) _ rfl (by refine kb_ ?_; refine bp_ #[.bool a0_0, .slice A0_1 l0_1.length c0_1, .int .i64 0] 2 ?_; refine bp_ #[.bool a0_0, .slice none 0 0, .int .i64 0] 1 ?_; refine bp_ #[.bool false, .slice none 0 0, .int .i64 0] 0 ?_; exact BK1026.out) Tryd.underlying26 rfl (by kernel_rfl)) rfl ?_
   exact ⟨_, rf_, by (with_reducible repeat (first | apply Kd.V_alloc | apply Kd.V_drewN | apply Kd.V_drew)); exact Kd.V_mono (Kd.V_far (p := ⟨gb1026, 2, none⟩) (Kd.V_far (p := ⟨gb1026, 1, none⟩) (Kd.V_far (p := ⟨gb1026, 0, none⟩) (Kd.V_mono HO0_1.out (fun k_ hk => (⟨hk, hk.2⟩ : _ ∧ k_ ≠ gb1026))) (fun _ hk => hk.2) (.bool a0_0)) (fun _ hk => hk.2) (.slice A0_1 l0_1.length c0_1)) (fun _ hk => hk.2) (.int .i64 a0_2)) (fun _ hk => hk.1.1.1.1), bw_ HB.out⟩
  ·rw [if_neg c13] at H
   have c13b0 : ((l1_1.length : Int) == 0) = false := beq_eq_false_iff_ne.mpr c13
   have c13b1 : ((l1_1.length : Int) != 0) = true := bne_iff_ne.mpr c13
   have c13b2 : ¬ (l1_1 = []) := fun h_ => c13 (by rw [h_]; rfl)
   by_cases c23 : a0_2 > a1_2
   ·rw [if_pos c23] at H
    have c23b0 : decide (a1_2 < a0_2) = true := decide_eq_true c23
    clear c23
    replace H := Option.bind_eq_some_iff.mp H
    obtain ⟨t1027, A240, H⟩ := H
    (try dsimp only at H)
    have A24 := Aside0.mk A240
    clear A240
    replace H := Option.bind_eq_some_iff.mp H
    obtain ⟨⟨t1031, t1032⟩, A250, H⟩ := H
    (try dsimp only at H)
    have A25 := Aside0.mk A250
    clear A250
    replace H := Option.bind_eq_some_iff.mp H
    obtain ⟨⟨t1035, t1036, t1039⟩, A260, H⟩ := H
    (try dsimp only at H)
    have A26 := Aside0.mk A260
    clear A260
    simp only [Option.some.injEq, Prod.mk.injEq] at H
    obtain ⟨rfl, rfl, rfl⟩ := H
    go_enter Tryd.func87, Tryd.ntmps87
    try go_wp2_with (first | ((with_reducible refine gate_dst (N := 2) rfl ?_); refine bx_ 2 #[.bool a0_0, .slice A0_1 l0_1.length c0_1, .int .i64 a0_2] 26 ?_; intro gb1024 hg w27 hbox hb; have n0_ := Aside0.mk (Kd.V_below (Kd.V_elderB (by (with_reducible repeat (first | apply Kd.V_alloc | apply Kd.V_drewN | apply Kd.V_drew)); exact HO0_1.out) gb1024 (Nat.le_of_eq hg.symm)) hb); have n1_ := Aside0.mk (Kd.V_below (Kd.V_elderB (by (with_reducible repeat (first | apply Kd.V_alloc | apply Kd.V_drewN | apply Kd.V_drew)); exact HO1_1.out) gb1024 (Nat.le_of_eq hg.symm)) hb); have n2_ := bq_ HB hb; have n3_ := Aside0.mk (hbox); have n4_ := ge_ hg HB; have n5_ := ge_ hg HB; clear HO0_1; clear HO1_1; clear HB; have HO0_1 := n0_; have HO1_1 := n1_; have HB := n2_; have BK1024 := n3_; have GW1024 := n4_; have GE1024 := n5_; clear n0_ n1_ n2_ n3_ n4_ n5_; clear hb hbox hg) | ((with_reducible refine gate_dst (N := 3) rfl ?_); refine bx_ 3 #[.bool a1_0, .slice A1_1 l1_1.length c1_1, .int .i64 a1_2] 26 ?_; intro gb1025 hg w28 hbox hb; have n0_ := Aside0.mk (Kd.V_below (Kd.V_elderB (by (with_reducible repeat (first | apply Kd.V_alloc | apply Kd.V_drewN | apply Kd.V_drew)); exact HO0_1.out) gb1025 (Nat.le_of_eq hg.symm)) hb); have n1_ := Aside0.mk (Kd.V_below (Kd.V_elderB (by (with_reducible repeat (first | apply Kd.V_alloc | apply Kd.V_drewN | apply Kd.V_drew)); exact HO1_1.out) gb1025 (Nat.le_of_eq hg.symm)) hb); have n2_ := kq_ BK1024 hb; have n3_ := bq_ HB hb; have n4_ := Aside0.mk (hbox); have n5_ := ge_ hg HB; have n6_ := ge_ hg HB; have n7_ := nb_ hg BK1024; have n8_ := nc_ hg BK1024; clear HO0_1; clear HO1_1; clear BK1024; clear HB; have HO0_1 := n0_; have HO1_1 := n1_; have BK1024 := n2_; have HB := n3_; have BK1025 := n4_; have GW1025 := n5_; have GE1025 := n6_; have NB1024_1025 := n7_; have NB1025_1024 := n8_; clear n0_ n1_ n2_ n3_ n4_ n5_ n6_ n7_ n8_; clear hb hbox hg) | ((with_reducible refine gate_dst (N := 4) rfl ?_); refine bx_ 4 #[.bool false, .slice none 0 0, .int .i64 0] 26 ?_; intro gb1026 hg w29 hbox hb; have n0_ := Aside0.mk (Kd.V_below (Kd.V_elderB (by (with_reducible repeat (first | apply Kd.V_alloc | apply Kd.V_drewN | apply Kd.V_drew)); exact HO0_1.out) gb1026 (Nat.le_of_eq hg.symm)) hb); have n1_ := Aside0.mk (Kd.V_below (Kd.V_elderB (by (with_reducible repeat (first | apply Kd.V_alloc | apply Kd.V_drewN | apply Kd.V_drew)); exact HO1_1.out) gb1026 (Nat.le_of_eq hg.symm)) hb); have n2_ := kq_ BK1024 hb; have n3_ := kq_ BK1025 hb; have n4_ := bq_ HB hb; have n5_ := Aside0.mk (hbox); have n6_ := ge_ hg HB; have n7_ := ge_ hg HB; have n8_ := nb_ hg BK1024; have n9_ := nc_ hg BK1024; have n10_ := nb_ hg BK1025; have n11_ := nc_ hg BK1025; clear HO0_1; clear HO1_1; clear BK1024; clear BK1025; clear HB; have HO0_1 := n0_; have HO1_1 := n1_; have BK1024 := n2_; have BK1025 := n3_; have HB := n4_; have BK1026 := n5_; have GW1026 := n6_; have GE1026 := n7_; have NB1024_1026 := n8_; have NB1026_1024 := n9_; have NB1025_1026 := n10_; have NB1026_1025 := n11_; clear n0_ n1_ n2_ n3_ n4_ n5_ n6_ n7_ n8_ n9_ n10_ n11_; clear hb hbox hg; have hnb30 := NB1024_1025.out; have hnc30 := NB1025_1024.out; have hnb31 := NB1024_1026.out; have hnc31 := NB1026_1024.out; obtain ⟨hcz32_0, hcz32_1, hcz32_2, hfz32_0, hfz32_1, hfz32_2⟩ := c3_ BK1024; have hnb33 := NB1025_1026.out; have hnc33 := NB1026_1025.out; obtain ⟨hcz34_0, hcz34_1, hcz34_2, hfz34_0, hfz34_1, hfz34_2⟩ := c3_ BK1025))
    have n0_ : Aside0 (Kd.V (Kd.int .u32) 53 ((((((w29.setCell ⟨gb1024, 0, none⟩ (.bool a1_0)).setCell ⟨gb1024, 1, none⟩ (.slice A1_1 l1_1.length c1_1)).setCell ⟨gb1024, 2, none⟩ (.int .i64 a1_2)).setCell ⟨gb1025, 0, none⟩ (.bool a0_0)).setCell ⟨gb1025, 1, none⟩ (.slice A0_1 l0_1.length c0_1)).setCell ⟨gb1025, 2, none⟩ (.int .i64 a0_2)) w.heap.size (fun k_ => ((P0_1_ k_ ∨ P1_1_ k_) ∨ w.heap.size ≤ k_) ∧ k_ ≠ gb1024 ∧ k_ ≠ gb1025 ∧ k_ ≠ gb1026) (.slice A0_1 l0_1.length c0_1) l0_1) := ⟨by (with_reducible repeat (first | apply Kd.V_alloc | apply Kd.V_drewN | apply Kd.V_drew)); exact Kd.V_mono (Kd.V_far (p := ⟨gb1025, 2, none⟩) (Kd.V_far (p := ⟨gb1025, 1, none⟩) (Kd.V_far (p := ⟨gb1025, 0, none⟩) (Kd.V_far (p := ⟨gb1024, 2, none⟩) (Kd.V_far (p := ⟨gb1024, 1, none⟩) (Kd.V_far (p := ⟨gb1024, 0, none⟩) (Kd.V_mono (Kd.V_mono HO0_1.out (fun k_ hk => (⟨hk, hk.1.1.2⟩ : _ ∧ k_ ≠ gb1024))) (fun k_ hk => (⟨hk, hk.1.1.2⟩ : _ ∧ k_ ≠ gb1025))) (fun _ hk => hk.1.2) (.bool a1_0)) (fun _ hk => hk.1.2) (.slice A1_1 l1_1.length c1_1)) (fun _ hk => hk.1.2) (.int .i64 a1_2)) (fun _ hk => hk.2) (.bool a0_0)) (fun _ hk => hk.2) (.slice A0_1 l0_1.length c0_1)) (fun _ hk => hk.2) (.int .i64 a0_2)) (fun _ hk => by first | exact ⟨hk.1.1.1.1.1, ⟨hk.1.1.1.1.2, ⟨hk.1.1.1.2, hk.1.1.2⟩⟩⟩ | simp [hk])⟩
    have n1_ : Aside0 (Kd.V (Kd.int .u32) 53 ((((((w29.setCell ⟨gb1024, 0, none⟩ (.bool a1_0)).setCell ⟨gb1024, 1, none⟩ (.slice A1_1 l1_1.length c1_1)).setCell ⟨gb1024, 2, none⟩ (.int .i64 a1_2)).setCell ⟨gb1025, 0, none⟩ (.bool a0_0)).setCell ⟨gb1025, 1, none⟩ (.slice A0_1 l0_1.length c0_1)).setCell ⟨gb1025, 2, none⟩ (.int .i64 a0_2)) w.heap.size (fun k_ => ((P0_1_ k_ ∨ P1_1_ k_) ∨ w.heap.size ≤ k_) ∧ k_ ≠ gb1024 ∧ k_ ≠ gb1025 ∧ k_ ≠ gb1026) (.slice A1_1 l1_1.length c1_1) l1_1) := ⟨by (with_reducible repeat (first | apply Kd.V_alloc | apply Kd.V_drewN | apply Kd.V_drew)); exact Kd.V_mono (Kd.V_far (p := ⟨gb1025, 2, none⟩) (Kd.V_far (p := ⟨gb1025, 1, none⟩) (Kd.V_far (p := ⟨gb1025, 0, none⟩) (Kd.V_far (p := ⟨gb1024, 2, none⟩) (Kd.V_far (p := ⟨gb1024, 1, none⟩) (Kd.V_far (p := ⟨gb1024, 0, none⟩) (Kd.V_mono (Kd.V_mono HO1_1.out (fun k_ hk => (⟨hk, hk.1.1.2⟩ : _ ∧ k_ ≠ gb1024))) (fun k_ hk => (⟨hk, hk.1.1.2⟩ : _ ∧ k_ ≠ gb1025))) (fun _ hk => hk.1.2) (.bool a1_0)) (fun _ hk => hk.1.2) (.slice A1_1 l1_1.length c1_1)) (fun _ hk => hk.1.2) (.int .i64 a1_2)) (fun _ hk => hk.2) (.bool a0_0)) (fun _ hk => hk.2) (.slice A0_1 l0_1.length c0_1)) (fun _ hk => hk.2) (.int .i64 a0_2)) (fun _ hk => by first | exact ⟨hk.1.1.1.1.1, ⟨hk.1.1.1.1.2, ⟨hk.1.1.1.2, hk.1.1.2⟩⟩⟩ | simp [hk])⟩
    have n2_ : Aside0 (((((((w29.setCell ⟨gb1024, 0, none⟩ (.bool a1_0)).setCell ⟨gb1024, 1, none⟩ (.slice A1_1 l1_1.length c1_1)).setCell ⟨gb1024, 2, none⟩ (.int .i64 a1_2)).setCell ⟨gb1025, 0, none⟩ (.bool a0_0)).setCell ⟨gb1025, 1, none⟩ (.slice A0_1 l0_1.length c0_1)).setCell ⟨gb1025, 2, none⟩ (.int .i64 a0_2)).heap[gb1024]? = some (.cells #[.bool a1_0, .slice A1_1 l1_1.length c1_1, .int .i64 a1_2] 26 (0, 0))) := ⟨by refine kb_ ?_; refine bf_ NB1024_1025 ?_; refine bf_ NB1024_1025 ?_; refine bf_ NB1024_1025 ?_; refine bp_ #[.bool a1_0, .slice A1_1 l1_1.length c1_1, .int .i64 a0_2] 2 ?_; refine bp_ #[.bool a1_0, .slice A0_1 l0_1.length c0_1, .int .i64 a0_2] 1 ?_; refine bp_ #[.bool a0_0, .slice A0_1 l0_1.length c0_1, .int .i64 a0_2] 0 ?_; exact BK1024.out⟩
    have n3_ : Aside0 (((((((w29.setCell ⟨gb1024, 0, none⟩ (.bool a1_0)).setCell ⟨gb1024, 1, none⟩ (.slice A1_1 l1_1.length c1_1)).setCell ⟨gb1024, 2, none⟩ (.int .i64 a1_2)).setCell ⟨gb1025, 0, none⟩ (.bool a0_0)).setCell ⟨gb1025, 1, none⟩ (.slice A0_1 l0_1.length c0_1)).setCell ⟨gb1025, 2, none⟩ (.int .i64 a0_2)).heap[gb1025]? = some (.cells #[.bool a0_0, .slice A0_1 l0_1.length c0_1, .int .i64 a0_2] 26 (0, 0))) := ⟨by refine kb_ ?_; refine bp_ #[.bool a0_0, .slice A0_1 l0_1.length c0_1, .int .i64 a1_2] 2 ?_; refine bp_ #[.bool a0_0, .slice A1_1 l1_1.length c1_1, .int .i64 a1_2] 1 ?_; refine bp_ #[.bool a1_0, .slice A1_1 l1_1.length c1_1, .int .i64 a1_2] 0 ?_; refine bf_ NB1025_1024 ?_; refine bf_ NB1025_1024 ?_; refine bf_ NB1025_1024 ?_; exact BK1025.out⟩
    have n4_ : Aside0 (((((((w29.setCell ⟨gb1024, 0, none⟩ (.bool a1_0)).setCell ⟨gb1024, 1, none⟩ (.slice A1_1 l1_1.length c1_1)).setCell ⟨gb1024, 2, none⟩ (.int .i64 a1_2)).setCell ⟨gb1025, 0, none⟩ (.bool a0_0)).setCell ⟨gb1025, 1, none⟩ (.slice A0_1 l0_1.length c0_1)).setCell ⟨gb1025, 2, none⟩ (.int .i64 a0_2)).heap[gb1026]? = some (.cells #[.bool false, .slice none 0 0, .int .i64 0] 26 (0, 0))) := ⟨by refine kb_ ?_; refine bf_ NB1026_1025 ?_; refine bf_ NB1026_1025 ?_; refine bf_ NB1026_1025 ?_; refine bf_ NB1026_1024 ?_; refine bf_ NB1026_1024 ?_; refine bf_ NB1026_1024 ?_; exact BK1026.out⟩
    have n5_ : Aside0 (Below w.heap.size w ((((((w29.setCell ⟨gb1024, 0, none⟩ (.bool a1_0)).setCell ⟨gb1024, 1, none⟩ (.slice A1_1 l1_1.length c1_1)).setCell ⟨gb1024, 2, none⟩ (.int .i64 a1_2)).setCell ⟨gb1025, 0, none⟩ (.bool a0_0)).setCell ⟨gb1025, 1, none⟩ (.slice A0_1 l0_1.length c0_1)).setCell ⟨gb1025, 2, none⟩ (.int .i64 a0_2))) := ⟨bw_ HB.out⟩
    (try clear HO0_1)
    (try clear HO1_1)
    (try clear BK1024)
    (try clear BK1025)
    (try clear BK1026)
    (try clear HB)
    generalize ((((((w29.setCell ⟨gb1024, 0, none⟩ (.bool a1_0)).setCell ⟨gb1024, 1, none⟩ (.slice A1_1 l1_1.length c1_1)).setCell ⟨gb1024, 2, none⟩ (.int .i64 a1_2)).setCell ⟨gb1025, 0, none⟩ (.bool a0_0)).setCell ⟨gb1025, 1, none⟩ (.slice A0_1 l0_1.length c0_1)).setCell ⟨gb1025, 2, none⟩ (.int .i64 a0_2)) = w35 at n0_ n1_ n2_ n3_ n4_ n5_ ⊢
    have HO0_1 := n0_
    have HO1_1 := n1_
    have BK1024 := n2_
    have BK1025 := n3_
    have BK1026 := n4_
    have HB := n5_
    clear n0_ n1_ n2_ n3_ n4_ n5_
    replace HO0_1 := Aside0.mk (Kd.V_drew HO0_1.out)
    replace HO1_1 := Aside0.mk (Kd.V_drew HO1_1.out)
    replace BK1024 := Aside0.mk (blk_drew BK1024.out)
    replace BK1025 := Aside0.mk (blk_drew BK1025.out)
    replace BK1026 := Aside0.mk (blk_drew BK1026.out)
    replace HB := Aside0.mk (below_drew1 HB.out)
    refine start_ (n := 15) (S := fun w' => w'.cell? ⟨gb1025, 0, none⟩ = some (.bool a0_0) ∧ w'.cell? ⟨gb1025, 1, none⟩ = some (.slice A0_1 l0_1.length c0_1) ∧ w'.cell? ⟨gb1025, 2, none⟩ = some (.int .i64 a0_2) ∧ w'.cell? ⟨gb1024, 0, none⟩ = some (.bool a1_0) ∧ w'.cell? ⟨gb1024, 1, none⟩ = some (.slice A1_1 l1_1.length c1_1) ∧ w'.cell? ⟨gb1024, 2, none⟩ = some (.int .i64 a1_2)) (ds := []) #[false, false, false, false, false, false, false, false, false, false, false, false, false, false, false] (by kernel_rfl) rfl rfl ⟨(blk_cell BK1025.out 0).trans rfl, (blk_cell BK1025.out 1).trans rfl, (blk_cell BK1025.out 2).trans rfl, (blk_cell BK1024.out 0).trans rfl, (blk_cell BK1024.out 1).trans rfl, (blk_cell BK1024.out 2).trans rfl⟩ (fun hHeld => ?_); refine with_tabW dy_add.tab7 dy_add.bits7 (fun HT_ HW_ => ?_)
    generalize w35.drew = w36 at HO0_1 HO1_1 BK1024 BK1025 BK1026 HB hHeld ⊢
    refine pure_ (i := 0) (N := some 28) (v := ?_) (a' := ?_) #[true, false, false, false, false, false, false, false, false, false, false, false, false, false, false] rfl rfl (any_of HT_.out (by kernel_rfl)) (fun _ _ _ h => h) (Or.inl ⟨by rfl, ?_⟩) ?_ ?_
    rotate_left
    ·intro w'
     go_simp
     with_reducible rfl
    rotate_left
    ·exact pt_
    refine pure_ (i := 1) (N := some 29) (v := ?_) (a' := ?_) #[true, true, false, false, false, false, false, false, false, false, false, false, false, false, false] rfl rfl (any_of HT_.out (by kernel_rfl)) (fun _ _ _ h => h) (Or.inl ⟨by rfl, ?_⟩) ?_ ?_
    rotate_left
    ·intro w'
     go_simp
     with_reducible rfl
    rotate_left
    ·exact pt_
    refine pure_ (i := 3) (N := some 31) (v := ?_) (a' := ?_) #[true, true, false, true, false, false, false, false, false, false, false, false, false, false, false] rfl rfl (any_of HT_.out (by kernel_rfl)) (fun _ _ _ h => h) (Or.inl ⟨by rfl, ?_⟩) ?_ ?_
    rotate_left
    ·intro w'
     go_simp
     with_reducible rfl
    rotate_left
    ·exact pt_
    refine pure_ (i := 4) (N := some 32) (v := ?_) (a' := ?_) #[true, true, false, true, true, false, false, false, false, false, false, false, false, false, false] rfl rfl (any_of HT_.out (by kernel_rfl)) (fun _ _ _ h => h) (Or.inl ⟨by rfl, ?_⟩) ?_ ?_
    rotate_left
    ·intro w'
     go_simp
     with_reducible rfl
    rotate_left
    ·exact pt_
    refine pure_ (i := 6) (N := some 34) (v := ?_) (a' := ?_) #[true, true, false, true, true, false, true, false, false, false, false, false, false, false, false] rfl rfl (any_of HT_.out (by kernel_rfl)) (fun _ _ _ h => h) (Or.inl ⟨by rfl, ?_⟩) ?_ ?_
    rotate_left
    ·intro w'
     go_simp
     with_reducible rfl
    rotate_left
    ·exact pt_
    refine pure_ (i := 8) (N := some 36) (v := ?_) (a' := ?_) #[true, true, false, true, true, false, true, false, true, false, false, false, false, false, false] rfl rfl (any_of HT_.out (by kernel_rfl)) (fun _ _ _ h => h) (Or.inl ⟨by rfl, ?_⟩) ?_ ?_
    rotate_left
    ·intro w'
     go_simp
     with_reducible rfl
    rotate_left
    ·exact pt_
    refine take_ (i := 2) (N := some 30) (v := ?_) (a' := ?_) #[true, true, true, true, true, false, true, false, true, false, false, false, false, false, false] rfl rfl (take_ofW HT_.out HW_.out (by kernel_rfl)) (fun _ _ _ h => h) (Or.inl ⟨by rfl, ?_⟩) hHeld ?_ ?_
    rotate_left
    ·rintro w' ⟨s0, s1, s2, s3, s4, s5⟩
     go_simp
     with_reducible rfl
    rotate_left
    ·exact pt_
    refine take_ (i := 5) (N := some 33) (v := ?_) (a' := ?_) #[true, true, true, true, true, true, true, false, true, false, false, false, false, false, false] rfl rfl (take_ofW HT_.out HW_.out (by kernel_rfl)) (fun _ _ _ h => h) (Or.inl ⟨by rfl, ?_⟩) hHeld ?_ ?_
    rotate_left
    ·rintro w' ⟨s0, s1, s2, s3, s4, s5⟩
     go_simp
     with_reducible rfl
    rotate_left
    ·exact pt_
    refine take_ (i := 7) (N := some 35) (v := ?_) (a' := ?_) #[true, true, true, true, true, true, true, true, true, false, false, false, false, false, false] rfl rfl (take_ofW HT_.out HW_.out (by kernel_rfl)) (fun _ _ _ h => h) (Or.inl ⟨by rfl, ?_⟩) hHeld ?_ ?_
    rotate_left
    ·rintro w' ⟨s0, s1, s2, s3, s4, s5⟩
     go_simp
     with_reducible rfl
    rotate_left
    ·exact pt_
    refine take_ (i := 9) (N := some 37) (v := ?_) (a' := ?_) #[true, true, true, true, true, true, true, true, true, true, false, false, false, false, false] rfl rfl (take_ofW HT_.out HW_.out (by kernel_rfl)) (fun _ _ _ h => h) (Or.inl ⟨by rfl, ?_⟩) hHeld ?_ ?_
    rotate_left
    ·rintro w' ⟨s0, s1, s2, s3, s4, s5⟩
     go_simp
     with_reducible rfl
    rotate_left
    ·exact pt_
    refine pure_ (i := 10) (N := some 38) (v := ?_) (a' := ?_) #[true, true, true, true, true, true, true, true, true, true, true, false, false, false, false] rfl rfl (any_of HT_.out (by kernel_rfl)) (fun _ _ _ h => h) (Or.inl ⟨by rfl, ?_⟩) ?_ ?_
    rotate_left
    ·intro w'
     go_simp
     with_reducible rfl
    rotate_left
    ·exact pt_
    refine join_ (σ := Value × Nat) 1 #[true, true, true, true, true, true, true, true, true, true, true, true, true, true, false] (fun s_ => [(39, s_.1), (5, .pointer (some ⟨s_.2, 0, none⟩)), (40, .agg #[.bool a0_0, s_.1])]) (fun s_ w' => (w'.cell? ⟨gb1025, 0, none⟩ = some (.bool a0_0) ∧ w'.cell? ⟨gb1025, 1, none⟩ = some (.slice A0_1 l0_1.length c0_1) ∧ w'.cell? ⟨gb1025, 2, none⟩ = some (.int .i64 a0_2) ∧ w'.cell? ⟨gb1024, 0, none⟩ = some (.bool a1_0) ∧ w'.cell? ⟨gb1024, 1, none⟩ = some (.slice A1_1 l1_1.length c1_1) ∧ w'.cell? ⟨gb1024, 2, none⟩ = some (.int .i64 a1_2)) ∧ (Kd.V (Kd.int .u32) 53 w' w.heap.size (fun k_ => ((P0_1_ k_ ∨ P1_1_ k_) ∨ w.heap.size ≤ k_) ∧ some k_ ≠ (s_.1 : Value).ownBlock ∧ k_ ≠ gb1024 ∧ k_ ≠ gb1025 ∧ k_ ≠ gb1026 ∧ k_ ≠ s_.2) (.slice A0_1 l0_1.length c0_1) l0_1) ∧ (Kd.R (Kd.int .u32) 53 w' w.heap.size (fun k_ => (w.heap.size ≤ k_)) s_.1 t1027) ∧ (Kd.V (Kd.int .u32) 53 w' w.heap.size (fun k_ => ((P0_1_ k_ ∨ P1_1_ k_) ∨ w.heap.size ≤ k_) ∧ some k_ ≠ (s_.1 : Value).ownBlock ∧ k_ ≠ gb1024 ∧ k_ ≠ gb1025 ∧ k_ ≠ gb1026 ∧ k_ ≠ s_.2) (.slice A1_1 l1_1.length c1_1) l1_1) ∧ (w'.heap[gb1024]? = some (.cells #[.bool a1_0, .slice A1_1 l1_1.length c1_1, .int .i64 a1_2] 26 (0, 0))) ∧ (w'.heap[gb1025]? = some (.cells #[.bool a0_0, .slice A0_1 l0_1.length c0_1, .int .i64 a0_2] 26 (0, 0))) ∧ (w'.heap[gb1026]? = some (.cells #[.bool false, .slice none 0 0, .int .i64 0] 26 (0, 0))) ∧ (w'.heap[s_.2]? = some (.cells #[.bool false, .slice none 0 0] 24 (0, 0))) ∧ (w.heap.size ≤ s_.2) ∧ (w.heap.size ≤ s_.2) ∧ (gb1024 ≠ s_.2) ∧ (s_.2 ≠ gb1024) ∧ (gb1025 ≠ s_.2) ∧ (s_.2 ≠ gb1025) ∧ (gb1026 ≠ s_.2) ∧ (s_.2 ≠ gb1026) ∧ (Below w.heap.size w w')) ?_ ?_
    rotate_left
    ·intro hCont
     refine two_ (i := 11) (j := 13) (Ni := some 39) (Nj := some 5) #[true, true, true, true, true, true, true, true, true, true, true, true, false, false, false] #[true, true, true, true, true, true, true, true, true, true, true, false, false, true, false] rfl rfl rfl rfl (two_of HT_.out (by kernel_rfl)) (by decide) (by decide) (fun K hK => ?_) (fun K hK => ?_)
     ·skip
      refine gs_ Tryd.func41 #[.slice A0_1 l0_1.length c0_1, .int .i64 (wrap64 (a0_2 - a1_2))] ?_
      with_reducible refine (nat_Shl.calls k _ _ l0_1 (wrap64 (a0_2 - a1_2)) t1027 _ ?side1 ?side2 A24.out).mono ?_
      (case side1 => exact kc_ (Kd.V_reads' HO0_1.out).2.2)
      (case side2 => exact (Kd.V_reads' HO0_1.out).2.1)
      rintro e w37 ⟨v1028, rfl, ho0, hb⟩
      refine ⟨_, rfl, ?_⟩
      have n0_ := Aside0.mk (Kd.V_elder' (by (with_reducible repeat (first | apply Kd.V_alloc | apply Kd.V_drewN | apply Kd.V_drew)); exact HO0_1.out) (Kd.R_base ho0) hb)
      have n1_ := Aside0.mk (Kd.V_elder' (by (with_reducible repeat (first | apply Kd.V_alloc | apply Kd.V_drewN | apply Kd.V_drew)); exact HO1_1.out) (Kd.R_base ho0) hb)
      have n2_ := Aside0.mk (Kd.R_lower (Kd.R_newM (M := fun k_ => (w.heap.size ≤ k_)) ho0 (below_size (bw_ HB.out)) (fun k_ h_ => h_)) (below_size (bw_ HB.out)))
      have n3_ := kq_ BK1024 hb
      have n4_ := kq_ BK1025 hb
      have n5_ := kq_ BK1026 hb
      have n6_ := bq_ HB hb
      clear HO0_1
      clear HO1_1
      clear BK1024
      clear BK1025
      clear BK1026
      clear HB
      have HO0_1 := n0_
      have HO1_1 := n1_
      have HO1029 := n2_
      have BK1024 := n3_
      have BK1025 := n4_
      have BK1026 := n5_
      have HB := n6_
      clear n0_ n1_ n2_ n3_ n4_ n5_ n6_
      (try clear hb)
      (try clear hb2)
      (try clear hk)
      (try clear hi)
      (try clear ho0)
      obtain ⟨Ao38, co38, eo38⟩ := Kd.R_slice HO1029.out
      (first | subst eo38 | (injection eo38 with f1_ f2_ f3_; have f4_ := f1_.symm; have f5_ := f3_.symm; clear f1_ f2_ f3_; subst f4_; subst f5_))
      refine hK.out _ _ ⟨(blk_cell BK1025.out 0).trans rfl, (blk_cell BK1025.out 1).trans rfl, (blk_cell BK1025.out 2).trans rfl, (blk_cell BK1024.out 0).trans rfl, (blk_cell BK1024.out 1).trans rfl, (blk_cell BK1024.out 2).trans rfl⟩ (fun hHeld => ?_)
      clear hK K
      refine norm_ (a' := ?_) ?_ ?_
      rotate_left
      ·show Act.put _ (some 39) _ = _
       exact pt_
      refine pure_ (i := 12) (N := some 40) (v := ?_) (a' := ?_) #[true, true, true, true, true, true, true, true, true, true, true, true, true, false, false] rfl rfl (any_of HT_.out (by kernel_rfl)) (fun _ _ _ h => h) (Or.inl ⟨by rfl, ?_⟩) ?_ ?_
      rotate_left
      ·intro w'
       go_simp
       with_reducible rfl
      rotate_left
      ·exact pt_
      refine one_ (i := 13) (N := some 5) #[true, true, true, true, true, true, true, true, true, true, true, true, true, true, false] rfl rfl (one_of HT_.out (by kernel_rfl)) (by decide) (fun K hK => ?_)
      refine box_step ?hg (N := 5) ?hd (cs := #[.bool false, .slice none 0 0]) (t := 24) ?hr ?_; (case hd => rfl); (case hg => rfl); (case hr => first | (go_simp; done) | (go_simp; rfl))
      intro gb1030 hg w39 hbox hb
      have n0_ := Aside0.mk (Kd.V_below (Kd.V_elderB (by (with_reducible repeat (first | apply Kd.V_alloc | apply Kd.V_drewN | apply Kd.V_drew)); exact HO0_1.out) gb1030 (Nat.le_of_eq hg.symm)) hb)
      have n1_ := Aside0.mk (Kd.V_below (Kd.V_elderB (by (with_reducible repeat (first | apply Kd.V_alloc | apply Kd.V_drewN | apply Kd.V_drew)); exact HO1_1.out) gb1030 (Nat.le_of_eq hg.symm)) hb)
      have n2_ := Aside0.mk (Kd.R_below (kr_ HO1029.out) hb)
      have n3_ := kq_ BK1024 hb
      have n4_ := kq_ BK1025 hb
      have n5_ := kq_ BK1026 hb
      have n6_ := bq_ HB hb
      have n7_ := Aside0.mk (hbox)
      have n8_ := ge_ hg HB
      have n9_ := ge_ hg HB
      have n10_ := nb_ hg BK1024
      have n11_ := nc_ hg BK1024
      have n12_ := nb_ hg BK1025
      have n13_ := nc_ hg BK1025
      have n14_ := nb_ hg BK1026
      have n15_ := nc_ hg BK1026
      clear HO0_1
      clear HO1_1
      clear HO1029
      clear BK1024
      clear BK1025
      clear BK1026
      clear HB
      have HO0_1 := n0_
      have HO1_1 := n1_
      have HO1029 := n2_
      have BK1024 := n3_
      have BK1025 := n4_
      have BK1026 := n5_
      have HB := n6_
      have BK1030 := n7_
      have GW1030 := n8_
      have GE1030 := n9_
      have NB1024_1030 := n10_
      have NB1030_1024 := n11_
      have NB1025_1030 := n12_
      have NB1030_1025 := n13_
      have NB1026_1030 := n14_
      have NB1030_1026 := n15_
      clear n0_ n1_ n2_ n3_ n4_ n5_ n6_ n7_ n8_ n9_ n10_ n11_ n12_ n13_ n14_ n15_
      clear hb hbox hg
      refine hK.out _ _ ⟨(blk_cell BK1025.out 0).trans rfl, (blk_cell BK1025.out 1).trans rfl, (blk_cell BK1025.out 2).trans rfl, (blk_cell BK1024.out 0).trans rfl, (blk_cell BK1024.out 1).trans rfl, (blk_cell BK1024.out 2).trans rfl⟩ (fun hHeld => ?_)
      clear hK K
      refine norm_ (a' := ?_) ?_ ?_
      rotate_left
      ·show Act.put _ (some 5) _ = _
       exact pt_
      exact norm_ (by simp only [putAll, Act.put, List.setIfInBounds_toArray, List.set_cons_zero, List.set_cons_succ]) (hCont (.slice Ao38 t1027.length co38, gb1030) _ ⟨hHeld, (by (with_reducible repeat (first | apply Kd.V_alloc | apply Kd.V_drewN | apply Kd.V_drew)); exact Kd.V_mono HO0_1.out (fun _ hk => by first | exact ⟨hk.1.1.1, ⟨hk.1.2, ⟨hk.1.1.2.1, ⟨hk.1.1.2.2.1, ⟨hk.1.1.2.2.2, hk.2⟩⟩⟩⟩⟩ | simp [hk])), (kr_ (Kd.R_mono HO1029.out (fun _ hk => hk.1))), (by (with_reducible repeat (first | apply Kd.V_alloc | apply Kd.V_drewN | apply Kd.V_drew)); exact Kd.V_mono HO1_1.out (fun _ hk => by first | exact ⟨hk.1.1.1, ⟨hk.1.2, ⟨hk.1.1.2.1, ⟨hk.1.1.2.2.1, ⟨hk.1.1.2.2.2, hk.2⟩⟩⟩⟩⟩ | simp [hk])), (kb_ BK1024.out), (kb_ BK1025.out), (kb_ BK1026.out), (kb_ BK1030.out), GW1030.out, GE1030.out, NB1024_1030.out, NB1030_1024.out, NB1025_1030.out, NB1030_1025.out, NB1026_1030.out, NB1030_1026.out, (bw_ HB.out)⟩)
     ·skip
      refine box_step ?hg (N := 5) ?hd (cs := #[.bool false, .slice none 0 0]) (t := 24) ?hr ?_; (case hd => rfl); (case hg => rfl); (case hr => first | (go_simp; done) | (go_simp; rfl))
      intro gb1030 hg w37 hbox hb
      have n0_ := Aside0.mk (Kd.V_below (Kd.V_elderB (by (with_reducible repeat (first | apply Kd.V_alloc | apply Kd.V_drewN | apply Kd.V_drew)); exact HO0_1.out) gb1030 (Nat.le_of_eq hg.symm)) hb)
      have n1_ := Aside0.mk (Kd.V_below (Kd.V_elderB (by (with_reducible repeat (first | apply Kd.V_alloc | apply Kd.V_drewN | apply Kd.V_drew)); exact HO1_1.out) gb1030 (Nat.le_of_eq hg.symm)) hb)
      have n2_ := kq_ BK1024 hb
      have n3_ := kq_ BK1025 hb
      have n4_ := kq_ BK1026 hb
      have n5_ := bq_ HB hb
      have n6_ := Aside0.mk (hbox)
      have n7_ := ge_ hg HB
      have n8_ := ge_ hg HB
      have n9_ := nb_ hg BK1024
      have n10_ := nc_ hg BK1024
      have n11_ := nb_ hg BK1025
      have n12_ := nc_ hg BK1025
      have n13_ := nb_ hg BK1026
      have n14_ := nc_ hg BK1026
      clear HO0_1
      clear HO1_1
      clear BK1024
      clear BK1025
      clear BK1026
      clear HB
      have HO0_1 := n0_
      have HO1_1 := n1_
      have BK1024 := n2_
      have BK1025 := n3_
      have BK1026 := n4_
      have HB := n5_
      have BK1030 := n6_
      have GW1030 := n7_
      have GE1030 := n8_
      have NB1024_1030 := n9_
      have NB1030_1024 := n10_
      have NB1025_1030 := n11_
      have NB1030_1025 := n12_
      have NB1026_1030 := n13_
      have NB1030_1026 := n14_
      clear n0_ n1_ n2_ n3_ n4_ n5_ n6_ n7_ n8_ n9_ n10_ n11_ n12_ n13_ n14_
      clear hb hbox hg
      refine hK.out _ _ ⟨(blk_cell BK1025.out 0).trans rfl, (blk_cell BK1025.out 1).trans rfl, (blk_cell BK1025.out 2).trans rfl, (blk_cell BK1024.out 0).trans rfl, (blk_cell BK1024.out 1).trans rfl, (blk_cell BK1024.out 2).trans rfl⟩ (fun hHeld => ?_)
      clear hK K
      refine norm_ (a' := ?_) ?_ ?_
      rotate_left
      ·show Act.put _ (some 5) _ = _
       exact pt_
      refine one_ (i := 11) (N := some 39) #[true, true, true, true, true, true, true, true, true, true, true, true, false, true, false] rfl rfl (one_of HT_.out (by kernel_rfl)) (by decide) (fun K hK => ?_)
      refine gs_ Tryd.func41 #[.slice A0_1 l0_1.length c0_1, .int .i64 (wrap64 (a0_2 - a1_2))] ?_
      with_reducible refine (nat_Shl.calls k _ _ l0_1 (wrap64 (a0_2 - a1_2)) t1027 _ ?side1 ?side2 A24.out).mono ?_
      (case side1 => exact kc_ (Kd.V_reads' HO0_1.out).2.2)
      (case side2 => exact (Kd.V_reads' HO0_1.out).2.1)
      rintro e w38 ⟨v1028, rfl, ho0, hb⟩
      refine ⟨_, rfl, ?_⟩
      have n0_ := Aside0.mk (Kd.V_elder' (by (with_reducible repeat (first | apply Kd.V_alloc | apply Kd.V_drewN | apply Kd.V_drew)); exact HO0_1.out) (Kd.R_base ho0) hb)
      have n1_ := Aside0.mk (Kd.V_elder' (by (with_reducible repeat (first | apply Kd.V_alloc | apply Kd.V_drewN | apply Kd.V_drew)); exact HO1_1.out) (Kd.R_base ho0) hb)
      have n2_ := Aside0.mk (Kd.R_lower (Kd.R_newM (M := fun k_ => (w.heap.size ≤ k_)) ho0 (below_size (bw_ HB.out)) (fun k_ h_ => h_)) (below_size (bw_ HB.out)))
      have n3_ := kq_ BK1024 hb
      have n4_ := kq_ BK1025 hb
      have n5_ := kq_ BK1026 hb
      have n6_ := kq_ BK1030 hb
      have n7_ := bq_ HB hb
      clear HO0_1
      clear HO1_1
      clear BK1024
      clear BK1025
      clear BK1026
      clear BK1030
      clear HB
      have HO0_1 := n0_
      have HO1_1 := n1_
      have HO1029 := n2_
      have BK1024 := n3_
      have BK1025 := n4_
      have BK1026 := n5_
      have BK1030 := n6_
      have HB := n7_
      clear n0_ n1_ n2_ n3_ n4_ n5_ n6_ n7_
      (try clear hb)
      (try clear hb2)
      (try clear hk)
      (try clear hi)
      (try clear ho0)
      obtain ⟨Ao39, co39, eo39⟩ := Kd.R_slice HO1029.out
      (first | subst eo39 | (injection eo39 with f1_ f2_ f3_; have f4_ := f1_.symm; have f5_ := f3_.symm; clear f1_ f2_ f3_; subst f4_; subst f5_))
      refine hK.out _ _ ⟨(blk_cell BK1025.out 0).trans rfl, (blk_cell BK1025.out 1).trans rfl, (blk_cell BK1025.out 2).trans rfl, (blk_cell BK1024.out 0).trans rfl, (blk_cell BK1024.out 1).trans rfl, (blk_cell BK1024.out 2).trans rfl⟩ (fun hHeld => ?_)
      clear hK K
      refine norm_ (a' := ?_) ?_ ?_
      rotate_left
      ·show Act.put _ (some 39) _ = _
       exact pt_
      refine pure_ (i := 12) (N := some 40) (v := ?_) (a' := ?_) #[true, true, true, true, true, true, true, true, true, true, true, true, true, true, false] rfl rfl (any_of HT_.out (by kernel_rfl)) (fun _ _ _ h => h) (Or.inl ⟨by rfl, ?_⟩) ?_ ?_
      rotate_left
      ·intro w'
       go_simp
       with_reducible rfl
      rotate_left
      ·exact pt_
      exact norm_ (by simp only [putAll, Act.put, List.setIfInBounds_toArray, List.set_cons_zero, List.set_cons_succ]) (hCont (.slice Ao39 t1027.length co39, gb1030) _ ⟨hHeld, (by (with_reducible repeat (first | apply Kd.V_alloc | apply Kd.V_drewN | apply Kd.V_drew)); exact Kd.V_mono HO0_1.out (fun _ hk => by first | exact ⟨hk.1.1.1, ⟨hk.2, ⟨hk.1.1.2.1, ⟨hk.1.1.2.2.1, ⟨hk.1.1.2.2.2, hk.1.2⟩⟩⟩⟩⟩ | simp [hk])), (kr_ (Kd.R_mono HO1029.out (fun _ hk => hk.1))), (by (with_reducible repeat (first | apply Kd.V_alloc | apply Kd.V_drewN | apply Kd.V_drew)); exact Kd.V_mono HO1_1.out (fun _ hk => by first | exact ⟨hk.1.1.1, ⟨hk.2, ⟨hk.1.1.2.1, ⟨hk.1.1.2.2.1, ⟨hk.1.1.2.2.2, hk.1.2⟩⟩⟩⟩⟩ | simp [hk])), (kb_ BK1024.out), (kb_ BK1025.out), (kb_ BK1026.out), (kb_ BK1030.out), GW1030.out, GE1030.out, NB1024_1030.out, NB1030_1024.out, NB1025_1030.out, NB1030_1025.out, NB1026_1030.out, NB1030_1026.out, (bw_ HB.out)⟩)
    rintro ⟨v1028, gb1030⟩ w40 ⟨hS_, h0_, h1_, h2_, h3_, h4_, h5_, h6_, h7_, h8_, h9_, h10_, h11_, h12_, h13_, h14_, h15_⟩
    have HO1029 := Aside0.mk h1_
    have BK1030 := Aside0.mk h6_
    have GW1030 := Aside0.mk h7_
    have GE1030 := Aside0.mk h8_
    have NB1024_1030 := Aside0.mk h9_
    have NB1030_1024 := Aside0.mk h10_
    have NB1025_1030 := Aside0.mk h11_
    have NB1030_1025 := Aside0.mk h12_
    have NB1026_1030 := Aside0.mk h13_
    have NB1030_1026 := Aside0.mk h14_
    replace HO0_1 := Aside0.mk h0_
    replace HO1_1 := Aside0.mk h2_
    replace BK1024 := Aside0.mk h3_
    replace BK1025 := Aside0.mk h4_
    replace BK1026 := Aside0.mk h5_
    replace HB := Aside0.mk h15_
    clear h0_ h1_ h2_ h3_ h4_ h5_ h6_ h7_ h8_ h9_ h10_ h11_ h12_ h13_ h14_ h15_
    have hHeld : w40.cell? ⟨gb1025, 0, none⟩ = some (.bool a0_0) ∧ w40.cell? ⟨gb1025, 1, none⟩ = some (.slice A0_1 l0_1.length c0_1) ∧ w40.cell? ⟨gb1025, 2, none⟩ = some (.int .i64 a0_2) ∧ w40.cell? ⟨gb1024, 0, none⟩ = some (.bool a1_0) ∧ w40.cell? ⟨gb1024, 1, none⟩ = some (.slice A1_1 l1_1.length c1_1) ∧ w40.cell? ⟨gb1024, 2, none⟩ = some (.int .i64 a1_2) := hS_
    obtain ⟨Ao41, co41, eo41⟩ := Kd.R_slice HO1029.out
    (first | subst eo41 | (injection eo41 with f1_ f2_ f3_; have f4_ := f1_.symm; have f5_ := f3_.symm; clear f1_ f2_ f3_; subst f4_; subst f5_))
    refine norm_ (a' := ?_) ?_ ?_
    rotate_left
    ·simp only [putAll, Act.put, List.setIfInBounds_toArray, List.set_cons_zero, List.set_cons_succ]
     rfl
    refine one_ (i := 14) (N := none) #[true, true, true, true, true, true, true, true, true, true, true, true, true, true, true] rfl rfl (one_of HT_.out (by kernel_rfl)) (by decide) (fun K hK => ?_)
    have hs42 : w40.cell? ⟨gb1030, 0, none⟩ = some (.bool false) := (blk_cell BK1030.out 0).trans rfl
    have hfs42 := fz_ BK1030 0
    have hns42_0 := NB1024_1030.out
    have hns42_1 := NB1025_1030.out
    have hns42_2 := NB1026_1030.out
    have hms42_0 := NB1030_1024.out
    have hms42_1 := NB1030_1025.out
    have hms42_2 := NB1030_1026.out
    have hs43 : w40.cell? ⟨gb1030, 1, none⟩ = some (.slice none 0 0) := (blk_cell BK1030.out 1).trans rfl
    have hfs43 := fz_ BK1030 1
    have hns43_0 := NB1024_1030.out
    have hns43_1 := NB1025_1030.out
    have hns43_2 := NB1026_1030.out
    have hms43_0 := NB1030_1024.out
    have hms43_1 := NB1030_1025.out
    have hms43_2 := NB1030_1026.out
    refine skip_ (w1 := ?_) (by rfl) rfl ?_ ?_
    rotate_left
    ·go_simp
     rfl
    refine hK.out _ _ ⟨((cell_far (p := ⟨gb1030, _, none⟩) NB1025_1030.out _).trans (((cell_far (p := ⟨gb1030, _, none⟩) NB1025_1030.out _).trans (hHeld.1)))), ((cell_far (p := ⟨gb1030, _, none⟩) NB1025_1030.out _).trans (((cell_far (p := ⟨gb1030, _, none⟩) NB1025_1030.out _).trans (hHeld.2.1)))), ((cell_far (p := ⟨gb1030, _, none⟩) NB1025_1030.out _).trans (((cell_far (p := ⟨gb1030, _, none⟩) NB1025_1030.out _).trans (hHeld.2.2.1)))), ((cell_far (p := ⟨gb1030, _, none⟩) NB1024_1030.out _).trans (((cell_far (p := ⟨gb1030, _, none⟩) NB1024_1030.out _).trans (hHeld.2.2.2.1)))), ((cell_far (p := ⟨gb1030, _, none⟩) NB1024_1030.out _).trans (((cell_far (p := ⟨gb1030, _, none⟩) NB1024_1030.out _).trans (hHeld.2.2.2.2.1)))), ((cell_far (p := ⟨gb1030, _, none⟩) NB1024_1030.out _).trans (((cell_far (p := ⟨gb1030, _, none⟩) NB1024_1030.out _).trans (hHeld.2.2.2.2.2))))⟩ (fun hHeld => ?_)
    clear hK K
    refine done_ (done_of HT_.out (by kernel_rfl)) ?_
    try go_wp2
    have n0_ : Aside0 (Kd.V (Kd.int .u32) 53 ((w40.setCell ⟨gb1030, 0, none⟩ (.bool a0_0)).setCell ⟨gb1030, 1, none⟩ (.slice Ao41 t1027.length co41)) w.heap.size (fun k_ => ((P0_1_ k_ ∨ P1_1_ k_) ∨ w.heap.size ≤ k_) ∧ some k_ ≠ (.slice Ao41 t1027.length co41 : Value).ownBlock ∧ k_ ≠ gb1024 ∧ k_ ≠ gb1025 ∧ k_ ≠ gb1026 ∧ k_ ≠ gb1030) (.slice A0_1 l0_1.length c0_1) l0_1) := ⟨by (with_reducible repeat (first | apply Kd.V_alloc | apply Kd.V_drewN | apply Kd.V_drew)); exact Kd.V_mono (Kd.V_far (p := ⟨gb1030, 1, none⟩) (Kd.V_far (p := ⟨gb1030, 0, none⟩) (Kd.V_mono HO0_1.out (fun k_ hk => (⟨hk, hk.2.2.2.2.2⟩ : _ ∧ k_ ≠ gb1030))) (fun _ hk => hk.2) (.bool a0_0)) (fun _ hk => hk.2) (.slice Ao41 t1027.length co41)) (fun _ hk => by first | exact ⟨hk.1.1, ⟨hk.1.2.1, ⟨hk.1.2.2.1, ⟨hk.1.2.2.2.1, ⟨hk.1.2.2.2.2.1, hk.1.2.2.2.2.2⟩⟩⟩⟩⟩ | simp [hk])⟩
    have n1_ : Aside0 (Kd.V (Kd.int .u32) 53 ((w40.setCell ⟨gb1030, 0, none⟩ (.bool a0_0)).setCell ⟨gb1030, 1, none⟩ (.slice Ao41 t1027.length co41)) w.heap.size (fun k_ => ((P0_1_ k_ ∨ P1_1_ k_) ∨ w.heap.size ≤ k_) ∧ some k_ ≠ (.slice Ao41 t1027.length co41 : Value).ownBlock ∧ k_ ≠ gb1024 ∧ k_ ≠ gb1025 ∧ k_ ≠ gb1026 ∧ k_ ≠ gb1030) (.slice A1_1 l1_1.length c1_1) l1_1) := ⟨by (with_reducible repeat (first | apply Kd.V_alloc | apply Kd.V_drewN | apply Kd.V_drew)); exact Kd.V_mono (Kd.V_far (p := ⟨gb1030, 1, none⟩) (Kd.V_far (p := ⟨gb1030, 0, none⟩) (Kd.V_mono HO1_1.out (fun k_ hk => (⟨hk, hk.2.2.2.2.2⟩ : _ ∧ k_ ≠ gb1030))) (fun _ hk => hk.2) (.bool a0_0)) (fun _ hk => hk.2) (.slice Ao41 t1027.length co41)) (fun _ hk => by first | exact ⟨hk.1.1, ⟨hk.1.2.1, ⟨hk.1.2.2.1, ⟨hk.1.2.2.2.1, ⟨hk.1.2.2.2.2.1, hk.1.2.2.2.2.2⟩⟩⟩⟩⟩ | simp [hk])⟩
    have n2_ : Aside0 (Kd.R (Kd.int .u32) 53 ((w40.setCell ⟨gb1030, 0, none⟩ (.bool a0_0)).setCell ⟨gb1030, 1, none⟩ (.slice Ao41 t1027.length co41)) w.heap.size (fun k_ => (w.heap.size ≤ k_)) (.slice Ao41 t1027.length co41) t1027) := ⟨by (with_reducible repeat (first | apply Kd.R_alloc | apply Kd.R_drewN | apply Kd.R_drew)); exact Kd.R_mono (Kd.R_far (p := ⟨gb1030, 1, none⟩) (Kd.R_far (p := ⟨gb1030, 0, none⟩) (Kd.R_types HO1029.out BK1030.out (by decide)) (fun _ hk => hk.2) (.bool a0_0)) (fun _ hk => hk.2) (.slice Ao41 t1027.length co41)) (fun _ hk => hk.1)⟩
    have n3_ : Aside0 (((w40.setCell ⟨gb1030, 0, none⟩ (.bool a0_0)).setCell ⟨gb1030, 1, none⟩ (.slice Ao41 t1027.length co41)).heap[gb1024]? = some (.cells #[.bool a1_0, .slice A1_1 l1_1.length c1_1, .int .i64 a1_2] 26 (0, 0))) := ⟨by refine kb_ ?_; refine bf_ NB1024_1030 ?_; refine bf_ NB1024_1030 ?_; exact BK1024.out⟩
    have n4_ : Aside0 (((w40.setCell ⟨gb1030, 0, none⟩ (.bool a0_0)).setCell ⟨gb1030, 1, none⟩ (.slice Ao41 t1027.length co41)).heap[gb1025]? = some (.cells #[.bool a0_0, .slice A0_1 l0_1.length c0_1, .int .i64 a0_2] 26 (0, 0))) := ⟨by refine kb_ ?_; refine bf_ NB1025_1030 ?_; refine bf_ NB1025_1030 ?_; exact BK1025.out⟩
    have n5_ : Aside0 (((w40.setCell ⟨gb1030, 0, none⟩ (.bool a0_0)).setCell ⟨gb1030, 1, none⟩ (.slice Ao41 t1027.length co41)).heap[gb1026]? = some (.cells #[.bool false, .slice none 0 0, .int .i64 0] 26 (0, 0))) := ⟨by refine kb_ ?_; refine bf_ NB1026_1030 ?_; refine bf_ NB1026_1030 ?_; exact BK1026.out⟩
    have n6_ : Aside0 (((w40.setCell ⟨gb1030, 0, none⟩ (.bool a0_0)).setCell ⟨gb1030, 1, none⟩ (.slice Ao41 t1027.length co41)).heap[gb1030]? = some (.cells #[.bool a0_0, .slice Ao41 t1027.length co41] 24 (0, 0))) := ⟨by refine kb_ ?_; refine bp_ #[.bool a0_0, .slice none 0 0] 1 ?_; refine bp_ #[.bool false, .slice none 0 0] 0 ?_; exact BK1030.out⟩
    have n7_ : Aside0 (Below w.heap.size w ((w40.setCell ⟨gb1030, 0, none⟩ (.bool a0_0)).setCell ⟨gb1030, 1, none⟩ (.slice Ao41 t1027.length co41))) := ⟨bw_ HB.out⟩
    (try clear HO0_1)
    (try clear HO1_1)
    (try clear HO1029)
    (try clear BK1024)
    (try clear BK1025)
    (try clear BK1026)
    (try clear BK1030)
    (try clear HB)
    generalize ((w40.setCell ⟨gb1030, 0, none⟩ (.bool a0_0)).setCell ⟨gb1030, 1, none⟩ (.slice Ao41 t1027.length co41)) = w44 at n0_ n1_ n2_ n3_ n4_ n5_ n6_ n7_ ⊢
    have HO0_1 := n0_
    have HO1_1 := n1_
    have HO1029 := n2_
    have BK1024 := n3_
    have BK1025 := n4_
    have BK1026 := n5_
    have BK1030 := n6_
    have HB := n7_
    clear n0_ n1_ n2_ n3_ n4_ n5_ n6_ n7_
    replace HO0_1 := Aside0.mk (Kd.V_drew HO0_1.out)
    replace HO1_1 := Aside0.mk (Kd.V_drew HO1_1.out)
    replace HO1029 := Aside0.mk (Kd.R_drew HO1029.out)
    replace BK1024 := Aside0.mk (blk_drew BK1024.out)
    replace BK1025 := Aside0.mk (blk_drew BK1025.out)
    replace BK1026 := Aside0.mk (blk_drew BK1026.out)
    replace BK1030 := Aside0.mk (blk_drew BK1030.out)
    replace HB := Aside0.mk (below_drew1 HB.out)
    refine start_ (n := 8) (S := fun w' => w'.cell? ⟨gb1024, 0, none⟩ = some (.bool a1_0) ∧ w'.cell? ⟨gb1024, 1, none⟩ = some (.slice A1_1 l1_1.length c1_1) ∧ w'.cell? ⟨gb1024, 2, none⟩ = some (.int .i64 a1_2) ∧ w'.cell? ⟨gb1030, 0, none⟩ = some (.bool a0_0) ∧ w'.cell? ⟨gb1030, 1, none⟩ = some (.slice Ao41 t1027.length co41)) (ds := []) #[false, false, false, false, false, false, false, false] (by kernel_rfl) rfl rfl ⟨(blk_cell BK1024.out 0).trans rfl, (blk_cell BK1024.out 1).trans rfl, (blk_cell BK1024.out 2).trans rfl, (blk_cell BK1030.out 0).trans rfl, (blk_cell BK1030.out 1).trans rfl⟩ (fun hHeld => ?_); refine with_tabW dy_add.tab8 dy_add.bits8 (fun HT_ HW_ => ?_)
    generalize w44.drew = w45 at HO0_1 HO1_1 HO1029 BK1024 BK1025 BK1026 BK1030 HB hHeld ⊢
    refine pure_ (i := 0) (N := some 41) (v := ?_) (a' := ?_) #[true, false, false, false, false, false, false, false] rfl rfl (any_of HT_.out (by kernel_rfl)) (fun _ _ _ h => h) (Or.inl ⟨by rfl, ?_⟩) ?_ ?_
    rotate_left
    ·intro w'
     go_simp
     with_reducible rfl
    rotate_left
    ·exact pt_
    refine pure_ (i := 4) (N := some 45) (v := ?_) (a' := ?_) #[true, false, false, false, true, false, false, false] rfl rfl (any_of HT_.out (by kernel_rfl)) (fun _ _ _ h => h) (Or.inl ⟨by rfl, ?_⟩) ?_ ?_
    rotate_left
    ·intro w'
     go_simp
     with_reducible rfl
    rotate_left
    ·exact pt_
    refine take_ (i := 1) (N := some 42) (v := ?_) (a' := ?_) #[true, true, false, false, true, false, false, false] rfl rfl (take_ofW HT_.out HW_.out (by kernel_rfl)) (fun _ _ _ h => h) (Or.inl ⟨by rfl, ?_⟩) hHeld ?_ ?_
    rotate_left
    ·rintro w' ⟨s0, s1, s2, s3, s4⟩
     go_simp
     with_reducible rfl
    rotate_left
    ·exact pt_
    refine take_ (i := 2) (N := some 43) (v := ?_) (a' := ?_) #[true, true, true, false, true, false, false, false] rfl rfl (take_ofW HT_.out HW_.out (by kernel_rfl)) (fun _ _ _ h => h) (Or.inl ⟨by rfl, ?_⟩) hHeld ?_ ?_
    rotate_left
    ·rintro w' ⟨s0, s1, s2, s3, s4⟩
     go_simp
     with_reducible rfl
    rotate_left
    ·exact pt_
    refine take_ (i := 5) (N := some 46) (v := ?_) (a' := ?_) #[true, true, true, false, true, true, false, false] rfl rfl (take_ofW HT_.out HW_.out (by kernel_rfl)) (fun _ _ _ h => h) (Or.inl ⟨by rfl, ?_⟩) hHeld ?_ ?_
    rotate_left
    ·rintro w' ⟨s0, s1, s2, s3, s4⟩
     go_simp
     with_reducible rfl
    rotate_left
    ·exact pt_
    refine one_ (i := 3) (N := some 44) #[true, true, true, true, true, true, false, false] rfl rfl (one_of HT_.out (by kernel_rfl)) (by decide) (fun K hK => ?_)
    refine gs_ Tryd.func92 #[.agg #[.bool a1_0, .slice A1_1 l1_1.length c1_1], .agg #[.bool a0_0, .slice Ao41 t1027.length co41]] ?_
    with_reducible refine (whole_Add.calls k a1_0 _ _ l1_1 a0_0 _ _ t1027 t1031 t1032 _ ?side1 ?side2 ?side3 ?side4 A25.out).mono ?_
    (case side1 => exact kc_ (Kd.V_reads' HO1_1.out).2.2)
    (case side2 => exact (Kd.V_reads' HO1_1.out).2.1)
    (case side3 => exact kc_ (Kd.R_reads' HO1029.out).2.2)
    (case side4 => exact (Kd.R_reads' HO1029.out).2.1)
    rintro e w46 ⟨v1033, rfl, ho0, hb⟩
    refine ⟨_, rfl, ?_⟩
    have n0_ := Aside0.mk (Kd.V_elder' (by (with_reducible repeat (first | apply Kd.V_alloc | apply Kd.V_drewN | apply Kd.V_drew)); exact HO0_1.out) (Kd.R_base ho0) hb)
    have n1_ := Aside0.mk (Kd.V_elder' (by (with_reducible repeat (first | apply Kd.V_alloc | apply Kd.V_drewN | apply Kd.V_drew)); exact HO1_1.out) (Kd.R_base ho0) hb)
    have n2_ := Aside0.mk (Kd.R_elder' (kr_ HO1029.out) (Kd.R_base ho0) hb)
    have n3_ := Aside0.mk (Kd.R_lower (Kd.R_new' (Kd.R_newM (M := fun k_ => (w.heap.size ≤ k_)) ho0 (below_size (bw_ HB.out)) (fun k_ h_ => h_)) (Kd.R_lt (kr_ HO1029.out))) (below_size (bw_ HB.out)))
    have n4_ := kq_ BK1024 hb
    have n5_ := kq_ BK1025 hb
    have n6_ := kq_ BK1026 hb
    have n7_ := kq_ BK1030 hb
    have n8_ := bq_ HB hb
    clear HO0_1
    clear HO1_1
    clear HO1029
    clear BK1024
    clear BK1025
    clear BK1026
    clear BK1030
    clear HB
    have HO0_1 := n0_
    have HO1_1 := n1_
    have HO1029 := n2_
    have HO1034 := n3_
    have BK1024 := n4_
    have BK1025 := n5_
    have BK1026 := n6_
    have BK1030 := n7_
    have HB := n8_
    clear n0_ n1_ n2_ n3_ n4_ n5_ n6_ n7_ n8_
    (try clear hb)
    (try clear hb2)
    (try clear hk)
    (try clear hi)
    (try clear ho0)
    obtain ⟨Ao47, co47, eo47⟩ := Kd.R_slice HO1034.out
    (first | subst eo47 | (injection eo47 with f1_ f2_ f3_; have f4_ := f1_.symm; have f5_ := f3_.symm; clear f1_ f2_ f3_; subst f4_; subst f5_))
    refine hK.out _ _ ⟨(blk_cell BK1024.out 0).trans rfl, (blk_cell BK1024.out 1).trans rfl, (blk_cell BK1024.out 2).trans rfl, (blk_cell BK1030.out 0).trans rfl, (blk_cell BK1030.out 1).trans rfl⟩ (fun hHeld => ?_)
    clear hK K
    refine norm_ (a' := ?_) ?_ ?_
    rotate_left
    ·show Act.put _ (some 44) _ = _
     exact pt_
    refine one_ (i := 6) (N := some 47) #[true, true, true, true, true, true, true, false] rfl rfl (one_of HT_.out (by kernel_rfl)) (by decide) (fun K hK => ?_)
    refine gs_ Tryd.func58 #[.agg #[.bool t1031, .slice Ao47 t1032.length co47], .int .i64 a1_2] ?_
    with_reducible refine (dy_Make.calls k t1031 _ _ t1032 a1_2 t1035 t1036 t1039 _ ?side1 ?side2 A26.out ?sidet).mono ?_
    (case sidet => exact Kd.C_below HTAB.out (bw_ HB.out))
    (case side1 => exact kc_ (Kd.R_reads' HO1034.out).2.2)
    (case side2 => exact (Kd.R_reads' HO1034.out).2.1)
    rintro e w48 ⟨v1037, rfl, ho0, hb⟩
    refine ⟨_, rfl, ?_⟩
    have n0_ := Aside0.mk (Kd.V_elder' (by (with_reducible repeat (first | apply Kd.V_alloc | apply Kd.V_drewN | apply Kd.V_drew)); exact HO0_1.out) (Kd.R_base ho0) hb)
    have n1_ := Aside0.mk (Kd.V_elder' (by (with_reducible repeat (first | apply Kd.V_alloc | apply Kd.V_drewN | apply Kd.V_drew)); exact HO1_1.out) (Kd.R_base ho0) hb)
    have n2_ := Aside0.mk (Kd.R_elder' (kr_ HO1029.out) (Kd.R_base ho0) hb)
    have n3_ := Aside0.mk (Kd.R_elder' (kr_ HO1034.out) (Kd.R_base ho0) hb)
    have n4_ := Aside0.mk (Kd.R_lower (Kd.R_new' (Kd.R_new' (Kd.R_newM (M := fun k_ => (w.heap.size ≤ k_)) ho0 (below_size (bw_ HB.out)) (fun k_ h_ => h_)) (Kd.R_lt (kr_ HO1029.out))) (Kd.R_lt (kr_ HO1034.out))) (below_size (bw_ HB.out)))
    have n5_ := kq_ BK1024 hb
    have n6_ := kq_ BK1025 hb
    have n7_ := kq_ BK1026 hb
    have n8_ := kq_ BK1030 hb
    have n9_ := bq_ HB hb
    clear HO0_1
    clear HO1_1
    clear HO1029
    clear HO1034
    clear BK1024
    clear BK1025
    clear BK1026
    clear BK1030
    clear HB
    have HO0_1 := n0_
    have HO1_1 := n1_
    have HO1029 := n2_
    have HO1034 := n3_
    have HO1038 := n4_
    have BK1024 := n5_
    have BK1025 := n6_
    have BK1026 := n7_
    have BK1030 := n8_
    have HB := n9_
    clear n0_ n1_ n2_ n3_ n4_ n5_ n6_ n7_ n8_ n9_
    (try clear hb)
    (try clear hb2)
    (try clear hk)
    (try clear hi)
    (try clear ho0)
    obtain ⟨Ao50, co50, eo50⟩ := Kd.R_slice HO1038.out
    (first | subst eo50 | (injection eo50 with f1_ f2_ f3_; have f4_ := f1_.symm; have f5_ := f3_.symm; clear f1_ f2_ f3_; subst f4_; subst f5_))
    refine hK.out _ _ ⟨(blk_cell BK1024.out 0).trans rfl, (blk_cell BK1024.out 1).trans rfl, (blk_cell BK1024.out 2).trans rfl, (blk_cell BK1030.out 0).trans rfl, (blk_cell BK1030.out 1).trans rfl⟩ (fun hHeld => ?_)
    clear hK K
    refine norm_ (a' := ?_) ?_ ?_
    rotate_left
    ·show Act.put _ (some 47) _ = _
     exact pt_
    refine one_ (i := 7) (N := none) #[true, true, true, true, true, true, true, true] rfl rfl (one_of HT_.out (by kernel_rfl)) (by decide) (fun K hK => ?_)
    have hs49 : w48.cell? ⟨gb1026, 0, none⟩ = some (.bool false) := (blk_cell BK1026.out 0).trans rfl
    have hfs49 := fz_ BK1026 0
    have hns49_0 := NB1024_1026.out
    have hns49_1 := NB1025_1026.out
    have hns49_3 := NB1030_1026.out
    have hms49_0 := NB1026_1024.out
    have hms49_1 := NB1026_1025.out
    have hms49_3 := NB1026_1030.out
    have hs51 : w48.cell? ⟨gb1026, 1, none⟩ = some (.slice none 0 0) := (blk_cell BK1026.out 1).trans rfl
    have hfs51 := fz_ BK1026 1
    have hns51_0 := NB1024_1026.out
    have hns51_1 := NB1025_1026.out
    have hns51_3 := NB1030_1026.out
    have hms51_0 := NB1026_1024.out
    have hms51_1 := NB1026_1025.out
    have hms51_3 := NB1026_1030.out
    have hs52 : w48.cell? ⟨gb1026, 2, none⟩ = some (.int .i64 0) := (blk_cell BK1026.out 2).trans rfl
    have hfs52 := fz_ BK1026 2
    have hns52_0 := NB1024_1026.out
    have hns52_1 := NB1025_1026.out
    have hns52_3 := NB1030_1026.out
    have hms52_0 := NB1026_1024.out
    have hms52_1 := NB1026_1025.out
    have hms52_3 := NB1026_1030.out
    refine skip_ (w1 := ?_) (by rfl) rfl ?_ ?_
    rotate_left
    ·go_simp
     rfl
    refine hK.out _ _ ⟨((cell_far (p := ⟨gb1026, _, none⟩) NB1024_1026.out _).trans (((cell_far (p := ⟨gb1026, _, none⟩) NB1024_1026.out _).trans (((cell_far (p := ⟨gb1026, _, none⟩) NB1024_1026.out _).trans (hHeld.1)))))), ((cell_far (p := ⟨gb1026, _, none⟩) NB1024_1026.out _).trans (((cell_far (p := ⟨gb1026, _, none⟩) NB1024_1026.out _).trans (((cell_far (p := ⟨gb1026, _, none⟩) NB1024_1026.out _).trans (hHeld.2.1)))))), ((cell_far (p := ⟨gb1026, _, none⟩) NB1024_1026.out _).trans (((cell_far (p := ⟨gb1026, _, none⟩) NB1024_1026.out _).trans (((cell_far (p := ⟨gb1026, _, none⟩) NB1024_1026.out _).trans (hHeld.2.2.1)))))), ((cell_far (p := ⟨gb1026, _, none⟩) NB1030_1026.out _).trans (((cell_far (p := ⟨gb1026, _, none⟩) NB1030_1026.out _).trans (((cell_far (p := ⟨gb1026, _, none⟩) NB1030_1026.out _).trans (hHeld.2.2.2.1)))))), ((cell_far (p := ⟨gb1026, _, none⟩) NB1030_1026.out _).trans (((cell_far (p := ⟨gb1026, _, none⟩) NB1030_1026.out _).trans (((cell_far (p := ⟨gb1026, _, none⟩) NB1030_1026.out _).trans (hHeld.2.2.2.2))))))⟩ (fun hHeld => ?_)
    clear hK K
    refine done_ (done_of HT_.out (by kernel_rfl)) ?_
    try go_wp2
    refine bodyPost_ret (results_cell_row rfl _ _ gb1026 26 #[.bool t1035, .slice Ao50 t1036.length co50, .int .i64 t1039] (0, 0) _ rfl (by refine kb_ ?_; refine bp_ #[.bool t1035, .slice Ao50 t1036.length co50, .int .i64 0] 2 ?_; refine bp_ #[.bool t1035, .slice none 0 0, .int .i64 0] 1 ?_; refine bp_ #[.bool false, .slice none 0 0, .int .i64 0] 0 ?_; exact BK1026.out) Tryd.underlying26 rfl (by kernel_rfl)) rfl ?_
    exact ⟨_, rf_, Kd.V_mono (Kd.R_V (kr_ (Kd.R_mono (Kd.R_far (p := ⟨gb1026, 2, none⟩) (Kd.R_far (p := ⟨gb1026, 1, none⟩) (Kd.R_far (p := ⟨gb1026, 0, none⟩) (Kd.R_types HO1038.out BK1026.out (by decide)) (fun _ hk => hk.2) (.bool t1035)) (fun _ hk => hk.2) (.slice Ao50 t1036.length co50)) (fun _ hk => hk.2) (.int .i64 t1039)) (fun _ hk => hk.1.1.1.1)))) (fun k_ hk => by first | exact ⟨(.inr (hk.1)), hk.2⟩ | exact (.inr (hk))), bw_ HB.out⟩
   ·rw [if_neg c23] at H
    have c23b0 : decide (a1_2 < a0_2) = false := decide_eq_false c23
    clear c23
    replace H := Option.bind_eq_some_iff.mp H
    obtain ⟨t1040, A530, H⟩ := H
    (try dsimp only at H)
    have A53 := Aside0.mk A530
    clear A530
    replace H := Option.bind_eq_some_iff.mp H
    obtain ⟨⟨t1044, t1045⟩, A540, H⟩ := H
    (try dsimp only at H)
    have A54 := Aside0.mk A540
    clear A540
    replace H := Option.bind_eq_some_iff.mp H
    obtain ⟨⟨t1048, t1049, t1052⟩, A550, H⟩ := H
    (try dsimp only at H)
    have A55 := Aside0.mk A550
    clear A550
    simp only [Option.some.injEq, Prod.mk.injEq] at H
    obtain ⟨rfl, rfl, rfl⟩ := H
    go_enter Tryd.func87, Tryd.ntmps87
    try go_wp2_with (first | ((with_reducible refine gate_dst (N := 2) rfl ?_); refine bx_ 2 #[.bool a0_0, .slice A0_1 l0_1.length c0_1, .int .i64 a0_2] 26 ?_; intro gb1024 hg w56 hbox hb; have n0_ := Aside0.mk (Kd.V_below (Kd.V_elderB (by (with_reducible repeat (first | apply Kd.V_alloc | apply Kd.V_drewN | apply Kd.V_drew)); exact HO0_1.out) gb1024 (Nat.le_of_eq hg.symm)) hb); have n1_ := Aside0.mk (Kd.V_below (Kd.V_elderB (by (with_reducible repeat (first | apply Kd.V_alloc | apply Kd.V_drewN | apply Kd.V_drew)); exact HO1_1.out) gb1024 (Nat.le_of_eq hg.symm)) hb); have n2_ := bq_ HB hb; have n3_ := Aside0.mk (hbox); have n4_ := ge_ hg HB; have n5_ := ge_ hg HB; clear HO0_1; clear HO1_1; clear HB; have HO0_1 := n0_; have HO1_1 := n1_; have HB := n2_; have BK1024 := n3_; have GW1024 := n4_; have GE1024 := n5_; clear n0_ n1_ n2_ n3_ n4_ n5_; clear hb hbox hg) | ((with_reducible refine gate_dst (N := 3) rfl ?_); refine bx_ 3 #[.bool a1_0, .slice A1_1 l1_1.length c1_1, .int .i64 a1_2] 26 ?_; intro gb1025 hg w57 hbox hb; have n0_ := Aside0.mk (Kd.V_below (Kd.V_elderB (by (with_reducible repeat (first | apply Kd.V_alloc | apply Kd.V_drewN | apply Kd.V_drew)); exact HO0_1.out) gb1025 (Nat.le_of_eq hg.symm)) hb); have n1_ := Aside0.mk (Kd.V_below (Kd.V_elderB (by (with_reducible repeat (first | apply Kd.V_alloc | apply Kd.V_drewN | apply Kd.V_drew)); exact HO1_1.out) gb1025 (Nat.le_of_eq hg.symm)) hb); have n2_ := kq_ BK1024 hb; have n3_ := bq_ HB hb; have n4_ := Aside0.mk (hbox); have n5_ := ge_ hg HB; have n6_ := ge_ hg HB; have n7_ := nb_ hg BK1024; have n8_ := nc_ hg BK1024; clear HO0_1; clear HO1_1; clear BK1024; clear HB; have HO0_1 := n0_; have HO1_1 := n1_; have BK1024 := n2_; have HB := n3_; have BK1025 := n4_; have GW1025 := n5_; have GE1025 := n6_; have NB1024_1025 := n7_; have NB1025_1024 := n8_; clear n0_ n1_ n2_ n3_ n4_ n5_ n6_ n7_ n8_; clear hb hbox hg) | ((with_reducible refine gate_dst (N := 4) rfl ?_); refine bx_ 4 #[.bool false, .slice none 0 0, .int .i64 0] 26 ?_; intro gb1026 hg w58 hbox hb; have n0_ := Aside0.mk (Kd.V_below (Kd.V_elderB (by (with_reducible repeat (first | apply Kd.V_alloc | apply Kd.V_drewN | apply Kd.V_drew)); exact HO0_1.out) gb1026 (Nat.le_of_eq hg.symm)) hb); have n1_ := Aside0.mk (Kd.V_below (Kd.V_elderB (by (with_reducible repeat (first | apply Kd.V_alloc | apply Kd.V_drewN | apply Kd.V_drew)); exact HO1_1.out) gb1026 (Nat.le_of_eq hg.symm)) hb); have n2_ := kq_ BK1024 hb; have n3_ := kq_ BK1025 hb; have n4_ := bq_ HB hb; have n5_ := Aside0.mk (hbox); have n6_ := ge_ hg HB; have n7_ := ge_ hg HB; have n8_ := nb_ hg BK1024; have n9_ := nc_ hg BK1024; have n10_ := nb_ hg BK1025; have n11_ := nc_ hg BK1025; clear HO0_1; clear HO1_1; clear BK1024; clear BK1025; clear HB; have HO0_1 := n0_; have HO1_1 := n1_; have BK1024 := n2_; have BK1025 := n3_; have HB := n4_; have BK1026 := n5_; have GW1026 := n6_; have GE1026 := n7_; have NB1024_1026 := n8_; have NB1026_1024 := n9_; have NB1025_1026 := n10_; have NB1026_1025 := n11_; clear n0_ n1_ n2_ n3_ n4_ n5_ n6_ n7_ n8_ n9_ n10_ n11_; clear hb hbox hg; have hnb59 := NB1024_1025.out; have hnc59 := NB1025_1024.out; have hnb60 := NB1024_1026.out; have hnc60 := NB1026_1024.out; obtain ⟨hcz61_0, hcz61_1, hcz61_2, hfz61_0, hfz61_1, hfz61_2⟩ := c3_ BK1024; have hnb62 := NB1025_1026.out; have hnc62 := NB1026_1025.out; obtain ⟨hcz63_0, hcz63_1, hcz63_2, hfz63_0, hfz63_1, hfz63_2⟩ := c3_ BK1025))
    replace HO0_1 := Aside0.mk (Kd.V_drew HO0_1.out)
    replace HO1_1 := Aside0.mk (Kd.V_drew HO1_1.out)
    replace BK1024 := Aside0.mk (blk_drew BK1024.out)
    replace BK1025 := Aside0.mk (blk_drew BK1025.out)
    replace BK1026 := Aside0.mk (blk_drew BK1026.out)
    replace HB := Aside0.mk (below_drew1 HB.out)
    refine start_ (n := 15) (S := fun w' => w'.cell? ⟨gb1025, 0, none⟩ = some (.bool a1_0) ∧ w'.cell? ⟨gb1025, 1, none⟩ = some (.slice A1_1 l1_1.length c1_1) ∧ w'.cell? ⟨gb1025, 2, none⟩ = some (.int .i64 a1_2) ∧ w'.cell? ⟨gb1024, 0, none⟩ = some (.bool a0_0) ∧ w'.cell? ⟨gb1024, 1, none⟩ = some (.slice A0_1 l0_1.length c0_1) ∧ w'.cell? ⟨gb1024, 2, none⟩ = some (.int .i64 a0_2)) (ds := []) #[false, false, false, false, false, false, false, false, false, false, false, false, false, false, false] (by kernel_rfl) rfl rfl ⟨(blk_cell BK1025.out 0).trans rfl, (blk_cell BK1025.out 1).trans rfl, (blk_cell BK1025.out 2).trans rfl, (blk_cell BK1024.out 0).trans rfl, (blk_cell BK1024.out 1).trans rfl, (blk_cell BK1024.out 2).trans rfl⟩ (fun hHeld => ?_); refine with_tabW dy_add.tab7 dy_add.bits7 (fun HT_ HW_ => ?_)
    generalize w58.drew = w64 at HO0_1 HO1_1 BK1024 BK1025 BK1026 HB hHeld ⊢
    refine pure_ (i := 0) (N := some 28) (v := ?_) (a' := ?_) #[true, false, false, false, false, false, false, false, false, false, false, false, false, false, false] rfl rfl (any_of HT_.out (by kernel_rfl)) (fun _ _ _ h => h) (Or.inl ⟨by rfl, ?_⟩) ?_ ?_
    rotate_left
    ·intro w'
     go_simp
     with_reducible rfl
    rotate_left
    ·exact pt_
    refine pure_ (i := 1) (N := some 29) (v := ?_) (a' := ?_) #[true, true, false, false, false, false, false, false, false, false, false, false, false, false, false] rfl rfl (any_of HT_.out (by kernel_rfl)) (fun _ _ _ h => h) (Or.inl ⟨by rfl, ?_⟩) ?_ ?_
    rotate_left
    ·intro w'
     go_simp
     with_reducible rfl
    rotate_left
    ·exact pt_
    refine pure_ (i := 3) (N := some 31) (v := ?_) (a' := ?_) #[true, true, false, true, false, false, false, false, false, false, false, false, false, false, false] rfl rfl (any_of HT_.out (by kernel_rfl)) (fun _ _ _ h => h) (Or.inl ⟨by rfl, ?_⟩) ?_ ?_
    rotate_left
    ·intro w'
     go_simp
     with_reducible rfl
    rotate_left
    ·exact pt_
    refine pure_ (i := 4) (N := some 32) (v := ?_) (a' := ?_) #[true, true, false, true, true, false, false, false, false, false, false, false, false, false, false] rfl rfl (any_of HT_.out (by kernel_rfl)) (fun _ _ _ h => h) (Or.inl ⟨by rfl, ?_⟩) ?_ ?_
    rotate_left
    ·intro w'
     go_simp
     with_reducible rfl
    rotate_left
    ·exact pt_
    refine pure_ (i := 6) (N := some 34) (v := ?_) (a' := ?_) #[true, true, false, true, true, false, true, false, false, false, false, false, false, false, false] rfl rfl (any_of HT_.out (by kernel_rfl)) (fun _ _ _ h => h) (Or.inl ⟨by rfl, ?_⟩) ?_ ?_
    rotate_left
    ·intro w'
     go_simp
     with_reducible rfl
    rotate_left
    ·exact pt_
    refine pure_ (i := 8) (N := some 36) (v := ?_) (a' := ?_) #[true, true, false, true, true, false, true, false, true, false, false, false, false, false, false] rfl rfl (any_of HT_.out (by kernel_rfl)) (fun _ _ _ h => h) (Or.inl ⟨by rfl, ?_⟩) ?_ ?_
    rotate_left
    ·intro w'
     go_simp
     with_reducible rfl
    rotate_left
    ·exact pt_
    refine take_ (i := 2) (N := some 30) (v := ?_) (a' := ?_) #[true, true, true, true, true, false, true, false, true, false, false, false, false, false, false] rfl rfl (take_ofW HT_.out HW_.out (by kernel_rfl)) (fun _ _ _ h => h) (Or.inl ⟨by rfl, ?_⟩) hHeld ?_ ?_
    rotate_left
    ·rintro w' ⟨s0, s1, s2, s3, s4, s5⟩
     go_simp
     with_reducible rfl
    rotate_left
    ·exact pt_
    refine take_ (i := 5) (N := some 33) (v := ?_) (a' := ?_) #[true, true, true, true, true, true, true, false, true, false, false, false, false, false, false] rfl rfl (take_ofW HT_.out HW_.out (by kernel_rfl)) (fun _ _ _ h => h) (Or.inl ⟨by rfl, ?_⟩) hHeld ?_ ?_
    rotate_left
    ·rintro w' ⟨s0, s1, s2, s3, s4, s5⟩
     go_simp
     with_reducible rfl
    rotate_left
    ·exact pt_
    refine take_ (i := 7) (N := some 35) (v := ?_) (a' := ?_) #[true, true, true, true, true, true, true, true, true, false, false, false, false, false, false] rfl rfl (take_ofW HT_.out HW_.out (by kernel_rfl)) (fun _ _ _ h => h) (Or.inl ⟨by rfl, ?_⟩) hHeld ?_ ?_
    rotate_left
    ·rintro w' ⟨s0, s1, s2, s3, s4, s5⟩
     go_simp
     with_reducible rfl
    rotate_left
    ·exact pt_
    refine take_ (i := 9) (N := some 37) (v := ?_) (a' := ?_) #[true, true, true, true, true, true, true, true, true, true, false, false, false, false, false] rfl rfl (take_ofW HT_.out HW_.out (by kernel_rfl)) (fun _ _ _ h => h) (Or.inl ⟨by rfl, ?_⟩) hHeld ?_ ?_
    rotate_left
    ·rintro w' ⟨s0, s1, s2, s3, s4, s5⟩
     go_simp
     with_reducible rfl
    rotate_left
    ·exact pt_
    refine pure_ (i := 10) (N := some 38) (v := ?_) (a' := ?_) #[true, true, true, true, true, true, true, true, true, true, true, false, false, false, false] rfl rfl (any_of HT_.out (by kernel_rfl)) (fun _ _ _ h => h) (Or.inl ⟨by rfl, ?_⟩) ?_ ?_
    rotate_left
    ·intro w'
     go_simp
     with_reducible rfl
    rotate_left
    ·exact pt_
    refine join_ (σ := Value × Nat) 1 #[true, true, true, true, true, true, true, true, true, true, true, true, true, true, false] (fun s_ => [(39, s_.1), (5, .pointer (some ⟨s_.2, 0, none⟩)), (40, .agg #[.bool a1_0, s_.1])]) (fun s_ w' => (w'.cell? ⟨gb1025, 0, none⟩ = some (.bool a1_0) ∧ w'.cell? ⟨gb1025, 1, none⟩ = some (.slice A1_1 l1_1.length c1_1) ∧ w'.cell? ⟨gb1025, 2, none⟩ = some (.int .i64 a1_2) ∧ w'.cell? ⟨gb1024, 0, none⟩ = some (.bool a0_0) ∧ w'.cell? ⟨gb1024, 1, none⟩ = some (.slice A0_1 l0_1.length c0_1) ∧ w'.cell? ⟨gb1024, 2, none⟩ = some (.int .i64 a0_2)) ∧ (Kd.V (Kd.int .u32) 53 w' w.heap.size (fun k_ => ((P0_1_ k_ ∨ P1_1_ k_) ∨ w.heap.size ≤ k_) ∧ some k_ ≠ (s_.1 : Value).ownBlock ∧ k_ ≠ gb1024 ∧ k_ ≠ gb1025 ∧ k_ ≠ gb1026 ∧ k_ ≠ s_.2) (.slice A0_1 l0_1.length c0_1) l0_1) ∧ (Kd.R (Kd.int .u32) 53 w' w.heap.size (fun k_ => (w.heap.size ≤ k_)) s_.1 t1040) ∧ (Kd.V (Kd.int .u32) 53 w' w.heap.size (fun k_ => ((P0_1_ k_ ∨ P1_1_ k_) ∨ w.heap.size ≤ k_) ∧ some k_ ≠ (s_.1 : Value).ownBlock ∧ k_ ≠ gb1024 ∧ k_ ≠ gb1025 ∧ k_ ≠ gb1026 ∧ k_ ≠ s_.2) (.slice A1_1 l1_1.length c1_1) l1_1) ∧ (w'.heap[gb1024]? = some (.cells #[.bool a0_0, .slice A0_1 l0_1.length c0_1, .int .i64 a0_2] 26 (0, 0))) ∧ (w'.heap[gb1025]? = some (.cells #[.bool a1_0, .slice A1_1 l1_1.length c1_1, .int .i64 a1_2] 26 (0, 0))) ∧ (w'.heap[gb1026]? = some (.cells #[.bool false, .slice none 0 0, .int .i64 0] 26 (0, 0))) ∧ (w'.heap[s_.2]? = some (.cells #[.bool false, .slice none 0 0] 24 (0, 0))) ∧ (w.heap.size ≤ s_.2) ∧ (w.heap.size ≤ s_.2) ∧ (gb1024 ≠ s_.2) ∧ (s_.2 ≠ gb1024) ∧ (gb1025 ≠ s_.2) ∧ (s_.2 ≠ gb1025) ∧ (gb1026 ≠ s_.2) ∧ (s_.2 ≠ gb1026) ∧ (Below w.heap.size w w')) ?_ ?_
    rotate_left
    ·intro hCont
     refine two_ (i := 11) (j := 13) (Ni := some 39) (Nj := some 5) #[true, true, true, true, true, true, true, true, true, true, true, true, false, false, false] #[true, true, true, true, true, true, true, true, true, true, true, false, false, true, false] rfl rfl rfl rfl (two_of HT_.out (by kernel_rfl)) (by decide) (by decide) (fun K hK => ?_) (fun K hK => ?_)
     ·skip
      refine gs_ Tryd.func41 #[.slice A1_1 l1_1.length c1_1, .int .i64 (wrap64 (a1_2 - a0_2))] ?_
      with_reducible refine (nat_Shl.calls k _ _ l1_1 (wrap64 (a1_2 - a0_2)) t1040 _ ?side1 ?side2 A53.out).mono ?_
      (case side1 => exact kc_ (Kd.V_reads' HO1_1.out).2.2)
      (case side2 => exact (Kd.V_reads' HO1_1.out).2.1)
      rintro e w65 ⟨v1041, rfl, ho0, hb⟩
      refine ⟨_, rfl, ?_⟩
      have n0_ := Aside0.mk (Kd.V_elder' (by (with_reducible repeat (first | apply Kd.V_alloc | apply Kd.V_drewN | apply Kd.V_drew)); exact HO0_1.out) (Kd.R_base ho0) hb)
      have n1_ := Aside0.mk (Kd.V_elder' (by (with_reducible repeat (first | apply Kd.V_alloc | apply Kd.V_drewN | apply Kd.V_drew)); exact HO1_1.out) (Kd.R_base ho0) hb)
      have n2_ := Aside0.mk (Kd.R_lower (Kd.R_newM (M := fun k_ => (w.heap.size ≤ k_)) ho0 (below_size (bw_ HB.out)) (fun k_ h_ => h_)) (below_size (bw_ HB.out)))
      have n3_ := kq_ BK1024 hb
      have n4_ := kq_ BK1025 hb
      have n5_ := kq_ BK1026 hb
      have n6_ := bq_ HB hb
      clear HO0_1
      clear HO1_1
      clear BK1024
      clear BK1025
      clear BK1026
      clear HB
      have HO0_1 := n0_
      have HO1_1 := n1_
      have HO1042 := n2_
      have BK1024 := n3_
      have BK1025 := n4_
      have BK1026 := n5_
      have HB := n6_
      clear n0_ n1_ n2_ n3_ n4_ n5_ n6_
      (try clear hb)
      (try clear hb2)
      (try clear hk)
      (try clear hi)
      (try clear ho0)
      obtain ⟨Ao66, co66, eo66⟩ := Kd.R_slice HO1042.out
      (first | subst eo66 | (injection eo66 with f1_ f2_ f3_; have f4_ := f1_.symm; have f5_ := f3_.symm; clear f1_ f2_ f3_; subst f4_; subst f5_))
      refine hK.out _ _ ⟨(blk_cell BK1025.out 0).trans rfl, (blk_cell BK1025.out 1).trans rfl, (blk_cell BK1025.out 2).trans rfl, (blk_cell BK1024.out 0).trans rfl, (blk_cell BK1024.out 1).trans rfl, (blk_cell BK1024.out 2).trans rfl⟩ (fun hHeld => ?_)
      clear hK K
      refine norm_ (a' := ?_) ?_ ?_
      rotate_left
      ·show Act.put _ (some 39) _ = _
       exact pt_
      refine pure_ (i := 12) (N := some 40) (v := ?_) (a' := ?_) #[true, true, true, true, true, true, true, true, true, true, true, true, true, false, false] rfl rfl (any_of HT_.out (by kernel_rfl)) (fun _ _ _ h => h) (Or.inl ⟨by rfl, ?_⟩) ?_ ?_
      rotate_left
      ·intro w'
       go_simp
       with_reducible rfl
      rotate_left
      ·exact pt_
      refine one_ (i := 13) (N := some 5) #[true, true, true, true, true, true, true, true, true, true, true, true, true, true, false] rfl rfl (one_of HT_.out (by kernel_rfl)) (by decide) (fun K hK => ?_)
      refine box_step ?hg (N := 5) ?hd (cs := #[.bool false, .slice none 0 0]) (t := 24) ?hr ?_; (case hd => rfl); (case hg => rfl); (case hr => first | (go_simp; done) | (go_simp; rfl))
      intro gb1043 hg w67 hbox hb
      have n0_ := Aside0.mk (Kd.V_below (Kd.V_elderB (by (with_reducible repeat (first | apply Kd.V_alloc | apply Kd.V_drewN | apply Kd.V_drew)); exact HO0_1.out) gb1043 (Nat.le_of_eq hg.symm)) hb)
      have n1_ := Aside0.mk (Kd.V_below (Kd.V_elderB (by (with_reducible repeat (first | apply Kd.V_alloc | apply Kd.V_drewN | apply Kd.V_drew)); exact HO1_1.out) gb1043 (Nat.le_of_eq hg.symm)) hb)
      have n2_ := Aside0.mk (Kd.R_below (kr_ HO1042.out) hb)
      have n3_ := kq_ BK1024 hb
      have n4_ := kq_ BK1025 hb
      have n5_ := kq_ BK1026 hb
      have n6_ := bq_ HB hb
      have n7_ := Aside0.mk (hbox)
      have n8_ := ge_ hg HB
      have n9_ := ge_ hg HB
      have n10_ := nb_ hg BK1024
      have n11_ := nc_ hg BK1024
      have n12_ := nb_ hg BK1025
      have n13_ := nc_ hg BK1025
      have n14_ := nb_ hg BK1026
      have n15_ := nc_ hg BK1026
      clear HO0_1
      clear HO1_1
      clear HO1042
      clear BK1024
      clear BK1025
      clear BK1026
      clear HB
      have HO0_1 := n0_
      have HO1_1 := n1_
      have HO1042 := n2_
      have BK1024 := n3_
      have BK1025 := n4_
      have BK1026 := n5_
      have HB := n6_
      have BK1043 := n7_
      have GW1043 := n8_
      have GE1043 := n9_
      have NB1024_1043 := n10_
      have NB1043_1024 := n11_
      have NB1025_1043 := n12_
      have NB1043_1025 := n13_
      have NB1026_1043 := n14_
      have NB1043_1026 := n15_
      clear n0_ n1_ n2_ n3_ n4_ n5_ n6_ n7_ n8_ n9_ n10_ n11_ n12_ n13_ n14_ n15_
      clear hb hbox hg
      refine hK.out _ _ ⟨(blk_cell BK1025.out 0).trans rfl, (blk_cell BK1025.out 1).trans rfl, (blk_cell BK1025.out 2).trans rfl, (blk_cell BK1024.out 0).trans rfl, (blk_cell BK1024.out 1).trans rfl, (blk_cell BK1024.out 2).trans rfl⟩ (fun hHeld => ?_)
      clear hK K
      refine norm_ (a' := ?_) ?_ ?_
      rotate_left
      ·show Act.put _ (some 5) _ = _
       exact pt_
      exact norm_ (by simp only [putAll, Act.put, List.setIfInBounds_toArray, List.set_cons_zero, List.set_cons_succ]) (hCont (.slice Ao66 t1040.length co66, gb1043) _ ⟨hHeld, (by (with_reducible repeat (first | apply Kd.V_alloc | apply Kd.V_drewN | apply Kd.V_drew)); exact Kd.V_mono HO0_1.out (fun _ hk => by first | exact ⟨hk.1.1.1.1.1, ⟨hk.1.2, ⟨hk.1.1.1.1.2, ⟨hk.1.1.1.2, ⟨hk.1.1.2, hk.2⟩⟩⟩⟩⟩ | simp [hk])), (kr_ (Kd.R_mono HO1042.out (fun _ hk => hk.1))), (by (with_reducible repeat (first | apply Kd.V_alloc | apply Kd.V_drewN | apply Kd.V_drew)); exact Kd.V_mono HO1_1.out (fun _ hk => by first | exact ⟨hk.1.1.1.1.1, ⟨hk.1.2, ⟨hk.1.1.1.1.2, ⟨hk.1.1.1.2, ⟨hk.1.1.2, hk.2⟩⟩⟩⟩⟩ | simp [hk])), (kb_ BK1024.out), (kb_ BK1025.out), (kb_ BK1026.out), (kb_ BK1043.out), GW1043.out, GE1043.out, NB1024_1043.out, NB1043_1024.out, NB1025_1043.out, NB1043_1025.out, NB1026_1043.out, NB1043_1026.out, (bw_ HB.out)⟩)
     ·skip
      refine box_step ?hg (N := 5) ?hd (cs := #[.bool false, .slice none 0 0]) (t := 24) ?hr ?_; (case hd => rfl); (case hg => rfl); (case hr => first | (go_simp; done) | (go_simp; rfl))
      intro gb1043 hg w65 hbox hb
      have n0_ := Aside0.mk (Kd.V_below (Kd.V_elderB (by (with_reducible repeat (first | apply Kd.V_alloc | apply Kd.V_drewN | apply Kd.V_drew)); exact HO0_1.out) gb1043 (Nat.le_of_eq hg.symm)) hb)
      have n1_ := Aside0.mk (Kd.V_below (Kd.V_elderB (by (with_reducible repeat (first | apply Kd.V_alloc | apply Kd.V_drewN | apply Kd.V_drew)); exact HO1_1.out) gb1043 (Nat.le_of_eq hg.symm)) hb)
      have n2_ := kq_ BK1024 hb
      have n3_ := kq_ BK1025 hb
      have n4_ := kq_ BK1026 hb
      have n5_ := bq_ HB hb
      have n6_ := Aside0.mk (hbox)
      have n7_ := ge_ hg HB
      have n8_ := ge_ hg HB
      have n9_ := nb_ hg BK1024
      have n10_ := nc_ hg BK1024
      have n11_ := nb_ hg BK1025
      have n12_ := nc_ hg BK1025
      have n13_ := nb_ hg BK1026
      have n14_ := nc_ hg BK1026
      clear HO0_1
      clear HO1_1
      clear BK1024
      clear BK1025
      clear BK1026
      clear HB
      have HO0_1 := n0_
      have HO1_1 := n1_
      have BK1024 := n2_
      have BK1025 := n3_
      have BK1026 := n4_
      have HB := n5_
      have BK1043 := n6_
      have GW1043 := n7_
      have GE1043 := n8_
      have NB1024_1043 := n9_
      have NB1043_1024 := n10_
      have NB1025_1043 := n11_
      have NB1043_1025 := n12_
      have NB1026_1043 := n13_
      have NB1043_1026 := n14_
      clear n0_ n1_ n2_ n3_ n4_ n5_ n6_ n7_ n8_ n9_ n10_ n11_ n12_ n13_ n14_
      clear hb hbox hg
      refine hK.out _ _ ⟨(blk_cell BK1025.out 0).trans rfl, (blk_cell BK1025.out 1).trans rfl, (blk_cell BK1025.out 2).trans rfl, (blk_cell BK1024.out 0).trans rfl, (blk_cell BK1024.out 1).trans rfl, (blk_cell BK1024.out 2).trans rfl⟩ (fun hHeld => ?_)
      clear hK K
      refine norm_ (a' := ?_) ?_ ?_
      rotate_left
      ·show Act.put _ (some 5) _ = _
       exact pt_
      refine one_ (i := 11) (N := some 39) #[true, true, true, true, true, true, true, true, true, true, true, true, false, true, false] rfl rfl (one_of HT_.out (by kernel_rfl)) (by decide) (fun K hK => ?_)
      refine gs_ Tryd.func41 #[.slice A1_1 l1_1.length c1_1, .int .i64 (wrap64 (a1_2 - a0_2))] ?_
      with_reducible refine (nat_Shl.calls k _ _ l1_1 (wrap64 (a1_2 - a0_2)) t1040 _ ?side1 ?side2 A53.out).mono ?_
      (case side1 => exact kc_ (Kd.V_reads' HO1_1.out).2.2)
      (case side2 => exact (Kd.V_reads' HO1_1.out).2.1)
      rintro e w66 ⟨v1041, rfl, ho0, hb⟩
      refine ⟨_, rfl, ?_⟩
      have n0_ := Aside0.mk (Kd.V_elder' (by (with_reducible repeat (first | apply Kd.V_alloc | apply Kd.V_drewN | apply Kd.V_drew)); exact HO0_1.out) (Kd.R_base ho0) hb)
      have n1_ := Aside0.mk (Kd.V_elder' (by (with_reducible repeat (first | apply Kd.V_alloc | apply Kd.V_drewN | apply Kd.V_drew)); exact HO1_1.out) (Kd.R_base ho0) hb)
      have n2_ := Aside0.mk (Kd.R_lower (Kd.R_newM (M := fun k_ => (w.heap.size ≤ k_)) ho0 (below_size (bw_ HB.out)) (fun k_ h_ => h_)) (below_size (bw_ HB.out)))
      have n3_ := kq_ BK1024 hb
      have n4_ := kq_ BK1025 hb
      have n5_ := kq_ BK1026 hb
      have n6_ := kq_ BK1043 hb
      have n7_ := bq_ HB hb
      clear HO0_1
      clear HO1_1
      clear BK1024
      clear BK1025
      clear BK1026
      clear BK1043
      clear HB
      have HO0_1 := n0_
      have HO1_1 := n1_
      have HO1042 := n2_
      have BK1024 := n3_
      have BK1025 := n4_
      have BK1026 := n5_
      have BK1043 := n6_
      have HB := n7_
      clear n0_ n1_ n2_ n3_ n4_ n5_ n6_ n7_
      (try clear hb)
      (try clear hb2)
      (try clear hk)
      (try clear hi)
      (try clear ho0)
      obtain ⟨Ao67, co67, eo67⟩ := Kd.R_slice HO1042.out
      (first | subst eo67 | (injection eo67 with f1_ f2_ f3_; have f4_ := f1_.symm; have f5_ := f3_.symm; clear f1_ f2_ f3_; subst f4_; subst f5_))
      refine hK.out _ _ ⟨(blk_cell BK1025.out 0).trans rfl, (blk_cell BK1025.out 1).trans rfl, (blk_cell BK1025.out 2).trans rfl, (blk_cell BK1024.out 0).trans rfl, (blk_cell BK1024.out 1).trans rfl, (blk_cell BK1024.out 2).trans rfl⟩ (fun hHeld => ?_)
      clear hK K
      refine norm_ (a' := ?_) ?_ ?_
      rotate_left
      ·show Act.put _ (some 39) _ = _
       exact pt_
      refine pure_ (i := 12) (N := some 40) (v := ?_) (a' := ?_) #[true, true, true, true, true, true, true, true, true, true, true, true, true, true, false] rfl rfl (any_of HT_.out (by kernel_rfl)) (fun _ _ _ h => h) (Or.inl ⟨by rfl, ?_⟩) ?_ ?_
      rotate_left
      ·intro w'
       go_simp
       with_reducible rfl
      rotate_left
      ·exact pt_
      exact norm_ (by simp only [putAll, Act.put, List.setIfInBounds_toArray, List.set_cons_zero, List.set_cons_succ]) (hCont (.slice Ao67 t1040.length co67, gb1043) _ ⟨hHeld, (by (with_reducible repeat (first | apply Kd.V_alloc | apply Kd.V_drewN | apply Kd.V_drew)); exact Kd.V_mono HO0_1.out (fun _ hk => by first | exact ⟨hk.1.1.1.1.1, ⟨hk.2, ⟨hk.1.1.1.1.2, ⟨hk.1.1.1.2, ⟨hk.1.1.2, hk.1.2⟩⟩⟩⟩⟩ | simp [hk])), (kr_ (Kd.R_mono HO1042.out (fun _ hk => hk.1))), (by (with_reducible repeat (first | apply Kd.V_alloc | apply Kd.V_drewN | apply Kd.V_drew)); exact Kd.V_mono HO1_1.out (fun _ hk => by first | exact ⟨hk.1.1.1.1.1, ⟨hk.2, ⟨hk.1.1.1.1.2, ⟨hk.1.1.1.2, ⟨hk.1.1.2, hk.1.2⟩⟩⟩⟩⟩ | simp [hk])), (kb_ BK1024.out), (kb_ BK1025.out), (kb_ BK1026.out), (kb_ BK1043.out), GW1043.out, GE1043.out, NB1024_1043.out, NB1043_1024.out, NB1025_1043.out, NB1043_1025.out, NB1026_1043.out, NB1043_1026.out, (bw_ HB.out)⟩)
    rintro ⟨v1041, gb1043⟩ w68 ⟨hS_, h0_, h1_, h2_, h3_, h4_, h5_, h6_, h7_, h8_, h9_, h10_, h11_, h12_, h13_, h14_, h15_⟩
    have HO1042 := Aside0.mk h1_
    have BK1043 := Aside0.mk h6_
    have GW1043 := Aside0.mk h7_
    have GE1043 := Aside0.mk h8_
    have NB1024_1043 := Aside0.mk h9_
    have NB1043_1024 := Aside0.mk h10_
    have NB1025_1043 := Aside0.mk h11_
    have NB1043_1025 := Aside0.mk h12_
    have NB1026_1043 := Aside0.mk h13_
    have NB1043_1026 := Aside0.mk h14_
    replace HO0_1 := Aside0.mk h0_
    replace HO1_1 := Aside0.mk h2_
    replace BK1024 := Aside0.mk h3_
    replace BK1025 := Aside0.mk h4_
    replace BK1026 := Aside0.mk h5_
    replace HB := Aside0.mk h15_
    clear h0_ h1_ h2_ h3_ h4_ h5_ h6_ h7_ h8_ h9_ h10_ h11_ h12_ h13_ h14_ h15_
    have hHeld : w68.cell? ⟨gb1025, 0, none⟩ = some (.bool a1_0) ∧ w68.cell? ⟨gb1025, 1, none⟩ = some (.slice A1_1 l1_1.length c1_1) ∧ w68.cell? ⟨gb1025, 2, none⟩ = some (.int .i64 a1_2) ∧ w68.cell? ⟨gb1024, 0, none⟩ = some (.bool a0_0) ∧ w68.cell? ⟨gb1024, 1, none⟩ = some (.slice A0_1 l0_1.length c0_1) ∧ w68.cell? ⟨gb1024, 2, none⟩ = some (.int .i64 a0_2) := hS_
    obtain ⟨Ao69, co69, eo69⟩ := Kd.R_slice HO1042.out
    (first | subst eo69 | (injection eo69 with f1_ f2_ f3_; have f4_ := f1_.symm; have f5_ := f3_.symm; clear f1_ f2_ f3_; subst f4_; subst f5_))
    refine norm_ (a' := ?_) ?_ ?_
    rotate_left
    ·simp only [putAll, Act.put, List.setIfInBounds_toArray, List.set_cons_zero, List.set_cons_succ]
     rfl
    refine one_ (i := 14) (N := none) #[true, true, true, true, true, true, true, true, true, true, true, true, true, true, true] rfl rfl (one_of HT_.out (by kernel_rfl)) (by decide) (fun K hK => ?_)
    have hs70 : w68.cell? ⟨gb1043, 0, none⟩ = some (.bool false) := (blk_cell BK1043.out 0).trans rfl
    have hfs70 := fz_ BK1043 0
    have hns70_0 := NB1024_1043.out
    have hns70_1 := NB1025_1043.out
    have hns70_2 := NB1026_1043.out
    have hms70_0 := NB1043_1024.out
    have hms70_1 := NB1043_1025.out
    have hms70_2 := NB1043_1026.out
    have hs71 : w68.cell? ⟨gb1043, 1, none⟩ = some (.slice none 0 0) := (blk_cell BK1043.out 1).trans rfl
    have hfs71 := fz_ BK1043 1
    have hns71_0 := NB1024_1043.out
    have hns71_1 := NB1025_1043.out
    have hns71_2 := NB1026_1043.out
    have hms71_0 := NB1043_1024.out
    have hms71_1 := NB1043_1025.out
    have hms71_2 := NB1043_1026.out
    refine skip_ (w1 := ?_) (by rfl) rfl ?_ ?_
    rotate_left
    ·go_simp
     rfl
    refine hK.out _ _ ⟨((cell_far (p := ⟨gb1043, _, none⟩) NB1025_1043.out _).trans (((cell_far (p := ⟨gb1043, _, none⟩) NB1025_1043.out _).trans (hHeld.1)))), ((cell_far (p := ⟨gb1043, _, none⟩) NB1025_1043.out _).trans (((cell_far (p := ⟨gb1043, _, none⟩) NB1025_1043.out _).trans (hHeld.2.1)))), ((cell_far (p := ⟨gb1043, _, none⟩) NB1025_1043.out _).trans (((cell_far (p := ⟨gb1043, _, none⟩) NB1025_1043.out _).trans (hHeld.2.2.1)))), ((cell_far (p := ⟨gb1043, _, none⟩) NB1024_1043.out _).trans (((cell_far (p := ⟨gb1043, _, none⟩) NB1024_1043.out _).trans (hHeld.2.2.2.1)))), ((cell_far (p := ⟨gb1043, _, none⟩) NB1024_1043.out _).trans (((cell_far (p := ⟨gb1043, _, none⟩) NB1024_1043.out _).trans (hHeld.2.2.2.2.1)))), ((cell_far (p := ⟨gb1043, _, none⟩) NB1024_1043.out _).trans (((cell_far (p := ⟨gb1043, _, none⟩) NB1024_1043.out _).trans (hHeld.2.2.2.2.2))))⟩ (fun hHeld => ?_)
    clear hK K
    refine done_ (done_of HT_.out (by kernel_rfl)) ?_
    try go_wp2
    have n0_ : Aside0 (Kd.V (Kd.int .u32) 53 ((w68.setCell ⟨gb1043, 0, none⟩ (.bool a1_0)).setCell ⟨gb1043, 1, none⟩ (.slice Ao69 t1040.length co69)) w.heap.size (fun k_ => ((P0_1_ k_ ∨ P1_1_ k_) ∨ w.heap.size ≤ k_) ∧ some k_ ≠ (.slice Ao69 t1040.length co69 : Value).ownBlock ∧ k_ ≠ gb1024 ∧ k_ ≠ gb1025 ∧ k_ ≠ gb1026 ∧ k_ ≠ gb1043) (.slice A0_1 l0_1.length c0_1) l0_1) := ⟨by (with_reducible repeat (first | apply Kd.V_alloc | apply Kd.V_drewN | apply Kd.V_drew)); exact Kd.V_mono (Kd.V_far (p := ⟨gb1043, 1, none⟩) (Kd.V_far (p := ⟨gb1043, 0, none⟩) (Kd.V_mono HO0_1.out (fun k_ hk => (⟨hk, hk.2.2.2.2.2⟩ : _ ∧ k_ ≠ gb1043))) (fun _ hk => hk.2) (.bool a1_0)) (fun _ hk => hk.2) (.slice Ao69 t1040.length co69)) (fun _ hk => by first | exact ⟨hk.1.1, ⟨hk.1.2.1, ⟨hk.1.2.2.1, ⟨hk.1.2.2.2.1, ⟨hk.1.2.2.2.2.1, hk.1.2.2.2.2.2⟩⟩⟩⟩⟩ | simp [hk])⟩
    have n1_ : Aside0 (Kd.V (Kd.int .u32) 53 ((w68.setCell ⟨gb1043, 0, none⟩ (.bool a1_0)).setCell ⟨gb1043, 1, none⟩ (.slice Ao69 t1040.length co69)) w.heap.size (fun k_ => ((P0_1_ k_ ∨ P1_1_ k_) ∨ w.heap.size ≤ k_) ∧ some k_ ≠ (.slice Ao69 t1040.length co69 : Value).ownBlock ∧ k_ ≠ gb1024 ∧ k_ ≠ gb1025 ∧ k_ ≠ gb1026 ∧ k_ ≠ gb1043) (.slice A1_1 l1_1.length c1_1) l1_1) := ⟨by (with_reducible repeat (first | apply Kd.V_alloc | apply Kd.V_drewN | apply Kd.V_drew)); exact Kd.V_mono (Kd.V_far (p := ⟨gb1043, 1, none⟩) (Kd.V_far (p := ⟨gb1043, 0, none⟩) (Kd.V_mono HO1_1.out (fun k_ hk => (⟨hk, hk.2.2.2.2.2⟩ : _ ∧ k_ ≠ gb1043))) (fun _ hk => hk.2) (.bool a1_0)) (fun _ hk => hk.2) (.slice Ao69 t1040.length co69)) (fun _ hk => by first | exact ⟨hk.1.1, ⟨hk.1.2.1, ⟨hk.1.2.2.1, ⟨hk.1.2.2.2.1, ⟨hk.1.2.2.2.2.1, hk.1.2.2.2.2.2⟩⟩⟩⟩⟩ | simp [hk])⟩
    have n2_ : Aside0 (Kd.R (Kd.int .u32) 53 ((w68.setCell ⟨gb1043, 0, none⟩ (.bool a1_0)).setCell ⟨gb1043, 1, none⟩ (.slice Ao69 t1040.length co69)) w.heap.size (fun k_ => (w.heap.size ≤ k_)) (.slice Ao69 t1040.length co69) t1040) := ⟨by (with_reducible repeat (first | apply Kd.R_alloc | apply Kd.R_drewN | apply Kd.R_drew)); exact Kd.R_mono (Kd.R_far (p := ⟨gb1043, 1, none⟩) (Kd.R_far (p := ⟨gb1043, 0, none⟩) (Kd.R_types HO1042.out BK1043.out (by decide)) (fun _ hk => hk.2) (.bool a1_0)) (fun _ hk => hk.2) (.slice Ao69 t1040.length co69)) (fun _ hk => hk.1)⟩
    have n3_ : Aside0 (((w68.setCell ⟨gb1043, 0, none⟩ (.bool a1_0)).setCell ⟨gb1043, 1, none⟩ (.slice Ao69 t1040.length co69)).heap[gb1024]? = some (.cells #[.bool a0_0, .slice A0_1 l0_1.length c0_1, .int .i64 a0_2] 26 (0, 0))) := ⟨by refine kb_ ?_; refine bf_ NB1024_1043 ?_; refine bf_ NB1024_1043 ?_; exact BK1024.out⟩
    have n4_ : Aside0 (((w68.setCell ⟨gb1043, 0, none⟩ (.bool a1_0)).setCell ⟨gb1043, 1, none⟩ (.slice Ao69 t1040.length co69)).heap[gb1025]? = some (.cells #[.bool a1_0, .slice A1_1 l1_1.length c1_1, .int .i64 a1_2] 26 (0, 0))) := ⟨by refine kb_ ?_; refine bf_ NB1025_1043 ?_; refine bf_ NB1025_1043 ?_; exact BK1025.out⟩
    have n5_ : Aside0 (((w68.setCell ⟨gb1043, 0, none⟩ (.bool a1_0)).setCell ⟨gb1043, 1, none⟩ (.slice Ao69 t1040.length co69)).heap[gb1026]? = some (.cells #[.bool false, .slice none 0 0, .int .i64 0] 26 (0, 0))) := ⟨by refine kb_ ?_; refine bf_ NB1026_1043 ?_; refine bf_ NB1026_1043 ?_; exact BK1026.out⟩
    have n6_ : Aside0 (((w68.setCell ⟨gb1043, 0, none⟩ (.bool a1_0)).setCell ⟨gb1043, 1, none⟩ (.slice Ao69 t1040.length co69)).heap[gb1043]? = some (.cells #[.bool a1_0, .slice Ao69 t1040.length co69] 24 (0, 0))) := ⟨by refine kb_ ?_; refine bp_ #[.bool a1_0, .slice none 0 0] 1 ?_; refine bp_ #[.bool false, .slice none 0 0] 0 ?_; exact BK1043.out⟩
    have n7_ : Aside0 (Below w.heap.size w ((w68.setCell ⟨gb1043, 0, none⟩ (.bool a1_0)).setCell ⟨gb1043, 1, none⟩ (.slice Ao69 t1040.length co69))) := ⟨bw_ HB.out⟩
    (try clear HO0_1)
    (try clear HO1_1)
    (try clear HO1042)
    (try clear BK1024)
    (try clear BK1025)
    (try clear BK1026)
    (try clear BK1043)
    (try clear HB)
    generalize ((w68.setCell ⟨gb1043, 0, none⟩ (.bool a1_0)).setCell ⟨gb1043, 1, none⟩ (.slice Ao69 t1040.length co69)) = w72 at n0_ n1_ n2_ n3_ n4_ n5_ n6_ n7_ ⊢
    have HO0_1 := n0_
    have HO1_1 := n1_
    have HO1042 := n2_
    have BK1024 := n3_
    have BK1025 := n4_
    have BK1026 := n5_
    have BK1043 := n6_
    have HB := n7_
    clear n0_ n1_ n2_ n3_ n4_ n5_ n6_ n7_
    replace HO0_1 := Aside0.mk (Kd.V_drew HO0_1.out)
    replace HO1_1 := Aside0.mk (Kd.V_drew HO1_1.out)
    replace HO1042 := Aside0.mk (Kd.R_drew HO1042.out)
    replace BK1024 := Aside0.mk (blk_drew BK1024.out)
    replace BK1025 := Aside0.mk (blk_drew BK1025.out)
    replace BK1026 := Aside0.mk (blk_drew BK1026.out)
    replace BK1043 := Aside0.mk (blk_drew BK1043.out)
    replace HB := Aside0.mk (below_drew1 HB.out)
    refine start_ (n := 8) (S := fun w' => w'.cell? ⟨gb1024, 0, none⟩ = some (.bool a0_0) ∧ w'.cell? ⟨gb1024, 1, none⟩ = some (.slice A0_1 l0_1.length c0_1) ∧ w'.cell? ⟨gb1024, 2, none⟩ = some (.int .i64 a0_2) ∧ w'.cell? ⟨gb1043, 0, none⟩ = some (.bool a1_0) ∧ w'.cell? ⟨gb1043, 1, none⟩ = some (.slice Ao69 t1040.length co69)) (ds := []) #[false, false, false, false, false, false, false, false] (by kernel_rfl) rfl rfl ⟨(blk_cell BK1024.out 0).trans rfl, (blk_cell BK1024.out 1).trans rfl, (blk_cell BK1024.out 2).trans rfl, (blk_cell BK1043.out 0).trans rfl, (blk_cell BK1043.out 1).trans rfl⟩ (fun hHeld => ?_); refine with_tabW dy_add.tab8 dy_add.bits8 (fun HT_ HW_ => ?_)
    generalize w72.drew = w73 at HO0_1 HO1_1 HO1042 BK1024 BK1025 BK1026 BK1043 HB hHeld ⊢
    refine pure_ (i := 0) (N := some 41) (v := ?_) (a' := ?_) #[true, false, false, false, false, false, false, false] rfl rfl (any_of HT_.out (by kernel_rfl)) (fun _ _ _ h => h) (Or.inl ⟨by rfl, ?_⟩) ?_ ?_
    rotate_left
    ·intro w'
     go_simp
     with_reducible rfl
    rotate_left
    ·exact pt_
    refine pure_ (i := 4) (N := some 45) (v := ?_) (a' := ?_) #[true, false, false, false, true, false, false, false] rfl rfl (any_of HT_.out (by kernel_rfl)) (fun _ _ _ h => h) (Or.inl ⟨by rfl, ?_⟩) ?_ ?_
    rotate_left
    ·intro w'
     go_simp
     with_reducible rfl
    rotate_left
    ·exact pt_
    refine take_ (i := 1) (N := some 42) (v := ?_) (a' := ?_) #[true, true, false, false, true, false, false, false] rfl rfl (take_ofW HT_.out HW_.out (by kernel_rfl)) (fun _ _ _ h => h) (Or.inl ⟨by rfl, ?_⟩) hHeld ?_ ?_
    rotate_left
    ·rintro w' ⟨s0, s1, s2, s3, s4⟩
     go_simp
     with_reducible rfl
    rotate_left
    ·exact pt_
    refine take_ (i := 2) (N := some 43) (v := ?_) (a' := ?_) #[true, true, true, false, true, false, false, false] rfl rfl (take_ofW HT_.out HW_.out (by kernel_rfl)) (fun _ _ _ h => h) (Or.inl ⟨by rfl, ?_⟩) hHeld ?_ ?_
    rotate_left
    ·rintro w' ⟨s0, s1, s2, s3, s4⟩
     go_simp
     with_reducible rfl
    rotate_left
    ·exact pt_
    refine take_ (i := 5) (N := some 46) (v := ?_) (a' := ?_) #[true, true, true, false, true, true, false, false] rfl rfl (take_ofW HT_.out HW_.out (by kernel_rfl)) (fun _ _ _ h => h) (Or.inl ⟨by rfl, ?_⟩) hHeld ?_ ?_
    rotate_left
    ·rintro w' ⟨s0, s1, s2, s3, s4⟩
     go_simp
     with_reducible rfl
    rotate_left
    ·exact pt_
    refine one_ (i := 3) (N := some 44) #[true, true, true, true, true, true, false, false] rfl rfl (one_of HT_.out (by kernel_rfl)) (by decide) (fun K hK => ?_)
    refine gs_ Tryd.func92 #[.agg #[.bool a0_0, .slice A0_1 l0_1.length c0_1], .agg #[.bool a1_0, .slice Ao69 t1040.length co69]] ?_
    with_reducible refine (whole_Add.calls k a0_0 _ _ l0_1 a1_0 _ _ t1040 t1044 t1045 _ ?side1 ?side2 ?side3 ?side4 A54.out).mono ?_
    (case side1 => exact kc_ (Kd.V_reads' HO0_1.out).2.2)
    (case side2 => exact (Kd.V_reads' HO0_1.out).2.1)
    (case side3 => exact kc_ (Kd.R_reads' HO1042.out).2.2)
    (case side4 => exact (Kd.R_reads' HO1042.out).2.1)
    rintro e w74 ⟨v1046, rfl, ho0, hb⟩
    refine ⟨_, rfl, ?_⟩
    have n0_ := Aside0.mk (Kd.V_elder' (by (with_reducible repeat (first | apply Kd.V_alloc | apply Kd.V_drewN | apply Kd.V_drew)); exact HO0_1.out) (Kd.R_base ho0) hb)
    have n1_ := Aside0.mk (Kd.V_elder' (by (with_reducible repeat (first | apply Kd.V_alloc | apply Kd.V_drewN | apply Kd.V_drew)); exact HO1_1.out) (Kd.R_base ho0) hb)
    have n2_ := Aside0.mk (Kd.R_elder' (kr_ HO1042.out) (Kd.R_base ho0) hb)
    have n3_ := Aside0.mk (Kd.R_lower (Kd.R_new' (Kd.R_newM (M := fun k_ => (w.heap.size ≤ k_)) ho0 (below_size (bw_ HB.out)) (fun k_ h_ => h_)) (Kd.R_lt (kr_ HO1042.out))) (below_size (bw_ HB.out)))
    have n4_ := kq_ BK1024 hb
    have n5_ := kq_ BK1025 hb
    have n6_ := kq_ BK1026 hb
    have n7_ := kq_ BK1043 hb
    have n8_ := bq_ HB hb
    clear HO0_1
    clear HO1_1
    clear HO1042
    clear BK1024
    clear BK1025
    clear BK1026
    clear BK1043
    clear HB
    have HO0_1 := n0_
    have HO1_1 := n1_
    have HO1042 := n2_
    have HO1047 := n3_
    have BK1024 := n4_
    have BK1025 := n5_
    have BK1026 := n6_
    have BK1043 := n7_
    have HB := n8_
    clear n0_ n1_ n2_ n3_ n4_ n5_ n6_ n7_ n8_
    (try clear hb)
    (try clear hb2)
    (try clear hk)
    (try clear hi)
    (try clear ho0)
    obtain ⟨Ao75, co75, eo75⟩ := Kd.R_slice HO1047.out
    (first | subst eo75 | (injection eo75 with f1_ f2_ f3_; have f4_ := f1_.symm; have f5_ := f3_.symm; clear f1_ f2_ f3_; subst f4_; subst f5_))
    refine hK.out _ _ ⟨(blk_cell BK1024.out 0).trans rfl, (blk_cell BK1024.out 1).trans rfl, (blk_cell BK1024.out 2).trans rfl, (blk_cell BK1043.out 0).trans rfl, (blk_cell BK1043.out 1).trans rfl⟩ (fun hHeld => ?_)
    clear hK K
    refine norm_ (a' := ?_) ?_ ?_
    rotate_left
    ·show Act.put _ (some 44) _ = _
     exact pt_
    refine one_ (i := 6) (N := some 47) #[true, true, true, true, true, true, true, false] rfl rfl (one_of HT_.out (by kernel_rfl)) (by decide) (fun K hK => ?_)
    refine gs_ Tryd.func58 #[.agg #[.bool t1044, .slice Ao75 t1045.length co75], .int .i64 a0_2] ?_
    with_reducible refine (dy_Make.calls k t1044 _ _ t1045 a0_2 t1048 t1049 t1052 _ ?side1 ?side2 A55.out ?sidet).mono ?_
    (case sidet => exact Kd.C_below HTAB.out (bw_ HB.out))
    (case side1 => exact kc_ (Kd.R_reads' HO1047.out).2.2)
    (case side2 => exact (Kd.R_reads' HO1047.out).2.1)
    rintro e w76 ⟨v1050, rfl, ho0, hb⟩
    refine ⟨_, rfl, ?_⟩
    have n0_ := Aside0.mk (Kd.V_elder' (by (with_reducible repeat (first | apply Kd.V_alloc | apply Kd.V_drewN | apply Kd.V_drew)); exact HO0_1.out) (Kd.R_base ho0) hb)
    have n1_ := Aside0.mk (Kd.V_elder' (by (with_reducible repeat (first | apply Kd.V_alloc | apply Kd.V_drewN | apply Kd.V_drew)); exact HO1_1.out) (Kd.R_base ho0) hb)
    have n2_ := Aside0.mk (Kd.R_elder' (kr_ HO1042.out) (Kd.R_base ho0) hb)
    have n3_ := Aside0.mk (Kd.R_elder' (kr_ HO1047.out) (Kd.R_base ho0) hb)
    have n4_ := Aside0.mk (Kd.R_lower (Kd.R_new' (Kd.R_new' (Kd.R_newM (M := fun k_ => (w.heap.size ≤ k_)) ho0 (below_size (bw_ HB.out)) (fun k_ h_ => h_)) (Kd.R_lt (kr_ HO1042.out))) (Kd.R_lt (kr_ HO1047.out))) (below_size (bw_ HB.out)))
    have n5_ := kq_ BK1024 hb
    have n6_ := kq_ BK1025 hb
    have n7_ := kq_ BK1026 hb
    have n8_ := kq_ BK1043 hb
    have n9_ := bq_ HB hb
    clear HO0_1
    clear HO1_1
    clear HO1042
    clear HO1047
    clear BK1024
    clear BK1025
    clear BK1026
    clear BK1043
    clear HB
    have HO0_1 := n0_
    have HO1_1 := n1_
    have HO1042 := n2_
    have HO1047 := n3_
    have HO1051 := n4_
    have BK1024 := n5_
    have BK1025 := n6_
    have BK1026 := n7_
    have BK1043 := n8_
    have HB := n9_
    clear n0_ n1_ n2_ n3_ n4_ n5_ n6_ n7_ n8_ n9_
    (try clear hb)
    (try clear hb2)
    (try clear hk)
    (try clear hi)
    (try clear ho0)
    obtain ⟨Ao78, co78, eo78⟩ := Kd.R_slice HO1051.out
    (first | subst eo78 | (injection eo78 with f1_ f2_ f3_; have f4_ := f1_.symm; have f5_ := f3_.symm; clear f1_ f2_ f3_; subst f4_; subst f5_))
    refine hK.out _ _ ⟨(blk_cell BK1024.out 0).trans rfl, (blk_cell BK1024.out 1).trans rfl, (blk_cell BK1024.out 2).trans rfl, (blk_cell BK1043.out 0).trans rfl, (blk_cell BK1043.out 1).trans rfl⟩ (fun hHeld => ?_)
    clear hK K
    refine norm_ (a' := ?_) ?_ ?_
    rotate_left
    ·show Act.put _ (some 47) _ = _
     exact pt_
    refine one_ (i := 7) (N := none) #[true, true, true, true, true, true, true, true] rfl rfl (one_of HT_.out (by kernel_rfl)) (by decide) (fun K hK => ?_)
    have hs77 : w76.cell? ⟨gb1026, 0, none⟩ = some (.bool false) := (blk_cell BK1026.out 0).trans rfl
    have hfs77 := fz_ BK1026 0
    have hns77_0 := NB1024_1026.out
    have hns77_1 := NB1025_1026.out
    have hns77_3 := NB1043_1026.out
    have hms77_0 := NB1026_1024.out
    have hms77_1 := NB1026_1025.out
    have hms77_3 := NB1026_1043.out
    have hs79 : w76.cell? ⟨gb1026, 1, none⟩ = some (.slice none 0 0) := (blk_cell BK1026.out 1).trans rfl
    have hfs79 := fz_ BK1026 1
    have hns79_0 := NB1024_1026.out
    have hns79_1 := NB1025_1026.out
    have hns79_3 := NB1043_1026.out
    have hms79_0 := NB1026_1024.out
    have hms79_1 := NB1026_1025.out
    have hms79_3 := NB1026_1043.out
    have hs80 : w76.cell? ⟨gb1026, 2, none⟩ = some (.int .i64 0) := (blk_cell BK1026.out 2).trans rfl
    have hfs80 := fz_ BK1026 2
    have hns80_0 := NB1024_1026.out
    have hns80_1 := NB1025_1026.out
    have hns80_3 := NB1043_1026.out
    have hms80_0 := NB1026_1024.out
    have hms80_1 := NB1026_1025.out
    have hms80_3 := NB1026_1043.out
    refine skip_ (w1 := ?_) (by rfl) rfl ?_ ?_
    rotate_left
    ·go_simp
     rfl
    refine hK.out _ _ ⟨((cell_far (p := ⟨gb1026, _, none⟩) NB1024_1026.out _).trans (((cell_far (p := ⟨gb1026, _, none⟩) NB1024_1026.out _).trans (((cell_far (p := ⟨gb1026, _, none⟩) NB1024_1026.out _).trans (hHeld.1)))))), ((cell_far (p := ⟨gb1026, _, none⟩) NB1024_1026.out _).trans (((cell_far (p := ⟨gb1026, _, none⟩) NB1024_1026.out _).trans (((cell_far (p := ⟨gb1026, _, none⟩) NB1024_1026.out _).trans (hHeld.2.1)))))), ((cell_far (p := ⟨gb1026, _, none⟩) NB1024_1026.out _).trans (((cell_far (p := ⟨gb1026, _, none⟩) NB1024_1026.out _).trans (((cell_far (p := ⟨gb1026, _, none⟩) NB1024_1026.out _).trans (hHeld.2.2.1)))))), ((cell_far (p := ⟨gb1026, _, none⟩) NB1043_1026.out _).trans (((cell_far (p := ⟨gb1026, _, none⟩) NB1043_1026.out _).trans (((cell_far (p := ⟨gb1026, _, none⟩) NB1043_1026.out _).trans (hHeld.2.2.2.1)))))), ((cell_far (p := ⟨gb1026, _, none⟩) NB1043_1026.out _).trans (((cell_far (p := ⟨gb1026, _, none⟩) NB1043_1026.out _).trans (((cell_far (p := ⟨gb1026, _, none⟩) NB1043_1026.out _).trans (hHeld.2.2.2.2))))))⟩ (fun hHeld => ?_)
    clear hK K
    refine done_ (done_of HT_.out (by kernel_rfl)) ?_
    try go_wp2
    refine bodyPost_ret (results_cell_row rfl _ _ gb1026 26 #[.bool t1048, .slice Ao78 t1049.length co78, .int .i64 t1052] (0, 0) _ rfl (by refine kb_ ?_; refine bp_ #[.bool t1048, .slice Ao78 t1049.length co78, .int .i64 0] 2 ?_; refine bp_ #[.bool t1048, .slice none 0 0, .int .i64 0] 1 ?_; refine bp_ #[.bool false, .slice none 0 0, .int .i64 0] 0 ?_; exact BK1026.out) Tryd.underlying26 rfl (by kernel_rfl)) rfl ?_
    exact ⟨_, rf_, Kd.V_mono (Kd.R_V (kr_ (Kd.R_mono (Kd.R_far (p := ⟨gb1026, 2, none⟩) (Kd.R_far (p := ⟨gb1026, 1, none⟩) (Kd.R_far (p := ⟨gb1026, 0, none⟩) (Kd.R_types HO1051.out BK1026.out (by decide)) (fun _ hk => hk.2) (.bool t1048)) (fun _ hk => hk.2) (.slice Ao78 t1049.length co78)) (fun _ hk => hk.2) (.int .i64 t1052)) (fun _ hk => hk.1.1.1.1)))) (fun k_ hk => by first | exact ⟨(.inr (hk.1)), hk.2⟩ | exact (.inr (hk))), bw_ HB.out⟩

end Go.Proofs.YtkemnoejpbknhaaDoor.PA
